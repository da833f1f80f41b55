/- What is kept, as a sum. -/
import Derived.Test.YtdbbibndjknafaaTx4
namespace Go.Proofs.Ytdbbibndjknafaa.Print
open Go.RowKit Go.Proofs.YtdbbibndjknafaaW.PrintWords Go.Proofs.YtdbbibndjknafaaW.PrintLast Go.Proofs.YtdbbibndjknafaaW.PrintMore
set_option linter.unusedVariables false
set_option linter.unusedSimpArgs false
end Go.Proofs.Ytdbbibndjknafaa.Print
