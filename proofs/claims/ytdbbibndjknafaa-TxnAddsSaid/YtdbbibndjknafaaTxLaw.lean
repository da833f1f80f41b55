/- txn without its program: what noting, saving and undoing keep. -/
import Derived.Test.YtdbbibndjknafaaTxKept
import Derived.Test.YtdbbibndjknafaaTx3a
namespace Go.Proofs.Ytdbbibndjknafaa.Print
open Go.RowKit Go.Proofs.YtdbbibndjknafaaW.PrintWords Go.Proofs.YtdbbibndjknafaaW.PrintLast Go.Proofs.YtdbbibndjknafaaW.PrintMore
set_option linter.unusedVariables false
set_option linter.unusedSimpArgs false
theorem keptT_one (p : Int) (t : S25) : keptT p [t] = keptC p t.f4 := by
  unfold keptT
  simp
end Go.Proofs.Ytdbbibndjknafaa.Print
