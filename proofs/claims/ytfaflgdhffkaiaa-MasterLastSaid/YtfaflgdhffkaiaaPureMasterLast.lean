/- The statement of MasterLast behind its walk. No condition. -/
import Derived.Test.YtfaflgdhffkaiaaMasterLast
import Derived.DataShut
namespace Go.Proofs.Ytfaflgdhffkaiaa.Pure
open Go.RowKit Go.Proofs.Ytfaflgdhffkaiaa.Print
set_option linter.unusedVariables false
theorem MasterLast {P0 P1 : Prop} (x0 : Int × Int × Int × Int) (x1 : Int) (w0 : P0) (w1 : P1) : bobbinlaw09_MasterLast.f x0.1 x0.2.1 x0.2.2.1 x0.2.2.2 x1 = some true := rfl
end Go.Proofs.Ytfaflgdhffkaiaa.Pure
