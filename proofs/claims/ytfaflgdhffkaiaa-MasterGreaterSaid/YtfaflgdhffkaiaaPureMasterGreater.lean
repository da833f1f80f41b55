/- The statement of MasterGreater behind its walk. No condition. -/
import Derived.Test.YtfaflgdhffkaiaaMasterGreater
import Derived.DataShut
namespace Go.Proofs.Ytfaflgdhffkaiaa.Pure
open Go.RowKit Go.Proofs.Ytfaflgdhffkaiaa.Print
set_option linter.unusedVariables false
theorem MasterGreater {P0 P1 : Prop} (x0 : Int × Int × Int × Int) (x1 : Int × Int × Int × Int) (w0 : P0) (w1 : P1) : bobbinlaw09_MasterGreater.f x0.1 x0.2.1 x0.2.2.1 x0.2.2.2 x1.1 x1.2.1 x1.2.2.1 x1.2.2.2 = some true := rfl
end Go.Proofs.Ytfaflgdhffkaiaa.Pure
