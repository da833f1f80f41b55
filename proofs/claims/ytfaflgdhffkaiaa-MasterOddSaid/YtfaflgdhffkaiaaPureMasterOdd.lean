/- The statement of MasterOdd behind its walk. No condition. -/
import Derived.Test.YtfaflgdhffkaiaaMasterOdd
import Derived.DataShut
namespace Go.Proofs.Ytfaflgdhffkaiaa.Pure
open Go.RowKit Go.Proofs.Ytfaflgdhffkaiaa.Print
set_option linter.unusedVariables false
theorem MasterOdd {P0 P1 P2 : Prop} (x0 : Int × Int × Int × Int) (x1 x2 : Int) (w0 : P0) (w1 : P1) (w2 : P2) : bobbinlaw09_MasterOdd.f x0.1 x0.2.1 x0.2.2.1 x0.2.2.2 x1 x2 = some true := rfl
end Go.Proofs.Ytfaflgdhffkaiaa.Pure
