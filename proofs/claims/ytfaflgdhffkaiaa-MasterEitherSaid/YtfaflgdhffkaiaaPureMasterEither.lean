/- The statement of MasterEither behind its walk. No condition. -/
import Derived.Test.YtfaflgdhffkaiaaMasterEither
import Derived.DataShut
namespace Go.Proofs.Ytfaflgdhffkaiaa.Pure
open Go.RowKit Go.Proofs.Ytfaflgdhffkaiaa.Print
set_option linter.unusedVariables false
theorem MasterEither {P0 P1 P2 P3 : Prop} (x0 : Int × Int × Int × Int) (x1 : Int × Int × Int × Int) (x2 x3 : Int) (w0 : P0) (w1 : P1) (w2 : P2) (w3 : P3) : bobbinlaw09_MasterEither.f x0.1 x0.2.1 x0.2.2.1 x0.2.2.2 x1.1 x1.2.1 x1.2.2.1 x1.2.2.2 x2 x3 = some true := rfl
end Go.Proofs.Ytfaflgdhffkaiaa.Pure
