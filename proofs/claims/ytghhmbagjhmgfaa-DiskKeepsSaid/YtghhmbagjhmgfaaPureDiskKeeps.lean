/- The statement of DiskKeeps behind its walk. No condition. -/
import Derived.Test.YtghhmbagjhmgfaaDiskKeepsO
import Derived.DataShut
namespace Go.Proofs.Ytghhmbagjhmgfaa.Pure
open Go.RowKit Go.Proofs.Ytghhmbagjhmgfaa.Print
set_option linter.unusedVariables false
theorem DiskKeeps {P0 P1 P2 P3 : Prop} (x0 x1 : Int) (x2 : List S35) (x3 : List Bool × Int × Int) (w0 : P0) (w1 : P1) (w2 : P2) (w3 : P3) : bobbinlaw03_DiskKeeps.f x0 x1 x2 x3.1 x3.2.1 x3.2.2 = some true := rfl
end Go.Proofs.Ytghhmbagjhmgfaa.Pure
