/- The statement of DiskSome behind its walk. No condition. -/
import Derived.Test.YtghhmbagjhmgfaaDiskSome
import Derived.DataShut
namespace Go.Proofs.Ytghhmbagjhmgfaa.Pure
open Go.RowKit Go.Proofs.Ytghhmbagjhmgfaa.Print
set_option linter.unusedVariables false
theorem DiskSome {P0 P1 : Prop} (x0 : List S35) (x1 : List Bool) (w0 : P0) (w1 : P1) : bobbinlaw03_DiskSome.f x0 x1 = some true := rfl
end Go.Proofs.Ytghhmbagjhmgfaa.Pure
