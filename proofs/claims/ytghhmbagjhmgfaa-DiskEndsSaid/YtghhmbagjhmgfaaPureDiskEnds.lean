/- The statement of DiskEnds behind its walk. No condition. -/
import Derived.Test.YtghhmbagjhmgfaaDiskEnds
import Derived.DataShut
namespace Go.Proofs.Ytghhmbagjhmgfaa.Pure
open Go.RowKit Go.Proofs.Ytghhmbagjhmgfaa.Print
set_option linter.unusedVariables false
theorem DiskEnds {P0 P1 : Prop} (x0 : List S35) (x1 : List Bool × Int × Int) (w0 : P0) (w1 : P1) : bobbinlaw03_DiskEnds.f x0 x1.1 x1.2.1 x1.2.2 = some true := rfl
end Go.Proofs.Ytghhmbagjhmgfaa.Pure
