/- The statement of DiskNone behind its walk. No condition. -/
import Derived.Test.YtghhmbagjhmgfaaDiskNone
import Derived.DataShut
namespace Go.Proofs.Ytghhmbagjhmgfaa.Pure
open Go.RowKit Go.Proofs.Ytghhmbagjhmgfaa.Print
set_option linter.unusedVariables false
theorem DiskNone (x0 x1 : Int) (w0 : (Lit.int .i64 x0).wf = true) (w1 : (Lit.int .u8 x1).wf = true) : bobbinlaw03_DiskNone.f x0 x1 = some true := rfl
end Go.Proofs.Ytghhmbagjhmgfaa.Pure
