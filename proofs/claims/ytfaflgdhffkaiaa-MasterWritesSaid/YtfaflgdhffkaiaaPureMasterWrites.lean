/- The statement of MasterWrites behind its walk. No condition. -/
import Derived.Test.YtfaflgdhffkaiaaMasterWrites
import Derived.DataShut
namespace Go.Proofs.Ytfaflgdhffkaiaa.Pure
open Go.RowKit Go.Proofs.Ytfaflgdhffkaiaa.Print
set_option linter.unusedVariables false
theorem MasterWrites {P0 P1 : Prop} (x0 : Int) (x1 : Int × Int × Int × Int) (w0 : P0) (w1 : P1) : bobbinlaw09_MasterWrites.f x0 x1.1 x1.2.1 x1.2.2.1 x1.2.2.2 = some true := rfl
end Go.Proofs.Ytfaflgdhffkaiaa.Pure
