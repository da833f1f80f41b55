/- The statement of TxnKept behind its walk. No condition. -/
import Derived.Test.YtdbbibndjknafaaTxnKept
import Derived.DataShut
namespace Go.Proofs.Ytdbbibndjknafaa.Pure
open Go.RowKit Go.Proofs.Ytdbbibndjknafaa.Print
set_option linter.unusedVariables false
theorem TxnKept {P0 P1 P2 : Prop} (x0 : List S25) (x1 : Int) (x2 : Bool × List Int) (w0 : P0) (w1 : P1) (w2 : P2) : bobbinlaw14_TxnKept.f x0 x1 x2.1 x2.2 = some true := rfl
end Go.Proofs.Ytdbbibndjknafaa.Pure
