/- The statement of TxnBack behind its walk. No condition. -/
import Derived.Test.YtdbbibndjknafaaTxnBack
import Derived.DataShut
namespace Go.Proofs.Ytdbbibndjknafaa.Pure
open Go.RowKit Go.Proofs.Ytdbbibndjknafaa.Print
set_option linter.unusedVariables false
theorem TxnBack {P0 P1 : Prop} (x0 : Int × Int × Int × Int × List S30 × List Int) (x1 : List S30) (w0 : P0) (w1 : P1) : bobbinlaw14_TxnBack.f x0.1 x0.2.1 x0.2.2.1 x0.2.2.2.1 x0.2.2.2.2.1 x0.2.2.2.2.2 x1 = some true := rfl
end Go.Proofs.Ytdbbibndjknafaa.Pure
