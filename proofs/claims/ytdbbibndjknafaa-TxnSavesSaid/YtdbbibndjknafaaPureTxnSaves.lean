/- The statement of TxnSaves behind its walk. No condition. -/
import Derived.Test.YtdbbibndjknafaaTxnSaves
import Derived.DataShut
namespace Go.Proofs.Ytdbbibndjknafaa.Pure
open Go.RowKit Go.Proofs.Ytdbbibndjknafaa.Print
set_option linter.unusedVariables false
theorem TxnSaves {P0 P1 : Prop} (x0 : Int × Int × Int × Int × List S30 × List Int) (x1 : List S30) (w0 : P0) (w1 : P1) : bobbinlaw14_TxnSaves.f x0.1 x0.2.1 x0.2.2.1 x0.2.2.2.1 x0.2.2.2.2.1 x0.2.2.2.2.2 x1 = some true := rfl
end Go.Proofs.Ytdbbibndjknafaa.Pure
