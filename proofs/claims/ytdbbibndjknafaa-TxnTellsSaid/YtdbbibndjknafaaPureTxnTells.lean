/- The statement of TxnTells behind its walk. No condition. -/
import Derived.Test.YtdbbibndjknafaaTxnTells
import Derived.DataShut
namespace Go.Proofs.Ytdbbibndjknafaa.Pure
open Go.RowKit Go.Proofs.Ytdbbibndjknafaa.Print
set_option linter.unusedVariables false
theorem TxnTells {P0 P1 P2 : Prop} (x0 : Int × Int × Int × Int × List S30 × List Int) (x1 : Int × Int × Int × S28 × S28) (x2 : Int) (w0 : P0) (w1 : P1) (w2 : P2) : bobbinlaw14_TxnTells.f x0.1 x0.2.1 x0.2.2.1 x0.2.2.2.1 x0.2.2.2.2.1 x0.2.2.2.2.2 x1.1 x1.2.1 x1.2.2.1 x1.2.2.2.1.f0 x1.2.2.2.1.f1 x1.2.2.2.2.f0 x1.2.2.2.2.f1 x2 = some true := rfl
end Go.Proofs.Ytdbbibndjknafaa.Pure
