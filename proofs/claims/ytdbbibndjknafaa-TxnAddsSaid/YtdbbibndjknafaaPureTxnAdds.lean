/- The statement of TxnAdds behind its walk. No condition. -/
import Derived.Test.YtdbbibndjknafaaTxnAdds
import Derived.DataShut
namespace Go.Proofs.Ytdbbibndjknafaa.Pure
open Go.RowKit Go.Proofs.Ytdbbibndjknafaa.Print
set_option linter.unusedVariables false
theorem TxnAdds {P0 P1 P2 P3 : Prop} (x0 x1 : List S25) (x2 : Int) (x3 : Int × Int × Int × S28 × S28) (w0 : P0) (w1 : P1) (w2 : P2) (w3 : P3) : bobbinlaw14_TxnAdds.f x0 x1 x2 x3.1 x3.2.1 x3.2.2.1 x3.2.2.2.1.f0 x3.2.2.2.1.f1 x3.2.2.2.2.f0 x3.2.2.2.2.f1 = some true := rfl
end Go.Proofs.Ytdbbibndjknafaa.Pure
