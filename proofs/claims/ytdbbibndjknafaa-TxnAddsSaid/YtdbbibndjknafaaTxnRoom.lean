/- TxnRoom. -/
import Derived.Test.YtdbbibndjknafaaTxLaw
import Derived.Test.YtdbbibndjknafaaTxnTells
namespace Go.Proofs.Ytdbbibndjknafaa.Print
open Go.RowKit Go.Proofs.YtdbbibndjknafaaW.PrintWords Go.Proofs.YtdbbibndjknafaaW.PrintLast Go.Proofs.YtdbbibndjknafaaW.PrintMore
set_option linter.unusedVariables false
set_option linter.unusedSimpArgs false
theorem meas_lt {n i : Nat} (h : i < n) (hn : n ≤ 1000) : n - (intOf (.int .i64 (wrap64 ((i : Int) + 1)))).toNat < n - (intOf (.int .i64 (i : Int))).toNat := by
  have e1 : wrap64 ((i : Int) + 1) = (i : Int) + 1 := wr64 (by omega) (by omega)
  rw [e1]
  simp only [intOf]
  omega
end Go.Proofs.Ytdbbibndjknafaa.Print
