/- TxnRoom. -/
import Derived.Test.YtdbbibndjknafaaTxLaw
import Derived.Test.YtdbbibndjknafaaTxnTells
namespace Go.Proofs.Ytdbbibndjknafaa.Print
open Go.RowKit Go.Proofs.YtdbbibndjknafaaW.PrintWords Go.Proofs.YtdbbibndjknafaaW.PrintLast Go.Proofs.YtdbbibndjknafaaW.PrintMore
set_option linter.unusedVariables false
set_option linter.unusedSimpArgs false
theorem meas_lt {n i : Nat} (h : i < n) (hn : n ≤ 1000) : n - (intOf (.int .i64 (wrap64 ((i : Int) + 1)))).toNat < n - (intOf (.int .i64 (i : Int))).toNat := by
  have e1 : wrap64 ((i : Int) + 1) = (i : Int) + 1 := wr64 (by omega) (by omega)
  rw [e1]
  simp only [intOf]
  omega
theorem BX.put2 {w W : World} {b : Nat} {t t1 : S25} {B4 : Option Addr} {d4 : Nat} {B5 : Option Addr} {d5 : Nat} {E4 : Option Addr} {e4 : Nat} {E5 : Option Addr} {e5 : Nat} (h : BX w W b t B4 d4 B5 d5) (hT : TF W (fun k => k ≠ b) t1 E4 e4 E5 e5) :
    BX w ((((((W.setCell ⟨b, 0, none⟩ (.int .i64 t1.f0)).setCell ⟨b, 1, none⟩ (.int .i64 t1.f1)).setCell ⟨b, 2, none⟩ (.int .i64 t1.f2)).setCell ⟨b, 3, none⟩ (.int .i64 t1.f3)).setCell ⟨b, 4, none⟩ (.slice E4 t1.f4.length e4)).setCell ⟨b, 5, none⟩ (.slice E5 t1.f5.length e5)) b t1 E4 e4 E5 e5 := by
  have hC := Chg.six (S := fun k => k = b) (Chg.refl _ W) (.inl rfl) (.int .i64 t1.f0) (.int .i64 t1.f1) (.int .i64 t1.f2) (.int .i64 t1.f3) (.slice E4 t1.f4.length e4) (.slice E5 t1.f5.length e5)
  refine ⟨h.bel.trans (hC.below (fun k hk => by rw [hk]; exact h.lo) h.bel.size), six_put h.box _ _ _ _ _ _, hT.step (fun k hk hlt => hC.block k hlt hk), h.lo⟩
end Go.Proofs.Ytdbbibndjknafaa.Print
