/- TxnRoom. -/
import Derived.Test.YtdbbibndjknafaaTxLaw
import Derived.Test.YtdbbibndjknafaaTxnTells
namespace Go.Proofs.Ytdbbibndjknafaa.Print
open Go.RowKit Go.Proofs.YtdbbibndjknafaaW.PrintWords Go.Proofs.YtdbbibndjknafaaW.PrintLast Go.Proofs.YtdbbibndjknafaaW.PrintMore
set_option linter.unusedVariables false
set_option linter.unusedSimpArgs false
theorem meas_lt {n i : Nat} (h : i < n) (hn : n ≤ 1000) : n - (intOf (.int .i64 (wrap64 ((i : Int) + 1)))).toNat < n - (intOf (.int .i64 (i : Int))).toNat := by
  have e1 : wrap64 ((i : Int) + 1) = (i : Int) + 1 := wr64 (by omega) (by omega)
  rw [e1]
  simp only [intOf]
  omega
theorem BX.put2 {w W : World} {b : Nat} {t t1 : S25} {B4 : Option Addr} {d4 : Nat} {B5 : Option Addr} {d5 : Nat} {E4 : Option Addr} {e4 : Nat} {E5 : Option Addr} {e5 : Nat} (h : BX w W b t B4 d4 B5 d5) (hT : TF W (fun k => k ≠ b) t1 E4 e4 E5 e5) :
    BX w ((((((W.setCell ⟨b, 0, none⟩ (.int .i64 t1.f0)).setCell ⟨b, 1, none⟩ (.int .i64 t1.f1)).setCell ⟨b, 2, none⟩ (.int .i64 t1.f2)).setCell ⟨b, 3, none⟩ (.int .i64 t1.f3)).setCell ⟨b, 4, none⟩ (.slice E4 t1.f4.length e4)).setCell ⟨b, 5, none⟩ (.slice E5 t1.f5.length e5)) b t1 E4 e4 E5 e5 := by
  have hC := Chg.six (S := fun k => k = b) (Chg.refl _ W) (.inl rfl) (.int .i64 t1.f0) (.int .i64 t1.f1) (.int .i64 t1.f2) (.int .i64 t1.f3) (.slice E4 t1.f4.length e4) (.slice E5 t1.f5.length e5)
  refine ⟨h.bel.trans (hC.below (fun k hk => by rw [hk]; exact h.lo) h.bel.size), six_put h.box _ _ _ _ _ _, hT.step (fun k hk hlt => hC.block k hlt hk), h.lo⟩
/-- What Undo answered stands in two new boxes, and in the old one. -/
theorem put_two {w W W1 : World} {b : Nat} {t x : S25} {c : S30} {B4 : Option Addr} {d4 : Nat} {B5 : Option Addr} {d5 : Nat} {I4 : Option Addr} {i4 : Nat} {I5 : Option Addr} {i5 : Nat} {J4 : Option Addr} {j4 : Nat} {J6 : Option Addr} {j6 : Nat} (h : BX w W b t B4 d4 B5 d5) (hb : Below W.heap.size W W1) (hT : TF W1 (fun k => W.heap.size ≤ k) x I4 i4 I5 i5) (hC : CF W1 (fun k => W.heap.size ≤ k) c J4 j4 J6 j6) :
    BX w ((((((((W1.setCell ⟨b, 0, none⟩ (.int .i64 x.f0)).setCell ⟨b, 1, none⟩ (.int .i64 x.f1)).setCell ⟨b, 2, none⟩ (.int .i64 x.f2)).setCell ⟨b, 3, none⟩ (.int .i64 x.f3)).setCell ⟨b, 4, none⟩ (.slice I4 x.f4.length i4)).setCell ⟨b, 5, none⟩ (.slice I5 x.f5.length i5)).alloc (.cells #[.int .i64 x.f0, .int .i64 x.f1, .int .i64 x.f2, .int .i64 x.f3, .slice I4 x.f4.length i4, .slice I5 x.f5.length i5] 25)).alloc (.cells #[.int .i64 c.f0, .int .i64 c.f1, .int .i64 c.f2, .bool c.f3.f0, .slice J4 c.f3.f1.length j4, .bool c.f4.f0, .slice J6 c.f4.f1.length j6] 30)) b x I4 i4 I5 i5 ∧ BT ((((((((W1.setCell ⟨b, 0, none⟩ (.int .i64 x.f0)).setCell ⟨b, 1, none⟩ (.int .i64 x.f1)).setCell ⟨b, 2, none⟩ (.int .i64 x.f2)).setCell ⟨b, 3, none⟩ (.int .i64 x.f3)).setCell ⟨b, 4, none⟩ (.slice I4 x.f4.length i4)).setCell ⟨b, 5, none⟩ (.slice I5 x.f5.length i5)).alloc (.cells #[.int .i64 x.f0, .int .i64 x.f1, .int .i64 x.f2, .int .i64 x.f3, .slice I4 x.f4.length i4, .slice I5 x.f5.length i5] 25)).alloc (.cells #[.int .i64 c.f0, .int .i64 c.f1, .int .i64 c.f2, .bool c.f3.f0, .slice J4 c.f3.f1.length j4, .bool c.f4.f0, .slice J6 c.f4.f1.length j6] 30)) W1.heap.size x I4 i4 I5 i5 ∧ BC ((((((((W1.setCell ⟨b, 0, none⟩ (.int .i64 x.f0)).setCell ⟨b, 1, none⟩ (.int .i64 x.f1)).setCell ⟨b, 2, none⟩ (.int .i64 x.f2)).setCell ⟨b, 3, none⟩ (.int .i64 x.f3)).setCell ⟨b, 4, none⟩ (.slice I4 x.f4.length i4)).setCell ⟨b, 5, none⟩ (.slice I5 x.f5.length i5)).alloc (.cells #[.int .i64 x.f0, .int .i64 x.f1, .int .i64 x.f2, .int .i64 x.f3, .slice I4 x.f4.length i4, .slice I5 x.f5.length i5] 25)).alloc (.cells #[.int .i64 c.f0, .int .i64 c.f1, .int .i64 c.f2, .bool c.f3.f0, .slice J4 c.f3.f1.length j4, .bool c.f4.f0, .slice J6 c.f4.f1.length j6] 30)) (W1.heap.size + 1) c J4 j4 J6 j6 := by
  have hX := h.put hb hT
  have hl := h.lt
  have hc := Chg.six (S := fun k => k = b) (Chg.refl _ W1) (.inl rfl) (.int .i64 x.f0) (.int .i64 x.f1) (.int .i64 x.f2) (.int .i64 x.f3) (.slice I4 x.f4.length i4) (.slice I5 x.f5.length i5)
  have hC2 : CF ((((((W1.setCell ⟨b, 0, none⟩ (.int .i64 x.f0)).setCell ⟨b, 1, none⟩ (.int .i64 x.f1)).setCell ⟨b, 2, none⟩ (.int .i64 x.f2)).setCell ⟨b, 3, none⟩ (.int .i64 x.f3)).setCell ⟨b, 4, none⟩ (.slice I4 x.f4.length i4)).setCell ⟨b, 5, none⟩ (.slice I5 x.f5.length i5)) (fun k => W.heap.size ≤ k) c J4 j4 J6 j6 := hC.step (fun k hk hlt => hc.block k hlt (by have := hk; omega))
  have hsz : ((((((W1.setCell ⟨b, 0, none⟩ (.int .i64 x.f0)).setCell ⟨b, 1, none⟩ (.int .i64 x.f1)).setCell ⟨b, 2, none⟩ (.int .i64 x.f2)).setCell ⟨b, 3, none⟩ (.int .i64 x.f3)).setCell ⟨b, 4, none⟩ (.slice I4 x.f4.length i4)).setCell ⟨b, 5, none⟩ (.slice I5 x.f5.length i5)).heap.size = W1.heap.size := by simp [World.setCell]
  have h2 := two_made hX.tf hC2
  have hb3 := h2.2.2
  refine ⟨hX.below hb3, ?_, ?_⟩
  · have := h2.1
    rwa [hsz] at this
  · have := h2.2.1
    rwa [hsz] at this
end Go.Proofs.Ytdbbibndjknafaa.Print
