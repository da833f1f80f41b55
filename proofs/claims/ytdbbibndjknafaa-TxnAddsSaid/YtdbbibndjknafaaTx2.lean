/- txn's functions, and the document's, by their contracts. -/
import Derived.Test.YtdbbibndjknafaaTx1
import Derived.Test.YtdbbibndjknafaaTxDel
namespace Go.Proofs.Ytdbbibndjknafaa.Print
open Go.RowKit Go.Proofs.YtdbbibndjknafaaW.PrintWords Go.Proofs.YtdbbibndjknafaaW.PrintLast Go.Proofs.YtdbbibndjknafaaW.PrintMore
set_option linter.unusedVariables false
set_option linter.unusedSimpArgs false
/-- What a transaction's rows lead to lies in P. -/
structure TF (W : World) (P : Nat → Prop) (t : S25) (A4 : Option Addr) (c4 : Nat) (A5 : Option Addr) (c5 : Nat) : Prop where
  l4 : t.f4.length ≤ c4
  g4 : Kd.F k30 W P A4 t.f4.length t.f4
  l5 : t.f5.length ≤ c5
  g5 : Kd.F (Kd.int .i64) W P A5 t.f5.length t.f5
section
variable {W W1 : World} {P Q : Nat → Prop} {t : S25} {A4 : Option Addr} {c4 : Nat} {A5 : Option Addr} {c5 : Nat}
theorem TF.below (h : TF W P t A4 c4 A5 c5) (hb : Below W.heap.size W W1) : TF W1 P t A4 c4 A5 c5 := ⟨h.l4, Kd.F_below h.g4 hb, h.l5, Kd.F_below h.g5 hb⟩
theorem TF.mono (h : TF W P t A4 c4 A5 c5) (hP : ∀ k, P k → Q k) : TF W Q t A4 c4 A5 c5 := ⟨h.l4, Kd.F_mono h.g4 hP, h.l5, Kd.F_mono h.g5 hP⟩
theorem TF.step (h : TF W P t A4 c4 A5 c5) (hm : ∀ k, P k → k < W.heap.size → W1.heap[k]? = W.heap[k]?) : TF W1 P t A4 c4 A5 c5 := ⟨h.l4, Kd.F_step h.g4 hm, h.l5, Kd.F_step h.g5 hm⟩
theorem TF.bound (h : TF W P t A4 c4 A5 c5) : TF W (fun k => P k ∧ k < W.heap.size) t A4 c4 A5 c5 := ⟨h.l4, Kd.F_bound h.g4, h.l5, Kd.F_bound h.g5⟩
theorem TF.nil (W : World) (P : Nat → Prop) : TF W P z25 none 0 none 0 := ⟨Nat.le_refl _, Kd.F_nil _ _ _, Nat.le_refl _, Kd.F_nil _ _ _⟩
theorem heap28 : Kd.Heap k28 := Kd.heap_iso _ (Kd.heap_pair Kd.heap_bool (Kd.heap_slice _ (Kd.heap_int _)))
theorem heap30 : Kd.Heap k30 := Kd.heap_iso _ (Kd.heap_pair (Kd.heap_int _) (Kd.heap_pair (Kd.heap_int _) (Kd.heap_pair (Kd.heap_int _) (Kd.heap_pair heap28 heap28))))
theorem TF.came (l4 : t.f4.length ≤ c4) (g4 : Kd.C k30 W A4 t.f4.length t.f4) (l5 : t.f5.length ≤ c5) (g5 : Kd.C (Kd.int .i64) W A5 t.f5.length t.f5) : TF W (fun k => k < W.heap.size) t A4 c4 A5 c5 := ⟨l4, Kd.C_F heap30 g4, l5, Kd.C_F (Kd.heap_int _) g5⟩
end
/-- The same of a change. -/
structure CF (W : World) (P : Nat → Prop) (c : S30) (A4 : Option Addr) (c4 : Nat) (A6 : Option Addr) (c6 : Nat) : Prop where
  l4 : c.f3.f1.length ≤ c4
  g4 : Kd.F (Kd.int .u8) W P A4 c.f3.f1.length c.f3.f1
  l6 : c.f4.f1.length ≤ c6
  g6 : Kd.F (Kd.int .u8) W P A6 c.f4.f1.length c.f4.f1
section
variable {W W1 : World} {P Q : Nat → Prop} {c : S30} {A4 : Option Addr} {c4 : Nat} {A6 : Option Addr} {c6 : Nat}
theorem CF.below (h : CF W P c A4 c4 A6 c6) (hb : Below W.heap.size W W1) : CF W1 P c A4 c4 A6 c6 := ⟨h.l4, Kd.F_below h.g4 hb, h.l6, Kd.F_below h.g6 hb⟩
theorem CF.mono (h : CF W P c A4 c4 A6 c6) (hP : ∀ k, P k → Q k) : CF W Q c A4 c4 A6 c6 := ⟨h.l4, Kd.F_mono h.g4 hP, h.l6, Kd.F_mono h.g6 hP⟩
theorem CF.step (h : CF W P c A4 c4 A6 c6) (hm : ∀ k, P k → k < W.heap.size → W1.heap[k]? = W.heap[k]?) : CF W1 P c A4 c4 A6 c6 := ⟨h.l4, Kd.F_step h.g4 hm, h.l6, Kd.F_step h.g6 hm⟩
theorem CF.nil (W : World) (P : Nat → Prop) : CF W P z30 none 0 none 0 := ⟨Nat.le_refl _, Kd.F_nil _ _ _, Nat.le_refl _, Kd.F_nil _ _ _⟩
theorem CF.came (l4 : c.f3.f1.length ≤ c4) (g4 : Kd.C (Kd.int .u8) W A4 c.f3.f1.length c.f3.f1) (l6 : c.f4.f1.length ≤ c6) (g6 : Kd.C (Kd.int .u8) W A6 c.f4.f1.length c.f4.f1) : CF W (fun k => k < W.heap.size) c A4 c4 A6 c6 := ⟨l4, Kd.C_F (Kd.heap_int _) g4, l6, Kd.C_F (Kd.heap_int _) g6⟩
end
section
variable {P Q : Nat → Prop} {w : World} (t : S25) (A4 : Option Addr) (c4 : Nat) (A5 : Option Addr) (c5 : Nat) (h : TF w P t A4 c4 A5 c5)
include h
theorem may_any : Calls Try.prog 22 #[.agg #[.int .i64 t.f0, .int .i64 t.f1, .int .i64 t.f2, .int .i64 t.f3, .slice A4 t.f4.length c4, .slice A5 t.f5.length c5]] w fun e w' => e = .returned (.bool (mayT t)) ∧ Below w.heap.size w w' :=
  txn_May.calls 20 _ _ _ _ A4 c4 _ A5 c5 _ _ w (Kd.F_now h.g4) h.l4 (Kd.F_now h.g5) h.l5 (may_f t)
theorem above_any (n : Int) : Calls Try.prog 18 #[.agg #[.int .i64 t.f0, .int .i64 t.f1, .int .i64 t.f2, .int .i64 t.f3, .slice A4 t.f4.length c4, .slice A5 t.f5.length c5], .int .i64 n] w fun e w' => e = .returned (.tuple #[.int .i64 (aboveN t n), .int .i64 (aboveE t n)]) ∧ Below w.heap.size w w' :=
  txn_Above.calls 20 _ _ _ _ A4 c4 _ A5 c5 _ n _ _ w (Kd.F_now h.g4) h.l4 (Kd.F_now h.g5) h.l5 (above_f t n)
theorem rlight_any : Calls Try.prog 24 #[.agg #[.int .i64 t.f0, .int .i64 t.f1, .int .i64 t.f2, .int .i64 t.f3, .slice A4 t.f4.length c4, .slice A5 t.f5.length c5], .int .i64 20] w fun e w' => e = .returned (.bool (lightT t)) ∧ Below w.heap.size w w' :=
  bobbinref14_Light.calls 30 _ _ _ _ A4 c4 _ A5 c5 _ 20 _ w (Kd.F_now h.g4) h.l4 (Kd.F_now h.g5) h.l5 (rlight_t t)
theorem save_any : Calls Try.prog 16 #[.agg #[.int .i64 t.f0, .int .i64 t.f1, .int .i64 t.f2, .int .i64 t.f3, .slice A4 t.f4.length c4, .slice A5 t.f5.length c5]] w fun e w' => ∃ B4 d4 B5 d5, e = .returned (.tuple #[.agg #[.int .i64 (saveR t).f0, .int .i64 (saveR t).f1, .int .i64 (saveR t).f2, .int .i64 (saveR t).f3, .slice B4 (saveR t).f4.length d4, .slice B5 (saveR t).f5.length d5], .int .i64 (saveN t), .int .i64 (saveE t)]) ∧ TF w' (fun k => w.heap.size ≤ k) (saveR t) B4 d4 B5 d5 ∧ Below w.heap.size w w' := by
  refine (txn_Save.calls 20 _ _ _ _ A4 c4 _ A5 c5 _ _ _ _ _ _ _ _ _ w (Kd.F_now h.g4) h.l4 (Kd.F_now h.g5) h.l5 (save_f t)).mono ?_
  rintro e w' ⟨v4, v5, rfl, hN, hR, hb⟩
  obtain ⟨B4, d4, rfl⟩ := Kd.N_slice hN
  have hV := Kd.R_V (base' := 0) hR
  obtain ⟨B5, d5, rfl⟩ := Kd.V_slice hV
  exact ⟨B4, d4, B5, d5, rfl, ⟨(Kd.N_reads' hN).2.1, Kd.F_mono (Kd.N_F hN) (fun k hk => hk.1), (Kd.V_at hV).2.1, (Kd.V_at hV).2.2⟩, hb⟩
theorem note_any (c : S30) (D4 : Option Addr) (e4 : Nat) (D6 : Option Addr) (e6 : Nat) (hc : CF w Q c D4 e4 D6 e6) : Calls Try.prog 12 #[.agg #[.int .i64 t.f0, .int .i64 t.f1, .int .i64 t.f2, .int .i64 t.f3, .slice A4 t.f4.length c4, .slice A5 t.f5.length c5], .agg #[.int .i64 c.f0, .int .i64 c.f1, .int .i64 c.f2, .bool c.f3.f0, .slice D4 c.f3.f1.length e4, .bool c.f4.f0, .slice D6 c.f4.f1.length e6]] w fun e w' => ∃ B4 d4 B5 d5, e = .returned (.tuple #[.agg #[.int .i64 (noteR t c).f0, .int .i64 (noteR t c).f1, .int .i64 (noteR t c).f2, .int .i64 (noteR t c).f3, .slice B4 (noteR t c).f4.length d4, .slice B5 (noteR t c).f5.length d5], .int .i64 (noteE t c)]) ∧ TF w' (fun k => w.heap.size ≤ k) (noteR t c) B4 d4 B5 d5 ∧ Below w.heap.size w w' := by
  refine (txn_Note.calls 20 _ _ _ _ A4 c4 _ A5 c5 _ _ _ _ _ D4 e4 _ _ D6 e6 _ _ _ _ _ _ _ _ w (Kd.F_now h.g4) h.l4 (Kd.F_now h.g5) h.l5 (Kd.F_now hc.g4) hc.l4 (Kd.F_now hc.g6) hc.l6 (note_f t c)).mono ?_
  rintro e w' ⟨v4, v5, rfl, hN, hR, hb⟩
  obtain ⟨B4, d4, rfl⟩ := Kd.N_slice hN
  have hV := Kd.R_V (base' := 0) hR
  obtain ⟨B5, d5, rfl⟩ := Kd.V_slice hV
  exact ⟨B4, d4, B5, d5, rfl, ⟨(Kd.N_reads' hN).2.1, Kd.F_mono (Kd.N_F hN) (fun k hk => hk.1), (Kd.V_at hV).2.1, (Kd.V_at hV).2.2⟩, hb⟩
end
theorem MayP.light {t : S25} (h : MayP t) : LightP t := ⟨by have := h.nl; omega, by have := h.ns; omega, fun c hc => by have := h.vals c hc; omega⟩
end Go.Proofs.Ytdbbibndjknafaa.Print
