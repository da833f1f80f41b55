/- law14's awake. -/
import Derived.Test.YtdbbibndjknafaaTx4
import Derived.Deep.RegionHeld3
namespace Go.Proofs.Ytdbbibndjknafaa.Print
open Go.RowKit Go.Proofs.YtdbbibndjknafaaW.PrintWords Go.Proofs.YtdbbibndjknafaaW.PrintLast Go.Proofs.YtdbbibndjknafaaW.PrintMore
set_option linter.unusedVariables false
set_option linter.unusedSimpArgs false
theorem tx_ext {a b : S25} (h0 : a.f0 = b.f0) (h1 : a.f1 = b.f1) (h2 : a.f2 = b.f2) (h3 : a.f3 = b.f3) (h4 : a.f4 = b.f4) (h5 : a.f5 = b.f5) : a = b := by
  cases a
  cases b
  simp only at h0 h1 h2 h3 h4 h5
  subst h0 h1 h2 h3 h4 h5
  rfl
theorem note_val {t : S25} {c : S30} {t' : S25} {e' : Int} (h : txn_Note.f 20 t.f0 t.f1 t.f2 t.f3 t.f4 t.f5 c.f0 c.f1 c.f2 c.f3.f0 c.f3.f1 c.f4.f0 c.f4.f1 = some (t'.f0, t'.f1, t'.f2, t'.f3, t'.f4, t'.f5, e')) : noteR t c = t' ∧ noteE t c = e' := by
  rw [note_f] at h
  simp only [Option.some.injEq, Prod.mk.injEq] at h
  exact ⟨tx_ext h.1 h.2.1 h.2.2.1 h.2.2.2.1 h.2.2.2.2.1 h.2.2.2.2.2.1, h.2.2.2.2.2.2⟩
theorem save_val {t : S25} {t' : S25} {n' e' : Int} (h : txn_Save.f 20 t.f0 t.f1 t.f2 t.f3 t.f4 t.f5 = some (t'.f0, t'.f1, t'.f2, t'.f3, t'.f4, t'.f5, n', e')) : saveR t = t' ∧ saveN t = n' ∧ saveE t = e' := by
  rw [save_f] at h
  simp only [Option.some.injEq, Prod.mk.injEq] at h
  exact ⟨tx_ext h.1 h.2.1 h.2.2.1 h.2.2.2.1 h.2.2.2.2.1 h.2.2.2.2.2.1, h.2.2.2.2.2.2⟩
theorem may_val {t : S25} (h : txn_May.f 20 t.f0 t.f1 t.f2 t.f3 t.f4 t.f5 = some true) : mayT t = true := by
  rw [may_f] at h
  exact Option.some.inj h
theorem above_val {t : S25} {n a e : Int} (h : txn_Above.f 20 t.f0 t.f1 t.f2 t.f3 t.f4 t.f5 n = some (a, e)) : aboveN t n = a ∧ aboveE t n = e := by
  rw [above_f] at h
  simp only [Option.some.injEq, Prod.mk.injEq] at h
  exact h
def wc1 : S30 := ⟨5, 0, 1, ⟨false, []⟩, ⟨true, [0, 0]⟩⟩
def wc2 : S30 := ⟨6, 0, 2, ⟨true, [0, 0, 0, 0, 0, 0, 0, 0, 0, 0]⟩, ⟨false, []⟩⟩
def wc3 : S30 := ⟨9, 0, 3, ⟨false, []⟩, ⟨false, []⟩⟩
def wt1 : S25 := ⟨1, 1, 0, 0, [], []⟩
def wt2 : S25 := ⟨1, 1, 5, 5, [wc1], []⟩
def wt3 : S25 := ⟨1, 1, 5, 5, [wc1], [1]⟩
def wt4 : S25 := ⟨1, 1, 5, 6, [wc1, wc2], [1]⟩
def wt5 : S25 := ⟨1, 1, 5, 9, [wc1, wc2, wc3], [1]⟩
theorem w12 : noteR wt1 wc1 = wt2 ∧ noteE wt1 wc1 = 0 := note_val (by kernel_rfl)
theorem w23 : saveR wt2 = wt3 ∧ saveN wt2 = 0 ∧ saveE wt2 = 0 := save_val (by kernel_rfl)
theorem w34 : noteR wt3 wc2 = wt4 ∧ noteE wt3 wc2 = 0 := note_val (by kernel_rfl)
theorem w45 : noteR wt4 wc3 = wt5 ∧ noteE wt4 wc3 = 0 := note_val (by kernel_rfl)
theorem w5a : aboveN wt5 0 = 2 ∧ aboveE wt5 0 = 0 := above_val (by kernel_rfl)
def wt6 : S25 := ⟨1, 1, 5, 9, [wc1, wc2], [1]⟩
theorem w56 : undoR wt5 = wt6 ∧ undoC wt5 = wc3 ∧ undoE wt5 = 0 := by
  obtain ⟨a, b, c⟩ := undo_ok (t := wt5) (may_val (by kernel_rfl)) (by decide)
  exact ⟨a.trans (by kernel_rfl), b.trans (by kernel_rfl), c⟩
theorem w6a : aboveN wt6 0 = 1 ∧ aboveE wt6 0 = 0 := above_val (by kernel_rfl)
theorem wkept : txn_Kept.f 20 [wt5] 0 = some 14 := by kernel_rfl
theorem new1 (w : World) : Calls Try.prog 29 #[.int .i64 1] w fun e w' => ∃ B4 d4 B5 d5, e = .returned (.tuple #[.agg #[.int .i64 wt1.f0, .int .i64 wt1.f1, .int .i64 wt1.f2, .int .i64 wt1.f3, .slice B4 wt1.f4.length d4, .slice B5 wt1.f5.length d5], .int .i64 0]) ∧ TF w' (fun k => w.heap.size ≤ k) wt1 B4 d4 B5 d5 ∧ Below w.heap.size w w' := by
  refine (txn_New.calls 1 wt1.f0 wt1.f1 wt1.f2 wt1.f3 wt1.f4 wt1.f5 0 w (by kernel_rfl)).mono ?_
  rintro e w' ⟨v4, v5, rfl, hS, hR, hb⟩
  have hV4 := Kd.S_V (base' := 0) hS
  have hV5 := Kd.R_V (base' := 0) hR
  obtain ⟨B4, d4, rfl⟩ := Kd.V_slice hV4
  obtain ⟨B5, d5, rfl⟩ := Kd.V_slice hV5
  refine ⟨B4, d4, B5, d5, rfl, ⟨(Kd.V_at hV4).2.1, ?_, (Kd.V_at hV5).2.1, ?_⟩, hb⟩
  · exact fun W' _ => ⟨rfl, by decide, fun hn => absurd hn (by decide)⟩
  · exact fun W' _ => ⟨rfl, by decide, fun hn => absurd hn (by decide)⟩
/-- The box of the transaction. -/
structure BX (w W : World) (b : Nat) (t : S25) (B4 : Option Addr) (d4 : Nat) (B5 : Option Addr) (d5 : Nat) : Prop where
  bel : Below w.heap.size w W
  box : W.heap[b]? = some (.cells #[.int .i64 t.f0, .int .i64 t.f1, .int .i64 t.f2, .int .i64 t.f3, .slice B4 t.f4.length d4, .slice B5 t.f5.length d5] 25)
  tf : TF W (fun k => k ≠ b) t B4 d4 B5 d5
  lo : w.heap.size ≤ b
theorem BX.lt {w W : World} {b : Nat} {t : S25} {B4 : Option Addr} {d4 : Nat} {B5 : Option Addr} {d5 : Nat} (h : BX w W b t B4 d4 B5 d5) : b < W.heap.size := (Array.getElem?_eq_some_iff.1 h.box).1
theorem BX.below {w W W1 : World} {b : Nat} {t : S25} {B4 : Option Addr} {d4 : Nat} {B5 : Option Addr} {d5 : Nat} (h : BX w W b t B4 d4 B5 d5) (hb : Below W.heap.size W W1) : BX w W1 b t B4 d4 B5 d5 :=
  ⟨h.bel.trans (hb.mono h.bel.size), (hb.block _ h.lt).trans h.box, h.tf.below hb, h.lo⟩
/-- Another transaction, made since, is put into the box. -/
theorem BX.put {w W W1 : World} {b : Nat} {t t1 : S25} {B4 : Option Addr} {d4 : Nat} {B5 : Option Addr} {d5 : Nat} {E4 : Option Addr} {e4 : Nat} {E5 : Option Addr} {e5 : Nat} (h : BX w W b t B4 d4 B5 d5) (hb : Below W.heap.size W W1) (hT : TF W1 (fun k => W.heap.size ≤ k) t1 E4 e4 E5 e5) :
    BX w ((((((W1.setCell ⟨b, 0, none⟩ (.int .i64 t1.f0)).setCell ⟨b, 1, none⟩ (.int .i64 t1.f1)).setCell ⟨b, 2, none⟩ (.int .i64 t1.f2)).setCell ⟨b, 3, none⟩ (.int .i64 t1.f3)).setCell ⟨b, 4, none⟩ (.slice E4 t1.f4.length e4)).setCell ⟨b, 5, none⟩ (.slice E5 t1.f5.length e5)) b t1 E4 e4 E5 e5 := by
  have hC := Chg.six (S := fun k => k = b) (Chg.refl _ W1) (.inl rfl) (.int .i64 t1.f0) (.int .i64 t1.f1) (.int .i64 t1.f2) (.int .i64 t1.f3) (.slice E4 t1.f4.length e4) (.slice E5 t1.f5.length e5)
  have hl := h.lt
  have hB1 := (h.below hb).bel
  refine ⟨hB1.trans (hC.below (fun k hk => by rw [hk]; exact h.lo) hB1.size), six_put (h.below hb).box _ _ _ _ _ _, (hT.mono (fun k hk => ?_)).step (fun k hk hlt => hC.block k hlt hk), h.lo⟩
  show k ≠ b
  omega
theorem val_any (n : Int) (l : List Int) (w : World) (h : bobbinlaw14_val.f n = some (true, l)) : Calls Try.prog 30 #[.int .i64 n] w fun e w' => ∃ A c, e = .returned (.agg #[.bool true, .slice A l.length c]) ∧ l.length ≤ c ∧ Kd.F (Kd.int .u8) w' (fun _ => True) A l.length l ∧ Below w.heap.size w w' := by
  refine (bobbinlaw14_val.calls n true l w h).mono ?_
  rintro e w' ⟨v, rfl, hR, hb⟩
  have hV := Kd.R_V (base' := 0) hR
  obtain ⟨A, c, rfl⟩ := Kd.V_slice hV
  exact ⟨A, c, rfl, (Kd.V_at hV).2.1, (Kd.V_at hV).2.2, hb⟩
theorem note12 (b : Nat) (B4 : Option Addr) (d4 : Nat) (B5 : Option Addr) (d5 : Nat) (A5 : Option Addr) (c5 : Nat) {P : Nat → Prop} (W : World) (h : TF W P wt1 B4 d4 B5 d5) (hl : 2 ≤ c5) (hF : Kd.F (Kd.int .u8) W (fun _ => True) A5 2 [0, 0]) : Calls Try.prog 12 #[.agg #[.int .i64 wt1.f0, .int .i64 wt1.f1, .int .i64 wt1.f2, .int .i64 wt1.f3, .slice B4 wt1.f4.length d4, .slice B5 wt1.f5.length d5], .agg #[.int .i64 5, .int .i64 0, .int .i64 1, .bool false, .slice none 0 0, .bool true, .slice A5 2 c5]] W fun e w' => ∃ B4 d4 B5 d5, e = .returned (.tuple #[.agg #[.int .i64 wt2.f0, .int .i64 wt2.f1, .int .i64 wt2.f2, .int .i64 wt2.f3, .slice B4 wt2.f4.length d4, .slice B5 wt2.f5.length d5], .int .i64 0]) ∧ TF w' (fun k => W.heap.size ≤ k) wt2 B4 d4 B5 d5 ∧ Below W.heap.size W w' := by
  have hn := note_any wt1 B4 d4 B5 d5 h wc1 none 0 A5 c5 ⟨Nat.le_refl _, Kd.F_nil _ _ _, hl, hF⟩
  rw [w12.1, w12.2] at hn
  exact hn
theorem save23 (B4 : Option Addr) (d4 : Nat) (B5 : Option Addr) (d5 : Nat) {P : Nat → Prop} (W : World) (h : TF W P wt2 B4 d4 B5 d5) : Calls Try.prog 16 #[.agg #[.int .i64 wt2.f0, .int .i64 wt2.f1, .int .i64 wt2.f2, .int .i64 wt2.f3, .slice B4 wt2.f4.length d4, .slice B5 wt2.f5.length d5]] W fun e w' => ∃ B4 d4 B5 d5, e = .returned (.tuple #[.agg #[.int .i64 wt3.f0, .int .i64 wt3.f1, .int .i64 wt3.f2, .int .i64 wt3.f3, .slice B4 wt3.f4.length d4, .slice B5 wt3.f5.length d5], .int .i64 0, .int .i64 0]) ∧ TF w' (fun k => W.heap.size ≤ k) wt3 B4 d4 B5 d5 ∧ Below W.heap.size W w' := by
  have hn := save_any wt2 B4 d4 B5 d5 h
  rw [w23.1, w23.2.1, w23.2.2] at hn
  exact hn
theorem note34 (B4 : Option Addr) (d4 : Nat) (B5 : Option Addr) (d5 : Nat) (A5 : Option Addr) (c5 : Nat) {P : Nat → Prop} (W : World) (h : TF W P wt3 B4 d4 B5 d5) (hl : 10 ≤ c5) (hF : Kd.F (Kd.int .u8) W (fun _ => True) A5 10 [0, 0, 0, 0, 0, 0, 0, 0, 0, 0]) : Calls Try.prog 12 #[.agg #[.int .i64 wt3.f0, .int .i64 wt3.f1, .int .i64 wt3.f2, .int .i64 wt3.f3, .slice B4 wt3.f4.length d4, .slice B5 wt3.f5.length d5], .agg #[.int .i64 6, .int .i64 0, .int .i64 2, .bool true, .slice A5 10 c5, .bool false, .slice none 0 0]] W fun e w' => ∃ B4 d4 B5 d5, e = .returned (.tuple #[.agg #[.int .i64 wt4.f0, .int .i64 wt4.f1, .int .i64 wt4.f2, .int .i64 wt4.f3, .slice B4 wt4.f4.length d4, .slice B5 wt4.f5.length d5], .int .i64 0]) ∧ TF w' (fun k => W.heap.size ≤ k) wt4 B4 d4 B5 d5 ∧ Below W.heap.size W w' := by
  have hn := note_any wt3 B4 d4 B5 d5 h wc2 A5 c5 none 0 ⟨hl, hF, Nat.le_refl _, Kd.F_nil _ _ _⟩
  rw [w34.1, w34.2] at hn
  exact hn
theorem note45 (B4 : Option Addr) (d4 : Nat) (B5 : Option Addr) (d5 : Nat) {P : Nat → Prop} (W : World) (h : TF W P wt4 B4 d4 B5 d5) : Calls Try.prog 12 #[.agg #[.int .i64 wt4.f0, .int .i64 wt4.f1, .int .i64 wt4.f2, .int .i64 wt4.f3, .slice B4 wt4.f4.length d4, .slice B5 wt4.f5.length d5], .agg #[.int .i64 9, .int .i64 0, .int .i64 3, .bool false, .slice none 0 0, .bool false, .slice none 0 0]] W fun e w' => ∃ B4 d4 B5 d5, e = .returned (.tuple #[.agg #[.int .i64 wt5.f0, .int .i64 wt5.f1, .int .i64 wt5.f2, .int .i64 wt5.f3, .slice B4 wt5.f4.length d4, .slice B5 wt5.f5.length d5], .int .i64 0]) ∧ TF w' (fun k => W.heap.size ≤ k) wt5 B4 d4 B5 d5 ∧ Below W.heap.size W w' := by
  have hn := note_any wt4 B4 d4 B5 d5 h wc3 none 0 none 0 (Q := fun _ => True) ⟨Nat.le_refl _, Kd.F_nil _ _ _, Nat.le_refl _, Kd.F_nil _ _ _⟩
  rw [w45.1, w45.2] at hn
  exact hn
theorem above5 (B4 : Option Addr) (d4 : Nat) (B5 : Option Addr) (d5 : Nat) {P : Nat → Prop} (W : World) (h : TF W P wt5 B4 d4 B5 d5) : Calls Try.prog 18 #[.agg #[.int .i64 wt5.f0, .int .i64 wt5.f1, .int .i64 wt5.f2, .int .i64 wt5.f3, .slice B4 wt5.f4.length d4, .slice B5 wt5.f5.length d5], .int .i64 0] W fun e w' => e = .returned (.tuple #[.int .i64 2, .int .i64 0]) ∧ Below W.heap.size W w' := by
  have hn := above_any wt5 B4 d4 B5 d5 h 0
  rw [w5a.1, w5a.2] at hn
  exact hn
theorem above6 (B4 : Option Addr) (d4 : Nat) (B5 : Option Addr) (d5 : Nat) {P : Nat → Prop} (W : World) (h : TF W P wt6 B4 d4 B5 d5) : Calls Try.prog 18 #[.agg #[.int .i64 wt6.f0, .int .i64 wt6.f1, .int .i64 wt6.f2, .int .i64 wt6.f3, .slice B4 wt6.f4.length d4, .slice B5 wt6.f5.length d5], .int .i64 0] W fun e w' => e = .returned (.tuple #[.int .i64 1, .int .i64 0]) ∧ Below W.heap.size W w' := by
  have hn := above_any wt6 B4 d4 B5 d5 h 0
  rw [w6a.1, w6a.2] at hn
  exact hn
theorem undo56 (B4 : Option Addr) (d4 : Nat) (B5 : Option Addr) (d5 : Nat) {P : Nat → Prop} (W : World) (h : TF W P wt5 B4 d4 B5 d5) : Calls Try.prog 14 #[.agg #[.int .i64 wt5.f0, .int .i64 wt5.f1, .int .i64 wt5.f2, .int .i64 wt5.f3, .slice B4 wt5.f4.length d4, .slice B5 wt5.f5.length d5]] W fun e w' => ∃ B4 d4 B5 d5 E4 e4 E6 e6, e = .returned (.tuple #[.agg #[.int .i64 wt6.f0, .int .i64 wt6.f1, .int .i64 wt6.f2, .int .i64 wt6.f3, .slice B4 wt6.f4.length d4, .slice B5 wt6.f5.length d5], .agg #[.int .i64 9, .int .i64 0, .int .i64 3, .bool false, .slice E4 0 e4, .bool false, .slice E6 0 e6], .int .i64 0]) ∧ TF w' (fun k => W.heap.size ≤ k) wt6 B4 d4 B5 d5 ∧ Below W.heap.size W w' := by
  have hn := undo_any wt5 B4 d4 B5 d5 h
  unfold UnPost at hn
  rw [w56.1, w56.2.1, w56.2.2] at hn
  refine hn.mono ?_
  rintro e w' ⟨B4, d4, B5, d5, E4, e4, E6, e6, rfl, hT, _, hb⟩
  exact ⟨B4, d4, B5, d5, E4, e4, E6, e6, rfl, hT, hb⟩
/-- One transaction, in a row of its own. -/
theorem kept_one {W : World} {P : Nat → Prop} {t : S25} {B4 : Option Addr} {d4 : Nat} {B5 : Option Addr} {d5 : Nat} (h : TF W P t B4 d4 B5 d5) (g : Nat) (hg : W.heap[g]? = some (.cells #[.int .i64 t.f0, .int .i64 t.f1, .int .i64 t.f2, .int .i64 t.f3, .slice B4 t.f4.length d4, .slice B5 t.f5.length d5] 25)) : Kd.C k25 W (some ⟨g, 0, none⟩) 1 [t] := by
  refine ⟨rfl, by decide, fun _ => ⟨_, rfl, fun j p hj => ?_⟩⟩
  have hj0 : j = 0 := by
    rcases j with _ | j
    · rfl
    · simp at hj
  subst hj0
  simp only [List.getElem?_cons_zero, Option.some.injEq] at hj
  subst hj
  refine ⟨_, rfl, k25_mk W t h.l4 (Kd.F_now h.g4) h.l5 (Kd.F_now h.g5), fun i u hu => ?_⟩
  rw [Nat.zero_mul, Nat.zero_add, add_plain]
  have := blk_cell hg i
  rw [this]
  rw [← hu]
  simp
end Go.Proofs.Ytdbbibndjknafaa.Print
