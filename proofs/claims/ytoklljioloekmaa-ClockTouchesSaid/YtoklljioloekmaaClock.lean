/- What the program's clock comes to (numbers and lists alone). -/
import Derived.Test.YtoklljioloekmaaBase
import Derived.Test.YtoklljioloekmaaPrint2
import Derived.Test.YtoklljioloekmaaPrint3
namespace Go.Proofs.Ytoklljioloekmaa.Pure
open Go.RowKit Go.Proofs.Ytoklljioloekmaa.Print Go.Proofs.YtoklljioloekmaaW.PrintWords Go.Proofs.YtoklljioloekmaaW.PrintLast
set_option linter.unusedVariables false
set_option linter.unusedSimpArgs false
theorem Ev.ex {α : Type} {g : Nat → Option α} {r : α} (K : Nat) (h : ∀ k, K ≤ k → g k = some r) : Ev g r := ⟨K, h⟩
theorem Ev.const {α : Type} {o : Option α} {r : α} (h : o = some r) : Ev (fun _ => o) r := ⟨0, fun _ _ => h⟩
theorem Ev.ifp {α : Type} {c : Prop} [Decidable c] {g f : Nat → Option α} {r : α} (hc : c) (h : Ev g r) : Ev (fun k => if c then g k else f k) r := by simpa [hc] using h
theorem Ev.ifn {α : Type} {c : Prop} [Decidable c] {g f : Nat → Option α} {r : α} (hc : ¬ c) (h : Ev f r) : Ev (fun k => if c then g k else f k) r := by simpa [hc] using h
theorem Ev.bnd {α β : Type} {o : Option α} {f : Nat → α → Option β} {a : α} {r : β} (h : o = some a) (k : Ev (fun n => f n a) r) : Ev (fun n => o.bind (f n)) r := by simpa [h] using k
theorem w64 {x : Int} (h0 : -9223372036854775808 ≤ x) (h1 : x < 9223372036854775808) : wrap64 x = x := by unfold wrap64; omega
abbrev g (l : List S32) (i : Nat) : S32 := l.getD i z32
theorem rdT (l : List S32) (i : Nat) (h : i < l.length) : rd_T32 l (i : Int) = g l i := by
  simp [rd_T32, g, List.getD_eq_getElem?_getD, List.getElem?_eq_getElem h]
abbrev idx := @clock_at.idx
theorem idx_iff {l : List S32} {p : Int} {i : Nat} : idx l p = (i : Int) ↔ i < l.length ∧ (g l i).f0 = p ∧ ∀ j, j < i → (g l j).f0 ≠ p := by
  unfold idx clock_at.idx
  constructor
  · intro h
    split at h
    · rename_i k hk
      obtain rfl : k = i := by omega
      obtain ⟨h1, h2, h3⟩ := List.findIdx?_eq_some_iff_getElem.1 hk
      refine ⟨h1, ?_, fun j hj => ?_⟩
      · simpa [g, List.getD_eq_getElem?_getD, List.getElem?_eq_getElem h1] using h2
      · have := h3 j hj
        simpa [g, List.getD_eq_getElem?_getD, List.getElem?_eq_getElem (show j < l.length by omega)] using this
    · omega
  · rintro ⟨h1, h2, h3⟩
    have : l.findIdx? (fun x => x.f0 == p) = some i := by
      rw [List.findIdx?_eq_some_iff_getElem]
      refine ⟨h1, ?_, fun j hj => ?_⟩
      · simpa [g, List.getD_eq_getElem?_getD, List.getElem?_eq_getElem h1] using h2
      · have := h3 j hj
        simpa [g, List.getD_eq_getElem?_getD, List.getElem?_eq_getElem (show j < l.length by omega)] using this
    rw [this]
theorem idx_neg {l : List S32} {p : Int} (h : ∀ j, j < l.length → (g l j).f0 ≠ p) : idx l p = -1 := clock_at.idx_none (fun j hj => beq_eq_false_iff_ne.mpr (h j hj))
theorem idx_cases (l : List S32) (p : Int) : (idx l p = -1 ∧ ∀ j, j < l.length → (g l j).f0 ≠ p) ∨ ∃ i : Nat, idx l p = (i : Int) ∧ i < l.length ∧ (g l i).f0 = p ∧ ∀ j, j < i → (g l j).f0 ≠ p := by
  by_cases h : ∀ j, j < l.length → (g l j).f0 ≠ p
  · exact .inl ⟨idx_neg h, h⟩
  · refine .inr ?_
    obtain ⟨j, hj⟩ := Classical.not_forall.1 h
    have hj2 : j < l.length ∧ (g l j).f0 = p := by
      by_cases a : j < l.length
      · exact ⟨a, Classical.byContradiction fun b => hj fun _ => b⟩
      · exact absurd (fun q => absurd q a) hj
    have : 0 ≤ idx l p := by
      unfold idx clock_at.idx
      split
      · omega
      · rename_i hn
        rw [List.findIdx?_eq_none_iff] at hn
        have := hn l[j] (List.getElem_mem hj2.1)
        have e := hj2.2
        simp [g, List.getD_eq_getElem?_getD, List.getElem?_eq_getElem hj2.1] at e
        simp [e] at this
    obtain ⟨i, hi, _⟩ := clock_at.idx_lt this
    exact ⟨i, hi, idx_iff.1 hi⟩
/-- A clock that may be. -/
structure Valid (h : Int) (l : List S32) : Prop where
  len : l.length ≤ 16
  lo : 0 ≤ h
  hi : 0 < h → h < l.length
  pages : ∀ i, i < l.length → 0 ≤ (g l i).f0 ∧ (g l i).f0 ≤ 255
  distinct : ∀ i j, i < l.length → j < i → (g l j).f0 ≠ (g l i).f0
theorem Valid.inj {h : Int} {l : List S32} (v : Valid h l) {i j : Nat} (hi : i < l.length) (hj : j < l.length) (e : (g l i).f0 = (g l j).f0) : i = j := by
  rcases Nat.lt_trichotomy i j with c | c | c
  · exact absurd e (v.distinct j i hj c)
  · exact c
  · exact absurd e.symm (v.distinct i j hi c)
theorem Valid.idx {h : Int} {l : List S32} (v : Valid h l) {i : Nat} (hi : i < l.length) : idx l (g l i).f0 = (i : Int) := idx_iff.2 ⟨hi, rfl, fun j hj => v.distinct i j hi hj⟩
theorem number_eq (p : Int) : clock_number.f p = some (decide (0 ≤ p ∧ p ≤ 255)) := by
  unfold clock_number.f
  split <;> simp <;> omega
open Classical in
theorem may_loop (h : Int) (l : List S32) (h16 : l.length ≤ 16) (d : Nat) : ∀ (k i : Nat), i ≤ l.length → l.length - i = d → d < k →
    clock_May.l0 k l (l.length : Int) (i : Int) h l = some (decide (∀ j, i ≤ j → j < l.length → (0 ≤ (g l j).f0 ∧ (g l j).f0 ≤ 255) ∧ idx l (g l j).f0 = (j : Int))) := by
  induction d with
  | zero =>
    intro k i h0 h1 hk
    obtain ⟨k, rfl⟩ : ∃ q, k = q + 1 := ⟨k - 1, by omega⟩
    rw [clock_May.l0_eq, if_neg (by omega)]
    simp only [Option.some.injEq]
    symm
    rw [decide_eq_true_iff]
    intro j a b
    omega
  | succ d ih =>
    intro k i h0 h1 hk
    obtain ⟨k, rfl⟩ : ∃ q, k = q + 1 := ⟨k - 1, by omega⟩
    have hl : i < l.length := by omega
    rw [clock_May.l0_eq, if_pos (by omega), if_pos (by omega), if_pos (by omega), rdT l i hl, number_eq, Option.bind_some]
    by_cases c : 0 ≤ (g l i).f0 ∧ (g l i).f0 ≤ 255
    · rw [if_pos (by simpa using c)]
      show (some (idx l (g l i).f0)).bind _ = _
      rw [Option.bind_some]
      by_cases e : idx l (g l i).f0 = (i : Int)
      · rw [if_pos e, w64 (by omega) (by omega), show ((i : Int) + 1) = ((i + 1 : Nat) : Int) by omega, ih k (i + 1) (by omega) (by omega) (by omega)]
        congr 1
        rw [decide_eq_decide]
        constructor
        · intro q j a b
          by_cases e2 : j = i
          · rw [e2]; exact ⟨c, e⟩
          · exact q j (by omega) b
        · intro q j a b
          exact q j (by omega) b
      · rw [if_neg e]
        congr 1
        symm
        rw [decide_eq_false_iff_not]
        intro q
        exact e (q i (Nat.le_refl _) hl).2
    · rw [if_neg (by simpa using c)]
      congr 1
      symm
      rw [decide_eq_false_iff_not]
      intro q
      exact c (q i (Nat.le_refl _) hl).1
theorem valid_iff (h : Int) (l : List S32) : Valid h l ↔ l.length ≤ 16 ∧ 0 ≤ h ∧ (0 < h → h < l.length) ∧ ∀ j, 0 ≤ j → j < l.length → (0 ≤ (g l j).f0 ∧ (g l j).f0 ≤ 255) ∧ idx l (g l j).f0 = (j : Int) := by
  constructor
  · intro v
    exact ⟨v.len, v.lo, v.hi, fun j _ hj => ⟨v.pages j hj, v.idx hj⟩⟩
  · rintro ⟨a, b, c, d⟩
    exact ⟨a, b, c, fun i hi => (d i (Nat.zero_le _) hi).1, fun i j hi hj => (idx_iff.1 (d i (Nat.zero_le _) hi).2).2.2 j hj⟩
open Classical in
theorem may_ev (h : Int) (l : List S32) (hl : l.length ≤ 140737488355328) : Ev (fun k => clock_May.f k h l) (decide (Valid h l)) := by
  have bad : ¬ Valid h l → Ev (fun k => clock_May.j0 k true h l) (decide (Valid h l)) := fun nv => by
    rw [decide_eq_false nv]
    exact Ev.step (fun k => clock_May.j0_eq k _ _ _) (Ev.ifp rfl (Ev.now _))
  have good : l.length ≤ 16 → 0 ≤ h → (0 < h → h < l.length) → Ev (fun k => clock_May.j0 k false h l) (decide (Valid h l)) := fun a b c => by
    refine Ev.step (fun k => clock_May.j0_eq k _ _ _) (Ev.ifn (by decide) (Ev.ex 20 fun k hk => ?_))
    rw [show (0 : Int) = ((0 : Nat) : Int) from rfl, may_loop h l a l.length k 0 (by omega) (by omega) (by omega)]
    congr 1
    rw [decide_eq_decide, valid_iff]
    exact ⟨fun q => ⟨a, b, c, q⟩, fun q => q.2.2.2⟩
  unfold clock_May.f
  by_cases c1 : (l.length : Int) > 16
  · exact Ev.ifp c1 (bad fun v => by have := v.len; omega)
  refine Ev.ifn c1 ?_
  by_cases c2 : h < 0
  · exact Ev.ifp c2 (bad fun v => by have := v.lo; omega)
  refine Ev.ifn c2 ?_
  by_cases c3 : h > 0
  · refine Ev.ifp c3 ?_
    by_cases c4 : h ≥ (l.length : Int)
    · rw [decide_eq_true c4]
      exact bad fun v => by have := v.hi c3; omega
    · rw [decide_eq_false c4]
      exact good (by omega) (by omega) (fun _ => by omega)
  · exact Ev.ifn c3 (good (by omega) (by omega) (fun _ => by omega))
theorem may_yes {h : Int} {l : List S32} (v : Valid h l) : Ev (fun k => clock_May.f k h l) true := by
  classical
  have := may_ev h l (by have := v.len; omega)
  rwa [decide_eq_true v] at this
theorem may_no {h : Int} {l : List S32} (v : ¬ Valid h l) (hl : l.length ≤ 140737488355328) : Ev (fun k => clock_May.f k h l) false := by
  classical
  have := may_ev h l hl
  rwa [decide_eq_false v] at this
end Go.Proofs.Ytoklljioloekmaa.Pure
