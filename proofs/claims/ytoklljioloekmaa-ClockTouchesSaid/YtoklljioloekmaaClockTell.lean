/- The document's clock comes to what the program's comes to (numbers and lists alone). -/
import Derived.Test.YtoklljioloekmaaClockSet
import Derived.Test.YtoklljioloekmaaPrint10
import Derived.Test.YtoklljioloekmaaPrint6
import Derived.Test.YtoklljioloekmaaPrint7
import Derived.Test.YtoklljioloekmaaPrint8
import Derived.Test.YtoklljioloekmaaPrint9
namespace Go.Proofs.Ytoklljioloekmaa.Pure
open Go.RowKit Go.Proofs.Ytoklljioloekmaa.Print Go.Proofs.YtoklljioloekmaaW.PrintWords Go.Proofs.YtoklljioloekmaaW.PrintLast
set_option linter.unusedVariables false
set_option linter.unusedSimpArgs false
theorem rfind_loop (l : List S32) (p : Int) (hl : l.length ≤ 140737488355328) (d : Nat) : ∀ i : Nat, i ≤ l.length → l.length - i = d → (∀ j, j < i → (g l j).f0 ≠ p) → Ev (fun k => bobbinref16_find.l0 k l p (i : Int)) (idx l p) := by
  induction d with
  | zero =>
    intro i hi hd hp
    refine Ev.step (fun k => bobbinref16_find.l0_eq k _ _ _) (Ev.ifn (by omega) ?_)
    rw [idx_neg (fun j hj => hp j (by omega))]
    exact Ev.now _
  | succ d ih =>
    intro i hi hd hp
    have hlt : i < l.length := by omega
    refine Ev.step (fun k => bobbinref16_find.l0_eq k _ _ _) (Ev.ifp (by omega) (Ev.ifp (by omega) ?_))
    rw [rdT l i hlt, w64 (by omega) (by omega)]
    by_cases c : (g l i).f0 = p
    · refine Ev.ifp c ?_
      rw [idx_iff.2 ⟨hlt, c, hp⟩]
      exact Ev.now _
    · refine Ev.ifn c (ih (i + 1) (by omega) (by omega) (fun j hj => ?_))
      rcases Nat.lt_or_ge j i with h | h
      · exact hp j h
      · rw [show j = i by omega]; exact c
theorem rfind (l : List S32) (p : Int) (hl : l.length ≤ 140737488355328) : Ev (fun k => bobbinref16_find.f k l p) (idx l p) :=
  rfind_loop l p hl l.length 0 (Nat.zero_le _) (by omega) (fun j hj => by omega)
theorem g_take {l : List S32} {i j : Nat} (h : j < i) : g (l.take i) j = g l j := by
  simp [g, List.getD_eq_getElem?_getD, List.getElem?_take_of_lt h]
open Classical in
theorem rmay_loop (h : Int) (l : List S32) (h16 : l.length ≤ 16) (h0 : 0 ≤ h) (hh : 0 < h → h < l.length) (d : Nat) : ∀ i : Nat, i ≤ l.length → l.length - i = d → (∀ j, j < i → (0 ≤ (g l j).f0 ∧ (g l j).f0 ≤ 255) ∧ ∀ m, m < j → (g l m).f0 ≠ (g l j).f0) → Ev (fun k => bobbinref16_May.l0 k (i : Int) h l) (decide (Valid h l)) := by
  induction d with
  | zero =>
    intro i hi hd hp
    refine Ev.step (fun k => bobbinref16_May.l0_eq k _ _ _) (Ev.ifn (by omega) ?_)
    rw [decide_eq_true (⟨h16, h0, hh, fun j hj => (hp j (by omega)).1, fun j m hj hm => (hp j (by omega)).2 m hm⟩ : Valid h l)]
    exact Ev.now _
  | succ d ih =>
    intro i hi hd hp
    have hlt : i < l.length := by omega
    refine Ev.step (fun k => bobbinref16_May.l0_eq k _ _ _) (Ev.ifp (by omega) (Ev.ifp (by omega) ?_))
    rw [rdT l i hlt, w64 (by omega) (by omega), show ((i : Int)).toNat = i from rfl]
    by_cases c1 : (g l i).f0 < 0
    · rw [decide_eq_false (fun v : Valid h l => by have := v.pages i hlt; omega)]
      exact Ev.ifp c1 (Ev.now _)
    by_cases c2 : (g l i).f0 > 255
    · rw [decide_eq_false (fun v : Valid h l => by have := v.pages i hlt; omega)]
      exact Ev.ifn c1 (Ev.ifp c2 (Ev.now _))
    refine Ev.ifn c1 (Ev.ifn c2 (Ev.ifp (by omega) (Ev.bind (rfind _ _ (by rw [List.length_take]; omega)) ?_)))
    rcases idx_cases (l.take i) (g l i).f0 with ⟨e, hn⟩ | ⟨j, e, hj, ej, _⟩
    · rw [e]
      refine Ev.ifn (by decide) (ih (i + 1) (by omega) (by omega) (fun j hj => ?_))
      rcases Nat.lt_or_ge j i with q | q
      · exact hp j q
      · obtain rfl : j = i := by omega
        exact ⟨by omega, fun m hm => by rw [← g_take hm]; exact hn m (by rw [List.length_take]; omega)⟩
    · rw [e]
      rw [List.length_take] at hj
      rw [g_take (by omega)] at ej
      rw [decide_eq_false (fun v : Valid h l => v.distinct i j hlt (by omega) ej)]
      exact Ev.ifp (by omega) (Ev.now _)
open Classical in
theorem rmay_ev (h : Int) (l : List S32) (hl : l.length ≤ 140737488355328) : Ev (fun k => bobbinref16_May.f k h l) (decide (Valid h l)) := by
  have bad : ¬ Valid h l → Ev (fun k => bobbinref16_May.j0 k true h l) (decide (Valid h l)) := fun nv => by
    rw [decide_eq_false nv]
    exact Ev.step (fun k => bobbinref16_May.j0_eq k _ _ _) (Ev.ifp rfl (Ev.now _))
  have good : l.length ≤ 16 → 0 ≤ h → (0 < h → h < l.length) → Ev (fun k => bobbinref16_May.j0 k false h l) (decide (Valid h l)) := fun a b c =>
    Ev.step (fun k => bobbinref16_May.j0_eq k _ _ _) (Ev.ifn (by decide) (rmay_loop h l a b c l.length 0 (Nat.zero_le _) (by omega) (fun j hj => by omega)))
  unfold bobbinref16_May.f
  by_cases c1 : (l.length : Int) > 16
  · exact Ev.ifp c1 (bad fun v => by have := v.len; omega)
  refine Ev.ifn c1 ?_
  by_cases c2 : h < 0
  · exact Ev.ifp c2 (bad fun v => by have := v.lo; omega)
  refine Ev.ifn c2 ?_
  by_cases c3 : h ≥ (l.length : Int)
  · refine Ev.ifp c3 ?_
    by_cases c4 : h = 0
    · rw [show (h != 0) = false by simp [c4]]
      exact good (by omega) (by omega) (fun q => by omega)
    · rw [show (h != 0) = true by simp [c4]]
      exact bad fun v => by have := v.hi (by omega); omega
  · exact Ev.ifn c3 (good (by omega) (by omega) (fun _ => by omega))
theorem rmay_yes {h : Int} {l : List S32} (v : Valid h l) : Ev (fun k => bobbinref16_May.f k h l) true := by
  classical
  have := rmay_ev h l (by have := v.len; omega)
  rwa [decide_eq_true v] at this
theorem rmay_no {h : Int} {l : List S32} (v : ¬ Valid h l) (hl : l.length ≤ 140737488355328) : Ev (fun k => bobbinref16_May.f k h l) false := by
  classical
  have := rmay_ev h l hl
  rwa [decide_eq_false v] at this
theorem put_f {h : Int} {l : List S32} {i : Nat} (hi : i < l.length) (hl : l.length ≤ 1000) (a : Int) (b c : Bool) : bobbinref16_put.f h l (i : Int) a b c = some (h, l.set i ⟨a, b, c⟩) := by
  unfold bobbinref16_put.f
  rw [if_pos (by simp; omega)]
  simp only [List.nil_append, Option.bind_some]
  rw [if_pos (by omega), if_pos (by omega)]
  rfl
/-- Touch, and the document's. -/
theorem touch_both (h : Int) (l : List S32) (hl : l.length ≤ 40) (p : Int) (on : Bool) : ∃ r : Int × List S32 × Int, Ev (fun k => clock_Touch.f k h l p) r ∧ Ev (fun k => bobbinref16_Turn.f k h l p false on) r ∧ r.2.1.length ≤ 40 ∧ (r.2.2 = 0 ↔ Valid h l ∧ 0 ≤ idx l p) := by
  unfold clock_Touch.f bobbinref16_Turn.f
  by_cases v : Valid h l
  · rcases idx_cases l p with ⟨e, _⟩ | ⟨i, e, hi, ei, _⟩
    · refine ⟨(0, [], 3), Ev.bind (may_yes v) (Ev.ifp rfl (Ev.ifp (by rw [show clock_at.idx l p = -1 from e]; decide) (Ev.now _))), Ev.bind (rmay_yes v) (Ev.ifp rfl (Ev.bind (rfind l p (by omega)) (Ev.ifp (by rw [e]; decide) (Ev.now _)))), by simp, ?_⟩
      simp [e]
    · refine ⟨(h, l.set i { g l i with f1 := true }, 0), Ev.bind (may_yes v) (Ev.ifp rfl (Ev.ifn (by rw [show clock_at.idx l p = (i : Int) from e]; omega) (Ev.ifp (by omega) ?_))), Ev.bind (rmay_yes v) (Ev.ifp rfl (Ev.bind (rfind l p (by omega)) ?_)), by simp; omega, ?_⟩
      · rw [show clock_at.idx l p = (i : Int) from e]
        exact Ev.now _
      · rw [e]
        refine Ev.ifn (by omega) (Ev.ifp (by omega) (Ev.ifp (by omega) (Ev.ifn (by decide) ?_)))
        rw [rdT l i hi, put_f hi (by omega)]
        exact Ev.now _
      · simp [e, v]
  · refine ⟨(0, [], 1), Ev.bind (may_no v (by omega)) (Ev.ifn (by decide) (Ev.now _)), Ev.bind (rmay_no v (by omega)) (Ev.ifn (by decide) (Ev.now _)), by simp, ?_⟩
    simp [v]
theorem pin_both (h : Int) (l : List S32) (hl : l.length ≤ 40) (p : Int) (on : Bool) : ∃ r : Int × List S32 × Int, Ev (fun k => clock_Pin.f k h l p on) r ∧ Ev (fun k => bobbinref16_Turn.f k h l p true on) r ∧ r.2.1.length ≤ 40 ∧ (r.2.2 = 0 ↔ Valid h l ∧ 0 ≤ idx l p) := by
  unfold clock_Pin.f bobbinref16_Turn.f
  by_cases v : Valid h l
  · rcases idx_cases l p with ⟨e, _⟩ | ⟨i, e, hi, ei, _⟩
    · refine ⟨(0, [], 3), Ev.bind (may_yes v) (Ev.ifp rfl (Ev.ifp (by rw [show clock_at.idx l p = -1 from e]; decide) (Ev.now _))), Ev.bind (rmay_yes v) (Ev.ifp rfl (Ev.bind (rfind l p (by omega)) (Ev.ifp (by rw [e]; decide) (Ev.now _)))), by simp, ?_⟩
      simp [e]
    · refine ⟨(h, l.set i { g l i with f2 := on }, 0), Ev.bind (may_yes v) (Ev.ifp rfl (Ev.ifn (by rw [show clock_at.idx l p = (i : Int) from e]; omega) (Ev.ifp (by omega) ?_))), Ev.bind (rmay_yes v) (Ev.ifp rfl (Ev.bind (rfind l p (by omega)) ?_)), by simp; omega, ?_⟩
      · rw [show clock_at.idx l p = (i : Int) from e]
        exact Ev.now _
      · rw [e]
        refine Ev.ifn (by omega) (Ev.ifp (by omega) (Ev.ifp (by omega) (Ev.ifp rfl ?_)))
        rw [rdT l i hi, put_f hi (by omega)]
        exact Ev.now _
      · simp [e, v]
  · refine ⟨(0, [], 1), Ev.bind (may_no v (by omega)) (Ev.ifn (by decide) (Ev.now _)), Ev.bind (rmay_no v (by omega)) (Ev.ifn (by decide) (Ev.now _)), by simp, ?_⟩
    simp [v]
theorem touch_no {h : Int} {l : List S32} (hl : l.length ≤ 40) (p : Int) (v : ¬ Valid h l) : Ev (fun k => clock_Touch.f k h l p) (0, [], 1) := by
  unfold clock_Touch.f
  exact Ev.bind (may_no v (by omega)) (Ev.ifn (by decide) (Ev.now _))
theorem touch_nn {h : Int} {l : List S32} (p : Int) (v : Valid h l) (e : idx l p = -1) : Ev (fun k => clock_Touch.f k h l p) (0, [], 3) := by
  unfold clock_Touch.f
  exact Ev.bind (may_yes v) (Ev.ifp rfl (Ev.ifp (by rw [show clock_at.idx l p = -1 from e]; decide) (Ev.now _)))
theorem touch_at {h : Int} {l : List S32} {p : Int} {i : Nat} (v : Valid h l) (e : idx l p = (i : Int)) : Ev (fun k => clock_Touch.f k h l p) (h, l.set i { g l i with f1 := true }, 0) := by
  have := v.len
  unfold clock_Touch.f
  refine Ev.bind (may_yes v) (Ev.ifp rfl (Ev.ifn (by rw [show clock_at.idx l p = (i : Int) from e]; omega) (Ev.ifp (by omega) ?_)))
  rw [show clock_at.idx l p = (i : Int) from e]
  exact Ev.now _
theorem pin_no {h : Int} {l : List S32} (on : Bool) (hl : l.length ≤ 40) (p : Int) (v : ¬ Valid h l) : Ev (fun k => clock_Pin.f k h l p on) (0, [], 1) := by
  unfold clock_Pin.f
  exact Ev.bind (may_no v (by omega)) (Ev.ifn (by decide) (Ev.now _))
theorem pin_nn {h : Int} {l : List S32} (on : Bool) (p : Int) (v : Valid h l) (e : idx l p = -1) : Ev (fun k => clock_Pin.f k h l p on) (0, [], 3) := by
  unfold clock_Pin.f
  exact Ev.bind (may_yes v) (Ev.ifp rfl (Ev.ifp (by rw [show clock_at.idx l p = -1 from e]; decide) (Ev.now _)))
theorem pin_at {h : Int} {l : List S32} (on : Bool) {p : Int} {i : Nat} (v : Valid h l) (e : idx l p = (i : Int)) : Ev (fun k => clock_Pin.f k h l p on) (h, l.set i { g l i with f2 := on }, 0) := by
  have := v.len
  unfold clock_Pin.f
  refine Ev.bind (may_yes v) (Ev.ifp rfl (Ev.ifn (by rw [show clock_at.idx l p = (i : Int) from e]; omega) (Ev.ifp (by omega) ?_)))
  rw [show clock_at.idx l p = (i : Int) from e]
  exact Ev.now _
abbrev rl := @bobbinref16_Admit.l0
/-- One step of the document's hand. -/
theorem rstep {l : List S32} {h s : Nat} {p : Int} {r : Int × List S32 × Int × Int} (hh : h < l.length) (h16 : l.length ≤ 16) (hs : s < 2 * l.length)
    (hj : Ev (fun k => bobbinref16_Admit.j2 k (s : Int) (h : Int) (((h + 1) % l.length : Nat) : Int) l p true false (g l h).f0 (g l h).f1 (g l h).f2) r) : Ev (fun k => rl k (s : Int) (h : Int) l p true false) r := by
  refine Ev.step (fun k => bobbinref16_Admit.l0_eq k _ _ _ _ _ _) (Ev.ifp (by rw [w64 (by omega) (by omega)]; omega) (Ev.ifp (by omega) (Ev.ifp (by omega) ?_)))
  rw [rdT l h hh, w64 (by omega) (by omega)]
  by_cases c : h + 1 = l.length
  · refine Ev.ifp (by omega) ?_
    rw [c, Nat.mod_self] at hj
    exact hj
  · refine Ev.ifn (by omega) ?_
    rw [Nat.mod_eq_of_lt (by omega)] at hj
    exact hj
theorem rloop (p : Int) (r : Int × List S32 × Int × Int) : ∀ (K s : Nat) (l : List S32) (h : Nat), h < l.length → l.length ≤ 16 → s + K ≤ 2 * l.length → loop K l h p = some r → Ev (fun k => rl k (s : Int) (h : Int) l p true false) r
  | 0, s, l, h, hh, h16, hs, he => by cases he
  | K + 1, s, l, h, hh, h16, hs, he => by
    have hn : (h + 1) % l.length < l.length := Nat.mod_lt _ (by omega)
    refine rstep hh h16 (by omega) (Ev.step (fun k => bobbinref16_Admit.j2_eq k _ _ _ _ _ _ _ _ _ _) ?_)
    rw [w64 (x := (s : Int) + 1) (by omega) (by omega)]
    cases c2 : (g l h).f2 with
    | true =>
      rw [loop_pin p hh c2] at he
      exact Ev.ifp rfl (rloop p r K (s + 1) l _ hn h16 (by omega) he)
    | false =>
      refine Ev.ifn (by decide) ?_
      cases c1 : (g l h).f1 with
      | true =>
        rw [loop_ref p hh c2 c1] at he
        refine Ev.ifp rfl ?_
        rw [put_f hh (by omega)]
        have e : ({ g l h with f1 := false } : S32) = ⟨(g l h).f0, false, false⟩ := by rw [← c2]
        rw [e] at he
        have := rloop p r K (s + 1) (l.set h ⟨(g l h).f0, false, false⟩) ((h + 1) % l.length) (by rw [List.length_set]; exact hn) (by rw [List.length_set]; exact h16) (by rw [List.length_set]; omega) he
        exact this
      | false =>
        rw [loop_stop p hh c2 c1] at he
        refine Ev.ifn (by decide) ?_
        rw [put_f hh (by omega)]
        obtain rfl := Option.some.inj he
        exact Ev.now _
theorem rfull (p : Int) (l : List S32) (h16 : l.length ≤ 16) (hp : ∀ j, j < l.length → (g l j).f2 = true) (d : Nat) : ∀ (s h : Nat), h < l.length → s + d = 2 * l.length → Ev (fun k => rl k (s : Int) (h : Int) l p true false) (0, [], 0, 4) := by
  induction d with
  | zero =>
    intro s h hh hs
    exact Ev.step (fun k => bobbinref16_Admit.l0_eq k _ _ _ _ _ _) (Ev.ifn (by rw [w64 (by omega) (by omega)]; omega) (Ev.now _))
  | succ d ih =>
    intro s h hh hs
    refine rstep hh h16 (by omega) (Ev.step (fun k => bobbinref16_Admit.j2_eq k _ _ _ _ _ _ _ _ _ _) (Ev.ifp (hp h hh) ?_))
    rw [w64 (x := (s : Int) + 1) (by omega) (by omega)]
    exact ih (s + 1) _ (Nat.mod_lt _ (by omega)) (by omega)
/-- Admit, and the document's. -/
theorem admit_both (h : Int) (l : List S32) (hl : l.length ≤ 40) (most p : Int) : ∃ r : Int × List S32 × Int × Int, Ev (fun k => clock_Admit.f k h l most p) r ∧ Ev (fun k => bobbinref16_Admit.f k h l most p) r ∧ r.2.1.length ≤ 40 := by
  have jbad : ∀ k, bobbinref16_Admit.j0 (k + 1) most p true h l = some (0, [], 0, 1) := fun k => by rw [bobbinref16_Admit.j0_eq, if_pos rfl]
  have bad : Ev (fun k => bobbinref16_Admit.j0 k most p true h l) (0, [], 0, 1) := Ev.step jbad (Ev.now _)
  unfold bobbinref16_Admit.f
  by_cases v : Valid h l
  · have h16 := v.len
    by_cases c1 : p < 0
    · exact ⟨_, admit_bad (by omega) (.inr (.inl c1)), Ev.bind (rmay_yes v) (Ev.ifp rfl (Ev.ifp c1 bad)), by simp⟩
    by_cases c2 : p > 255
    · exact ⟨_, admit_bad (by omega) (.inr (.inr (.inl c2))), Ev.bind (rmay_yes v) (Ev.ifp rfl (Ev.ifn c1 (Ev.ifp c2 bad))), by simp⟩
    by_cases c3 : most < 1
    · exact ⟨_, admit_bad (by omega) (.inr (.inr (.inr (.inl c3)))), Ev.bind (rmay_yes v) (Ev.ifp rfl (Ev.ifn c1 (Ev.ifn c2 (Ev.ifp c3 bad)))), by simp⟩
    by_cases c4 : most > 16
    · exact ⟨_, admit_bad (by omega) (.inr (.inr (.inr (.inr (.inl c4))))), Ev.bind (rmay_yes v) (Ev.ifp rfl (Ev.ifn c1 (Ev.ifn c2 (Ev.ifn c3 (Ev.ifp c4 bad))))), by simp⟩
    by_cases c5 : (l.length : Int) > most
    · exact ⟨_, admit_bad (by omega) (.inr (.inr (.inr (.inr (.inr c5))))), Ev.bind (rmay_yes v) (Ev.ifp rfl (Ev.ifn c1 (Ev.ifn c2 (Ev.ifn c3 (Ev.ifn c4 (by rw [decide_eq_true c5]; exact bad)))))), by simp⟩
    have h1 : 0 ≤ p ∧ p ≤ 255 := by omega
    have h2 : 1 ≤ most ∧ most ≤ 16 ∧ (l.length : Int) ≤ most := by omega
    have go : ∀ r : Int × List S32 × Int × Int, Ev (fun k => bobbinref16_Admit.j0 k most p false h l) r → Ev (fun k => (bobbinref16_May.f k h l).bind fun t210 => (if t210 = true then (if p < 0 then (bobbinref16_Admit.j0 k most p true h l) else (if p > 255 then (bobbinref16_Admit.j0 k most p true h l) else (if most < 1 then (bobbinref16_Admit.j0 k most p true h l) else (if most > 16 then (bobbinref16_Admit.j0 k most p true h l) else (bobbinref16_Admit.j0 k most p (decide ((l.length : Int) > most)) h l))))) else (bobbinref16_Admit.j0 k most p true h l))) r := fun r hr =>
      Ev.bind (rmay_yes v) (Ev.ifp rfl (Ev.ifn c1 (Ev.ifn c2 (Ev.ifn c3 (Ev.ifn c4 (by rw [decide_eq_false c5]; exact hr))))))
    by_cases hx : 0 ≤ idx l p
    · exact ⟨(0, [], 0, 5), admit_ok v h1 h2 (Ev.ifp hx (Ev.now _)), go _ (Ev.step (fun k => bobbinref16_Admit.j0_eq k _ _ _ _ _) (Ev.ifn (by decide) (Ev.bind (rfind l p (by omega)) (Ev.ifp hx (Ev.now _))))), by simp⟩
    have hx' : ¬ 0 ≤ clock_at.idx l p := hx
    by_cases c : (l.length : Int) < most
    · refine ⟨(h, l ++ [⟨p, true, false⟩], -1, 0), admit_ok v h1 h2 (Ev.ifn hx' (Ev.ifn (by omega) (Ev.ifp c (Ev.now _)))), go _ (Ev.step (fun k => bobbinref16_Admit.j0_eq k _ _ _ _ _) (Ev.ifn (by decide) (Ev.bind (rfind l p (by omega)) (Ev.ifn hx (Ev.ifp c (Ev.ifp (by simp; omega) ?_)))))), by simp; omega⟩
      exact Ev.bnd rfl (Ev.ifp (by simp; omega) (Ev.now _))
    obtain ⟨hh, rfl⟩ := Int.eq_ofNat_of_zero_le v.lo
    have hhl : hh < l.length := by
      by_cases c : 0 < hh
      · have := v.hi (by omega); omega
      · omega
    have go2 : ∀ r : Int × List S32 × Int × Int, Ev (fun k => rl k ((0 : Nat) : Int) (hh : Int) l p true false) r → Ev (fun k => bobbinref16_Admit.j0 k most p false (hh : Int) l) r := fun r hr =>
      Ev.step (fun k => bobbinref16_Admit.j0_eq k _ _ _ _ _) (Ev.ifn (by decide) (Ev.bind (rfind l p (by omega)) (Ev.ifn hx (Ev.ifn c hr))))
    by_cases hf : (l.length : Int) = most ∧ l.any (fun x => !x.f2) = false
    · refine ⟨(0, [], 0, 4), admit_ok v h1 h2 (Ev.ifn hx' (Ev.ifp hf (Ev.now _))), go _ (go2 _ (rfull p l h16 (fun j hj => ?_) (2 * l.length) 0 hh hhl (by omega))), by simp⟩
      cases e : (g l j).f2 with
      | true => rfl
      | false =>
        have := any_free.2 ⟨j, hj, e⟩
        rw [hf.2] at this
        cases this
    · have : ∃ j, j < l.length ∧ (g l j).f2 = false := by
        rw [← any_free]
        cases e : l.any (fun x => !x.f2)
        · exact absurd ⟨by omega, e⟩ hf
        · rfl
      obtain ⟨j, hj, j2⟩ := this
      obtain ⟨d, hd, rfl⟩ := dist hh j l.length hhl hj
      obtain ⟨i, m, hil, hs, f2, hk⟩ := ends p d l hh hhl hd j2
      refine ⟨_, admit_ok v h1 h2 (Ev.ifn hx' (Ev.ifn hf (Ev.ifn c (Ev.ex _ hk)))), go _ (go2 _ (rloop p _ (d + 1 + l.length) 0 l hh hhl h16 (by omega) (hk _ (Nat.le_refl _)))), ?_⟩
      rw [List.length_set, ← hs.1]
      exact hl
  · exact ⟨_, admit_bad (by omega) (.inl v), Ev.bind (rmay_no v (by omega)) (Ev.ifn (by decide) bad), by simp⟩
theorem rsame_loop (h : Int) (l : List S32) (hl : l.length ≤ 1000) (d : Nat) : ∀ i : Nat, i ≤ l.length → l.length - i = d → Ev (fun k => bobbinref16_Same.l0 k (i : Int) h l h l) true := by
  induction d with
  | zero =>
    intro i hi hd
    exact Ev.step (fun k => bobbinref16_Same.l0_eq k _ _ _ _ _) (Ev.ifn (by omega) (Ev.now _))
  | succ d ih =>
    intro i hi hd
    refine Ev.step (fun k => bobbinref16_Same.l0_eq k _ _ _ _ _) (Ev.ifp (by omega) (Ev.ifp (by omega) (Ev.ifp (by omega) (Ev.ifn (by simp) ?_))))
    rw [w64 (by omega) (by omega)]
    exact ih (i + 1) (by omega) (by omega)
theorem rsame (h : Int) (l : List S32) (hl : l.length ≤ 1000) : Ev (fun k => bobbinref16_Same.f k h l h l) true := by
  unfold bobbinref16_Same.f
  refine Ev.ifp rfl ?_
  rw [show ((l.length : Int) != (l.length : Int)) = false by simp]
  exact Ev.step (fun k => bobbinref16_Same.j0_eq k _ _ _ _ _) (Ev.ifn (by decide) (rsame_loop h l hl l.length 0 (Nat.zero_le _) (by omega)))
theorem may_both (h : Int) (l : List S32) (hl : l.length ≤ 140737488355328) : ∃ m ka kb, clock_May.f ka h l = some m ∧ bobbinref16_May.f kb h l = some m := by
  classical
  obtain ⟨ka, ha⟩ := Ev.rounds (may_ev h l hl)
  obtain ⟨kb, hb⟩ := Ev.rounds (rmay_ev h l hl)
  exact ⟨_, ka, kb, ha, hb⟩
theorem has_both (h : Int) (l : List S32) (hl : l.length ≤ 140737488355328) (p e : Int) (he : e = 0 ↔ Valid h l ∧ 0 ≤ idx l p) : Ev (fun k => clock_Has.f k h l p) (e == 0) := by
  by_cases v : Valid h l
  · rcases idx_cases l p with ⟨c, hn⟩ | ⟨i, c, hi, ei, _⟩
    · have h1 : (e == 0) = false := by
        have : e ≠ 0 := fun q => by have := (he.1 q).2; omega
        simpa using this
      rw [h1]
      exact has_no v hn
    · have h1 : (e == 0) = true := by
        have : e = 0 := he.2 ⟨v, by omega⟩
        simpa using this
      rw [h1, ← ei]
      exact has_yes v hi
  · have h1 : (e == 0) = false := by
      have : e ≠ 0 := fun q => v (he.1 q).1
      simpa using this
    rw [h1]
    unfold clock_Has.f
    exact Ev.bind (may_no v hl) (Ev.ifn (by decide) (Ev.now _))
end Go.Proofs.Ytoklljioloekmaa.Pure
