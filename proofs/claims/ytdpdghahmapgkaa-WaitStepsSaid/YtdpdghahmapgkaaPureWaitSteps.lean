/- The pure statement of WaitSteps: who reaches one reaches all that that one reaches; one is reached just if somebody that is waited for is it, or reaches it. No condition. -/
import Derived.Test.YtdpdghahmapgkaaWait
import Derived.Test.YtdpdghahmapgkaaPrint4
namespace Go.Proofs.Ytdpdghahmapgkaa.Pure
open Go.RowKit Go.Proofs.Ytdpdghahmapgkaa.Print Go.Proofs.YtdpdghahmapgkaaW.PrintWords Go.Proofs.YtdpdghahmapgkaaW.PrintLast Go.Proofs.Ytdpdghahmapgkaa.Hand
set_option linter.unusedVariables false
set_option linter.unusedSimpArgs false
def Done (l : List S29) (a b : Int) (i j : Nat) : Prop := ∃ i' j', i' < l.length ∧ j' < (g l i').f1.length ∧ (i' < i ∨ i' = i ∧ j' < j) ∧ (g l i').f0 = a ∧ ((g l i').f1.getD j' 0 = b ∨ Rch (wl l) ((g l i').f1.getD j' 0) b)
theorem Done.all {l : List S29} {a b : Int} : Done l a b l.length 0 ↔ Rch (wl l) a b := by
  rw [Rch.head]
  constructor
  · rintro ⟨i, j, hi, hj, _, h1, h2⟩
    exact ⟨_, adj_iff.2 ⟨i, hi, h1, j, hj, rfl⟩, h2⟩
  · rintro ⟨z, hz, h⟩
    obtain ⟨i, hi, h1, j, hj, rfl⟩ := adj_iff.1 hz
    exact ⟨i, j, hi, hj, .inl hi, h1, h⟩
theorem steps_end {l : List S29} (hf : fits (wl l) = true) (a b c : Int) (step : Bool) (hs : step = true ↔ Rch (wl l) a b) (i : Int) (hi : ¬ i < (l.length : Int)) : Ev (fun k => bobbinlaw13_WaitSteps.l0 k l a b c step i) true := by
  have e : rch (wl l) a b = step := by rw [Bool.eq_iff_iff, rch_iff, hs]
  refine Ev.step (fun k => bobbinlaw13_WaitSteps.l0_eq k _ _ _ _ _ _) (Ev.ifn hi (Ev.bnd (reach_f hf a b) ?_))
  rw [e]
  cases step with
  | false => exact Ev.ifn (by decide) (Ev.bnd (reach_f hf a b) (Ev.const (by rw [e]; rfl)))
  | true =>
    refine Ev.ifp rfl (Ev.bnd (reach_f hf b c) ?_)
    by_cases q : rch (wl l) b c = true
    · have r : rch (wl l) a c = true := rch_iff.2 (Rch.trans (hs.1 rfl) (rch_iff.1 q))
      exact Ev.ifp q (Ev.bnd (reach_f hf a c) (Ev.ifp r (Ev.bnd (reach_f hf a b) (Ev.const (by rw [e]; rfl)))))
    · exact Ev.ifn q (Ev.bnd (reach_f hf a b) (Ev.const (by rw [e]; rfl)))
theorem steps_in {l : List S29} (hS : Small l) (hf : fits (wl l) = true) (a b c : Int) (i : Nat) (hi : i < l.length) (next : ∀ step : Bool, (step = true ↔ Done l a b (i + 1) 0) → Ev (fun k => bobbinlaw13_WaitSteps.l0 k l a b c step ((i + 1 : Nat) : Int)) true)
    (d : Nat) : ∀ (j : Nat) (step : Bool), (step = true ↔ Done l a b i j) → j ≤ (g l i).f1.length → (g l i).f1.length - j = d → Ev (fun k => bobbinlaw13_WaitSteps.l1 k l a b c step (i : Int) (j : Int)) true := by
  have hl := hS.len
  have he := hS.each i hi
  induction d with
  | zero =>
    intro j step hs hj hd
    refine Ev.step (fun k => bobbinlaw13_WaitSteps.l1_eq k _ _ _ _ _ _ _) (Ev.ifp (by omega) (Ev.ifp (by omega) (Ev.ifn (by rw [rdT]; omega) ?_)))
    rw [w64 (by omega) (by omega)]
    refine next step (hs.trans ⟨?_, ?_⟩)
    · rintro ⟨i', j', a1, a2, a3, a4⟩
      exact ⟨i', j', a1, a2, by omega, a4⟩
    · rintro ⟨i', j', a1, a2, a3, a4⟩
      refine ⟨i', j', a1, a2, ?_, a4⟩
      rcases Nat.lt_or_ge i' i with q | q
      · exact .inl q
      · obtain rfl : i' = i := by omega
        exact .inr ⟨rfl, by omega⟩
  | succ d ih =>
    intro j step hs hj hd
    have hjl : j < (g l i).f1.length := by omega
    refine Ev.step (fun k => bobbinlaw13_WaitSteps.l1_eq k _ _ _ _ _ _ _) (Ev.ifp (by omega) (Ev.ifp (by omega) (Ev.ifp (by rw [rdT]; omega) ?_)))
    rw [w64 (x := (j : Int) + 1) (by omega) (by omega), w64 (x := (i : Int) + 1) (by omega) (by omega), rdT, rdI]
    by_cases ca : (g l i).f0 = a
    · refine Ev.ifp ca ?_
      have mem : ∀ s : Bool, (s = true ↔ (step = true ∨ ((g l i).f1.getD j 0 = b ∨ Rch (wl l) ((g l i).f1.getD j 0) b))) → (s = true ↔ Done l a b i (j + 1)) := fun s h => by
        rw [h, hs]
        constructor
        · rintro (⟨i', j', a1, a2, a3, a4⟩ | q)
          · exact ⟨i', j', a1, a2, by omega, a4⟩
          · exact ⟨i, j, hi, hjl, .inr ⟨rfl, by omega⟩, ca, q⟩
        · rintro ⟨i', j', a1, a2, a3, a4, a5⟩
          by_cases q : i' = i ∧ j' = j
          · obtain ⟨rfl, rfl⟩ := q
            exact .inr a5
          · exact .inl ⟨i', j', a1, a2, by omega, a4, a5⟩
      cases step with
      | true => exact Ev.ifp rfl (ih (j + 1) true (mem true (by simp)) (by omega) (by omega))
      | false =>
        refine Ev.ifn (by decide) (Ev.ifp (by omega) ?_)
        by_cases cb : (g l i).f1.getD j 0 = b
        · exact Ev.ifp cb (ih (j + 1) true (mem true ⟨fun _ => .inr (.inl cb), fun _ => rfl⟩) (by omega) (by omega))
        · exact Ev.ifn cb (Ev.bnd (reach_f hf _ _) (ih (j + 1) _ (mem _ (by rw [rch_iff]; simp only [cb, false_or]; simp)) (by omega) (by omega)))
    · refine Ev.ifn ca (next step (hs.trans ⟨?_, ?_⟩))
      · rintro ⟨i', j', a1, a2, a3, a4⟩
        exact ⟨i', j', a1, a2, by omega, a4⟩
      · rintro ⟨i', j', a1, a2, a3, a4, a5⟩
        refine ⟨i', j', a1, a2, ?_, a4, a5⟩
        rcases Nat.lt_or_ge i' i with q | q
        · exact .inl q
        · obtain rfl : i' = i := by omega
          exact absurd a4 ca
theorem steps_loop {l : List S29} (hS : Small l) (hf : fits (wl l) = true) (a b c : Int) (d : Nat) : ∀ (i : Nat) (step : Bool), (step = true ↔ Done l a b i 0) → i ≤ l.length → l.length - i = d → Ev (fun k => bobbinlaw13_WaitSteps.l0 k l a b c step (i : Int)) true := by
  induction d with
  | zero =>
    intro i step hs hi hd
    obtain rfl : i = l.length := by omega
    exact steps_end hf a b c step (hs.trans Done.all) _ (by omega)
  | succ d ih =>
    intro i step hs hi hd
    refine Ev.step (fun k => bobbinlaw13_WaitSteps.l0_eq k _ _ _ _ _ _) (Ev.ifp (by omega) ?_)
    exact steps_in hS hf a b c i (by omega) (fun s h => ih (i + 1) s h (by omega) (by omega)) _ 0 step hs (by omega) rfl
theorem WaitSteps (x0 : List S29) (x1 x2 x3 : Int) (w0 : x0.length * 32 ≤ reachBytes ∧ x0.length ≤ maxLen ∧ ∀ a ∈ x0, ((Lit.int .i64 a.f0).wf = true) ∧ (a.f1.length * 8 ≤ reachBytes ∧ a.f1.length ≤ maxLen ∧ ∀ b ∈ a.f1, (Lit.int .i64 b).wf = true))
    (w1 : (Lit.int .i64 x1).wf = true) (w2 : (Lit.int .i64 x2).wf = true) (w3 : (Lit.int .i64 x3).wf = true) : ∃ k, bobbinlaw13_WaitSteps.f k x0 x1 x2 x3 = some true := by
  have hw : Wf x0 := fun a ha => ⟨(w0.2.2 a ha).1, (w0.2.2 a ha).2.2.2⟩
  refine Ev.rounds ?_
  unfold bobbinlaw13_WaitSteps.f
  refine Ev.bnd (show bobbinlaw13_awake.f = some true from rfl) ?_
  rcases few_cases x0 with h | ⟨h, hS⟩
  · exact Ev.bind h (Ev.ifp rfl (Ev.step (fun k => bobbinlaw13_WaitSteps.j0_eq k _ _ _ _ _ _) (Ev.ifp rfl (Ev.now _))))
  · refine Ev.bind h (Ev.ifp rfl (Ev.step (fun k => bobbinlaw13_WaitSteps.j0_eq k _ _ _ _ _ _) (Ev.ifn (by decide) ?_)))
    refine steps_loop hS (hS.fits hw) x1 x2 x3 x0.length 0 false ⟨fun h => (by cases h), ?_⟩ (by omega) (by omega)
    rintro ⟨i', j', _, _, a3, _⟩
    omega
end Go.Proofs.Ytdpdghahmapgkaa.Pure
