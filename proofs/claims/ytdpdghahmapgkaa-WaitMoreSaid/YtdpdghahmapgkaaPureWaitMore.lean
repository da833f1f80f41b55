/- The pure statement of WaitMore: who waits for one more reaches no fewer; a circle that is closed by that goes over it. No condition. -/
import Derived.Test.YtdpdghahmapgkaaWait
import Derived.Test.YtdpdghahmapgkaaPrint6
namespace Go.Proofs.Ytdpdghahmapgkaa.Pure
open Go.RowKit Go.Proofs.Ytdpdghahmapgkaa.Print Go.Proofs.YtdpdghahmapgkaaW.PrintWords Go.Proofs.YtdpdghahmapgkaaW.PrintLast Go.Proofs.Ytdpdghahmapgkaa.Hand
set_option linter.unusedVariables false
set_option linter.unusedSimpArgs false
abbrev more := bobbinlaw13_WaitMore.more
theorem adj_more {l : List S29} {a b x y : Int} : Adj (wl (more l a b)) x y ↔ Adj (wl l) x y ∨ (x = a ∧ y = b) := by
  constructor
  · rintro ⟨e, he, h1, h2⟩
    obtain ⟨z, hz, rfl⟩ := List.mem_map.1 he
    rcases List.mem_append.1 hz with h | h
    · exact .inl ⟨(z.f0, z.f1), List.mem_map.2 ⟨z, h, rfl⟩, h1, h2⟩
    · obtain rfl : z = ⟨a, [b]⟩ := by simpa using h
      exact .inr ⟨h1.symm, by simpa using h2⟩
  · rintro (⟨e, he, h1, h2⟩ | ⟨rfl, rfl⟩)
    · obtain ⟨z, hz, rfl⟩ := List.mem_map.1 he
      exact ⟨(z.f0, z.f1), List.mem_map.2 ⟨z, List.mem_append_left _ hz, rfl⟩, h1, h2⟩
    · exact ⟨(x, [y]), List.mem_map.2 ⟨⟨x, [y]⟩, List.mem_append_right _ (by simp), rfl⟩, rfl, by simp⟩
theorem rch_up {l : List S29} {a b x y : Int} (h : Rch (wl l) x y) : Rch (wl (more l a b)) x y := by
  induction h with
  | one q => exact .one (adj_more.2 (.inl q))
  | more _ q ih => exact .more ih (adj_more.2 (.inl q))
theorem rch_down {l : List S29} {a b x y : Int} (h : Rch (wl (more l a b)) x y) : Rch (wl l) x y ∨ ((x = a ∨ Rch (wl l) x a) ∧ (b = y ∨ Rch (wl l) b y)) := by
  induction h with
  | one q =>
    rcases adj_more.1 q with q | ⟨rfl, rfl⟩
    · exact .inl (.one q)
    · exact .inr ⟨.inl rfl, .inl rfl⟩
  | more _ q ih =>
    rcases adj_more.1 q with q | ⟨rfl, rfl⟩
    · rcases ih with ih | ⟨h1, h2⟩
      · exact .inl (.more ih q)
      · refine .inr ⟨h1, .inr ?_⟩
        rcases h2 with rfl | h2
        · exact .one q
        · exact .more h2 q
    · rcases ih with ih | ⟨h1, h2⟩
      · exact .inr ⟨.inr ih, .inl rfl⟩
      · exact .inr ⟨h1, .inl rfl⟩
theorem core_true (l : List S29) (a b fr th : Int) : bobbinlaw13_WaitMore.core l a b fr th = true := by
  unfold bobbinlaw13_WaitMore.core
  split
  · rename_i h
    have := rch_iff.2 (rch_up (a := a) (b := b) (rch_iff.1 h.1))
    exact absurd (this.symm.trans h.2) (by decide)
  · split
    · rename_i h
      obtain ⟨h1, h2⟩ := h
      unfold bobbinlaw13_WaitMore.still at h1 h2
      have h1 : l.any (fun x => rch (wl l) x.f0 x.f0) = false := by simpa using h1
      have h2 : (more l a b).any (fun x => rch (wl (more l a b)) x.f0 x.f0) = true := by rw [Bool.not_eq_false'] at h2; exact h2
      obtain ⟨x, hx, hr⟩ := List.any_eq_true.1 h2
      have none_ : ∀ y, ¬ Rch (wl l) y y := fun y hy => by
        obtain ⟨z, ⟨e, he, e1, e2⟩, _⟩ := Rch.head.1 hy
        obtain ⟨q, hq, rfl⟩ := List.mem_map.1 he
        have hq1 := List.any_eq_false.1 h1 q hq
        apply hq1
        rw [show q.f0 = y from e1]
        exact rch_iff.2 hy
      have goal : a = b ∨ Rch (wl l) b a := by
        rcases rch_down (rch_iff.1 hr) with h | ⟨p, q⟩
        · exact absurd h (none_ _)
        · rcases p with p | p <;> rcases q with q | q
          · exact .inl (p.symm.trans q.symm)
          · rw [p] at q; exact .inr q
          · rw [← q] at p; exact .inr p
          · exact .inr (Rch.trans q p)
      rcases goal with rfl | h
      · simp
      · rw [Bool.or_eq_true]; exact .inr (rch_iff.2 h)
    · rfl
theorem WaitMore (x0 : List S29) (x1 x2 x3 x4 : Int) (w0 : x0.length * 32 ≤ reachBytes ∧ x0.length ≤ maxLen ∧ ∀ a ∈ x0, ((Lit.int .i64 a.f0).wf = true) ∧ (a.f1.length * 8 ≤ reachBytes ∧ a.f1.length ≤ maxLen ∧ ∀ b ∈ a.f1, (Lit.int .i64 b).wf = true))
    (w1 : (Lit.int .i64 x1).wf = true) (w2 : (Lit.int .i64 x2).wf = true) (w3 : (Lit.int .i64 x3).wf = true) (w4 : (Lit.int .i64 x4).wf = true) : ∃ k, bobbinlaw13_WaitMore.f k x0 x1 x2 x3 x4 = some true := by
  have hw : Wf x0 := fun a ha => ⟨(w0.2.2 a ha).1, (w0.2.2 a ha).2.2.2⟩
  refine Ev.rounds ?_
  unfold bobbinlaw13_WaitMore.f
  rcases few_cases x0 with h | ⟨h, hS⟩
  · exact Ev.bind h (Ev.const rfl)
  · have hl := hS.len
    refine Ev.bind h (Ev.ifp rfl (Ev.ifp ⟨by omega, hS.fits hw, ?_⟩ (Ev.const (by rw [core_true]))))
    refine fits_of 41 20 (by simp [bobbinlaw13_WaitMore.more]; omega) (fun a ha => ?_) (by decide) (by decide) (fun a ha => ?_)
    · rcases List.mem_append.1 ha with ha | ha
      · obtain ⟨i, hi, rfl⟩ := mem_g ha; exact hS.each i hi
      · obtain rfl : a = ⟨x1, [x2]⟩ := by simpa using ha
        simp
    · rcases List.mem_append.1 ha with ha | ha
      · exact hw a ha
      · obtain rfl : a = ⟨x1, [x2]⟩ := by simpa using ha
        refine ⟨w1, fun z hz => ?_⟩
        obtain rfl : z = x2 := by simpa using hz
        exact w2
end Go.Proofs.Ytdpdghahmapgkaa.Pure
