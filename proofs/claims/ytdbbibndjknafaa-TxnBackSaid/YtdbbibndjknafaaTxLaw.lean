/- txn without its program: what noting, saving and undoing keep. -/
import Derived.Test.YtdbbibndjknafaaTxKept
import Derived.Test.YtdbbibndjknafaaTx3a
namespace Go.Proofs.Ytdbbibndjknafaa.Print
open Go.RowKit Go.Proofs.YtdbbibndjknafaaW.PrintWords Go.Proofs.YtdbbibndjknafaaW.PrintLast Go.Proofs.YtdbbibndjknafaaW.PrintMore
set_option linter.unusedVariables false
set_option linter.unusedSimpArgs false
theorem lastC_mem {t : S25} (h0 : t.f4.length ≠ 0) : lastC t ∈ t.f4 := by
  unfold lastC
  rw [List.getD_eq_getElem?_getD, List.getElem?_eq_getElem (by omega)]
  exact List.getElem_mem _
theorem undoD_len {t : S25} (h0 : t.f4.length ≠ 0) : (undoD t).f4.length + 1 = t.f4.length := by
  show (t.f4.take (t.f4.length - 1)).length + 1 = t.f4.length
  rw [List.length_take]
  omega
theorem sv_up {n : Nat} {s : List Int} (h : ∀ j, j < s.length → condS n s j) : (∀ x ∈ s, 0 ≤ x ∧ x ≤ n) ∧ ∀ i j, i ≤ j → j < s.length → s.getD i 0 ≤ s.getD j 0 := by
  refine ⟨fun x hx => ?_, fun i j hij => ?_⟩
  · obtain ⟨j, hj, rfl⟩ := List.mem_iff_getElem.1 hx
    have := h j hj
    unfold condS at this
    rw [List.getD_eq_getElem?_getD, List.getElem?_eq_getElem hj] at this
    exact ⟨this.1, this.2.1⟩
  · induction j with
    | zero => intro _; rw [show i = 0 by omega]; exact Int.le_refl _
    | succ j ih =>
      intro hj
      rcases Nat.lt_or_ge i (j + 1) with c | c
      · have h1 := ih (by omega) (by omega)
        have h2 := (h (j + 1) hj).2.2 (by omega)
        rw [Nat.add_sub_cancel] at h2
        omega
      · rw [show i = j + 1 by omega]; exact Int.le_refl _
theorem sv_pw {s : List Int} (h : ∀ i j, i ≤ j → j < s.length → s.getD i 0 ≤ s.getD j 0) : s.Pairwise (· ≤ ·) := by
  rw [List.pairwise_iff_getElem]
  intro i j hi hj hij
  have := h i j (by omega) hj
  rwa [List.getD_eq_getElem?_getD, List.getElem?_eq_getElem hi, List.getD_eq_getElem?_getD, List.getElem?_eq_getElem hj] at this
theorem sv_down {n : Nat} {s : List Int} (h : ∀ x ∈ s, 0 ≤ x ∧ x ≤ n) (hp : s.Pairwise (· ≤ ·)) : ∀ j, j < s.length → condS n s j := fun j hj => by
  have h1 := h _ (List.getElem_mem hj)
  unfold condS
  rw [List.getD_eq_getElem?_getD, List.getElem?_eq_getElem hj]
  refine ⟨h1.1, h1.2, fun h0 => ?_⟩
  rw [List.getD_eq_getElem?_getD, List.getElem?_eq_getElem (by omega)]
  exact List.pairwise_iff_getElem.1 hp (j - 1) j (by omega) hj (by omega)
theorem ch_take {l : List S30} {n : Nat} (h : ∀ j, j < l.length → condC l j) : ∀ j, j < (l.take n).length → condC (l.take n) j := fun j hj => by
  rw [List.length_take] at hj
  have h1 := h j (by omega)
  unfold condC at h1 ⊢
  rw [List.getD_eq_getElem?_getD, List.getElem?_take_of_lt (by omega), ← List.getD_eq_getElem?_getD]
  refine ⟨h1.1, fun h0 => ?_⟩
  rw [List.getD_eq_getElem?_getD, List.getElem?_take_of_lt (by omega), ← List.getD_eq_getElem?_getD]
  exact h1.2 h0
theorem MayP.undo {t : S25} (h : MayP t) (h0 : t.f4.length ≠ 0) : MayP (undoD t) := by
  have hl := undoD_len h0
  have hs := sv_up h.sv
  refine ⟨h.id, h.st, h.fi, h.la, by have := h.nl; omega, ?_, ch_take h.ch, ?_⟩
  · exact Nat.le_trans (List.length_filter_le _ _) h.ns
  · refine sv_down (fun x hx => ?_) ((sv_pw hs.2).filter _)
    have hx1 := List.mem_filter.1 hx
    have hx2 := hs.1 x hx1.1
    have := hx1.2
    simp at this
    omega
theorem MayP.vals100 {t : S25} (h : MayP t) : ∀ c ∈ t.f4, c.f3.f1.length ≤ 100 ∧ c.f4.f1.length ≤ 100 := h.light.2.2
theorem ch_app {l : List S30} {c : S30} (h : ∀ j, j < l.length → condC l j) (hc : chgT c = true) (hl : 0 < l.length → (l.getD (l.length - 1) z30).f0 < c.f0) : ∀ j, j < (l ++ [c]).length → condC (l ++ [c]) j := fun j hj => by
  rw [List.length_append, List.length_singleton] at hj
  unfold condC
  rcases Nat.lt_or_ge j l.length with k | k
  · have h1 := h j k
    unfold condC at h1
    rw [List.getD_eq_getElem?_getD, List.getElem?_append_left k, ← List.getD_eq_getElem?_getD]
    refine ⟨h1.1, fun h0 => ?_⟩
    rw [List.getD_eq_getElem?_getD, List.getElem?_append_left (by omega), ← List.getD_eq_getElem?_getD]
    exact h1.2 h0
  · obtain rfl : j = l.length := by omega
    rw [List.getD_eq_getElem?_getD, List.getElem?_append_right (Nat.le_refl _), Nat.sub_self]
    refine ⟨hc, fun h0 => ?_⟩
    rw [List.getD_eq_getElem?_getD, List.getElem?_append_left (by omega), ← List.getD_eq_getElem?_getD]
    exact hl h0
theorem MayP.note {t : S25} {c : S30} (h : MayP t) (hc : chgT c = true) (hl : 0 < t.f4.length → (lastC t).f0 < c.f0) (h6 : t.f4.length ≠ 6) : MayP (noteD t c) := by
  have hs := sv_up h.sv
  have hc1 : 1 ≤ c.f0 ∧ c.f0 ≤ 4294967295 := by
    unfold chgT at hc
    simp only [Bool.and_eq_true, decide_eq_true_eq] at hc
    omega
  refine ⟨h.id, h.st, ?_, ⟨by show 0 ≤ c.f0; omega, hc1.2⟩, ?_, h.ns, ch_app h.ch hc hl, ?_⟩
  · show 0 ≤ (if t.f2 = 0 then c.f0 else t.f2) ∧ (if t.f2 = 0 then c.f0 else t.f2) ≤ 4294967295
    have := h.fi
    split <;> omega
  · show (t.f4 ++ [c]).length ≤ 6
    have := h.nl
    simp
    omega
  · refine sv_down (fun x hx => ?_) (sv_pw hs.2)
    have := hs.1 x hx
    show 0 ≤ x ∧ x ≤ (((t.f4 ++ [c]).length : Nat) : Int)
    simp
    omega
/-- What Note answers: another transaction that may be, or an error. -/
theorem note_is {t : S25} (c : S30) (h : MayP t) : (noteE t c = 0 ∧ noteR t c = noteD t c ∧ MayP (noteD t c)) ∨ noteE t c ≠ 0 := by
  cases hk : noteOk t c
  · exact .inr (by rw [(noteR_no hk).2]; decide)
  · by_cases h6 : t.f4.length = 6
    · exact .inr (by rw [(noteR_full hk h6).2]; decide)
    · refine .inl ⟨(noteR_ok hk h6).2, (noteR_ok hk h6).1, ?_⟩
      unfold noteOk at hk
      simp only [Bool.and_eq_true, Bool.not_eq_true', Bool.and_eq_false_iff, decide_eq_false_iff_not] at hk
      exact h.note hk.2.1 (fun h0 => by rcases hk.2.2 with e | e; exact absurd h0 e; exact Int.not_le.1 e) h6
/-- A savepoint that is not above what is left stays. -/
theorem undoD_saves {u : S25} {m : Nat} (h0 : u.f4.length ≠ 0) (hm : ∀ x ∈ u.f5, x ≤ (m : Int)) (h : m < u.f4.length) : (undoD u).f5 = u.f5 := by
  show u.f5.filter _ = u.f5
  rw [List.filter_eq_self]
  intro x hx
  have := hm x hx
  simp
  omega
end Go.Proofs.Ytdbbibndjknafaa.Print
