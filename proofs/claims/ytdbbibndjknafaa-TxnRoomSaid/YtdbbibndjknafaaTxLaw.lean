/- txn without its program: what noting, saving and undoing keep. -/
import Derived.Test.YtdbbibndjknafaaTxKept
import Derived.Test.YtdbbibndjknafaaTx3a
namespace Go.Proofs.Ytdbbibndjknafaa.Print
open Go.RowKit Go.Proofs.YtdbbibndjknafaaW.PrintWords Go.Proofs.YtdbbibndjknafaaW.PrintLast Go.Proofs.YtdbbibndjknafaaW.PrintMore
set_option linter.unusedVariables false
set_option linter.unusedSimpArgs false
theorem lastC_mem {t : S25} (h0 : t.f4.length ≠ 0) : lastC t ∈ t.f4 := by
  unfold lastC
  rw [List.getD_eq_getElem?_getD, List.getElem?_eq_getElem (by omega)]
  exact List.getElem_mem _
theorem f4_split {t : S25} (h0 : t.f4.length ≠ 0) : t.f4 = (undoD t).f4 ++ [lastC t] := by
  show t.f4 = t.f4.take (t.f4.length - 1) ++ [lastC t]
  have := List.take_succ_eq_append_getElem (l := t.f4) (i := t.f4.length - 1) (by omega)
  rw [show t.f4.length - 1 + 1 = t.f4.length by omega, List.take_length] at this
  rw [show lastC t = t.f4[t.f4.length - 1]'(by omega) by unfold lastC; rw [List.getD_eq_getElem?_getD, List.getElem?_eq_getElem (by omega)]; rfl]
  exact this
theorem undoD_len {t : S25} (h0 : t.f4.length ≠ 0) : (undoD t).f4.length + 1 = t.f4.length := by
  show (t.f4.take (t.f4.length - 1)).length + 1 = t.f4.length
  rw [List.length_take]
  omega
theorem sv_up {n : Nat} {s : List Int} (h : ∀ j, j < s.length → condS n s j) : (∀ x ∈ s, 0 ≤ x ∧ x ≤ n) ∧ ∀ i j, i ≤ j → j < s.length → s.getD i 0 ≤ s.getD j 0 := by
  refine ⟨fun x hx => ?_, fun i j hij => ?_⟩
  · obtain ⟨j, hj, rfl⟩ := List.mem_iff_getElem.1 hx
    have := h j hj
    unfold condS at this
    rw [List.getD_eq_getElem?_getD, List.getElem?_eq_getElem hj] at this
    exact ⟨this.1, this.2.1⟩
  · induction j with
    | zero => intro _; rw [show i = 0 by omega]; exact Int.le_refl _
    | succ j ih =>
      intro hj
      rcases Nat.lt_or_ge i (j + 1) with c | c
      · have h1 := ih (by omega) (by omega)
        have h2 := (h (j + 1) hj).2.2 (by omega)
        rw [Nat.add_sub_cancel] at h2
        omega
      · rw [show i = j + 1 by omega]; exact Int.le_refl _
theorem sv_pw {s : List Int} (h : ∀ i j, i ≤ j → j < s.length → s.getD i 0 ≤ s.getD j 0) : s.Pairwise (· ≤ ·) := by
  rw [List.pairwise_iff_getElem]
  intro i j hi hj hij
  have := h i j (by omega) hj
  rwa [List.getD_eq_getElem?_getD, List.getElem?_eq_getElem hi, List.getD_eq_getElem?_getD, List.getElem?_eq_getElem hj] at this
theorem sv_down {n : Nat} {s : List Int} (h : ∀ x ∈ s, 0 ≤ x ∧ x ≤ n) (hp : s.Pairwise (· ≤ ·)) : ∀ j, j < s.length → condS n s j := fun j hj => by
  have h1 := h _ (List.getElem_mem hj)
  unfold condS
  rw [List.getD_eq_getElem?_getD, List.getElem?_eq_getElem hj]
  refine ⟨h1.1, h1.2, fun h0 => ?_⟩
  rw [List.getD_eq_getElem?_getD, List.getElem?_eq_getElem (by omega)]
  exact List.pairwise_iff_getElem.1 hp (j - 1) j (by omega) hj (by omega)
theorem ch_take {l : List S30} {n : Nat} (h : ∀ j, j < l.length → condC l j) : ∀ j, j < (l.take n).length → condC (l.take n) j := fun j hj => by
  rw [List.length_take] at hj
  have h1 := h j (by omega)
  unfold condC at h1 ⊢
  rw [List.getD_eq_getElem?_getD, List.getElem?_take_of_lt (by omega), ← List.getD_eq_getElem?_getD]
  refine ⟨h1.1, fun h0 => ?_⟩
  rw [List.getD_eq_getElem?_getD, List.getElem?_take_of_lt (by omega), ← List.getD_eq_getElem?_getD]
  exact h1.2 h0
theorem MayP.undo {t : S25} (h : MayP t) (h0 : t.f4.length ≠ 0) : MayP (undoD t) := by
  have hl := undoD_len h0
  have hs := sv_up h.sv
  refine ⟨h.id, h.st, h.fi, h.la, by have := h.nl; omega, ?_, ch_take h.ch, ?_⟩
  · exact Nat.le_trans (List.length_filter_le _ _) h.ns
  · refine sv_down (fun x hx => ?_) ((sv_pw hs.2).filter _)
    have hx1 := List.mem_filter.1 hx
    have hx2 := hs.1 x hx1.1
    have := hx1.2
    simp at this
    omega
theorem keptC_app (p : Int) (l : List S30) (c : S30) : keptC p (l ++ [c]) = keptC p l + moreT p c := by
  unfold keptC
  rw [List.map_append, List.sum_append]
  simp
theorem keptT_one (p : Int) (t : S25) : keptT p [t] = keptC p t.f4 := by
  unfold keptT
  simp
theorem moreT_ge (p : Int) (c : S30) : (if c.f1 = p then sizeT c.f3 - sizeT c.f4 else 0) ≤ moreT p c := by
  unfold moreT
  split
  · split <;> omega
  · omega
theorem MayP.vals100 {t : S25} (h : MayP t) : ∀ c ∈ t.f4, c.f3.f1.length ≤ 100 ∧ c.f4.f1.length ≤ 100 := h.light.2.2
end Go.Proofs.Ytdbbibndjknafaa.Print
