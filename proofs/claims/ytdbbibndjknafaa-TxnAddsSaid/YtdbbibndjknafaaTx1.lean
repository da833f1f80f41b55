/- txn without its program: noting, saving, looking. -/
import Derived.Test.YtdbbibndjknafaaTx0
namespace Go.Proofs.Ytdbbibndjknafaa.Print
open Go.RowKit Go.Proofs.YtdbbibndjknafaaW.PrintWords Go.Proofs.YtdbbibndjknafaaW.PrintLast Go.Proofs.YtdbbibndjknafaaW.PrintMore
set_option linter.unusedVariables false
set_option linter.unusedSimpArgs false
def lastC (t : S25) : S30 := t.f4.getD (t.f4.length - 1) z30
noncomputable def noteOk (t : S25) (c : S30) : Bool := mayT t && (chgT c && !(decide (0 < t.f4.length) && decide (c.f0 ≤ (lastC t).f0)))
def noteD (t : S25) (c : S30) : S25 := ⟨t.f0, t.f1, if t.f2 = 0 then c.f0 else t.f2, c.f0, t.f4 ++ [c], t.f5⟩
noncomputable def noteR (t : S25) (c : S30) : S25 := if noteOk t c = true then (if t.f4.length = 6 then z25 else noteD t c) else z25
noncomputable def noteE (t : S25) (c : S30) : Int := if noteOk t c = true then (if t.f4.length = 6 then 4 else 0) else 1
theorem noteR_no {t : S25} {c : S30} (h : noteOk t c = false) : noteR t c = z25 ∧ noteE t c = 1 := by
  unfold noteR noteE
  rw [h]
  exact ⟨rfl, rfl⟩
theorem noteR_full {t : S25} {c : S30} (h : noteOk t c = true) (h6 : t.f4.length = 6) : noteR t c = z25 ∧ noteE t c = 4 := by
  unfold noteR noteE
  rw [h, if_pos rfl, if_pos rfl, if_pos h6, if_pos h6]
  exact ⟨rfl, rfl⟩
theorem noteR_ok {t : S25} {c : S30} (h : noteOk t c = true) (h6 : t.f4.length ≠ 6) : noteR t c = noteD t c ∧ noteE t c = 0 := by
  unfold noteR noteE
  rw [h, if_pos rfl, if_pos rfl, if_neg h6, if_neg h6]
  exact ⟨rfl, rfl⟩
theorem chgT_val {c : S30} (h : chgT c = true) : c.f3.f1.length ≤ 32 ∧ c.f4.f1.length ≤ 32 := by
  unfold chgT valT at h
  simp only [Bool.and_eq_true, decide_eq_true_eq] at h
  omega
theorem MayP.vals {t : S25} (h : MayP t) : ∀ c ∈ t.f4, c.f3.f1.length ≤ 32 ∧ c.f4.f1.length ≤ 32 := fun c hc => by
  obtain ⟨j, hj, rfl⟩ := List.mem_iff_getElem.1 hc
  have := (h.ch j hj).1
  rw [List.getD_eq_getElem?_getD, List.getElem?_eq_getElem hj] at this
  exact chgT_val this
theorem copied_f {t : S25} (h : MayP t) : txn_copied.f t.f0 t.f1 t.f2 t.f3 t.f4 t.f5 = some (t.f0, t.f1, t.f2, t.f3, t.f4, t.f5) := by
  unfold txn_copied.f
  rw [if_pos]
  simp only [Bool.and_eq_true, decide_eq_true_eq, List.all_eq_true]
  exact ⟨by have := h.nl; omega, by have := h.ns; omega, fun c hc => by have := h.vals c hc; omega⟩
theorem rd_last {t : S25} (h : 0 < t.f4.length) (h2 : t.f4.length ≤ 100) : rd_T30 t.f4 (wrap64 ((t.f4.length : Int) - 1)) = lastC t := by
  unfold rd_T30 lastC
  rw [wr64 (by omega) (by omega), show ((t.f4.length : Int) - 1).toNat = t.f4.length - 1 by omega]
theorem note_j0 {t : S25} {c : S30} (hm : MayP t) (hc : chgT c = true) (k : Nat) (h : noteOk t c = true) : txn_Note.j0 (k + 1) false t.f0 t.f1 t.f2 t.f3 t.f4 t.f5 c.f0 c.f1 c.f2 c.f3.f0 c.f3.f1 c.f4.f0 c.f4.f1 = some ((noteR t c).f0, (noteR t c).f1, (noteR t c).f2, (noteR t c).f3, (noteR t c).f4, (noteR t c).f5, noteE t c) := by
  rw [txn_Note.j0_eq, if_neg (by decide)]
  by_cases h6 : t.f4.length = 6
  · rw [if_pos (by omega), (noteR_full h h6).1, (noteR_full h h6).2]
    rfl
  · have hv := chgT_val hc
    rw [if_neg (by omega), copied_f hm, own_f c (by omega) (by omega), (noteR_ok h h6).1, (noteR_ok h h6).2]
    simp only [Option.bind_some]
    rw [if_pos (by have := hm.nl; omega)]
    unfold noteD
    by_cases h2 : t.f2 = 0
    · rw [if_pos h2, if_pos h2]
    · rw [if_neg h2, if_neg h2]
theorem note_f (t : S25) (c : S30) : txn_Note.f 20 t.f0 t.f1 t.f2 t.f3 t.f4 t.f5 c.f0 c.f1 c.f2 c.f3.f0 c.f3.f1 c.f4.f0 c.f4.f1 = some ((noteR t c).f0, (noteR t c).f1, (noteR t c).f2, (noteR t c).f3, (noteR t c).f4, (noteR t c).f5, noteE t c) := by
  unfold txn_Note.f
  rw [may_f]
  simp only [Option.bind_some]
  cases hm : mayT t
  · have h := noteR_no (t := t) (c := c) (by unfold noteOk; rw [hm]; rfl)
    rw [if_neg (by decide), txn_Note.j0_eq, if_pos (by decide), h.1, h.2]
    rfl
  · have hp := mayT_true.1 hm
    rw [if_pos rfl, change_f]
    simp only [Option.bind_some]
    cases hc : chgT c
    · have h := noteR_no (t := t) (c := c) (by unfold noteOk; rw [hm, hc]; rfl)
      rw [if_neg (by decide), txn_Note.j0_eq, if_pos (by decide), h.1, h.2]
      rfl
    · rw [if_pos rfl]
      have hl := hp.nl
      by_cases hlen : 0 < t.f4.length
      · rw [if_pos (by rw [wr64] <;> omega), if_pos (by rw [wr64] <;> omega), if_pos (by rw [wr64] <;> omega), rd_last hlen (by omega)]
        by_cases hlt : c.f0 ≤ (lastC t).f0
        · have h := noteR_no (t := t) (c := c) (by unfold noteOk; rw [hm, hc]; simp [hlen, hlt])
          rw [decide_eq_true hlt, txn_Note.j0_eq, if_pos rfl, h.1, h.2]
          rfl
        · rw [decide_eq_false hlt]
          exact note_j0 hp hc 19 (by unfold noteOk; rw [hm, hc]; simp [hlt])
      · rw [if_neg (by rw [wr64] <;> omega)]
        exact note_j0 hp hc 19 (by unfold noteOk; rw [hm, hc]; simp [hlen])
def saveD (t : S25) : S25 := ⟨t.f0, t.f1, t.f2, t.f3, t.f4, t.f5 ++ [(t.f4.length : Int)]⟩
noncomputable def saveR (t : S25) : S25 := if mayT t = true then (if t.f5.length = 4 then z25 else saveD t) else z25
noncomputable def saveN (t : S25) : Int := if mayT t = true then (if t.f5.length = 4 then 0 else t.f5.length) else 0
noncomputable def saveE (t : S25) : Int := if mayT t = true then (if t.f5.length = 4 then 4 else 0) else 1
theorem save_f (t : S25) : txn_Save.f 20 t.f0 t.f1 t.f2 t.f3 t.f4 t.f5 = some ((saveR t).f0, (saveR t).f1, (saveR t).f2, (saveR t).f3, (saveR t).f4, (saveR t).f5, saveN t, saveE t) := by
  unfold txn_Save.f saveR saveN saveE
  rw [may_f]
  simp only [Option.bind_some]
  cases hm : mayT t
  · rfl
  · have hp := mayT_true.1 hm
    have hs := hp.ns
    rw [if_pos rfl, if_pos rfl, if_pos rfl, if_pos rfl]
    by_cases h4 : t.f5.length = 4
    · rw [if_pos (by omega), if_pos h4, if_pos h4, if_pos h4]
      rfl
    · rw [if_neg (by omega), if_neg h4, if_neg h4, if_neg h4, copied_f hp]
      simp only [Option.bind_some]
      rw [if_pos (by omega)]
      simp only [Option.bind_some, List.length_append, List.length_singleton]
      rw [wr64 (by omega) (by omega), show (((t.f5.length + 1 : Nat) : Int) - 1) = (t.f5.length : Int) by omega]
      rfl
noncomputable def aboveN (t : S25) (n : Int) : Int := if mayT t = true then (if n < 0 then 0 else if n ≥ (t.f5.length : Int) then 0 else wrap64 ((t.f4.length : Int) - rd t.f5 n)) else 0
noncomputable def aboveE (t : S25) (n : Int) : Int := if mayT t = true then (if n < 0 then 3 else if n ≥ (t.f5.length : Int) then 3 else 0) else 1
theorem above_f (t : S25) (n : Int) : txn_Above.f 20 t.f0 t.f1 t.f2 t.f3 t.f4 t.f5 n = some (aboveN t n, aboveE t n) := by
  unfold txn_Above.f aboveN aboveE
  rw [may_f]
  simp only [Option.bind_some]
  cases hm : mayT t
  · rfl
  · rw [if_pos rfl, if_pos rfl, if_pos rfl]
    by_cases h1 : n < 0
    · rw [if_pos h1, if_pos h1, if_pos h1]
    · rw [if_neg h1, if_neg h1, if_neg h1]
      by_cases h2 : n ≥ (t.f5.length : Int)
      · rw [if_pos h2, if_pos h2, if_pos h2]
      · rw [if_neg h2, if_neg h2, if_neg h2, if_pos (by omega), if_pos (by omega)]
def LightP (t : S25) : Prop := t.f4.length ≤ 20 ∧ t.f5.length ≤ 20 ∧ ∀ c ∈ t.f4, c.f3.f1.length ≤ 100 ∧ c.f4.f1.length ≤ 100
theorem light_l0 (a0 a1 a2 a3 : Int) (l : List S30) (s : List Int) (hl : l.length ≤ 20) : ∀ (k i : Nat), i ≤ l.length → l.length - i < k → ∃ b, bobbinref14_Light.l0 k i a0 a1 a2 a3 l s = some b ∧ (b = true ↔ ∀ j, i ≤ j → j < l.length → (l.getD j z30).f3.f1.length ≤ 100 ∧ (l.getD j z30).f4.f1.length ≤ 100)
  | 0, _, _, h => absurd h (Nat.not_lt_zero _)
  | k + 1, i, hi, hk => by
    rw [bobbinref14_Light.l0_eq]
    by_cases h : i < l.length
    · have e1 : rd_T30 l (i : Int) = l.getD i z30 := by unfold rd_T30; rw [show ((i : Int)).toNat = i by omega]
      rw [if_pos (by omega), if_pos (by omega), e1, cases_from h, show wrap64 ((i : Int) + 1) = ((i + 1 : Nat) : Int) by rw [wr64] <;> omega]
      by_cases h1 : ((l.getD i z30).f3.f1.length : Int) > 100
      · rw [if_pos h1]
        exact ⟨false, rfl, ⟨fun x => (by cases x), fun x => absurd x.1.1 (by omega)⟩⟩
      · rw [if_neg h1]
        by_cases h2 : ((l.getD i z30).f4.f1.length : Int) > 100
        · rw [if_pos h2]
          exact ⟨false, rfl, ⟨fun x => (by cases x), fun x => absurd x.1.2 (by omega)⟩⟩
        · rw [if_neg h2]
          obtain ⟨b, e, hb⟩ := light_l0 a0 a1 a2 a3 l s hl k (i + 1) h (by omega)
          exact ⟨b, e, by rw [hb]; exact ⟨fun x => ⟨⟨by omega, by omega⟩, x⟩, fun x => x.2⟩⟩
    · rw [if_neg (by omega)]
      exact ⟨true, rfl, by simp; intro j h1 h2; omega⟩
theorem rlight_f (t : S25) : ∃ b, bobbinref14_Light.f 30 t.f0 t.f1 t.f2 t.f3 t.f4 t.f5 20 = some b ∧ (b = true ↔ LightP t) := by
  unfold bobbinref14_Light.f
  by_cases h1 : (t.f4.length : Int) > 20
  · rw [if_pos h1, bobbinref14_Light.j0_eq, if_pos rfl]
    exact ⟨false, rfl, by simp; intro h; have := h.1; omega⟩
  · rw [if_neg h1, bobbinref14_Light.j0_eq]
    by_cases h2 : (t.f5.length : Int) > 20
    · rw [decide_eq_true h2, if_pos rfl]
      exact ⟨false, rfl, by simp; intro h; have := h.2.1; omega⟩
    · rw [decide_eq_false h2, if_neg (by decide)]
      obtain ⟨b, e, hb⟩ := light_l0 t.f0 t.f1 t.f2 t.f3 t.f4 t.f5 (by omega) 29 0 (Nat.zero_le _) (by omega)
      refine ⟨b, e, hb.trans ⟨fun h => ⟨by omega, by omega, fun c hc => ?_⟩, fun h j _ hj => ?_⟩⟩
      · obtain ⟨j, hj, rfl⟩ := List.mem_iff_getElem.1 hc
        have := h j (Nat.zero_le _) hj
        rwa [List.getD_eq_getElem?_getD, List.getElem?_eq_getElem hj] at this
      · rw [List.getD_eq_getElem?_getD, List.getElem?_eq_getElem hj]
        exact h.2.2 _ (List.getElem_mem hj)
noncomputable def lightT (t : S25) : Bool := @decide (LightP t) (Classical.propDecidable _)
theorem lightT_true {t : S25} : lightT t = true ↔ LightP t := by unfold lightT; exact @decide_eq_true_iff _ (Classical.propDecidable _)
theorem rlight_t (t : S25) : bobbinref14_Light.f 30 t.f0 t.f1 t.f2 t.f3 t.f4 t.f5 20 = some (lightT t) := by
  obtain ⟨b, e, hb⟩ := rlight_f t
  rw [e]
  congr 1
  rw [Bool.eq_iff_iff, hb, lightT_true]
end Go.Proofs.Ytdbbibndjknafaa.Print
