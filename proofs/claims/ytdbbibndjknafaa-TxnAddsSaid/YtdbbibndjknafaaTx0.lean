/- txn without its program: what may be, and what the document's functions answer. -/
import Derived.Test.YtdbbibndjknafaaPrint2
import Derived.Test.YtdbbibndjknafaaPrint3
import Derived.Test.YtdbbibndjknafaaPrint4
import Derived.Test.YtdbbibndjknafaaPrint5
import Derived.Test.YtdbbibndjknafaaPrint6
import Derived.Test.YtdbbibndjknafaaPrint7
import Derived.Test.YtdbbibndjknafaaPrint8
import Derived.Test.YtdbbibndjknafaaPrint9
import Derived.Test.YtdbbibndjknafaaPrint10
import Derived.Test.YtdbbibndjknafaaPrint11
namespace Go.Proofs.Ytdbbibndjknafaa.Print
open Go.RowKit Go.Proofs.YtdbbibndjknafaaW.PrintWords Go.Proofs.YtdbbibndjknafaaW.PrintLast Go.Proofs.YtdbbibndjknafaaW.PrintMore
set_option linter.unusedVariables false
set_option linter.unusedSimpArgs false
theorem wr64 {n : Int} (h0 : -9223372036854775808 ≤ n) (h1 : n < 9223372036854775808) : wrap64 n = n := by unfold wrap64; omega
def valT (v : S28) : Bool := decide (v.f1.length ≤ 32) && (v.f0 || v.f1.length == 0)
def chgT (c : S30) : Bool := decide (1 ≤ c.f0) && (decide (c.f0 ≤ 4294967295) && (decide (0 ≤ c.f1) && (decide (c.f1 ≤ 255) && (decide (0 ≤ c.f2) && (decide (c.f2 ≤ 65535) && (valT c.f3 && valT c.f4))))))
theorem value_f (v : S28) : txn_value.f v.f0 v.f1 = some (valT v) := by
  unfold txn_value.f valT
  by_cases h : v.f1.length ≤ 32
  · rw [if_pos (by omega)]
    cases v.f0
    · simp [h]
      rw [Bool.eq_iff_iff]
      simp
    · simp [h]
  · rw [if_neg (by omega)]
    simp [h]
theorem change_f (c : S30) : txn_change.f c.f0 c.f1 c.f2 c.f3.f0 c.f3.f1 c.f4.f0 c.f4.f1 = some (chgT c) := by
  unfold txn_change.f chgT
  rw [value_f, value_f]
  by_cases h1 : 1 ≤ c.f0
  · rw [if_pos h1]
    by_cases h2 : c.f0 ≤ 4294967295
    · rw [if_pos h2]
      by_cases h3 : 0 ≤ c.f1
      · rw [if_pos h3]
        by_cases h4 : c.f1 ≤ 255
        · rw [if_pos h4]
          by_cases h5 : 0 ≤ c.f2
          · rw [if_pos h5]
            by_cases h6 : c.f2 ≤ 65535
            · rw [if_pos h6]
              cases valT c.f3 <;> simp [h1, h2, h3, h4, h5, h6]
            · rw [if_neg h6]; simp [h6]
          · rw [if_neg h5]; simp [h5]
        · rw [if_neg h4]; simp [h4]
      · rw [if_neg h3]; simp [h3]
    · rw [if_neg h2]; simp [h2]
  · rw [if_neg h1]; simp [h1]
def condC (l : List S30) (j : Nat) : Prop := chgT (l.getD j z30) = true ∧ (0 < j → (l.getD (j - 1) z30).f0 < (l.getD j z30).f0)
def condS (n : Nat) (s : List Int) (j : Nat) : Prop := 0 ≤ s.getD j 0 ∧ s.getD j 0 ≤ n ∧ (0 < j → s.getD (j - 1) 0 ≤ s.getD j 0)
structure MayP (t : S25) : Prop where
  id : 1 ≤ t.f0 ∧ t.f0 ≤ 255
  st : 1 ≤ t.f1 ∧ t.f1 ≤ 3
  fi : 0 ≤ t.f2 ∧ t.f2 ≤ 4294967295
  la : 0 ≤ t.f3 ∧ t.f3 ≤ 4294967295
  nl : t.f4.length ≤ 6
  ns : t.f5.length ≤ 4
  ch : ∀ j, j < t.f4.length → condC t.f4 j
  sv : ∀ j, j < t.f5.length → condS t.f4.length t.f5 j
noncomputable def mayT (t : S25) : Bool := @decide (MayP t) (Classical.propDecidable _)
theorem mayT_true {t : S25} : mayT t = true ↔ MayP t := by unfold mayT; exact @decide_eq_true_iff _ (Classical.propDecidable _)
theorem mayT_of {t : S25} {b : Bool} (h : b = true ↔ MayP t) : b = mayT t := by
  rw [Bool.eq_iff_iff, h, mayT_true]
theorem cases_from {n i : Nat} {p : Nat → Prop} (hi : i < n) : (∀ j, i ≤ j → j < n → p j) ↔ p i ∧ ∀ j, i + 1 ≤ j → j < n → p j :=
  ⟨fun h => ⟨h i (Nat.le_refl _) hi, fun j h1 h2 => h j (by omega) h2⟩, fun h j h1 h2 => by
    rcases Nat.lt_or_ge i j with c | c
    · exact h.2 j c h2
    · obtain rfl : j = i := by omega
      exact h.1⟩
theorem may_l1 (a0 a1 a2 a3 : Int) (l : List S30) (s : List Int) (hs : s.length ≤ 4) (hl : l.length ≤ 6) : ∀ (k i : Nat), i ≤ s.length → s.length - i < k → ∃ b, txn_May.l1 k s (s.length : Int) i a0 a1 a2 a3 l s = some b ∧ (b = true ↔ ∀ j, i ≤ j → j < s.length → condS l.length s j)
  | 0, _, _, h => absurd h (Nat.not_lt_zero _)
  | k + 1, i, hi, hk => by
    rw [txn_May.l1_eq]
    by_cases hlt : i < s.length
    · rw [if_pos (by omega), if_pos (by omega), if_pos (by omega)]
      have e1 : rd s (i : Int) = s.getD i 0 := by unfold rd; rw [show ((i : Int)).toNat = i by omega]
      rw [e1, cases_from hlt]
      by_cases h1 : s.getD i 0 < 0
      · rw [if_pos h1]
        exact ⟨false, rfl, by simp; intro h; have := h.1; omega⟩
      · rw [if_neg h1]
        by_cases h2 : s.getD i 0 > (l.length : Int)
        · rw [if_pos h2]
          exact ⟨false, rfl, by simp; intro h; have := h.2.1; omega⟩
        · rw [if_neg h2, show wrap64 ((i : Int) + 1) = ((i + 1 : Nat) : Int) by rw [wr64] <;> omega]
          obtain ⟨b, e, hb⟩ := may_l1 a0 a1 a2 a3 l s hs hl k (i + 1) hlt (by omega)
          by_cases h3 : 0 < i
          · have e2 : rd s (((i - 1 : Nat) : Int)) = s.getD (i - 1) 0 := by unfold rd; rw [show (((i - 1 : Nat) : Int)).toNat = i - 1 by omega]
            rw [if_pos (by omega), show wrap64 ((i : Int) - 1) = ((i - 1 : Nat) : Int) by rw [wr64] <;> omega, if_pos (by omega), if_pos (by omega), e2]
            by_cases h4 : s.getD i 0 < s.getD (i - 1) 0
            · rw [if_pos h4]
              exact ⟨false, rfl, by simp; intro h; have := h.2.2 h3; omega⟩
            · rw [if_neg h4]
              exact ⟨b, e, by rw [hb]; exact ⟨fun h => ⟨⟨by omega, by omega, fun _ => by omega⟩, h⟩, fun h => h.2⟩⟩
          · rw [if_neg (by omega)]
            exact ⟨b, e, by rw [hb]; exact ⟨fun h => ⟨⟨by omega, by omega, fun h0 => absurd h0 h3⟩, h⟩, fun h => h.2⟩⟩
    · rw [if_neg (by omega)]
      exact ⟨true, rfl, by simp; intro j h1 h2; omega⟩
theorem may_l0 (a0 a1 a2 a3 : Int) (l : List S30) (s : List Int) (hs : s.length ≤ 4) (hl : l.length ≤ 6) : ∀ (k i : Nat), i ≤ l.length → l.length - i + 6 < k → ∃ b, txn_May.l0 k l (l.length : Int) i a0 a1 a2 a3 l s = some b ∧ (b = true ↔ (∀ j, i ≤ j → j < l.length → condC l j) ∧ ∀ j, 0 ≤ j → j < s.length → condS l.length s j)
  | 0, _, _, h => absurd h (Nat.not_lt_zero _)
  | k + 1, i, hi, hk => by
    rw [txn_May.l0_eq]
    by_cases hlt : i < l.length
    · rw [if_pos (by omega), if_pos (by omega), if_pos (by omega)]
      have e1 : rd_T30 l (i : Int) = l.getD i z30 := by unfold rd_T30; rw [show ((i : Int)).toNat = i by omega]
      rw [e1, change_f, cases_from hlt]
      simp only [Option.bind_some]
      cases h1 : chgT (l.getD i z30)
      · rw [if_neg (by simp)]
        exact ⟨false, rfl, by simp; intro h; have := h.1; rw [h1] at this; cases this⟩
      · rw [if_pos rfl, show wrap64 ((i : Int) + 1) = ((i + 1 : Nat) : Int) by rw [wr64] <;> omega]
        obtain ⟨b, e, hb⟩ := may_l0 a0 a1 a2 a3 l s hs hl k (i + 1) hlt (by omega)
        by_cases h3 : 0 < i
        · have e2 : rd_T30 l (((i - 1 : Nat) : Int)) = l.getD (i - 1) z30 := by unfold rd_T30; rw [show (((i - 1 : Nat) : Int)).toNat = i - 1 by omega]
          rw [if_pos (by omega), show wrap64 ((i : Int) - 1) = ((i - 1 : Nat) : Int) by rw [wr64] <;> omega, if_pos (by omega), if_pos (by omega), e2]
          by_cases h4 : (l.getD i z30).f0 ≤ (l.getD (i - 1) z30).f0
          · rw [if_pos h4]
            exact ⟨false, rfl, by simp; intro h; have := h.2 h3; omega⟩
          · rw [if_neg h4]
            exact ⟨b, e, by rw [hb]; exact ⟨fun h => ⟨⟨⟨h1, fun _ => by omega⟩, h.1⟩, h.2⟩, fun h => ⟨h.1.2, h.2⟩⟩⟩
        · rw [if_neg (by omega)]
          exact ⟨b, e, by rw [hb]; exact ⟨fun h => ⟨⟨⟨h1, fun h0 => absurd h0 h3⟩, h.1⟩, h.2⟩, fun h => ⟨h.1.2, h.2⟩⟩⟩
    · rw [if_neg (by omega)]
      obtain ⟨b, e, hb⟩ := may_l1 a0 a1 a2 a3 l s hs hl k 0 (Nat.zero_le _) (by omega)
      exact ⟨b, e, by rw [hb]; exact ⟨fun h => ⟨fun j h1 h2 => by omega, h⟩, fun h => h.2⟩⟩
theorem may_f (t : S25) : txn_May.f 20 t.f0 t.f1 t.f2 t.f3 t.f4 t.f5 = some (mayT t) := by
  have key : ∃ b, txn_May.f 20 t.f0 t.f1 t.f2 t.f3 t.f4 t.f5 = some b ∧ (b = true ↔ MayP t) := by
    unfold txn_May.f txn_lsn.f
    simp only [txn_May.j0_eq, if_pos]
    by_cases h1 : t.f0 < 1
    · rw [if_pos h1]; exact ⟨false, rfl, by simp; intro h; have := h.id; omega⟩
    rw [if_neg h1]
    by_cases h2 : t.f0 > 255
    · rw [if_pos h2]; exact ⟨false, rfl, by simp; intro h; have := h.id; omega⟩
    rw [if_neg h2]
    by_cases h3 : t.f1 < 1
    · rw [if_pos h3]; exact ⟨false, rfl, by simp; intro h; have := h.st; omega⟩
    rw [if_neg h3]
    by_cases h4 : t.f1 > 3
    · rw [if_pos h4]; exact ⟨false, rfl, by simp; intro h; have := h.st; omega⟩
    rw [if_neg h4]
    by_cases h5 : t.f2 ≥ 0
    · rw [if_pos h5]
      simp only [Option.bind_some]
      by_cases h6 : t.f2 ≤ 4294967295
      · rw [decide_eq_true h6, if_pos rfl]
        by_cases h7 : t.f3 ≥ 0
        · rw [if_pos h7]
          simp only [Option.bind_some]
          by_cases h8 : t.f3 ≤ 4294967295
          · rw [decide_eq_true h8]
            rw [if_neg (by decide)]
            by_cases h9 : (t.f4.length : Int) > 6
            · rw [if_pos h9, txn_May.j1_eq, if_pos rfl]; exact ⟨false, rfl, by simp; intro h; have := h.nl; omega⟩
            · rw [if_neg h9, txn_May.j1_eq]
              by_cases h10 : (t.f5.length : Int) > 4
              · rw [decide_eq_true h10, if_pos rfl]; exact ⟨false, rfl, by simp; intro h; have := h.ns; omega⟩
              · rw [decide_eq_false h10, if_neg (by decide)]
                obtain ⟨b, e, hb⟩ := may_l0 t.f0 t.f1 t.f2 t.f3 t.f4 t.f5 (by omega) (by omega) 18 0 (Nat.zero_le _) (by omega)
                exact ⟨b, e, by rw [hb]; exact ⟨fun h => ⟨by omega, by omega, by omega, by omega, by omega, by omega, fun j => h.1 j (Nat.zero_le _), fun j => h.2 j (Nat.zero_le _)⟩, fun h => ⟨fun j _ => h.ch j, fun j _ => h.sv j⟩⟩⟩
          · rw [decide_eq_false h8, if_pos (by decide)]; exact ⟨false, rfl, by simp; intro h; have := h.la; omega⟩
        · rw [if_neg h7]
          simp only [Option.bind_some]
          rw [if_pos (by decide)]; exact ⟨false, rfl, by simp; intro h; have := h.la; omega⟩
      · rw [decide_eq_false h6, if_neg (by decide)]; exact ⟨false, rfl, by simp; intro h; have := h.fi; omega⟩
    · rw [if_neg h5]
      simp only [Option.bind_some]
      rw [if_neg (by decide)]; exact ⟨false, rfl, by simp; intro h; have := h.fi; omega⟩
  obtain ⟨b, e, hb⟩ := key
  rw [e, mayT_of hb]
end Go.Proofs.Ytdbbibndjknafaa.Print
