/- What is kept, as a sum. -/
import Derived.Test.YtdbbibndjknafaaTx4
namespace Go.Proofs.Ytdbbibndjknafaa.Print
open Go.RowKit Go.Proofs.YtdbbibndjknafaaW.PrintWords Go.Proofs.YtdbbibndjknafaaW.PrintLast Go.Proofs.YtdbbibndjknafaaW.PrintMore
set_option linter.unusedVariables false
set_option linter.unusedSimpArgs false
def sizeT (v : S28) : Int := if v.f0 = true then 4 + (v.f1.length : Int) else 0
def moreT (p : Int) (c : S30) : Int := if c.f1 = p then (if sizeT c.f3 - sizeT c.f4 < 0 then 0 else sizeT c.f3 - sizeT c.f4) else 0
def keptC (p : Int) (l : List S30) : Int := (l.map (moreT p)).sum
def keptT (p : Int) (l : List S25) : Int := (l.map fun t => keptC p t.f4).sum
theorem sizeT_bd {v : S28} (h : v.f1.length ≤ 100) : 0 ≤ sizeT v ∧ sizeT v ≤ 104 := by unfold sizeT; split <;> omega
theorem moreT_bd {p : Int} {c : S30} (h : c.f3.f1.length ≤ 100 ∧ c.f4.f1.length ≤ 100) : 0 ≤ moreT p c ∧ moreT p c ≤ 104 := by
  have h1 := sizeT_bd h.1
  have h2 := sizeT_bd h.2
  unfold moreT
  split
  · split <;> omega
  · omega
theorem keptC_bd {p : Int} : ∀ (l : List S30), (∀ c ∈ l, c.f3.f1.length ≤ 100 ∧ c.f4.f1.length ≤ 100) → 0 ≤ keptC p l ∧ keptC p l ≤ 104 * l.length
  | [], _ => by simp [keptC]
  | c :: l, h => by
    have h1 := moreT_bd (p := p) (h c (List.mem_cons_self ..))
    have h2 := keptC_bd (p := p) l (fun x hx => h x (List.mem_cons_of_mem _ hx))
    unfold keptC at h2 ⊢
    rw [List.map_cons, List.sum_cons, List.length_cons]
    omega
theorem keptT_bd {p : Int} : ∀ (l : List S25), (∀ t ∈ l, LightP t) → 0 ≤ keptT p l ∧ keptT p l ≤ 2080 * l.length
  | [], _ => by simp [keptT]
  | t :: l, h => by
    have ht := h t (List.mem_cons_self ..)
    have h1 := keptC_bd (p := p) t.f4 ht.2.2
    have h2 := keptT_bd (p := p) l (fun x hx => h x (List.mem_cons_of_mem _ hx))
    have h3 := ht.1
    unfold keptT at h2 ⊢
    rw [List.map_cons, List.sum_cons, List.length_cons]
    omega
theorem size_f (v : S28) (h : v.f1.length ≤ 100) : txn_Size.f v.f0 v.f1 = some (sizeT v) := by
  unfold txn_Size.f sizeT
  cases v.f0
  · rfl
  · rw [if_pos rfl, if_pos rfl, wr64 (by omega) (by omega)]
theorem kept_l1 (p : Int) (L : List S25) (hL : ∀ t ∈ L, LightP t) (hn : L.length ≤ 40) (f : Nat) : ∀ (k i j : Nat) (n : Int), i < L.length → j ≤ (rd_T25 L i).f4.length → 0 ≤ n → n ≤ 100000 - 104 * ((rd_T25 L i).f4.length - j : Nat) → (rd_T25 L i).f4.length - j < k →
    txn_Kept.l1 (k + f) p n L (L.length : Int) i (rd_T25 L i).f4 ((rd_T25 L i).f4.length : Int) j = txn_Kept.l0 (k + f - ((rd_T25 L i).f4.length - j + 1)) p (n + keptC p ((rd_T25 L i).f4.drop j)) L (L.length : Int) ((i + 1 : Nat) : Int)
  | 0, _, _, _, _, _, _, _, h => absurd h (Nat.not_lt_zero _)
  | k + 1, i, j, n, hi, hj, h0, h1, hk => by
    rw [show k + 1 + f = (k + f) + 1 by omega, txn_Kept.l1_eq]
    generalize hl : (rd_T25 L i).f4 = l at *
    have hli : LightP (rd_T25 L i) := hL _ (by unfold rd_T25; rw [show ((i : Int)).toNat = i by omega, List.getD_eq_getElem?_getD, List.getElem?_eq_getElem hi]; exact List.getElem_mem hi)
    have hl20 : l.length ≤ 20 := by have := hli.1; rwa [hl] at this
    by_cases h : j < l.length
    · rw [if_pos (by omega), if_pos (by omega), if_pos (by omega)]
      have hm := hli.2.2 (rd_T30 l (j : Int)) (by rw [hl]; exact rd_mem h)
      have hdr : l.drop j = rd_T30 l (j : Int) :: l.drop (j + 1) := by
        rw [List.drop_eq_getElem_cons h]
        unfold rd_T30
        rw [show ((j : Int)).toNat = j by omega, List.getD_eq_getElem?_getD, List.getElem?_eq_getElem h]
        rfl
      have hkc : keptC p (l.drop j) = moreT p (rd_T30 l (j : Int)) + keptC p (l.drop (j + 1)) := by rw [hdr]; unfold keptC; rw [List.map_cons, List.sum_cons]
      have hmb := moreT_bd (p := p) hm
      have s1 := sizeT_bd hm.1
      have s2 := sizeT_bd hm.2
      have ih := fun (m : Int) (a : 0 ≤ m) (b : m ≤ 100000 - 104 * (l.length - (j + 1) : Nat)) => kept_l1 p L hL hn f k i (j + 1) m hi (by rw [hl]; omega) a (by rw [hl]; exact b) (by rw [hl]; omega)
      rw [hl] at ih
      rw [size_f _ hm.1, size_f _ hm.2]
      simp only [Option.bind_some]
      rw [show wrap64 ((j : Int) + 1) = ((j + 1 : Nat) : Int) by rw [wr64] <;> omega, wr64 (n := sizeT (rd_T30 l (j : Int)).f3 - sizeT (rd_T30 l (j : Int)).f4) (by omega) (by omega)]
      by_cases hp : (rd_T30 l (j : Int)).f1 = p
      · have hmo : moreT p (rd_T30 l (j : Int)) = mx 0 (sizeT (rd_T30 l (j : Int)).f3 - sizeT (rd_T30 l (j : Int)).f4) := by
          unfold moreT mx
          rw [if_pos hp]
          split <;> split <;> omega
        rw [if_pos hp, ← hmo, wr64 (by omega) (by omega), ih _ (by omega) (by omega), hkc]
        congr 1
        · omega
        · omega
      · have hmo : moreT p (rd_T30 l (j : Int)) = 0 := by unfold moreT; rw [if_neg hp]
        rw [if_neg hp, ih _ (by omega) (by omega), hkc, hmo]
        congr 1
        · omega
        · omega
    · rw [if_neg (by omega), List.drop_eq_nil_of_le (by omega), show wrap64 ((i : Int) + 1) = ((i + 1 : Nat) : Int) by rw [wr64] <;> omega]
      congr 1
      · omega
      · simp [keptC]
theorem kept_l0 (p : Int) (L : List S25) (hL : ∀ t ∈ L, LightP t) (hn : L.length ≤ 40) : ∀ (k i : Nat) (n : Int), i ≤ L.length → 0 ≤ n → n ≤ 2080 * i → (L.length - i) * 22 < k → txn_Kept.l0 k p n L (L.length : Int) i = some (n + keptT p (L.drop i))
  | 0, _, _, _, _, _, h => absurd h (Nat.not_lt_zero _)
  | k + 1, i, n, hi, h0, h1, hk => by
    rw [txn_Kept.l0_eq]
    by_cases h : i < L.length
    · have hg : rd_T25 L (i : Int) = L[i] := by unfold rd_T25; rw [show ((i : Int)).toNat = i by omega, List.getD_eq_getElem?_getD, List.getElem?_eq_getElem h]; rfl
      have hli : LightP (rd_T25 L (i : Int)) := hL _ (by rw [hg]; exact List.getElem_mem h)
      have hl20 := hli.1
      have hb := keptC_bd (p := p) _ hli.2.2
      rw [if_pos (by omega), if_pos (by omega), if_pos (by omega)]
      have := kept_l1 p L hL hn (k - ((rd_T25 L (i : Int)).f4.length + 1)) ((rd_T25 L (i : Int)).f4.length + 1) i 0 n h (Nat.zero_le _) h0 (by simp; omega) (by omega)
      rw [show (rd_T25 L (i : Int)).f4.length + 1 + (k - ((rd_T25 L (i : Int)).f4.length + 1)) = k by omega] at this
      rw [show ((0 : Nat) : Int) = 0 from rfl] at this
      rw [this, List.drop_zero, kept_l0 p L hL hn _ (i + 1) _ h (by omega) (by omega) (by omega)]
      congr 1
      rw [List.drop_eq_getElem_cons h]
      unfold keptT
      rw [List.map_cons, List.sum_cons, hg]
      omega
    · rw [if_neg (by omega), List.drop_eq_nil_of_le (by omega)]
      simp [keptT]
theorem kept_f (p : Int) (L : List S25) (hL : ∀ t ∈ L, LightP t) (hn : L.length ≤ 40) : txn_Kept.f 1000 L p = some (keptT p L) := by
  unfold txn_Kept.f
  have := kept_l0 p L hL hn 1000 0 0 (Nat.zero_le _) (Int.le_refl _) (by omega) (by omega)
  rw [List.drop_zero, Int.zero_add] at this
  exact this
end Go.Proofs.Ytdbbibndjknafaa.Print
