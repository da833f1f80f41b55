/- What the plain functions of the document's layer 1 come to (numbers and lists alone). -/
import Derived.Test.YtfaflgdhffkaiaaPrint2
namespace Go.Proofs.Ytfaflgdhffkaiaa.Pure
open Go.RowKit Go.Proofs.Ytfaflgdhffkaiaa.Print Go.Proofs.YtfaflgdhffkaiaaW.PrintWords Go.Proofs.YtfaflgdhffkaiaaW.PrintLast
set_option linter.unusedVariables false
set_option linter.unusedSimpArgs false

theorem Ev.ex {α : Type} {g : Nat → Option α} {r : α} (K : Nat) (h : ∀ k, K ≤ k → g k = some r) : Ev g r := ⟨K, h⟩
theorem Ev.const {α : Type} {o : Option α} {r : α} (h : o = some r) : Ev (fun _ => o) r := ⟨0, fun _ _ => h⟩
theorem Ev.ifp {α : Type} {c : Prop} [Decidable c] {g f : Nat → Option α} {r : α} (hc : c) (h : Ev g r) : Ev (fun k => if c then g k else f k) r := by simpa [hc] using h
theorem Ev.ifn {α : Type} {c : Prop} [Decidable c] {g f : Nat → Option α} {r : α} (hc : ¬ c) (h : Ev f r) : Ev (fun k => if c then g k else f k) r := by simpa [hc] using h
theorem Ev.bnd {α β : Type} {o : Option α} {f : Nat → α → Option β} {a : α} {r : β} (h : o = some a) (k : Ev (fun n => f n a) r) : Ev (fun n => o.bind (f n)) r := by simpa [h] using k
theorem w64 {x : Int} (h0 : -9223372036854775808 ≤ x) (h1 : x < 9223372036854775808) : wrap64 x = x := by unfold wrap64; omega
theorem rd_drop (l : List Int) (i : Nat) (h : i < l.length) : l.drop i = rd l (i : Int) :: l.drop (i + 1) := by
  rw [List.drop_eq_getElem_cons h]
  simp [rd, List.getD_eq_getElem?_getD, List.getElem?_eq_getElem h]
theorem rd_nat (l : List Int) (i : Nat) : rd l (i : Int) = l.getD i 0 := by simp [rd]

/-- 'Same' tells whether two lists are one. -/
theorem same_loop (l m : List Int) (hl : l.length = m.length) (hm : l.length ≤ 140737488355328) (d : Nat) : ∀ (k i : Nat), i ≤ l.length → l.length - i = d → d < k →
    bobbinref01_Same.l0 k l m (i : Int) = some (decide (l.drop i = m.drop i)) := by
  induction d with
  | zero =>
    intro k i h0 h1 hk
    obtain ⟨k, rfl⟩ : ∃ q, k = q + 1 := ⟨k - 1, by omega⟩
    rw [bobbinref01_Same.l0_eq, if_neg (by omega), List.drop_eq_nil_of_le (by omega), List.drop_eq_nil_of_le (by omega)]
    simp
  | succ d ih =>
    intro k i h0 h1 hk
    obtain ⟨k, rfl⟩ : ∃ q, k = q + 1 := ⟨k - 1, by omega⟩
    rw [bobbinref01_Same.l0_eq, if_pos (by omega), if_pos (by omega), if_pos (by omega), rd_drop l i (by omega), rd_drop m i (by omega)]
    by_cases h : rd l i = rd m i
    · rw [if_pos h, w64 (by omega) (by omega)]
      have := ih k (i + 1) (by omega) (by omega) (by omega)
      rw [show ((i : Int) + 1) = ((i + 1 : Nat) : Int) by omega, this]
      simp [h]
    · rw [if_neg h]
      simp [h]
theorem same_ev (l m : List Int) (hm : l.length ≤ 140737488355328) : Ev (fun k => bobbinref01_Same.f k l m) (decide (l = m)) := by
  refine Ev.ex (l.length + 1) fun k hk => ?_
  unfold bobbinref01_Same.f
  by_cases h : l.length = m.length
  · rw [if_pos (by omega), show (0 : Int) = ((0 : Nat) : Int) from rfl, same_loop l m h hm l.length k 0 (by omega) (by omega) (by omega)]
    simp
  · rw [if_neg (by omega)]
    have : l ≠ m := fun e => h (by rw [e])
    simp [this]
theorem same_true (l m : List Int) (h : l = m) (hm : l.length ≤ 140737488355328) : Ev (fun k => bobbinref01_Same.f k l m) true := by
  have := same_ev l m hm
  rwa [decide_eq_true h] at this

theorem power1 : Ev (fun k => bobbinref01_power.f k 1) 256 := Ev.of (bobbinref01_power.mono 1) (k := 8) (by decide +kernel)
theorem power2 : Ev (fun k => bobbinref01_power.f k 2) 65536 := Ev.of (bobbinref01_power.mono 2) (k := 8) (by decide +kernel)
theorem power3 : Ev (fun k => bobbinref01_power.f k 3) 16777216 := Ev.of (bobbinref01_power.mono 3) (k := 8) (by decide +kernel)
theorem power4 : Ev (fun k => bobbinref01_power.f k 4) 4294967296 := Ev.of (bobbinref01_power.mono 4) (k := 8) (by decide +kernel)
theorem power0 : Ev (fun k => bobbinref01_power.f k 0) 1 := Ev.of (bobbinref01_power.mono 0) (k := 8) (by decide +kernel)

def b4 (n : Int) : List Int := [n % 256, n / 256 % 256, n / 65536 % 256, n / 16777216 % 256]
theorem tdiv_nonneg {n : Int} (h : 0 ≤ n) : Int.tdiv n 256 = n / 256 := Int.tdiv_eq_ediv_of_nonneg h
theorem tmod_nonneg {n : Int} (h : 0 ≤ n) : Int.tmod n 256 = n % 256 := Int.tmod_eq_emod_of_nonneg h
/-- One round of 'Put''s loop. -/
theorem put_round (k : Nat) (n w : Int) (out : List Int) (i : Int) (h0 : 0 ≤ n) (h1 : n < 9223372036854775808) (hi : i < w) (hi0 : 0 ≤ i) (hw : w ≤ 100) (ho : out.length ≤ 100) :
    bobbinref01_Put.l0 (k + 1) n w out i = bobbinref01_Put.l0 k (n / 256) w (out ++ [n % 256]) (i + 1) := by
  rw [bobbinref01_Put.l0_eq, if_pos hi, if_pos (by omega), tdiv_nonneg h0, tmod_nonneg h0, w64 (by omega) (by omega), w64 (by omega) (by omega), Int.emod_emod_of_dvd n (by decide : (256 : Int) ∣ 256)]
theorem put4_ok (n : Int) (h0 : 0 ≤ n) (h1 : n < 4294967296) : Ev (fun k => bobbinref01_Put.f k n 4) (b4 n, 0) := by
  refine Ev.congr (f := fun k => (bobbinref01_power.f k 4).bind fun t => bobbinref01_Put.j0 k n 4 (decide (n ≥ t))) (fun k => ?_) ?_
  · unfold bobbinref01_Put.f
    rw [if_neg (by decide), if_neg (by decide), if_pos rfl, if_neg (by omega)]
  · refine Ev.bind power4 ?_
    refine Ev.ex 20 fun k hk => ?_
    obtain ⟨k, rfl⟩ : ∃ q, k = q + 6 := ⟨k - 6, by omega⟩
    rw [show decide (n ≥ 4294967296) = false by simp; omega]
    rw [show k + 6 = (k + 5) + 1 from rfl, bobbinref01_Put.j0_eq, if_neg (by decide)]
    rw [show k + 5 = (k + 4) + 1 from rfl, put_round _ _ _ _ _ h0 (by omega) (by omega) (by omega) (by omega) (by simp)]
    rw [show k + 4 = (k + 3) + 1 from rfl, put_round _ _ _ _ _ (by omega) (by omega) (by omega) (by omega) (by omega) (by simp)]
    rw [show k + 3 = (k + 2) + 1 from rfl, put_round _ _ _ _ _ (by omega) (by omega) (by omega) (by omega) (by omega) (by simp)]
    rw [show k + 2 = (k + 1) + 1 from rfl, put_round _ _ _ _ _ (by omega) (by omega) (by omega) (by omega) (by omega) (by simp)]
    rw [bobbinref01_Put.l0_eq, if_neg (by decide)]
    have e1 : n / 256 / 256 = n / 65536 := by omega
    have e2 : n / 65536 / 256 = n / 16777216 := by omega
    simp [b4, e1, e2]
theorem put4_bad (n : Int) (h : n < 0 ∨ 4294967296 ≤ n) : Ev (fun k => bobbinref01_Put.f k n 4) ([], 1) := by
  by_cases h0 : n < 0
  · refine Ev.ex 1 fun k hk => ?_
    obtain ⟨k, rfl⟩ : ∃ q, k = q + 1 := ⟨k - 1, by omega⟩
    unfold bobbinref01_Put.f
    rw [if_neg (by decide), if_neg (by decide), if_pos rfl, if_pos h0, bobbinref01_Put.j0_eq, if_pos rfl]
  · refine Ev.congr (f := fun k => (bobbinref01_power.f k 4).bind fun t => bobbinref01_Put.j0 k n 4 (decide (n ≥ t))) (fun k => ?_) ?_
    · unfold bobbinref01_Put.f
      rw [if_neg (by decide), if_neg (by decide), if_pos rfl, if_neg (by omega)]
    · refine Ev.bind power4 (Ev.ex 1 fun k hk => ?_)
      obtain ⟨k, rfl⟩ : ∃ q, k = q + 1 := ⟨k - 1, by omega⟩
      rw [show decide (n ≥ 4294967296) = true by simp; omega, bobbinref01_Put.j0_eq, if_pos rfl]
end Go.Proofs.Ytfaflgdhffkaiaa.Pure
