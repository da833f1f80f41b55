/- slices.ContainsFunc with told's closure: is there a byte that is not nought? -/
import Derived.Test.YtfaflgdhffkaiaaBytG
import Derived.Test.YtfaflgdhffkaiaaFrameS
namespace Go.Proofs.Ytfaflgdhffkaiaa.Print
open Go.RowKit Go.Proofs.YtfaflgdhffkaiaaW.PrintWords Go.Proofs.YtfaflgdhffkaiaaW.PrintLast Go.Proofs.YtfaflgdhffkaiaaW.PrintMore
set_option linter.unusedVariables false
set_option linter.unusedSimpArgs false
theorem clo_calls (x : Int) (w : World) : Calls Try.prog 43 #[.int .u8 x] w fun e w' => e = .returned (.bool (x != 0)) ∧ w' = w := by
  go_enter Try.func43, Try.ntmps43
  go_wp2
  all_goals (go_ret; exact ⟨by simp_all, rfl⟩)
/-- Where the first byte stands that is not nought; -1: nowhere. -/
def idxN : List Int → Int → Int
  | [], _ => -1
  | x :: t, i => if x = 0 then idxN t (i + 1) else i
theorem idxN_neg : ∀ (l : List Int) (i : Int), 0 ≤ i → (idxN l i ≥ 0 ↔ ¬ ∀ x ∈ l, x = 0)
  | [], i, h => by simp [idxN]
  | x :: t, i, h => by
    unfold idxN
    by_cases hx : x = 0
    · rw [if_pos hx, idxN_neg t (i + 1) (by omega)]
      simp [hx]
    · rw [if_neg hx]
      constructor
      · intro _ hh
        exact hx (hh x (List.mem_cons_self ..))
      · intro _; exact h
set_option maxHeartbeats 1000000 in
set_option maxRecDepth 100000 in
theorem idx_any (A : Option Addr) (c n : Nat) (l : List Int) (w : World) (hn : n = l.length) (hC : Kd.C (Kd.int .u8) w A n l) (hc : n ≤ c) (h6 : n ≤ 100000) :
    Calls Try.prog 52 #[.slice A n c, .func (.func 43) #[] #[]] w fun e w' => e = .returned (.int .i64 (idxN l 0)) ∧ w' = w := by
  have HC := Aside0.mk hC
  replace hn := Aside0.mk hn
  clear hC
  go_enter Try.func52, Try.ntmps52
  go_wp2_with fail
  go_loopw [8] (fun v8 wr => ∃ k : Nat, k ≤ n ∧ v8 = .int .i64 k ∧ wr = w ∧ Aside0 (idxN l 0 = idxN (l.drop k) k)) (fun v8 _ => n - (intOf v8).toNat)
  case atStart => exact ⟨0, Nat.zero_le _, rfl, rfl, ⟨rfl⟩⟩
  case round =>
    obtain ⟨k, hk, rfl, rfl, HI⟩ := hrel
    by_cases hlk : k < n
    · have f0 : decide ((k : Int) < (n : Int)) = true := by simp; omega
      obtain ⟨ad, rfl, hcell⟩ := Kd.at_int HC.out (k : Int) (by omega) (by omega)
      rw [show ((k : Int)).toNat = k from rfl] at hcell
      have hd : Aside0 (l.drop k = rd l (k : Int) :: l.drop (k + 1)) := ⟨Pure.rd_drop l k (by rw [← hn.out]; exact hlk)⟩
      generalize rd l (k : Int) = x at *
      go_wp2_with fail
      refine (clo_calls x wr).mono ?_
      rintro e wz ⟨rfl, hq_⟩
      obtain rfl := hq_.symm
      by_cases hx : x = 0
      · have f1 : (x != 0) = false := by simpa using hx
        have hnx : Aside0 (idxN l 0 = idxN (l.drop (k + 1)) ((k + 1 : Nat) : Int)) := ⟨by rw [HI.out, hd.out, idxN, if_pos hx]; rfl⟩
        clear hx
        go_wp2_with fail
        go_roundw
        case rel => exact ⟨k + 1, by omega, by go_num, by first | rfl | trivial, hnx⟩
        case measure => simp only [intOf]; omega
      · have f1 : (x != 0) = true := by simpa using hx
        have hnx : Aside0 (idxN l 0 = (k : Int)) := ⟨by rw [HI.out, hd.out, idxN, if_neg hx]⟩
        clear hx
        go_wp2_with fail
        go_ret
        exact ⟨by rw [hnx.out]; rfl, rfl⟩
    · obtain rfl : k = n := by omega
      have f0 : decide ((k : Int) < (k : Int)) = false := by simp
      have hd : idxN l 0 = -1 := by rw [HI.out, List.drop_eq_nil_of_le (by rw [hn.out]; exact Nat.le_refl _)]; rfl
      replace hd := Aside0.mk hd
      go_wp2_with fail
      go_ret
      exact ⟨by rw [hd.out]; rfl, rfl⟩
set_option maxHeartbeats 1000000 in
theorem contains_any (A : Option Addr) (c n : Nat) (l : List Int) (w : World) (hn : n = l.length) (hC : Kd.C (Kd.int .u8) w A n l) (hc : n ≤ c) (h6 : n ≤ 100000) :
    Calls Try.prog 42 #[.slice A n c, .func (.func 43) #[] #[]] w fun e w' => e = .returned (.bool (decide (¬ ∀ x ∈ l, x = 0))) ∧ w' = w := by
  have hi := idx_any A c n l w hn hC hc h6
  have hd : decide (idxN l 0 ≥ 0) = decide (¬ ∀ x ∈ l, x = 0) := by simp only [idxN_neg l 0 (Int.le_refl _)]
  rw [← hd]
  replace hi := Aside0.mk hi
  clear hn hC hd
  generalize idxN l 0 = q at *
  go_enter Try.func42, Try.ntmps42
  go_wp2_with (go_at_call 52; refine hi.out.mono ?_; rintro e wz ⟨rfl, hq_⟩; obtain rfl := hq_.symm)
  go_ret
  exact ⟨rfl, rfl⟩
end Go.Proofs.Ytfaflgdhffkaiaa.Print
