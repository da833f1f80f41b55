-- Written by a program of this session (myprint.py over the kit's print.py) out of the translation. Not trusted: Lean checks it.
import Derived.Test.YtghhmbagjhmgfaaPrint0
import Derived.Test.YtghhmbagjhmgfaaPrint3
namespace Go.Proofs.Ytghhmbagjhmgfaa.Print
open Go.RowKit Go.Proofs.YtghhmbagjhmgfaaW.PrintWords Go.Proofs.YtghhmbagjhmgfaaW.PrintLast Go.Proofs.YtghhmbagjhmgfaaW.PrintMore
attribute [local go_sem] max2_int min2_int max_two min_two max_three min_three max_four min_four   -- for this text's walks alone
set_option linter.unusedVariables false
set_option linter.unusedSimpArgs false

/-! ### bobbinref03_Crash: function 26 -/
mutual
def bobbinref03_Crash.l0 : Nat → List (List Int) → Int → List (List Int) → List (S75) → Bool → Bool → Int → List Bool → Int → Int → Option ((List (List Int)) × (List (S75)) × Bool × Bool × Int)
  | 0, _, _, _, _, _, _, _, _, _, _ => none
  | k + 1, x5, x6, x186000, x186001, x186002, x186003, x186004, x187000, x187001, x187002 => if x6 < (x186001.length : Int) then (if (x187000.length : Int) > 0 then (if (x187000.length : Int) = 0 then (none) else (if 0 ≤ (Int.tmod x6 (x187000.length : Int)) then (if (Int.tmod x6 (x187000.length : Int)) < (x187000.length : Int) then (bobbinref03_Crash.j1 k x5 x6 0 (rdOf false x187000 (Int.tmod x6 (x187000.length : Int))) x186000 x186001 x186002 x186003 x186004 x187000 x187001 x187002) else (none)) else (none))) else (bobbinref03_Crash.j1 k x5 x6 0 false x186000 x186001 x186002 x186003 x186004 x187000 x187001 x187002)) else (some (x5, ([] : List (S75)), false, false, 0))
def bobbinref03_Crash.j1 : Nat → List (List Int) → Int → Int → Bool → List (List Int) → List (S75) → Bool → Bool → Int → List Bool → Int → Int → Option ((List (List Int)) × (List (S75)) × Bool × Bool × Int)
  | 0, _, _, _, _, _, _, _, _, _, _, _, _ => none
  | k + 1, x5, x6, x7, x35, x186000, x186001, x186002, x186003, x186004, x187000, x187001, x187002 => if x35 = true then (bobbinref03_Crash.j2 k x5 x6 256 x186000 x186001 x186002 x186003 x186004 x187000 x187001 x187002) else (bobbinref03_Crash.j2 k x5 x6 x7 x186000 x186001 x186002 x186003 x186004 x187000 x187001 x187002)
def bobbinref03_Crash.j2 : Nat → List (List Int) → Int → Int → List (List Int) → List (S75) → Bool → Bool → Int → List Bool → Int → Int → Option ((List (List Int)) × (List (S75)) × Bool × Bool × Int)
  | 0, _, _, _, _, _, _, _, _, _, _, _ => none
  | k + 1, x5, x6, x7, x186000, x186001, x186002, x186003, x186004, x187000, x187001, x187002 => if x6 = x187001 then (bobbinref03_Crash.j3 k x5 x6 x187002 x186000 x186001 x186002 x186003 x186004 x187000 x187001 x187002) else (bobbinref03_Crash.j3 k x5 x6 x7 x186000 x186001 x186002 x186003 x186004 x187000 x187001 x187002)
def bobbinref03_Crash.j3 : Nat → List (List Int) → Int → Int → List (List Int) → List (S75) → Bool → Bool → Int → List Bool → Int → Int → Option ((List (List Int)) × (List (S75)) × Bool × Bool × Int)
  | 0, _, _, _, _, _, _, _, _, _, _, _ => none
  | k + 1, x5, x6, x7, x186000, x186001, x186002, x186003, x186004, x187000, x187001, x187002 => if x7 < 0 then (if 0 > 256 then (if 0 ≤ x6 then (if x6 < (x186001.length : Int) then (if 0 ≤ ((rd_T75 x186001 x6).f0) then (if ((rd_T75 x186001 x6).f0) < (x5.length : Int) then ((bobbinref02_Part.f k (rd_L1 x5 ((rd_T75 x186001 x6).f0)) ((rd_T75 x186001 x6).f1) 256).bind fun bt195 => (bobbinref03_Crash.l0 k (x5.set (((rd_T75 x186001 x6).f0) : Int).toNat bt195.1) (wrap64 (x6 + 1)) x186000 x186001 x186002 x186003 x186004 x187000 x187001 x187002)) else (none)) else (none)) else (none)) else (none)) else (if 0 ≤ x6 then (if x6 < (x186001.length : Int) then (if 0 ≤ ((rd_T75 x186001 x6).f0) then (if ((rd_T75 x186001 x6).f0) < (x5.length : Int) then ((bobbinref02_Part.f k (rd_L1 x5 ((rd_T75 x186001 x6).f0)) ((rd_T75 x186001 x6).f1) 0).bind fun bt203 => (bobbinref03_Crash.l0 k (x5.set (((rd_T75 x186001 x6).f0) : Int).toNat bt203.1) (wrap64 (x6 + 1)) x186000 x186001 x186002 x186003 x186004 x187000 x187001 x187002)) else (none)) else (none)) else (none)) else (none))) else (if x7 > 256 then (if 0 ≤ x6 then (if x6 < (x186001.length : Int) then (if 0 ≤ ((rd_T75 x186001 x6).f0) then (if ((rd_T75 x186001 x6).f0) < (x5.length : Int) then ((bobbinref02_Part.f k (rd_L1 x5 ((rd_T75 x186001 x6).f0)) ((rd_T75 x186001 x6).f1) 256).bind fun bt211 => (bobbinref03_Crash.l0 k (x5.set (((rd_T75 x186001 x6).f0) : Int).toNat bt211.1) (wrap64 (x6 + 1)) x186000 x186001 x186002 x186003 x186004 x187000 x187001 x187002)) else (none)) else (none)) else (none)) else (none)) else (if 0 ≤ x6 then (if x6 < (x186001.length : Int) then (if 0 ≤ ((rd_T75 x186001 x6).f0) then (if ((rd_T75 x186001 x6).f0) < (x5.length : Int) then ((bobbinref02_Part.f k (rd_L1 x5 ((rd_T75 x186001 x6).f0)) ((rd_T75 x186001 x6).f1) x7).bind fun bt219 => (bobbinref03_Crash.l0 k (x5.set (((rd_T75 x186001 x6).f0) : Int).toNat bt219.1) (wrap64 (x6 + 1)) x186000 x186001 x186002 x186003 x186004 x187000 x187001 x187002)) else (none)) else (none)) else (none)) else (none)))
end
theorem bobbinref03_Crash.l0_eq : ∀ (k : Nat) x5 x6 x186000 x186001 x186002 x186003 x186004 x187000 x187001 x187002, bobbinref03_Crash.l0 (k + 1) x5 x6 x186000 x186001 x186002 x186003 x186004 x187000 x187001 x187002 = (if x6 < (x186001.length : Int) then (if (x187000.length : Int) > 0 then (if (x187000.length : Int) = 0 then (none) else (if 0 ≤ (Int.tmod x6 (x187000.length : Int)) then (if (Int.tmod x6 (x187000.length : Int)) < (x187000.length : Int) then (bobbinref03_Crash.j1 k x5 x6 0 (rdOf false x187000 (Int.tmod x6 (x187000.length : Int))) x186000 x186001 x186002 x186003 x186004 x187000 x187001 x187002) else (none)) else (none))) else (bobbinref03_Crash.j1 k x5 x6 0 false x186000 x186001 x186002 x186003 x186004 x187000 x187001 x187002)) else (some (x5, ([] : List (S75)), false, false, 0))) := fun _ _ _ _ _ _ _ _ _ _ _ => rfl
theorem bobbinref03_Crash.j1_eq : ∀ (k : Nat) x5 x6 x7 x35 x186000 x186001 x186002 x186003 x186004 x187000 x187001 x187002, bobbinref03_Crash.j1 (k + 1) x5 x6 x7 x35 x186000 x186001 x186002 x186003 x186004 x187000 x187001 x187002 = (if x35 = true then (bobbinref03_Crash.j2 k x5 x6 256 x186000 x186001 x186002 x186003 x186004 x187000 x187001 x187002) else (bobbinref03_Crash.j2 k x5 x6 x7 x186000 x186001 x186002 x186003 x186004 x187000 x187001 x187002)) := fun _ _ _ _ _ _ _ _ _ _ _ _ _ => rfl
theorem bobbinref03_Crash.j2_eq : ∀ (k : Nat) x5 x6 x7 x186000 x186001 x186002 x186003 x186004 x187000 x187001 x187002, bobbinref03_Crash.j2 (k + 1) x5 x6 x7 x186000 x186001 x186002 x186003 x186004 x187000 x187001 x187002 = (if x6 = x187001 then (bobbinref03_Crash.j3 k x5 x6 x187002 x186000 x186001 x186002 x186003 x186004 x187000 x187001 x187002) else (bobbinref03_Crash.j3 k x5 x6 x7 x186000 x186001 x186002 x186003 x186004 x187000 x187001 x187002)) := fun _ _ _ _ _ _ _ _ _ _ _ _ => rfl
theorem bobbinref03_Crash.j3_eq : ∀ (k : Nat) x5 x6 x7 x186000 x186001 x186002 x186003 x186004 x187000 x187001 x187002, bobbinref03_Crash.j3 (k + 1) x5 x6 x7 x186000 x186001 x186002 x186003 x186004 x187000 x187001 x187002 = (if x7 < 0 then (if 0 > 256 then (if 0 ≤ x6 then (if x6 < (x186001.length : Int) then (if 0 ≤ ((rd_T75 x186001 x6).f0) then (if ((rd_T75 x186001 x6).f0) < (x5.length : Int) then ((bobbinref02_Part.f k (rd_L1 x5 ((rd_T75 x186001 x6).f0)) ((rd_T75 x186001 x6).f1) 256).bind fun bt195 => (bobbinref03_Crash.l0 k (x5.set (((rd_T75 x186001 x6).f0) : Int).toNat bt195.1) (wrap64 (x6 + 1)) x186000 x186001 x186002 x186003 x186004 x187000 x187001 x187002)) else (none)) else (none)) else (none)) else (none)) else (if 0 ≤ x6 then (if x6 < (x186001.length : Int) then (if 0 ≤ ((rd_T75 x186001 x6).f0) then (if ((rd_T75 x186001 x6).f0) < (x5.length : Int) then ((bobbinref02_Part.f k (rd_L1 x5 ((rd_T75 x186001 x6).f0)) ((rd_T75 x186001 x6).f1) 0).bind fun bt203 => (bobbinref03_Crash.l0 k (x5.set (((rd_T75 x186001 x6).f0) : Int).toNat bt203.1) (wrap64 (x6 + 1)) x186000 x186001 x186002 x186003 x186004 x187000 x187001 x187002)) else (none)) else (none)) else (none)) else (none))) else (if x7 > 256 then (if 0 ≤ x6 then (if x6 < (x186001.length : Int) then (if 0 ≤ ((rd_T75 x186001 x6).f0) then (if ((rd_T75 x186001 x6).f0) < (x5.length : Int) then ((bobbinref02_Part.f k (rd_L1 x5 ((rd_T75 x186001 x6).f0)) ((rd_T75 x186001 x6).f1) 256).bind fun bt211 => (bobbinref03_Crash.l0 k (x5.set (((rd_T75 x186001 x6).f0) : Int).toNat bt211.1) (wrap64 (x6 + 1)) x186000 x186001 x186002 x186003 x186004 x187000 x187001 x187002)) else (none)) else (none)) else (none)) else (none)) else (if 0 ≤ x6 then (if x6 < (x186001.length : Int) then (if 0 ≤ ((rd_T75 x186001 x6).f0) then (if ((rd_T75 x186001 x6).f0) < (x5.length : Int) then ((bobbinref02_Part.f k (rd_L1 x5 ((rd_T75 x186001 x6).f0)) ((rd_T75 x186001 x6).f1) x7).bind fun bt219 => (bobbinref03_Crash.l0 k (x5.set (((rd_T75 x186001 x6).f0) : Int).toNat bt219.1) (wrap64 (x6 + 1)) x186000 x186001 x186002 x186003 x186004 x187000 x187001 x187002)) else (none)) else (none)) else (none)) else (none)))) := fun _ _ _ _ _ _ _ _ _ _ _ _ => rfl
def bobbinref03_Crash.f (k : Nat) (l0_0 : List (List Int)) (l0_1 : List (S75)) (a0_2 : Bool) (a0_3 : Bool) (a0_4 : Int) (l1_0 : List Bool) (a1_1 : Int) (a1_2 : Int) : Option ((List (List Int)) × (List (S75)) × Bool × Bool × Int) := if ([] : List (List Int)).length + l0_0.length < 5864062014805 then (bobbinref03_Crash.l0 k (([] : List (List Int)) ++ l0_0) 0 l0_0 l0_1 a0_2 a0_3 a0_4 l1_0 a1_1 a1_2) else (none)
theorem bobbinref03_Crash.mono_l : ∀ k, (∀ y0 y1 y2 y3 y4 y5 y6 y7 y8 y9, LeO (bobbinref03_Crash.l0 k y0 y1 y2 y3 y4 y5 y6 y7 y8 y9) (bobbinref03_Crash.l0 (k + 1) y0 y1 y2 y3 y4 y5 y6 y7 y8 y9)) ∧ (∀ y0 y1 y2 y3 y4 y5 y6 y7 y8 y9 y10 y11, LeO (bobbinref03_Crash.j1 k y0 y1 y2 y3 y4 y5 y6 y7 y8 y9 y10 y11) (bobbinref03_Crash.j1 (k + 1) y0 y1 y2 y3 y4 y5 y6 y7 y8 y9 y10 y11)) ∧ (∀ y0 y1 y2 y3 y4 y5 y6 y7 y8 y9 y10, LeO (bobbinref03_Crash.j2 k y0 y1 y2 y3 y4 y5 y6 y7 y8 y9 y10) (bobbinref03_Crash.j2 (k + 1) y0 y1 y2 y3 y4 y5 y6 y7 y8 y9 y10)) ∧ (∀ y0 y1 y2 y3 y4 y5 y6 y7 y8 y9 y10, LeO (bobbinref03_Crash.j3 k y0 y1 y2 y3 y4 y5 y6 y7 y8 y9 y10) (bobbinref03_Crash.j3 (k + 1) y0 y1 y2 y3 y4 y5 y6 y7 y8 y9 y10))
  | 0 => ⟨fun _ _ _ _ _ _ _ _ _ _ r h => by first | (cases h; done) | simp [bobbinref03_Crash.l0] at h, fun _ _ _ _ _ _ _ _ _ _ _ _ r h => by first | (cases h; done) | simp [bobbinref03_Crash.j1] at h, fun _ _ _ _ _ _ _ _ _ _ _ r h => by first | (cases h; done) | simp [bobbinref03_Crash.j2] at h, fun _ _ _ _ _ _ _ _ _ _ _ r h => by first | (cases h; done) | simp [bobbinref03_Crash.j3] at h⟩
  | k + 1 => by
    obtain ⟨ih0, ih1, ih2, ih3⟩ := bobbinref03_Crash.mono_l k
    refine ⟨?_, ?_, ?_, ?_⟩
    · intro y0 y1 y2 y3 y4 y5 y6 y7 y8 y9
      unfold bobbinref03_Crash.l0
      repeat' first
      | (with_reducible exact ih0 _ _ _ _ _ _ _ _ _ _)
      | (with_reducible exact ih1 _ _ _ _ _ _ _ _ _ _ _ _)
      | (with_reducible exact ih2 _ _ _ _ _ _ _ _ _ _ _)
      | (with_reducible exact ih3 _ _ _ _ _ _ _ _ _ _ _)
      | (with_reducible exact bobbinref02_Part.mono _ _ _ _)
      | (with_reducible exact LeO.refl _)
      | (with_reducible exact LeO.none _)
      | (with_reducible refine LeO.ite ?_ ?_)
      | (with_reducible refine LeO.bind ?_ (fun _ => ?_))
      | exact ih0 _ _ _ _ _ _ _ _ _ _
      | exact ih1 _ _ _ _ _ _ _ _ _ _ _ _
      | exact ih2 _ _ _ _ _ _ _ _ _ _ _
      | exact ih3 _ _ _ _ _ _ _ _ _ _ _
      | exact bobbinref02_Part.mono _ _ _ _
      | exact LeO.none _
      | refine LeO.ite ?_ ?_
      | refine LeO.bind ?_ (fun _ => ?_)
    · intro y0 y1 y2 y3 y4 y5 y6 y7 y8 y9 y10 y11
      unfold bobbinref03_Crash.j1
      repeat' first
      | (with_reducible exact ih0 _ _ _ _ _ _ _ _ _ _)
      | (with_reducible exact ih1 _ _ _ _ _ _ _ _ _ _ _ _)
      | (with_reducible exact ih2 _ _ _ _ _ _ _ _ _ _ _)
      | (with_reducible exact ih3 _ _ _ _ _ _ _ _ _ _ _)
      | (with_reducible exact bobbinref02_Part.mono _ _ _ _)
      | (with_reducible exact LeO.refl _)
      | (with_reducible exact LeO.none _)
      | (with_reducible refine LeO.ite ?_ ?_)
      | (with_reducible refine LeO.bind ?_ (fun _ => ?_))
      | exact ih0 _ _ _ _ _ _ _ _ _ _
      | exact ih1 _ _ _ _ _ _ _ _ _ _ _ _
      | exact ih2 _ _ _ _ _ _ _ _ _ _ _
      | exact ih3 _ _ _ _ _ _ _ _ _ _ _
      | exact bobbinref02_Part.mono _ _ _ _
      | exact LeO.none _
      | refine LeO.ite ?_ ?_
      | refine LeO.bind ?_ (fun _ => ?_)
    · intro y0 y1 y2 y3 y4 y5 y6 y7 y8 y9 y10
      unfold bobbinref03_Crash.j2
      repeat' first
      | (with_reducible exact ih0 _ _ _ _ _ _ _ _ _ _)
      | (with_reducible exact ih1 _ _ _ _ _ _ _ _ _ _ _ _)
      | (with_reducible exact ih2 _ _ _ _ _ _ _ _ _ _ _)
      | (with_reducible exact ih3 _ _ _ _ _ _ _ _ _ _ _)
      | (with_reducible exact bobbinref02_Part.mono _ _ _ _)
      | (with_reducible exact LeO.refl _)
      | (with_reducible exact LeO.none _)
      | (with_reducible refine LeO.ite ?_ ?_)
      | (with_reducible refine LeO.bind ?_ (fun _ => ?_))
      | exact ih0 _ _ _ _ _ _ _ _ _ _
      | exact ih1 _ _ _ _ _ _ _ _ _ _ _ _
      | exact ih2 _ _ _ _ _ _ _ _ _ _ _
      | exact ih3 _ _ _ _ _ _ _ _ _ _ _
      | exact bobbinref02_Part.mono _ _ _ _
      | exact LeO.none _
      | refine LeO.ite ?_ ?_
      | refine LeO.bind ?_ (fun _ => ?_)
    · intro y0 y1 y2 y3 y4 y5 y6 y7 y8 y9 y10
      unfold bobbinref03_Crash.j3
      repeat' first
      | (with_reducible exact ih0 _ _ _ _ _ _ _ _ _ _)
      | (with_reducible exact ih1 _ _ _ _ _ _ _ _ _ _ _ _)
      | (with_reducible exact ih2 _ _ _ _ _ _ _ _ _ _ _)
      | (with_reducible exact ih3 _ _ _ _ _ _ _ _ _ _ _)
      | (with_reducible exact bobbinref02_Part.mono _ _ _ _)
      | (with_reducible exact LeO.refl _)
      | (with_reducible exact LeO.none _)
      | (with_reducible refine LeO.ite ?_ ?_)
      | (with_reducible refine LeO.bind ?_ (fun _ => ?_))
      | exact ih0 _ _ _ _ _ _ _ _ _ _
      | exact ih1 _ _ _ _ _ _ _ _ _ _ _ _
      | exact ih2 _ _ _ _ _ _ _ _ _ _ _
      | exact ih3 _ _ _ _ _ _ _ _ _ _ _
      | exact bobbinref02_Part.mono _ _ _ _
      | exact LeO.none _
      | refine LeO.ite ?_ ?_
      | refine LeO.bind ?_ (fun _ => ?_)
theorem bobbinref03_Crash.mono : ∀ a0 a1 a2 a3 a4 a5 a6 a7 k, LeO (bobbinref03_Crash.f k a0 a1 a2 a3 a4 a5 a6 a7) (bobbinref03_Crash.f (k + 1) a0 a1 a2 a3 a4 a5 a6 a7) := by
  intro a0 a1 a2 a3 a4 a5 a6 a7 k
  obtain ⟨ih0, ih1, ih2, ih3⟩ := bobbinref03_Crash.mono_l k
  unfold bobbinref03_Crash.f
  repeat' first
      | (with_reducible exact ih0 _ _ _ _ _ _ _ _ _ _)
      | (with_reducible exact ih1 _ _ _ _ _ _ _ _ _ _ _ _)
      | (with_reducible exact ih2 _ _ _ _ _ _ _ _ _ _ _)
      | (with_reducible exact ih3 _ _ _ _ _ _ _ _ _ _ _)
      | (with_reducible exact bobbinref02_Part.mono _ _ _ _)
      | (with_reducible exact LeO.refl _)
      | (with_reducible exact LeO.none _)
      | (with_reducible refine LeO.ite ?_ ?_)
      | (with_reducible refine LeO.bind ?_ (fun _ => ?_))
      | exact ih0 _ _ _ _ _ _ _ _ _ _
      | exact ih1 _ _ _ _ _ _ _ _ _ _ _ _
      | exact ih2 _ _ _ _ _ _ _ _ _ _ _
      | exact ih3 _ _ _ _ _ _ _ _ _ _ _
      | exact bobbinref02_Part.mono _ _ _ _
      | exact LeO.none _
      | refine LeO.ite ?_ ?_
      | refine LeO.bind ?_ (fun _ => ?_)
def bobbinref03_Crash.T6 : Bool × List (List Nat × List Nat) := (true, [([], []), ([0], [0]), ([1], [1]), ([2], [2]), ([3], [3]), ([4], [4]), ([5, 4], [4, 5]), ([4], [4]), ([4], [4]), ([8, 4], [4, 8]), ([9, 4], [4, 9]), ([7, 10, 4], [4, 7, 10]), ([6, 11, 4], [4, 6, 11]), ([12, 4], [4, 12]), ([4, 13], [4, 13])])
def bobbinref03_Crash.B6 : List Nat := [0, 1, 3, 7, 15, 31, 63, 31, 31, 287, 799, 1951, 4095, 8191, 16383]
theorem bobbinref03_Crash.tab6 : rtab .any (opsOf Try.f26 6) = bobbinref03_Crash.T6 := by kernel_rfl
theorem bobbinref03_Crash.bits6 : waitsOk bobbinref03_Crash.T6.2 bobbinref03_Crash.B6 = true := by kernel_rfl
def bobbinref03_Crash.T15 : Bool × List (List Nat × List Nat) := (true, [([], []), ([], []), ([0, 1], [0, 1]), ([2], [2]), ([], []), ([4], [4]), ([], []), ([5, 6], [5, 6]), ([7], [7]), ([8], [8]), ([], []), ([3, 9, 10], [3, 9, 10]), ([11], [11]), ([12], [12]), ([12], [12]), ([13, 11, 0, 1, 2, 3, 4, 5, 6, 7, 8, 9, 10, 11, 12, 13], [13]), ([14, 15, 0, 1, 2, 3, 4, 5, 6, 7, 8, 9, 10, 11, 12, 13, 14, 15], [14])])
def bobbinref03_Crash.B15 : List Nat := [0, 0, 3, 7, 0, 16, 0, 112, 240, 496, 0, 2047, 4095, 8191, 8191, 16383, 65535]
theorem bobbinref03_Crash.tab15 : rtab .any (opsOf Try.f26 15) = bobbinref03_Crash.T15 := by kernel_rfl
theorem bobbinref03_Crash.bits15 : waitsOk bobbinref03_Crash.T15.2 bobbinref03_Crash.B15 = true := by kernel_rfl
set_option maxHeartbeats 8000000 in
set_option maxRecDepth 100000 in
theorem bobbinref03_Crash.calls (k : Nat) (P0_0_ : Nat → Prop) (A0_0 : Option Addr) (c0_0 : Nat) (l0_0 : List (List Int)) (A0_1 : Option Addr) (c0_1 : Nat) (l0_1 : List (S75)) (a0_2 : Bool) (a0_3 : Bool) (a0_4 : Int) (A1_0 : Option Addr) (c1_0 : Nat) (l1_0 : List Bool) (a1_1 : Int) (a1_2 : Int) (r1 : List (List Int)) (r2 : List (S75)) (r3 : Bool) (r4 : Bool) (r5 : Int) (w : World) (hs0_0 : Kd.V (Kd.slice 5 (Kd.int .u8)) 30 w w.heap.size (fun k_ => P0_0_ k_) (.slice A0_0 l0_0.length c0_0) l0_0) (hr0_1 : Kd.C k75 w A0_1 l0_1.length l0_1) (hc0_1 : l0_1.length ≤ c0_1) (hr1_0 : Kd.C Kd.bool w A1_0 l1_0.length l1_0) (hc1_0 : l1_0.length ≤ c1_0) (h : bobbinref03_Crash.f k l0_0 l0_1 a0_2 a0_3 a0_4 l1_0 a1_1 a1_2 = some (r1, r2, r3, r4, r5)) :
    Calls Try.prog 26 #[.agg #[.slice A0_0 l0_0.length c0_0, .slice A0_1 l0_1.length c0_1, .bool a0_2, .bool a0_3, .int .i64 a0_4], .agg #[.slice A1_0 l1_0.length c1_0, .int .i64 a1_1, .int .i64 a1_2]] w fun e w' => ∃ v0_ v1_ : Value, e = .returned (.agg #[v0_, v1_, .bool r3, .bool r4, .int .i64 r5]) ∧ Kd.N (Kd.slice 5 (Kd.int .u8)) 30 w' w.heap.size (fun k_ => (P0_0_ k_ ∨ w.heap.size ≤ k_) ∧ some k_ ≠ (v1_ : Value).ownBlock) v0_ r1 ∧ Kd.N k75 75 w' w.heap.size (fun k_ => (P0_0_ k_ ∨ w.heap.size ≤ k_) ∧ some k_ ≠ (v0_ : Value).ownBlock) v1_ r2 ∧ Below w.heap.size w w' := by
  have hu51 := Try.underlying51
  have hu29 := Try.underlying29
  have HO0_0 := Aside0.mk (show Kd.V (Kd.slice 5 (Kd.int .u8)) 30 w w.heap.size (fun k_ => (P0_0_ k_ ∨ w.heap.size ≤ k_)) (.slice A0_0 l0_0.length c0_0) l0_0 from Kd.V_mono hs0_0 (fun k_ hk => .inl hk))
  have HR0_1 := Aside0.mk hr0_1
  have HC0_1 := Aside0.mk hc0_1
  clear hr0_1 hc0_1
  have HR1_0 := Aside0.mk hr1_0
  have HC1_0 := Aside0.mk hc1_0
  clear hr1_0 hc1_0
  have HB := Aside0.mk (Below.refl w.heap.size w)
  have H : (if ([] : List (List Int)).length + l0_0.length < 5864062014805 then (bobbinref03_Crash.l0 k (([] : List (List Int)) ++ l0_0) 0 l0_0 l0_1 a0_2 a0_3 a0_4 l1_0 a1_1 a1_2) else (none)) = some (r1, r2, r3, r4, r5) := h
  clear h
  by_cases c3 : ([] : List (List Int)).length + l0_0.length < 5864062014805
  · rw [if_pos c3] at H
    have LMc3 := Aside0.mk c3
    clear c3
    obtain ⟨y188, hy188⟩ : ∃ y_ : List (List Int), y_ = (([] : List (List Int)) ++ l0_0) := ⟨_, rfl⟩
    replace H : (bobbinref03_Crash.l0 k y188 0 l0_0 l0_1 a0_2 a0_3 a0_4 l1_0 a1_1 a1_2) = some (r1, r2, r3, r4, r5) := by first | (rw [hy188]; with_reducible exact H) | (have H2_ := (Option.bind_some _ _).symm.trans H; rw [hy188]; with_reducible exact H2_) | (have H2_ := (Option.bind_some _ _).symm.trans H; with_reducible exact H2_) | with_reducible exact H | (rw [hy188]; exact H) | exact H
    have Ny188 := Aside0.mk hy188
    clear hy188
    have H' := Aside0.mk H
    clear H
    go_enter Try.func26, Try.ntmps26
    go_wp2_with (first | ((with_reducible refine gate_dst (N := 2) rfl ?_); (try (refine gate_guard (by rfl) ?_; dsimp only)); refine box_event ?hg (N := 2) ?hd (cs := #[.slice A0_0 l0_0.length c0_0, .slice A0_1 l0_1.length c0_1, .bool a0_2, .bool a0_3, .int .i64 a0_4]) (t := 51) ?hr ?_; (case hd => rfl); (case hg => rfl); (case hr => first | (go_simp; done) | (go_simp; rfl)); intro gb185 hg w4 hbox hb; have n0_ := Aside0.mk (Kd.V_below (Kd.V_elderB (by (with_reducible repeat (first | apply Kd.V_alloc | apply Kd.V_drewN | apply Kd.V_drew)); exact HO0_0.out) gb185 (Nat.le_of_eq hg.symm)) hb); have n1_ := Aside0.mk (below_step (by repeat (first | (with_reducible first | exact HB.out | apply below_alloc | apply pw_below_drewN | apply below_drew1) | exact HB.out)) hb); have n2_ := Aside0.mk (hbox); have n3_ := Aside0.mk ((by rw [hg]; exact (below_size (by repeat (first | (with_reducible first | exact HB.out | apply below_alloc | apply pw_below_drewN | apply below_drew1) | exact HB.out))) : w.heap.size ≤ gb185)); have n4_ := Aside0.mk ((by rw [hg]; exact (below_size (by repeat (first | (with_reducible first | exact HB.out | apply below_alloc | apply pw_below_drewN | apply below_drew1) | exact HB.out))) : w.heap.size ≤ gb185)); clear HO0_0; clear HB; have HO0_0 := n0_; have HB := n1_; have BK185 := n2_; have GW185 := n3_; have GE185 := n4_; clear n0_ n1_ n2_ n3_ n4_; clear hb hbox hg) | ((with_reducible refine gate_dst (N := 3) rfl ?_); (try (refine gate_guard (by rfl) ?_; dsimp only)); refine box_event ?hg (N := 3) ?hd (cs := #[.slice A1_0 l1_0.length c1_0, .int .i64 a1_1, .int .i64 a1_2]) (t := 29) ?hr ?_; (case hd => rfl); (case hg => rfl); (case hr => first | (go_simp; done) | (go_simp; rfl)); intro gb186 hg w5 hbox hb; have n0_ := Aside0.mk (Kd.V_below (Kd.V_elderB (by (with_reducible repeat (first | apply Kd.V_alloc | apply Kd.V_drewN | apply Kd.V_drew)); exact HO0_0.out) gb186 (Nat.le_of_eq hg.symm)) hb); have n1_ := Aside0.mk (blk_below (g := gb185) (o := .cells #[.slice A0_0 l0_0.length c0_0, .slice A0_1 l0_1.length c0_1, .bool a0_2, .bool a0_3, .int .i64 a0_4] 51 (0, 0)) (by (with_reducible repeat (first | refine blk_drewN ?_ _ | refine blk_drew ?_ | refine blk_alloc ?_ _)); exact BK185.out) hb); have n2_ := Aside0.mk (below_step (by repeat (first | (with_reducible first | exact HB.out | apply below_alloc | apply pw_below_drewN | apply below_drew1 | refine below_set ?_ GE185.out) | exact HB.out)) hb); have n3_ := Aside0.mk (hbox); have n4_ := Aside0.mk ((by rw [hg]; exact (below_size (by repeat (first | (with_reducible first | exact HB.out | apply below_alloc | apply pw_below_drewN | apply below_drew1 | refine below_set ?_ GE185.out) | exact HB.out))) : w.heap.size ≤ gb186)); have n5_ := Aside0.mk ((by rw [hg]; exact (below_size (by repeat (first | (with_reducible first | exact HB.out | apply below_alloc | apply pw_below_drewN | apply below_drew1 | refine below_set ?_ GE185.out) | exact HB.out))) : w.heap.size ≤ gb186)); have n6_ := Aside0.mk ((by rw [hg]; exact Nat.ne_of_lt (blk_lt (g := gb185) (o := .cells #[.slice A0_0 l0_0.length c0_0, .slice A0_1 l0_1.length c0_1, .bool a0_2, .bool a0_3, .int .i64 a0_4] 51 (0, 0)) (by (with_reducible repeat (first | refine blk_drewN ?_ _ | refine blk_drew ?_ | refine blk_alloc ?_ _)); exact BK185.out)) : gb185 ≠ gb186)); have n7_ := Aside0.mk ((by rw [hg]; exact Nat.ne_of_gt (blk_lt (g := gb185) (o := .cells #[.slice A0_0 l0_0.length c0_0, .slice A0_1 l0_1.length c0_1, .bool a0_2, .bool a0_3, .int .i64 a0_4] 51 (0, 0)) (by (with_reducible repeat (first | refine blk_drewN ?_ _ | refine blk_drew ?_ | refine blk_alloc ?_ _)); exact BK185.out)) : gb186 ≠ gb185)); clear HO0_0; clear BK185; clear HB; have HO0_0 := n0_; have BK185 := n1_; have HB := n2_; have BK186 := n3_; have GW186 := n4_; have GE186 := n5_; have NB185_186 := n6_; have NB186_185 := n7_; clear n0_ n1_ n2_ n3_ n4_ n5_ n6_ n7_; clear hb hbox hg) | ((with_reducible refine gate_dst (N := 4) rfl ?_); (try (refine gate_guard (by rfl) ?_; dsimp only)); refine box_event ?hg (N := 4) ?hd (cs := #[.slice none 0 0, .slice none 0 0, .bool false, .bool false, .int .i64 0]) (t := 51) ?hr ?_; (case hd => rfl); (case hg => rfl); (case hr => first | (go_simp; done) | (go_simp; rfl)); intro gb187 hg w6 hbox hb; have n0_ := Aside0.mk (Kd.V_below (Kd.V_elderB (by (with_reducible repeat (first | apply Kd.V_alloc | apply Kd.V_drewN | apply Kd.V_drew)); exact HO0_0.out) gb187 (Nat.le_of_eq hg.symm)) hb); have n1_ := Aside0.mk (blk_below (g := gb185) (o := .cells #[.slice A0_0 l0_0.length c0_0, .slice A0_1 l0_1.length c0_1, .bool a0_2, .bool a0_3, .int .i64 a0_4] 51 (0, 0)) (by (with_reducible repeat (first | refine blk_drewN ?_ _ | refine blk_drew ?_ | refine blk_alloc ?_ _)); exact BK185.out) hb); have n2_ := Aside0.mk (blk_below (g := gb186) (o := .cells #[.slice A1_0 l1_0.length c1_0, .int .i64 a1_1, .int .i64 a1_2] 29 (0, 0)) (by (with_reducible repeat (first | refine blk_drewN ?_ _ | refine blk_drew ?_ | refine blk_alloc ?_ _)); exact BK186.out) hb); have n3_ := Aside0.mk (below_step (by repeat (first | (with_reducible first | exact HB.out | apply below_alloc | apply pw_below_drewN | apply below_drew1 | refine below_set ?_ GE185.out | refine below_set ?_ GE186.out) | exact HB.out)) hb); have n4_ := Aside0.mk (hbox); have n5_ := Aside0.mk ((by rw [hg]; exact (below_size (by repeat (first | (with_reducible first | exact HB.out | apply below_alloc | apply pw_below_drewN | apply below_drew1 | refine below_set ?_ GE185.out | refine below_set ?_ GE186.out) | exact HB.out))) : w.heap.size ≤ gb187)); have n6_ := Aside0.mk ((by rw [hg]; exact (below_size (by repeat (first | (with_reducible first | exact HB.out | apply below_alloc | apply pw_below_drewN | apply below_drew1 | refine below_set ?_ GE185.out | refine below_set ?_ GE186.out) | exact HB.out))) : w.heap.size ≤ gb187)); have n7_ := Aside0.mk ((by rw [hg]; exact Nat.ne_of_lt (blk_lt (g := gb185) (o := .cells #[.slice A0_0 l0_0.length c0_0, .slice A0_1 l0_1.length c0_1, .bool a0_2, .bool a0_3, .int .i64 a0_4] 51 (0, 0)) (by (with_reducible repeat (first | refine blk_drewN ?_ _ | refine blk_drew ?_ | refine blk_alloc ?_ _)); exact BK185.out)) : gb185 ≠ gb187)); have n8_ := Aside0.mk ((by rw [hg]; exact Nat.ne_of_gt (blk_lt (g := gb185) (o := .cells #[.slice A0_0 l0_0.length c0_0, .slice A0_1 l0_1.length c0_1, .bool a0_2, .bool a0_3, .int .i64 a0_4] 51 (0, 0)) (by (with_reducible repeat (first | refine blk_drewN ?_ _ | refine blk_drew ?_ | refine blk_alloc ?_ _)); exact BK185.out)) : gb187 ≠ gb185)); have n9_ := Aside0.mk ((by rw [hg]; exact Nat.ne_of_lt (blk_lt (g := gb186) (o := .cells #[.slice A1_0 l1_0.length c1_0, .int .i64 a1_1, .int .i64 a1_2] 29 (0, 0)) (by (with_reducible repeat (first | refine blk_drewN ?_ _ | refine blk_drew ?_ | refine blk_alloc ?_ _)); exact BK186.out)) : gb186 ≠ gb187)); have n10_ := Aside0.mk ((by rw [hg]; exact Nat.ne_of_gt (blk_lt (g := gb186) (o := .cells #[.slice A1_0 l1_0.length c1_0, .int .i64 a1_1, .int .i64 a1_2] 29 (0, 0)) (by (with_reducible repeat (first | refine blk_drewN ?_ _ | refine blk_drew ?_ | refine blk_alloc ?_ _)); exact BK186.out)) : gb187 ≠ gb186)); clear HO0_0; clear BK185; clear BK186; clear HB; have HO0_0 := n0_; have BK185 := n1_; have BK186 := n2_; have HB := n3_; have BK187 := n4_; have GW187 := n5_; have GE187 := n6_; have NB185_187 := n7_; have NB187_185 := n8_; have NB186_187 := n9_; have NB187_186 := n10_; clear n0_ n1_ n2_ n3_ n4_ n5_ n6_ n7_ n8_ n9_ n10_; clear hb hbox hg; have hnb7 := NB185_186.out; have hnc7 := NB186_185.out; have hnb8 := NB185_187.out; have hnc8 := NB187_185.out; have hcz9_0 : w6.cell? ⟨gb185, 0, none⟩ = some (.slice A0_0 l0_0.length c0_0) := (blk_cell BK185.out 0).trans rfl; have hcz9_1 : w6.cell? ⟨gb185, 1, none⟩ = some (.slice A0_1 l0_1.length c0_1) := (blk_cell BK185.out 1).trans rfl; have hcz9_2 : w6.cell? ⟨gb185, 2, none⟩ = some (.bool a0_2) := (blk_cell BK185.out 2).trans rfl; have hcz9_3 : w6.cell? ⟨gb185, 3, none⟩ = some (.bool a0_3) := (blk_cell BK185.out 3).trans rfl; have hcz9_4 : w6.cell? ⟨gb185, 4, none⟩ = some (.int .i64 a0_4) := (blk_cell BK185.out 4).trans rfl; have hfz9_0 := blk_frozen BK185.out 0; have hfz9_1 := blk_frozen BK185.out 1; have hfz9_2 := blk_frozen BK185.out 2; have hfz9_3 := blk_frozen BK185.out 3; have hfz9_4 := blk_frozen BK185.out 4) | ((with_reducible refine gate_builtin (b := .append) (xs := #[.const (.slice none 0 0), .tmp 12]) rfl ?_); (try (refine gate_guard (by rfl) ?_; dsimp only)); at_builtin; refine Kd.N_append_rows (Kd.slice 5 (Kd.int .u8)) (w0 := w) w.heap.size rfl (.const (.slice none 0 0)) (.tmp 12) 48 30 (.slice none 0 0) 24 rfl Try.underlying48 info30 rfl (by decide) (by omega) (.slice none 0 0) ([] : List (List Int)) l0_0 _ _ _ (fun k_ => (P0_0_ k_ ∨ w.heap.size ≤ k_) ∧ k_ ≠ gb185 ∧ k_ ≠ gb186 ∧ k_ ≠ gb187) (fun k_ => ((fun k_ => (P0_0_ k_ ∨ w.heap.size ≤ k_) ∧ k_ ≠ gb185 ∧ k_ ≠ gb186 ∧ k_ ≠ gb187)) k_ ∧ some k_ ≠ (.slice none 0 0 : Value).ownBlock) rfl rfl ?aO ?aR (fun _ hk => hk) ?aF ?aB ?aS ?aL ?_; (case aR => exact (by skip; exact Kd.V_F (Kd.V_mono (ok' := (fun k_ => ((fun k_ => (P0_0_ k_ ∨ w.heap.size ≤ k_) ∧ k_ ≠ gb185 ∧ k_ ≠ gb186 ∧ k_ ≠ gb187)) k_ ∧ some k_ ≠ (.slice none 0 0 : Value).ownBlock)) (HO0_0.out) (fun k_ hk => ⟨⟨hk.1.1.1, ⟨hk.1.1.2, ⟨hk.1.2, hk.2⟩⟩⟩, (by simp [Value.ownBlock])⟩)))); (case aB => exact (by repeat (first | (with_reducible first | exact HB.out | apply below_alloc | apply pw_below_drewN | apply below_drew1 | refine below_set ?_ GE185.out | refine below_set ?_ GE186.out | refine below_set ?_ GE187.out) | exact HB.out))); (case aF => exact (fun k_ hk => ⟨(.inr (Nat.le_trans (below_size (by repeat (first | (with_reducible first | exact HB.out | apply below_alloc | apply pw_below_drewN | apply below_drew1 | refine below_set ?_ GE185.out | refine below_set ?_ GE186.out | refine below_set ?_ GE187.out) | exact HB.out))) hk)), Kd.freshB (g := gb185) (o := .cells #[.slice A0_0 l0_0.length c0_0, .slice A0_1 l0_1.length c0_1, .bool a0_2, .bool a0_3, .int .i64 a0_4] 51 (0, 0)) (by (with_reducible repeat (first | refine blk_drewN ?_ _ | refine blk_drew ?_ | refine blk_alloc ?_ _)); exact BK185.out) k_ hk, Kd.freshB (g := gb186) (o := .cells #[.slice A1_0 l1_0.length c1_0, .int .i64 a1_1, .int .i64 a1_2] 29 (0, 0)) (by (with_reducible repeat (first | refine blk_drewN ?_ _ | refine blk_drew ?_ | refine blk_alloc ?_ _)); exact BK186.out) k_ hk, Kd.freshB (g := gb187) (o := .cells #[.slice none 0 0, .slice none 0 0, .bool false, .bool false, .int .i64 0] 51 (0, 0)) (by (with_reducible repeat (first | refine blk_drewN ?_ _ | refine blk_drew ?_ | refine blk_alloc ?_ _)); exact BK187.out) k_ hk⟩)); (case aO => exact ((Kd.N_nil _ _ _ _ (fun k_ => (P0_0_ k_ ∨ w.heap.size ≤ k_) ∧ k_ ≠ gb185 ∧ k_ ≠ gb186 ∧ k_ ≠ gb187)))); (case aS => exact (below_size (by repeat (first | (with_reducible first | exact HB.out | apply below_alloc | apply pw_below_drewN | apply below_drew1 | refine below_set ?_ GE185.out | refine below_set ?_ GE186.out | refine below_set ?_ GE187.out) | exact HB.out)))); (case aL => have := LMc3.out; omega); intro v189 w10 ho hb hg hat; rw [← Ny188.out] at ho; have n0_ := Aside0.mk (Kd.V_afterv (Kd.V_apart_nil (by (with_reducible repeat (first | apply Kd.V_alloc | apply Kd.V_drewN | apply Kd.V_drew)); exact HO0_0.out)) hg hat); have n1_ := Aside0.mk (blk_grown (g := gb185) (o := .cells #[.slice A0_0 l0_0.length c0_0, .slice A0_1 l0_1.length c0_1, .bool a0_2, .bool a0_3, .int .i64 a0_4] 51 (0, 0)) (by (with_reducible repeat (first | refine blk_drewN ?_ _ | refine blk_drew ?_ | refine blk_alloc ?_ _)); exact BK185.out) hg (by simp [Value.ownBlock])); have n2_ := Aside0.mk (blk_grown (g := gb186) (o := .cells #[.slice A1_0 l1_0.length c1_0, .int .i64 a1_1, .int .i64 a1_2] 29 (0, 0)) (by (with_reducible repeat (first | refine blk_drewN ?_ _ | refine blk_drew ?_ | refine blk_alloc ?_ _)); exact BK186.out) hg (by simp [Value.ownBlock])); have n3_ := Aside0.mk (blk_grown (g := gb187) (o := .cells #[.slice none 0 0, .slice none 0 0, .bool false, .bool false, .int .i64 0] 51 (0, 0)) (by (with_reducible repeat (first | refine blk_drewN ?_ _ | refine blk_drew ?_ | refine blk_alloc ?_ _)); exact BK187.out) hg (by simp [Value.ownBlock])); have n4_ := Aside0.mk (hb); have n5_ := Aside0.mk (ho); clear HO0_0; clear BK185; clear BK186; clear BK187; clear HB; have HO0_0 := n0_; have BK185 := n1_; have BK186 := n2_; have BK187 := n3_; have HB := n4_; have HO190 := n5_; clear n0_ n1_ n2_ n3_ n4_ n5_; clear ho hb hg hat))
    go_loopg [6] k (fun kq v6 w' => ∃ (x5_1 : List (List Int)) (x6_1 : Int), v6 = .int .i64 x6_1 ∧ Aside0 (bobbinref03_Crash.l0 kq x5_1 x6_1 l0_0 l0_1 a0_2 a0_3 a0_4 l1_0 a1_1 a1_2 = some (r1, r2, r3, r4, r5)) ∧ Aside0 (kq ≤ k) ∧ Aside0 (Kd.N (Kd.slice 5 (Kd.int .u8)) 30 w' w.heap.size (fun k_ => (P0_0_ k_ ∨ w.heap.size ≤ k_) ∧ k_ ≠ gb185 ∧ k_ ≠ gb186 ∧ k_ ≠ gb187) v189 x5_1) ∧ Aside0 (Kd.V (Kd.slice 5 (Kd.int .u8)) 30 w' w.heap.size (fun k_ => (P0_0_ k_ ∨ w.heap.size ≤ k_) ∧ some k_ ≠ (v189 : Value).ownBlock ∧ k_ ≠ gb185 ∧ k_ ≠ gb186 ∧ k_ ≠ gb187) (.slice A0_0 l0_0.length c0_0) l0_0) ∧ Aside0 (w'.heap[gb185]? = some (.cells #[(.slice A0_0 l0_0.length c0_0), (.slice A0_1 l0_1.length c0_1), .bool a0_2, .bool a0_3, .int .i64 a0_4] 51 (0, 0))) ∧ Aside0 (w'.heap[gb186]? = some (.cells #[(.slice A1_0 l1_0.length c1_0), .int .i64 a1_1, .int .i64 a1_2] 29 (0, 0))) ∧ Aside0 (w'.heap[gb187]? = some (.cells #[(.slice none 0 0), (.slice none 0 0), .bool false, .bool false, .int .i64 0] 51 (0, 0))) ∧ Aside0 (Below w.heap.size w w'))
    case atStart => exact ⟨(y188), (0), (by first | rfl | (simp; done) | (simp [*]; done)), H', ⟨Nat.le_refl _⟩, ⟨by (with_reducible repeat (first | apply Kd.N_alloc | apply Kd.N_drewN | apply Kd.N_drew)); exact HO190.out⟩, ⟨by (with_reducible repeat (first | apply Kd.V_alloc | apply Kd.V_drewN | apply Kd.V_drew)); exact Kd.V_mono HO0_0.out (fun _ hk => ⟨hk.1.1.1.1, ⟨hk.2, ⟨hk.1.1.1.2, ⟨hk.1.1.2, hk.1.2⟩⟩⟩⟩)⟩, ⟨by (with_reducible repeat (first | refine blk_drewN ?_ _ | refine blk_drew ?_ | refine blk_alloc ?_ _)); exact BK185.out⟩, ⟨by (with_reducible repeat (first | refine blk_drewN ?_ _ | refine blk_drew ?_ | refine blk_alloc ?_ _)); exact BK186.out⟩, ⟨by (with_reducible repeat (first | refine blk_drewN ?_ _ | refine blk_drew ?_ | refine blk_alloc ?_ _)); exact BK187.out⟩, ⟨by repeat (first | (with_reducible first | exact HB.out | apply below_alloc | apply pw_below_drewN | apply below_drew1 | refine below_set ?_ GE185.out | refine below_set ?_ GE186.out | refine below_set ?_ GE187.out) | exact HB.out)⟩⟩
    case round =>
      clear H'
      try clear c1
      try clear c2
      try clear p2
      try clear c3
      try clear c7
      try clear c8
      try clear hcz9_0
      try clear hcz9_1
      try clear hcz9_2
      try clear hcz9_3
      try clear hcz9_4
      try clear hfz9_0
      try clear hfz9_1
      try clear hfz9_2
      try clear hfz9_3
      try clear hfz9_4
      obtain ⟨x5_1, x6_1, rfl, HA, HK1, HO_5, HO_186000, BK185, BK186, BK187, HB⟩ := hrel
      cases gk with
      | zero => exact absurd HA.out (by first | (intro h_; cases h_; done) | simp [bobbinref03_Crash.l0])
      | succ k1 =>
        have H := HA.out
        clear HA
        rw [bobbinref03_Crash.l0_eq] at H
        by_cases c11 : x6_1 < (l0_1.length : Int)
        · rw [if_pos c11] at H
          have c11b0 : decide (x6_1 < (l0_1.length : Int)) = true := decide_eq_true c11
          clear c11
          have HC12 := Aside0.mk H
          clear H
          have hnb13 := NB185_186.out
          have hnc13 := NB186_185.out
          have hnb14 := NB185_187.out
          have hnc14 := NB187_185.out
          have hcz15_0 : wr.cell? ⟨gb185, 0, none⟩ = some (.slice A0_0 l0_0.length c0_0) := (blk_cell BK185.out 0).trans rfl
          have hcz15_1 : wr.cell? ⟨gb185, 1, none⟩ = some (.slice A0_1 l0_1.length c0_1) := (blk_cell BK185.out 1).trans rfl
          have hcz15_2 : wr.cell? ⟨gb185, 2, none⟩ = some (.bool a0_2) := (blk_cell BK185.out 2).trans rfl
          have hcz15_3 : wr.cell? ⟨gb185, 3, none⟩ = some (.bool a0_3) := (blk_cell BK185.out 3).trans rfl
          have hcz15_4 : wr.cell? ⟨gb185, 4, none⟩ = some (.int .i64 a0_4) := (blk_cell BK185.out 4).trans rfl
          have hfz15_0 := blk_frozen BK185.out 0
          have hfz15_1 := blk_frozen BK185.out 1
          have hfz15_2 := blk_frozen BK185.out 2
          have hfz15_3 := blk_frozen BK185.out 3
          have hfz15_4 := blk_frozen BK185.out 4
          go_upto_region 6 with (fail)
          go_cut [35] (fun v35 wc => ∃ (kq : Nat) (x35_11 : Bool), v35 = .bool x35_11 ∧ Aside0 (bobbinref03_Crash.j1 kq x5_1 x6_1 0 x35_11 l0_0 l0_1 a0_2 a0_3 a0_4 l1_0 a1_1 a1_2 = some (r1, r2, r3, r4, r5)) ∧ Aside0 (kq ≤ k1) ∧ Aside0 (Kd.N (Kd.slice 5 (Kd.int .u8)) 30 wc w.heap.size (fun k_ => (P0_0_ k_ ∨ w.heap.size ≤ k_) ∧ k_ ≠ gb185 ∧ k_ ≠ gb186 ∧ k_ ≠ gb187) v189 x5_1) ∧ Aside0 (Kd.V (Kd.slice 5 (Kd.int .u8)) 30 wc w.heap.size (fun k_ => (P0_0_ k_ ∨ w.heap.size ≤ k_) ∧ some k_ ≠ (v189 : Value).ownBlock ∧ k_ ≠ gb185 ∧ k_ ≠ gb186 ∧ k_ ≠ gb187) (.slice A0_0 l0_0.length c0_0) l0_0) ∧ Aside0 (wc.heap[gb185]? = some (.cells #[(.slice A0_0 l0_0.length c0_0), (.slice A0_1 l0_1.length c0_1), .bool a0_2, .bool a0_3, .int .i64 a0_4] 51 (0, 0))) ∧ Aside0 (wc.heap[gb186]? = some (.cells #[(.slice A1_0 l1_0.length c1_0), .int .i64 a1_1, .int .i64 a1_2] 29 (0, 0))) ∧ Aside0 (wc.heap[gb187]? = some (.cells #[(.slice none 0 0), (.slice none 0 0), .bool false, .bool false, .int .i64 0] 51 (0, 0))) ∧ Aside0 (Below w.heap.size w wc))
          case first =>
            have H := HC12.out
            clear HC12
            by_cases c16 : (l1_0.length : Int) > 0
            · rw [if_pos c16] at H
              have c16b0 : decide (0 < (l1_0.length : Int)) = true := decide_eq_true c16
              have c16b1 : decide (0 < l1_0.length) = true := decide_eq_true (by omega)
              clear c16
              (first | rw [c16b0] | (simp only [i64_w, i32_w]; rw [c16b0]) | skip)
              by_cases c17 : (l1_0.length : Int) = 0
              · rw [if_pos c17] at H
                exact absurd H (by simp)
              · rw [if_neg c17] at H
                have c17b0 : ((l1_0.length : Int) == 0) = false := beq_eq_false_iff_ne.mpr c17
                have c17b1 : ((l1_0.length : Int) != 0) = true := bne_iff_ne.mpr c17
                have c17b2 : ¬ (l1_0 = []) := fun h_ => c17 (by rw [h_]; rfl)
                obtain ⟨ji18, hji18⟩ : ∃ j_ : Int, (Int.tmod x6_1 (l1_0.length : Int)) = j_ := ⟨_, rfl⟩
                replace H : (if 0 ≤ (ji18) then (if (ji18) < (l1_0.length : Int) then (bobbinref03_Crash.j1 k1 x5_1 x6_1 0 (rdOf false l1_0 (ji18)) l0_0 l0_1 a0_2 a0_3 a0_4 l1_0 a1_1 a1_2) else (none)) else (none)) = some (r1, r2, r3, r4, r5) := by first | (rw [hji18] at H; exact H) | (simp only [hji18] at H ⊢; exact H)
                by_cases c19 : 0 ≤ (ji18)
                · rw [if_pos c19] at H
                  have c19b0 : decide (0 ≤ (ji18)) = true := decide_eq_true c19
                  clear c19
                  by_cases c20 : (ji18) < (l1_0.length : Int)
                  · rw [if_pos c20] at H
                    have c20b0 : decide ((ji18) < (l1_0.length : Int)) = true := decide_eq_true c20
                    clear c20
                    have H' := Aside0.mk H
                    clear H
                    try go_wp2
                    have n0_ := Aside0.mk (Kd.N_drew HO_5.out)
                    have n1_ := Aside0.mk (Kd.V_drew HO_186000.out)
                    have n2_ := Aside0.mk (blk_drew BK185.out)
                    have n3_ := Aside0.mk (blk_drew BK186.out)
                    have n4_ := Aside0.mk (blk_drew BK187.out)
                    have n5_ := Aside0.mk (below_drew1 HB.out)
                    clear HO_5
                    clear HO_186000
                    clear BK185
                    clear BK186
                    clear BK187
                    clear HB
                    have HO_5 := n0_
                    have HO_186000 := n1_
                    have BK185 := n2_
                    have BK186 := n3_
                    have BK187 := n4_
                    have HB := n5_
                    clear n0_ n1_ n2_ n3_ n4_ n5_
                    have p191 : 0 ≤ ((ji18) : Int) := of_decide_eq_true (by first | (with_reducible assumption) | assumption)
                    have q191 : (ji18) < (l1_0.length : Int) := of_decide_eq_true (by first | (with_reducible assumption) | assumption)
                    obtain ⟨ad191, e191, hx191_0⟩ := Kd.at_bool HR1_0.out (ji18) p191 q191
                    have hw191_0 := hx191_0
                    cases e191
                    replace hx191_0 := (HB.out.cell (World.block_lt_of_cell? w _ hx191_0)).trans hx191_0
                    replace p191 := eq_true p191
                    replace q191 := eq_true q191
                    refine start_ (n := 15) (S := fun w' => w'.cell? ⟨gb186, 0, none⟩ = some (.slice (some ad191) l1_0.length c1_0) ∧ w'.cell? ⟨gb186, 1, none⟩ = some (.int .i64 a1_1) ∧ w'.cell? ⟨gb186, 2, none⟩ = some (.int .i64 a1_2) ∧ w'.cell? (ad191.add ((ji18)).toNat) = some (.bool (rdOf false l1_0 (ji18)))) (ds := []) #[false, false, false, false, false, false, false, false, false, false, false, false, false, false, false] (by kernel_rfl) rfl rfl ⟨(blk_cell BK186.out 0).trans rfl, (blk_cell BK186.out 1).trans rfl, (blk_cell BK186.out 2).trans rfl, ((HB.out.cell (World.block_lt_of_cell? w _ hw191_0)).trans hw191_0)⟩ (fun hHeld => ?_); refine with_tabW bobbinref03_Crash.tab6 bobbinref03_Crash.bits6 (fun HT_ HW_ => ?_)
                    generalize wr.drew = w21 at HO_5 HO_186000 BK185 BK186 BK187 HB hx191_0 hHeld ⊢
                    refine pure_ (i := 0) (N := some 21) (v := ?_) (a' := ?_) #[true, false, false, false, false, false, false, false, false, false, false, false, false, false, false] rfl rfl (any_of HT_.out (by kernel_rfl)) (fun _ _ _ h => h) (Or.inl ⟨by rfl, ?_⟩) ?_ ?_
                    rotate_left
                    · intro w'
                      go_simp
                      with_reducible rfl
                    rotate_left
                    · simp only [Act.put, List.setIfInBounds_toArray, List.set_cons_zero, List.set_cons_succ, i64_w, i32_w]
                      rfl
                    refine take_ (i := 1) (N := some 22) (v := ?_) (a' := ?_) #[true, true, false, false, false, false, false, false, false, false, false, false, false, false, false] rfl rfl (take_ofW HT_.out HW_.out (by kernel_rfl)) (fun _ _ _ h => h) (Or.inl ⟨by rfl, ?_⟩) hHeld ?_ ?_
                    rotate_left
                    · rintro w' ⟨s0, s1, s2, s3⟩
                      go_simp
                      with_reducible rfl
                    rotate_left
                    · simp only [Act.put, List.setIfInBounds_toArray, List.set_cons_zero, List.set_cons_succ, i64_w, i32_w]
                      rfl
                    refine pure_ (i := 2) (N := some 23) (v := ?_) (a' := ?_) #[true, true, true, false, false, false, false, false, false, false, false, false, false, false, false] rfl rfl (any_of HT_.out (by kernel_rfl)) (fun _ _ _ h => h) (Or.inl ⟨by rfl, ?_⟩) ?_ ?_
                    rotate_left
                    · intro w'
                      go_simp
                      with_reducible rfl
                    rotate_left
                    · simp only [Act.put, List.setIfInBounds_toArray, List.set_cons_zero, List.set_cons_succ, i64_w, i32_w]
                      rfl
                    refine pure_ (i := 3) (N := some 24) (v := ?_) (a' := ?_) #[true, true, true, true, false, false, false, false, false, false, false, false, false, false, false] rfl rfl (any_of HT_.out (by kernel_rfl)) (fun _ _ _ h => h) (Or.inl ⟨by rfl, ?_⟩) ?_ ?_
                    rotate_left
                    · intro w'
                      go_simp
                      with_reducible rfl
                    rotate_left
                    · simp only [Act.put, List.setIfInBounds_toArray, List.set_cons_zero, List.set_cons_succ, i64_w, i32_w]
                      rfl
                    refine pure_ (i := 4) (N := some 25) (v := ?_) (a' := ?_) #[true, true, true, true, true, false, false, false, false, false, false, false, false, false, false] rfl rfl (any_of HT_.out (by kernel_rfl)) (fun _ _ _ h => h) (Or.inl ⟨by rfl, ?_⟩) ?_ ?_
                    rotate_left
                    · intro w'
                      go_simp
                      with_reducible rfl
                    rotate_left
                    · simp only [Act.put, List.setIfInBounds_toArray, List.set_cons_zero, List.set_cons_succ, i64_w, i32_w]
                      rfl
                    refine pure_ (i := 5) (N := some 26) (v := ?_) (a' := ?_) #[true, true, true, true, true, true, false, false, false, false, false, false, false, false, false] rfl rfl (any_of HT_.out (by kernel_rfl)) (fun _ _ _ h => h) (Or.inl ⟨by rfl, ?_⟩) ?_ ?_
                    rotate_left
                    · intro w'
                      go_simp
                      with_reducible rfl
                    rotate_left
                    · simp only [Act.put, List.setIfInBounds_toArray, List.set_cons_zero, List.set_cons_succ, i64_w, i32_w]
                      rfl
                    refine pure_ (i := 7) (N := some 28) (v := ?_) (a' := ?_) #[true, true, true, true, true, true, false, true, false, false, false, false, false, false, false] rfl rfl (any_of HT_.out (by kernel_rfl)) (fun _ _ _ h => h) (Or.inl ⟨by rfl, ?_⟩) ?_ ?_
                    rotate_left
                    · intro w'
                      go_simp
                      with_reducible rfl
                    rotate_left
                    · simp only [Act.put, List.setIfInBounds_toArray, List.set_cons_zero, List.set_cons_succ, i64_w, i32_w]
                      rfl
                    refine pure_ (i := 8) (N := some 29) (v := ?_) (a' := ?_) #[true, true, true, true, true, true, false, true, true, false, false, false, false, false, false] rfl rfl (any_of HT_.out (by kernel_rfl)) (fun _ _ _ h => h) (Or.inl ⟨by rfl, ?_⟩) ?_ ?_
                    rotate_left
                    · intro w'
                      go_simp
                      with_reducible rfl
                    rotate_left
                    · simp only [Act.put, List.setIfInBounds_toArray, List.set_cons_zero, List.set_cons_succ, i64_w, i32_w]
                      rfl
                    refine take_ (i := 6) (N := some 27) (v := ?_) (a' := ?_) #[true, true, true, true, true, true, true, true, true, false, false, false, false, false, false] rfl rfl (take_ofW HT_.out HW_.out (by kernel_rfl)) (fun _ _ _ h => h) (Or.inl ⟨by rfl, ?_⟩) hHeld ?_ ?_
                    rotate_left
                    · rintro w' ⟨s0, s1, s2, s3⟩
                      go_simp
                      with_reducible rfl
                    rotate_left
                    · simp only [Act.put, List.setIfInBounds_toArray, List.set_cons_zero, List.set_cons_succ, i64_w, i32_w]
                      rfl
                    refine take_ (i := 9) (N := some 30) (v := ?_) (a' := ?_) #[true, true, true, true, true, true, true, true, true, true, false, false, false, false, false] rfl rfl (take_ofW HT_.out HW_.out (by kernel_rfl)) (fun _ _ _ h => h) (Or.inl ⟨by rfl, ?_⟩) hHeld ?_ ?_
                    rotate_left
                    · rintro w' ⟨s0, s1, s2, s3⟩
                      go_simp
                      with_reducible rfl
                    rotate_left
                    · simp only [Act.put, List.setIfInBounds_toArray, List.set_cons_zero, List.set_cons_succ, i64_w, i32_w]
                      rfl
                    refine pure_ (i := 10) (N := some 31) (v := ?_) (a' := ?_) #[true, true, true, true, true, true, true, true, true, true, true, false, false, false, false] rfl rfl (any_of HT_.out (by kernel_rfl)) (fun _ _ _ h => h) (Or.inl ⟨by rfl, ?_⟩) ?_ ?_
                    rotate_left
                    · intro w'
                      go_simp
                      with_reducible rfl
                    rotate_left
                    · simp only [Act.put, List.setIfInBounds_toArray, List.set_cons_zero, List.set_cons_succ, i64_w, i32_w]
                      rfl
                    refine pure_ (i := 11) (N := some 32) (v := ?_) (a' := ?_) #[true, true, true, true, true, true, true, true, true, true, true, true, false, false, false] rfl rfl (any_of HT_.out (by kernel_rfl)) (fun _ _ _ h => h) (Or.inl ⟨by rfl, ?_⟩) ?_ ?_
                    rotate_left
                    · intro w'
                      go_simp
                      with_reducible rfl
                    rotate_left
                    · simp only [Act.put, List.setIfInBounds_toArray, List.set_cons_zero, List.set_cons_succ, i64_w, i32_w]
                      rfl
                    refine pure_ (i := 12) (N := some 33) (v := ?_) (a' := ?_) #[true, true, true, true, true, true, true, true, true, true, true, true, true, false, false] rfl rfl (any_of HT_.out (by kernel_rfl)) (fun _ _ _ h => h) (Or.inl ⟨by rfl, ?_⟩) ?_ ?_
                    rotate_left
                    · intro w'
                      go_simp
                      with_reducible rfl
                    rotate_left
                    · simp only [Act.put, List.setIfInBounds_toArray, List.set_cons_zero, List.set_cons_succ, i64_w, i32_w]
                      rfl
                    refine take_ (i := 13) (N := some 34) (v := ?_) (a' := ?_) #[true, true, true, true, true, true, true, true, true, true, true, true, true, true, false] rfl rfl (take_ofW HT_.out HW_.out (by kernel_rfl)) (fun _ _ _ h => h) (Or.inl ⟨by rfl, ?_⟩) hHeld ?_ ?_
                    rotate_left
                    · rintro w' ⟨s0, s1, s2, s3⟩
                      go_simp
                      with_reducible rfl
                    rotate_left
                    · simp only [Act.put, List.setIfInBounds_toArray, List.set_cons_zero, List.set_cons_succ, i64_w, i32_w]
                      rfl
                    refine pure_ (i := 14) (N := some 35) (v := ?_) (a' := ?_) #[true, true, true, true, true, true, true, true, true, true, true, true, true, true, true] rfl rfl (any_of HT_.out (by kernel_rfl)) (fun _ _ _ h => h) (Or.inl ⟨by rfl, ?_⟩) ?_ ?_
                    rotate_left
                    · intro w'
                      go_simp
                      with_reducible rfl
                    rotate_left
                    · simp only [Act.put, List.setIfInBounds_toArray, List.set_cons_zero, List.set_cons_succ, i64_w, i32_w]
                      rfl
                    refine done_ (done_of HT_.out (by kernel_rfl)) ?_
                    try go_wp2
                    go_meet
                    case rel => exact ⟨_, (rdOf false l1_0 (ji18)), (by first | rfl | (simp; done) | (simp only [← hji18] <;> (first | rfl | simp)) | (simp [*]; done)), H', ⟨by have := HK1.out; first | omega | exact Nat.le_refl _⟩, ⟨by (with_reducible repeat (first | apply Kd.N_alloc | apply Kd.N_drewN | apply Kd.N_drew)); exact HO_5.out⟩, ⟨by (with_reducible repeat (first | apply Kd.V_alloc | apply Kd.V_drewN | apply Kd.V_drew)); exact HO_186000.out⟩, ⟨by (with_reducible repeat (first | refine blk_drewN ?_ _ | refine blk_drew ?_ | refine blk_alloc ?_ _)); exact BK185.out⟩, ⟨by (with_reducible repeat (first | refine blk_drewN ?_ _ | refine blk_drew ?_ | refine blk_alloc ?_ _)); exact BK186.out⟩, ⟨by (with_reducible repeat (first | refine blk_drewN ?_ _ | refine blk_drew ?_ | refine blk_alloc ?_ _)); exact BK187.out⟩, ⟨by repeat (first | (with_reducible first | exact HB.out | apply below_alloc | apply pw_below_drewN | apply below_drew1 | refine below_set ?_ GE185.out | refine below_set ?_ GE186.out | refine below_set ?_ GE187.out) | exact HB.out)⟩⟩
                  · rw [if_neg c20] at H
                    exact absurd H (by simp)
                · rw [if_neg c19] at H
                  exact absurd H (by simp)
            · rw [if_neg c16] at H
              have c16b0 : decide (0 < (l1_0.length : Int)) = false := decide_eq_false c16
              have c16b1 : decide (0 < l1_0.length) = false := decide_eq_false (by omega)
              clear c16
              (first | rw [c16b0] | (simp only [i64_w, i32_w]; rw [c16b0]) | skip)
              have H' := Aside0.mk H
              clear H
              try go_wp2
              have n0_ := Aside0.mk (Kd.N_drew HO_5.out)
              have n1_ := Aside0.mk (Kd.V_drew HO_186000.out)
              have n2_ := Aside0.mk (blk_drew BK185.out)
              have n3_ := Aside0.mk (blk_drew BK186.out)
              have n4_ := Aside0.mk (blk_drew BK187.out)
              have n5_ := Aside0.mk (below_drew1 HB.out)
              clear HO_5
              clear HO_186000
              clear BK185
              clear BK186
              clear BK187
              clear HB
              have HO_5 := n0_
              have HO_186000 := n1_
              have BK185 := n2_
              have BK186 := n3_
              have BK187 := n4_
              have HB := n5_
              clear n0_ n1_ n2_ n3_ n4_ n5_
              refine start_ (n := 15) (S := fun w' => w'.cell? ⟨gb186, 0, none⟩ = some (.slice A1_0 l1_0.length c1_0) ∧ w'.cell? ⟨gb186, 1, none⟩ = some (.int .i64 a1_1) ∧ w'.cell? ⟨gb186, 2, none⟩ = some (.int .i64 a1_2)) (ds := []) #[false, false, false, false, false, false, false, false, false, false, false, false, false, false, false] (by kernel_rfl) rfl rfl ⟨(blk_cell BK186.out 0).trans rfl, (blk_cell BK186.out 1).trans rfl, (blk_cell BK186.out 2).trans rfl⟩ (fun hHeld => ?_); refine with_tabW bobbinref03_Crash.tab6 bobbinref03_Crash.bits6 (fun HT_ HW_ => ?_)
              generalize wr.drew = w22 at HO_5 HO_186000 BK185 BK186 BK187 HB hHeld ⊢
              refine pure_ (i := 0) (N := some 21) (v := ?_) (a' := ?_) #[true, false, false, false, false, false, false, false, false, false, false, false, false, false, false] rfl rfl (any_of HT_.out (by kernel_rfl)) (fun _ _ _ h => h) (Or.inl ⟨by rfl, ?_⟩) ?_ ?_
              rotate_left
              · intro w'
                go_simp
                with_reducible rfl
              rotate_left
              · simp only [Act.put, List.setIfInBounds_toArray, List.set_cons_zero, List.set_cons_succ, i64_w, i32_w]
                rfl
              refine take_ (i := 1) (N := some 22) (v := ?_) (a' := ?_) #[true, true, false, false, false, false, false, false, false, false, false, false, false, false, false] rfl rfl (take_ofW HT_.out HW_.out (by kernel_rfl)) (fun _ _ _ h => h) (Or.inl ⟨by rfl, ?_⟩) hHeld ?_ ?_
              rotate_left
              · rintro w' ⟨s0, s1, s2⟩
                go_simp
                with_reducible rfl
              rotate_left
              · simp only [Act.put, List.setIfInBounds_toArray, List.set_cons_zero, List.set_cons_succ, i64_w, i32_w]
                rfl
              refine pure_ (i := 2) (N := some 23) (v := ?_) (a' := ?_) #[true, true, true, false, false, false, false, false, false, false, false, false, false, false, false] rfl rfl (any_of HT_.out (by kernel_rfl)) (fun _ _ _ h => h) (Or.inl ⟨by rfl, ?_⟩) ?_ ?_
              rotate_left
              · intro w'
                go_simp
                with_reducible rfl
              rotate_left
              · simp only [Act.put, List.setIfInBounds_toArray, List.set_cons_zero, List.set_cons_succ, i64_w, i32_w]
                rfl
              refine pure_ (i := 3) (N := some 24) (v := ?_) (a' := ?_) #[true, true, true, true, false, false, false, false, false, false, false, false, false, false, false] rfl rfl (any_of HT_.out (by kernel_rfl)) (fun _ _ _ h => h) (Or.inl ⟨by rfl, ?_⟩) ?_ ?_
              rotate_left
              · intro w'
                go_simp
                with_reducible rfl
              rotate_left
              · simp only [Act.put, List.setIfInBounds_toArray, List.set_cons_zero, List.set_cons_succ, i64_w, i32_w]
                rfl
              refine pure_ (i := 4) (N := some 25) (v := ?_) (a' := ?_) #[true, true, true, true, true, false, false, false, false, false, false, false, false, false, false] rfl rfl (any_of HT_.out (by kernel_rfl)) (fun _ _ _ h => h) (Or.inl ⟨by rfl, ?_⟩) ?_ ?_
              rotate_left
              · intro w'
                go_simp
                with_reducible rfl
              rotate_left
              · simp only [Act.put, List.setIfInBounds_toArray, List.set_cons_zero, List.set_cons_succ, i64_w, i32_w]
                rfl
              refine pure_ (i := 5) (N := some 26) (v := undef) (a' := ?_) #[true, true, true, true, true, true, false, false, false, false, false, false, false, false, false] rfl rfl (any_of HT_.out (by kernel_rfl)) (fun _ _ _ h => h) (Or.inr ⟨by rfl, rfl⟩) ?_ ?_
              rotate_left
              · simp only [Act.put, List.setIfInBounds_toArray, List.set_cons_zero, List.set_cons_succ, i64_w, i32_w]
                rfl
              refine pure_ (i := 6) (N := some 27) (v := undef) (a' := ?_) #[true, true, true, true, true, true, true, false, false, false, false, false, false, false, false] rfl rfl (any_of HT_.out (by kernel_rfl)) (fun _ _ _ h => h) (Or.inr ⟨by rfl, rfl⟩) ?_ ?_
              rotate_left
              · simp only [Act.put, List.setIfInBounds_toArray, List.set_cons_zero, List.set_cons_succ, i64_w, i32_w]
                rfl
              refine pure_ (i := 7) (N := some 28) (v := undef) (a' := ?_) #[true, true, true, true, true, true, true, true, false, false, false, false, false, false, false] rfl rfl (any_of HT_.out (by kernel_rfl)) (fun _ _ _ h => h) (Or.inr ⟨by rfl, rfl⟩) ?_ ?_
              rotate_left
              · simp only [Act.put, List.setIfInBounds_toArray, List.set_cons_zero, List.set_cons_succ, i64_w, i32_w]
                rfl
              refine pure_ (i := 8) (N := some 29) (v := undef) (a' := ?_) #[true, true, true, true, true, true, true, true, true, false, false, false, false, false, false] rfl rfl (any_of HT_.out (by kernel_rfl)) (fun _ _ _ h => h) (Or.inr ⟨by rfl, rfl⟩) ?_ ?_
              rotate_left
              · simp only [Act.put, List.setIfInBounds_toArray, List.set_cons_zero, List.set_cons_succ, i64_w, i32_w]
                rfl
              refine pure_ (i := 9) (N := some 30) (v := undef) (a' := ?_) #[true, true, true, true, true, true, true, true, true, true, false, false, false, false, false] rfl rfl (any_of HT_.out (by kernel_rfl)) (fun _ _ _ h => h) (Or.inr ⟨by rfl, rfl⟩) ?_ ?_
              rotate_left
              · simp only [Act.put, List.setIfInBounds_toArray, List.set_cons_zero, List.set_cons_succ, i64_w, i32_w]
                rfl
              refine pure_ (i := 10) (N := some 31) (v := undef) (a' := ?_) #[true, true, true, true, true, true, true, true, true, true, true, false, false, false, false] rfl rfl (any_of HT_.out (by kernel_rfl)) (fun _ _ _ h => h) (Or.inr ⟨by rfl, rfl⟩) ?_ ?_
              rotate_left
              · simp only [Act.put, List.setIfInBounds_toArray, List.set_cons_zero, List.set_cons_succ, i64_w, i32_w]
                rfl
              refine pure_ (i := 11) (N := some 32) (v := undef) (a' := ?_) #[true, true, true, true, true, true, true, true, true, true, true, true, false, false, false] rfl rfl (any_of HT_.out (by kernel_rfl)) (fun _ _ _ h => h) (Or.inr ⟨by rfl, rfl⟩) ?_ ?_
              rotate_left
              · simp only [Act.put, List.setIfInBounds_toArray, List.set_cons_zero, List.set_cons_succ, i64_w, i32_w]
                rfl
              refine pure_ (i := 12) (N := some 33) (v := undef) (a' := ?_) #[true, true, true, true, true, true, true, true, true, true, true, true, true, false, false] rfl rfl (any_of HT_.out (by kernel_rfl)) (fun _ _ _ h => h) (Or.inr ⟨by rfl, rfl⟩) ?_ ?_
              rotate_left
              · simp only [Act.put, List.setIfInBounds_toArray, List.set_cons_zero, List.set_cons_succ, i64_w, i32_w]
                rfl
              refine pure_ (i := 13) (N := some 34) (v := undef) (a' := ?_) #[true, true, true, true, true, true, true, true, true, true, true, true, true, true, false] rfl rfl (any_of HT_.out (by kernel_rfl)) (fun _ _ _ h => h) (Or.inr ⟨by rfl, rfl⟩) ?_ ?_
              rotate_left
              · simp only [Act.put, List.setIfInBounds_toArray, List.set_cons_zero, List.set_cons_succ, i64_w, i32_w]
                rfl
              refine pure_ (i := 14) (N := some 35) (v := ?_) (a' := ?_) #[true, true, true, true, true, true, true, true, true, true, true, true, true, true, true] rfl rfl (any_of HT_.out (by kernel_rfl)) (fun _ _ _ h => h) (Or.inl ⟨by rfl, ?_⟩) ?_ ?_
              rotate_left
              · intro w'
                go_simp
                with_reducible rfl
              rotate_left
              · simp only [Act.put, List.setIfInBounds_toArray, List.set_cons_zero, List.set_cons_succ, i64_w, i32_w]
                rfl
              refine done_ (done_of HT_.out (by kernel_rfl)) ?_
              try go_wp2
              go_meet
              case rel => exact ⟨_, (false), (by first | rfl | (simp; done) | (simp [*]; done)), H', ⟨by have := HK1.out; first | omega | exact Nat.le_refl _⟩, ⟨by (with_reducible repeat (first | apply Kd.N_alloc | apply Kd.N_drewN | apply Kd.N_drew)); exact HO_5.out⟩, ⟨by (with_reducible repeat (first | apply Kd.V_alloc | apply Kd.V_drewN | apply Kd.V_drew)); exact HO_186000.out⟩, ⟨by (with_reducible repeat (first | refine blk_drewN ?_ _ | refine blk_drew ?_ | refine blk_alloc ?_ _)); exact BK185.out⟩, ⟨by (with_reducible repeat (first | refine blk_drewN ?_ _ | refine blk_drew ?_ | refine blk_alloc ?_ _)); exact BK186.out⟩, ⟨by (with_reducible repeat (first | refine blk_drewN ?_ _ | refine blk_drew ?_ | refine blk_alloc ?_ _)); exact BK187.out⟩, ⟨by repeat (first | (with_reducible first | exact HB.out | apply below_alloc | apply pw_below_drewN | apply below_drew1 | refine below_set ?_ GE185.out | refine below_set ?_ GE186.out | refine below_set ?_ GE187.out) | exact HB.out)⟩⟩
          case rest =>
            clear HC12
            try clear c1
            try clear p1
            try clear q1
            try clear hx1
            try clear c2
            try clear p2
            try clear c3
            try clear c7
            try clear c8
            try clear c11
            try clear c11b0
            try clear c13
            try clear c14
            try clear c16
            try clear c16b0
            try clear c16b1
            try clear c17
            try clear c17b0
            try clear c17b1
            try clear c17b2
            try clear c19
            try clear c19b0
            try clear p19
            try clear q19
            try clear hx19
            try clear c20
            try clear c20b0
            try clear hcz15_0
            try clear hcz15_1
            try clear hcz15_2
            try clear hcz15_3
            try clear hcz15_4
            try clear hcz9_0
            try clear hcz9_1
            try clear hcz9_2
            try clear hcz9_3
            try clear hcz9_4
            try clear hfz15_0
            try clear hfz15_1
            try clear hfz15_2
            try clear hfz15_3
            try clear hfz15_4
            try clear hfz9_0
            try clear hfz9_1
            try clear hfz9_2
            try clear hfz9_3
            try clear hfz9_4
            try clear hx191_0
            try clear p191
            try clear p2
            try clear q191
            obtain ⟨kq, x35_11, rfl, HA, HJ11, HO_5, HO_186000, BK185, BK186, BK187, HB⟩ := hcut
            cases kq with
            | zero => exact absurd HA.out (by first | (intro h_; cases h_; done) | simp [bobbinref03_Crash.j1])
            | succ kj11 =>
              have H := HA.out
              clear HA
              rw [bobbinref03_Crash.j1_eq] at H
              have HC23 := Aside0.mk H
              clear H
              go_upto_if 35 with (fail)
              go_cut [7] (fun v7 wc => ∃ (kq : Nat) (x7_22 : Int), v7 = .int .i64 x7_22 ∧ Aside0 (bobbinref03_Crash.j2 kq x5_1 x6_1 x7_22 l0_0 l0_1 a0_2 a0_3 a0_4 l1_0 a1_1 a1_2 = some (r1, r2, r3, r4, r5)) ∧ Aside0 (kq ≤ kj11) ∧ Aside0 (Kd.N (Kd.slice 5 (Kd.int .u8)) 30 wc w.heap.size (fun k_ => (P0_0_ k_ ∨ w.heap.size ≤ k_) ∧ k_ ≠ gb185 ∧ k_ ≠ gb186 ∧ k_ ≠ gb187) v189 x5_1) ∧ Aside0 (Kd.V (Kd.slice 5 (Kd.int .u8)) 30 wc w.heap.size (fun k_ => (P0_0_ k_ ∨ w.heap.size ≤ k_) ∧ some k_ ≠ (v189 : Value).ownBlock ∧ k_ ≠ gb185 ∧ k_ ≠ gb186 ∧ k_ ≠ gb187) (.slice A0_0 l0_0.length c0_0) l0_0) ∧ Aside0 (wc.heap[gb185]? = some (.cells #[(.slice A0_0 l0_0.length c0_0), (.slice A0_1 l0_1.length c0_1), .bool a0_2, .bool a0_3, .int .i64 a0_4] 51 (0, 0))) ∧ Aside0 (wc.heap[gb186]? = some (.cells #[(.slice A1_0 l1_0.length c1_0), .int .i64 a1_1, .int .i64 a1_2] 29 (0, 0))) ∧ Aside0 (wc.heap[gb187]? = some (.cells #[(.slice none 0 0), (.slice none 0 0), .bool false, .bool false, .int .i64 0] 51 (0, 0))) ∧ Aside0 (Below w.heap.size w wc))
              case first =>
                have H := HC23.out
                clear HC23
                by_cases c24 : x35_11 = true
                · subst c24
                  have H1 : (bobbinref03_Crash.j2 kj11 x5_1 x6_1 256 l0_0 l0_1 a0_2 a0_3 a0_4 l1_0 a1_1 a1_2) = some (r1, r2, r3, r4, r5) := by rw [if_pos rfl] at H; exact H
                  clear H
                  have H := H1
                  clear H1
                  have H' := Aside0.mk H
                  clear H
                  go_wp2
                  go_meet
                  case rel => exact ⟨_, (256), (by first | rfl | (simp; done) | (simp [*]; done)), H', ⟨by have := HK1.out; have := HJ11.out; first | omega | exact Nat.le_refl _⟩, ⟨by (with_reducible repeat (first | apply Kd.N_alloc | apply Kd.N_drewN | apply Kd.N_drew)); exact HO_5.out⟩, ⟨by (with_reducible repeat (first | apply Kd.V_alloc | apply Kd.V_drewN | apply Kd.V_drew)); exact HO_186000.out⟩, ⟨by (with_reducible repeat (first | refine blk_drewN ?_ _ | refine blk_drew ?_ | refine blk_alloc ?_ _)); exact BK185.out⟩, ⟨by (with_reducible repeat (first | refine blk_drewN ?_ _ | refine blk_drew ?_ | refine blk_alloc ?_ _)); exact BK186.out⟩, ⟨by (with_reducible repeat (first | refine blk_drewN ?_ _ | refine blk_drew ?_ | refine blk_alloc ?_ _)); exact BK187.out⟩, ⟨by repeat (first | (with_reducible first | exact HB.out | apply below_alloc | apply pw_below_drewN | apply below_drew1 | refine below_set ?_ GE185.out | refine below_set ?_ GE186.out | refine below_set ?_ GE187.out) | exact HB.out)⟩⟩
                · replace c24 := Bool.eq_false_iff.mpr c24
                  subst c24
                  have H1 : (bobbinref03_Crash.j2 kj11 x5_1 x6_1 0 l0_0 l0_1 a0_2 a0_3 a0_4 l1_0 a1_1 a1_2) = some (r1, r2, r3, r4, r5) := by rw [if_neg (show ¬ (false = true) by decide)] at H; exact H
                  clear H
                  have H := H1
                  clear H1
                  have H' := Aside0.mk H
                  clear H
                  go_wp2
                  go_meet
                  case rel => exact ⟨_, (0), (by first | rfl | (simp; done) | (simp [*]; done)), H', ⟨by have := HK1.out; have := HJ11.out; first | omega | exact Nat.le_refl _⟩, ⟨by (with_reducible repeat (first | apply Kd.N_alloc | apply Kd.N_drewN | apply Kd.N_drew)); exact HO_5.out⟩, ⟨by (with_reducible repeat (first | apply Kd.V_alloc | apply Kd.V_drewN | apply Kd.V_drew)); exact HO_186000.out⟩, ⟨by (with_reducible repeat (first | refine blk_drewN ?_ _ | refine blk_drew ?_ | refine blk_alloc ?_ _)); exact BK185.out⟩, ⟨by (with_reducible repeat (first | refine blk_drewN ?_ _ | refine blk_drew ?_ | refine blk_alloc ?_ _)); exact BK186.out⟩, ⟨by (with_reducible repeat (first | refine blk_drewN ?_ _ | refine blk_drew ?_ | refine blk_alloc ?_ _)); exact BK187.out⟩, ⟨by repeat (first | (with_reducible first | exact HB.out | apply below_alloc | apply pw_below_drewN | apply below_drew1 | refine below_set ?_ GE185.out | refine below_set ?_ GE186.out | refine below_set ?_ GE187.out) | exact HB.out)⟩⟩
              case rest =>
                clear HC23
                try clear c1
                try clear p1
                try clear q1
                try clear hx1
                try clear c2
                try clear p2
                try clear c3
                try clear c7
                try clear c8
                try clear c11
                try clear c11b0
                try clear c13
                try clear c14
                try clear c16
                try clear c16b0
                try clear c16b1
                try clear c17
                try clear c17b0
                try clear c17b1
                try clear c17b2
                try clear c19
                try clear c19b0
                try clear p19
                try clear q19
                try clear hx19
                try clear c20
                try clear c20b0
                try clear c24
                try clear hcz15_0
                try clear hcz15_1
                try clear hcz15_2
                try clear hcz15_3
                try clear hcz15_4
                try clear hcz9_0
                try clear hcz9_1
                try clear hcz9_2
                try clear hcz9_3
                try clear hcz9_4
                try clear hfz15_0
                try clear hfz15_1
                try clear hfz15_2
                try clear hfz15_3
                try clear hfz15_4
                try clear hfz9_0
                try clear hfz9_1
                try clear hfz9_2
                try clear hfz9_3
                try clear hfz9_4
                try clear hx191_0
                try clear p1
                try clear p19
                try clear p191
                try clear p2
                try clear q1
                try clear q19
                try clear q191
                obtain ⟨kq, x7_22, rfl, HA, HJ22, HO_5, HO_186000, BK185, BK186, BK187, HB⟩ := hcut
                cases kq with
                | zero => exact absurd HA.out (by first | (intro h_; cases h_; done) | simp [bobbinref03_Crash.j2])
                | succ kj22 =>
                  have H := HA.out
                  clear HA
                  rw [bobbinref03_Crash.j2_eq] at H
                  have HC25 := Aside0.mk H
                  clear H
                  have hnb26 := NB186_185.out
                  have hnc26 := NB185_186.out
                  have hnb27 := NB186_187.out
                  have hnc27 := NB187_186.out
                  have hcz28_0 : wc.cell? ⟨gb186, 0, none⟩ = some (.slice A1_0 l1_0.length c1_0) := (blk_cell BK186.out 0).trans rfl
                  have hcz28_1 : wc.cell? ⟨gb186, 1, none⟩ = some (.int .i64 a1_1) := (blk_cell BK186.out 1).trans rfl
                  have hcz28_2 : wc.cell? ⟨gb186, 2, none⟩ = some (.int .i64 a1_2) := (blk_cell BK186.out 2).trans rfl
                  have hfz28_0 := blk_frozen BK186.out 0
                  have hfz28_1 := blk_frozen BK186.out 1
                  have hfz28_2 := blk_frozen BK186.out 2
                  go_upto_if 39 with (fail)
                  go_cut [7] (fun v7 wc => ∃ (kq : Nat) (x7_24 : Int), v7 = .int .i64 x7_24 ∧ Aside0 (bobbinref03_Crash.j3 kq x5_1 x6_1 x7_24 l0_0 l0_1 a0_2 a0_3 a0_4 l1_0 a1_1 a1_2 = some (r1, r2, r3, r4, r5)) ∧ Aside0 (kq ≤ kj22) ∧ Aside0 (Kd.N (Kd.slice 5 (Kd.int .u8)) 30 wc w.heap.size (fun k_ => (P0_0_ k_ ∨ w.heap.size ≤ k_) ∧ k_ ≠ gb185 ∧ k_ ≠ gb186 ∧ k_ ≠ gb187) v189 x5_1) ∧ Aside0 (Kd.V (Kd.slice 5 (Kd.int .u8)) 30 wc w.heap.size (fun k_ => (P0_0_ k_ ∨ w.heap.size ≤ k_) ∧ some k_ ≠ (v189 : Value).ownBlock ∧ k_ ≠ gb185 ∧ k_ ≠ gb186 ∧ k_ ≠ gb187) (.slice A0_0 l0_0.length c0_0) l0_0) ∧ Aside0 (wc.heap[gb185]? = some (.cells #[(.slice A0_0 l0_0.length c0_0), (.slice A0_1 l0_1.length c0_1), .bool a0_2, .bool a0_3, .int .i64 a0_4] 51 (0, 0))) ∧ Aside0 (wc.heap[gb186]? = some (.cells #[(.slice A1_0 l1_0.length c1_0), .int .i64 a1_1, .int .i64 a1_2] 29 (0, 0))) ∧ Aside0 (wc.heap[gb187]? = some (.cells #[(.slice none 0 0), (.slice none 0 0), .bool false, .bool false, .int .i64 0] 51 (0, 0))) ∧ Aside0 (Below w.heap.size w wc))
                  case first =>
                    have H := HC25.out
                    clear HC25
                    by_cases c29 : x6_1 = a1_1
                    · rw [if_pos c29] at H
                      have c29b0 : (x6_1 == a1_1) = true := beq_iff_eq.mpr c29
                      have c29b1 : (x6_1 != a1_1) = false := bne_eq_false_iff_eq.mpr c29
                      clear c29
                      (first | rw [c29b0] | (simp only [i64_w, i32_w]; rw [c29b0]) | skip)
                      have H' := Aside0.mk H
                      clear H
                      have hnb30 := NB186_185.out
                      have hnc30 := NB185_186.out
                      have hnb31 := NB186_187.out
                      have hnc31 := NB187_186.out
                      have hcz32_0 : wc.cell? ⟨gb186, 0, none⟩ = some (.slice A1_0 l1_0.length c1_0) := (blk_cell BK186.out 0).trans rfl
                      have hcz32_1 : wc.cell? ⟨gb186, 1, none⟩ = some (.int .i64 a1_1) := (blk_cell BK186.out 1).trans rfl
                      have hcz32_2 : wc.cell? ⟨gb186, 2, none⟩ = some (.int .i64 a1_2) := (blk_cell BK186.out 2).trans rfl
                      have hfz32_0 := blk_frozen BK186.out 0
                      have hfz32_1 := blk_frozen BK186.out 1
                      have hfz32_2 := blk_frozen BK186.out 2
                      go_wp2
                      go_meet
                      case rel => exact ⟨_, (a1_2), (by first | rfl | (simp; done) | (simp [*]; done)), H', ⟨by have := HK1.out; have := HJ11.out; have := HJ22.out; first | omega | exact Nat.le_refl _⟩, ⟨by (with_reducible repeat (first | apply Kd.N_alloc | apply Kd.N_drewN | apply Kd.N_drew)); exact HO_5.out⟩, ⟨by (with_reducible repeat (first | apply Kd.V_alloc | apply Kd.V_drewN | apply Kd.V_drew)); exact HO_186000.out⟩, ⟨by (with_reducible repeat (first | refine blk_drewN ?_ _ | refine blk_drew ?_ | refine blk_alloc ?_ _)); exact BK185.out⟩, ⟨by (with_reducible repeat (first | refine blk_drewN ?_ _ | refine blk_drew ?_ | refine blk_alloc ?_ _)); exact BK186.out⟩, ⟨by (with_reducible repeat (first | refine blk_drewN ?_ _ | refine blk_drew ?_ | refine blk_alloc ?_ _)); exact BK187.out⟩, ⟨by repeat (first | (with_reducible first | exact HB.out | apply below_alloc | apply pw_below_drewN | apply below_drew1 | refine below_set ?_ GE185.out | refine below_set ?_ GE186.out | refine below_set ?_ GE187.out) | exact HB.out)⟩⟩
                    · rw [if_neg c29] at H
                      have c29b0 : (x6_1 == a1_1) = false := beq_eq_false_iff_ne.mpr c29
                      have c29b1 : (x6_1 != a1_1) = true := bne_iff_ne.mpr c29
                      (first | rw [c29b0] | (simp only [i64_w, i32_w]; rw [c29b0]) | skip)
                      have H' := Aside0.mk H
                      clear H
                      go_wp2
                      go_meet
                      case rel => exact ⟨_, (x7_22), (by first | rfl | (simp; done) | (simp [*]; done)), H', ⟨by have := HK1.out; have := HJ11.out; have := HJ22.out; first | omega | exact Nat.le_refl _⟩, ⟨by (with_reducible repeat (first | apply Kd.N_alloc | apply Kd.N_drewN | apply Kd.N_drew)); exact HO_5.out⟩, ⟨by (with_reducible repeat (first | apply Kd.V_alloc | apply Kd.V_drewN | apply Kd.V_drew)); exact HO_186000.out⟩, ⟨by (with_reducible repeat (first | refine blk_drewN ?_ _ | refine blk_drew ?_ | refine blk_alloc ?_ _)); exact BK185.out⟩, ⟨by (with_reducible repeat (first | refine blk_drewN ?_ _ | refine blk_drew ?_ | refine blk_alloc ?_ _)); exact BK186.out⟩, ⟨by (with_reducible repeat (first | refine blk_drewN ?_ _ | refine blk_drew ?_ | refine blk_alloc ?_ _)); exact BK187.out⟩, ⟨by repeat (first | (with_reducible first | exact HB.out | apply below_alloc | apply pw_below_drewN | apply below_drew1 | refine below_set ?_ GE185.out | refine below_set ?_ GE186.out | refine below_set ?_ GE187.out) | exact HB.out)⟩⟩
                  case rest =>
                    clear HC25
                    try clear c1
                    try clear p1
                    try clear q1
                    try clear hx1
                    try clear c2
                    try clear p2
                    try clear c3
                    try clear c7
                    try clear c8
                    try clear c11
                    try clear c11b0
                    try clear c13
                    try clear c14
                    try clear c16
                    try clear c16b0
                    try clear c16b1
                    try clear c17
                    try clear c17b0
                    try clear c17b1
                    try clear c17b2
                    try clear c19
                    try clear c19b0
                    try clear p19
                    try clear q19
                    try clear hx19
                    try clear c20
                    try clear c20b0
                    try clear c24
                    try clear c26
                    try clear c27
                    try clear c29
                    try clear c29b0
                    try clear c29b1
                    try clear c30
                    try clear c31
                    try clear hcz15_0
                    try clear hcz15_1
                    try clear hcz15_2
                    try clear hcz15_3
                    try clear hcz15_4
                    try clear hcz28_0
                    try clear hcz28_1
                    try clear hcz28_2
                    try clear hcz32_0
                    try clear hcz32_1
                    try clear hcz32_2
                    try clear hcz9_0
                    try clear hcz9_1
                    try clear hcz9_2
                    try clear hcz9_3
                    try clear hcz9_4
                    try clear hfz15_0
                    try clear hfz15_1
                    try clear hfz15_2
                    try clear hfz15_3
                    try clear hfz15_4
                    try clear hfz28_0
                    try clear hfz28_1
                    try clear hfz28_2
                    try clear hfz32_0
                    try clear hfz32_1
                    try clear hfz32_2
                    try clear hfz9_0
                    try clear hfz9_1
                    try clear hfz9_2
                    try clear hfz9_3
                    try clear hfz9_4
                    try clear hx191_0
                    try clear p1
                    try clear p19
                    try clear p191
                    try clear p2
                    try clear q1
                    try clear q19
                    try clear q191
                    obtain ⟨kq, x7_24, rfl, HA, HJ24, HO_5, HO_186000, BK185, BK186, BK187, HB⟩ := hcut
                    cases kq with
                    | zero => exact absurd HA.out (by first | (intro h_; cases h_; done) | simp [bobbinref03_Crash.j3])
                    | succ kj24 =>
                      have H := HA.out
                      clear HA
                      rw [bobbinref03_Crash.j3_eq] at H
                      by_cases c33 : x7_24 < 0
                      · rw [if_pos c33] at H
                        have c33b0 : decide (x7_24 < 0) = true := decide_eq_true c33
                        clear c33
                        by_cases c34 : 0 > 256
                        · exact absurd c34 (by decide)
                        · rw [if_neg c34] at H
                          have c34b0 : decide (256 < 0) = false := decide_eq_false c34
                          clear c34
                          by_cases c49 : 0 ≤ x6_1
                          · rw [if_pos c49] at H
                            have c49b0 : decide (0 ≤ x6_1) = true := decide_eq_true c49
                            clear c49
                            by_cases c50 : x6_1 < (l0_1.length : Int)
                            · rw [if_pos c50] at H
                              have c50b0 : decide (x6_1 < (l0_1.length : Int)) = true := decide_eq_true c50
                              clear c50
                              by_cases c51 : 0 ≤ ((rd_T75 l0_1 x6_1).f0)
                              · rw [if_pos c51] at H
                                have c51b0 : decide (0 ≤ ((rd_T75 l0_1 x6_1).f0)) = true := decide_eq_true c51
                                clear c51
                                by_cases c52 : ((rd_T75 l0_1 x6_1).f0) < (x5_1.length : Int)
                                · rw [if_pos c52] at H
                                  have c52b0 : decide (((rd_T75 l0_1 x6_1).f0) < (x5_1.length : Int)) = true := decide_eq_true c52
                                  clear c52
                                  replace H := Option.bind_eq_some_iff.mp H
                                  obtain ⟨⟨t203, t204⟩, A530, H⟩ := H
                                  replace H : (bobbinref03_Crash.l0 kj24 (x5_1.set (((rd_T75 l0_1 x6_1).f0) : Int).toNat t203) (wrap64 (x6_1 + 1)) l0_0 l0_1 a0_2 a0_3 a0_4 l1_0 a1_1 a1_2) = some (r1, r2, r3, r4, r5) := H
                                  have A53 := Aside0.mk A530
                                  clear A530
                                  obtain ⟨y207, hy207⟩ : ∃ y_ : List (List Int), y_ = (x5_1.set (((rd_T75 l0_1 x6_1).f0) : Int).toNat t203) := ⟨_, rfl⟩
                                  replace H : (bobbinref03_Crash.l0 kj24 y207 (wrap64 (x6_1 + 1)) l0_0 l0_1 a0_2 a0_3 a0_4 l1_0 a1_1 a1_2) = some (r1, r2, r3, r4, r5) := by first | (rw [hy207]; with_reducible exact H) | (have H2_ := (Option.bind_some _ _).symm.trans H; rw [hy207]; with_reducible exact H2_) | (have H2_ := (Option.bind_some _ _).symm.trans H; with_reducible exact H2_) | with_reducible exact H | (rw [hy207]; exact H) | exact H
                                  have Ny207 := Aside0.mk hy207
                                  clear hy207
                                  have H' := Aside0.mk H
                                  clear H
                                  have hnb55 := NB185_186.out
                                  have hnc55 := NB186_185.out
                                  have hnb56 := NB185_187.out
                                  have hnc56 := NB187_185.out
                                  have hcz57_0 : wc.cell? ⟨gb185, 0, none⟩ = some (.slice A0_0 l0_0.length c0_0) := (blk_cell BK185.out 0).trans rfl
                                  have hcz57_1 : wc.cell? ⟨gb185, 1, none⟩ = some (.slice A0_1 l0_1.length c0_1) := (blk_cell BK185.out 1).trans rfl
                                  have hcz57_2 : wc.cell? ⟨gb185, 2, none⟩ = some (.bool a0_2) := (blk_cell BK185.out 2).trans rfl
                                  have hcz57_3 : wc.cell? ⟨gb185, 3, none⟩ = some (.bool a0_3) := (blk_cell BK185.out 3).trans rfl
                                  have hcz57_4 : wc.cell? ⟨gb185, 4, none⟩ = some (.int .i64 a0_4) := (blk_cell BK185.out 4).trans rfl
                                  have hfz57_0 := blk_frozen BK185.out 0
                                  have hfz57_1 := blk_frozen BK185.out 1
                                  have hfz57_2 := blk_frozen BK185.out 2
                                  have hfz57_3 := blk_frozen BK185.out 3
                                  have hfz57_4 := blk_frozen BK185.out 4
                                  have p200 : 0 ≤ (x6_1 : Int) := of_decide_eq_true (by first | (with_reducible assumption) | assumption)
                                  have q200 : x6_1 < (l0_1.length : Int) := of_decide_eq_true (by first | (with_reducible assumption) | assumption)
                                  obtain ⟨ad200, A200_1, c200_1, e200, hx200_0, hx200_1, hl200_1, hi200_1⟩ := at_T75 HR0_1.out x6_1 p200 q200
                                  cases e200
                                  replace hx200_0 := (HB.out.cell (World.block_lt_of_cell? w _ hx200_0)).trans hx200_0
                                  replace hx200_1 := (HB.out.cell (World.block_lt_of_cell? w _ hx200_1)).trans hx200_1
                                  have HR200_1 := Aside0.mk hi200_1
                                  have HC200_1 := Aside0.mk hl200_1
                                  clear hi200_1 hl200_1
                                  replace p200 := eq_true p200
                                  replace q200 := eq_true q200
                                  try go_wp2
                                  have n0_ := Aside0.mk (Kd.N_drew HO_5.out)
                                  have n1_ := Aside0.mk (Kd.V_drew HO_186000.out)
                                  have n2_ := Aside0.mk (blk_drew BK185.out)
                                  have n3_ := Aside0.mk (blk_drew BK186.out)
                                  have n4_ := Aside0.mk (blk_drew BK187.out)
                                  have n5_ := Aside0.mk (below_drew1 HB.out)
                                  clear HO_5
                                  clear HO_186000
                                  clear BK185
                                  clear BK186
                                  clear BK187
                                  clear HB
                                  have HO_5 := n0_
                                  have HO_186000 := n1_
                                  have BK185 := n2_
                                  have BK186 := n3_
                                  have BK187 := n4_
                                  have HB := n5_
                                  clear n0_ n1_ n2_ n3_ n4_ n5_
                                  obtain ⟨Ao59, co59, eo59⟩ := Kd.N_slice HO_5.out
                                  (first | subst eo59 | (injection eo59 with f1_ f2_ f3_; have f4_ := f1_.symm; have f5_ := f3_.symm; clear f1_ f2_ f3_; subst f4_; subst f5_))
                                  have p201 : 0 ≤ (((rd_T75 l0_1 x6_1).f0) : Int) := of_decide_eq_true (by first | (with_reducible assumption) | assumption)
                                  have q201 : ((rd_T75 l0_1 x6_1).f0) < (x5_1.length : Int) := of_decide_eq_true (by first | (with_reducible assumption) | assumption)
                                  obtain ⟨ad201, A201_0, c201_0, e201, hx201_0, hl201_0, hi201_0⟩ := at_L1 (Kd.N_reads' HO_5.out).2.2 ((rd_T75 l0_1 x6_1).f0) p201 q201
                                  cases e201
                                  obtain ⟨ce201, hce201, hMe201, hcc201⟩ := Kd.N_get HO_5.out [] ((rd_T75 l0_1 x6_1).f0) p201 (by first | exact q201 | exact of_decide_eq_true (by first | (with_reducible assumption) | assumption) | (have e_ := (Kd.N_reads' HO_5.out).1; omega))
                                  obtain ⟨ua201_0, uc201_0, rfl, ul201_0, ge201_0⟩ := Kd.FK_slice_open hMe201
                                  have hv201_0 := hcc201 0 _ rfl
                                  rw [Nat.add_zero, show ((Kd.slice 5 (Kd.int .u8))).sz = 1 from rfl, Nat.mul_one] at hv201_0
                                  replace hv201_0 := Option.some.inj (hv201_0.symm.trans hx201_0)
                                  injection hv201_0 with hva_ hvn_ hvc_
                                  rw [hva_] at ge201_0
                                  rw [hvc_] at ul201_0
                                  have HL201_0 := Aside0.mk (show Kd.V (Kd.int .u8) 5 _ w.heap.size _ _ (rd_L1 x5_1 ((rd_T75 l0_1 x6_1).f0)) from Kd.V_mk ul201_0 ge201_0)
                                  clear hva_ hvn_ hvc_ ge201_0 ul201_0
                                  clear hcc201 hce201
                                  have HR201_0 := Aside0.mk hi201_0
                                  have HC201_0 := Aside0.mk hl201_0
                                  clear hi201_0 hl201_0
                                  replace p201 := eq_true p201
                                  replace q201 := eq_true q201
                                  have p202 : 0 ≤ (x6_1 : Int) := of_decide_eq_true (by first | (with_reducible assumption) | assumption)
                                  have q202 : x6_1 < (l0_1.length : Int) := of_decide_eq_true (by first | (with_reducible assumption) | assumption)
                                  obtain ⟨ad202, A202_1, c202_1, e202, hx202_0, hx202_1, hl202_1, hi202_1⟩ := at_T75 HR0_1.out x6_1 p202 q202
                                  have hw202_1 := hx202_1
                                  have hw202_0 := hx202_0
                                  obtain rfl : ad200 = ad202 := (by injection e202)
                                  replace hx202_0 := (HB.out.cell (World.block_lt_of_cell? w _ hx202_0)).trans hx202_0
                                  replace hx202_1 := (HB.out.cell (World.block_lt_of_cell? w _ hx202_1)).trans hx202_1
                                  have HR202_1 := Aside0.mk hi202_1
                                  have HC202_1 := Aside0.mk hl202_1
                                  clear hi202_1 hl202_1
                                  replace p202 := eq_true p202
                                  replace q202 := eq_true q202
                                  refine start_ (n := 17) (S := fun w' => w'.cell? ⟨gb185, 0, none⟩ = some (.slice A0_0 l0_0.length c0_0) ∧ w'.cell? ⟨gb185, 1, none⟩ = some (.slice (some ad200) l0_1.length c0_1) ∧ w'.cell? ⟨gb185, 2, none⟩ = some (.bool a0_2) ∧ w'.cell? ⟨gb185, 3, none⟩ = some (.bool a0_3) ∧ w'.cell? ⟨gb185, 4, none⟩ = some (.int .i64 a0_4) ∧ w'.cell? (ad201.add (((rd_T75 l0_1 x6_1).f0)).toNat) = some (.slice A201_0 (rd_L1 x5_1 ((rd_T75 l0_1 x6_1).f0)).length c201_0) ∧ w'.cell? (ad200.add ((x6_1).toNat * 2)) = some (.int .i64 ((rd_T75 l0_1 x6_1).f0)) ∧ w'.cell? ⟨(ad200.add ((x6_1).toNat * 2)).block, (ad200.add ((x6_1).toNat * 2)).off + 1, none⟩ = some (.slice A202_1 ((rd_T75 l0_1 x6_1).f1).length c202_1)) (ds := []) #[false, false, false, false, false, false, false, false, false, false, false, false, false, false, false, false, false] (by kernel_rfl) rfl rfl ⟨(blk_cell BK185.out 0).trans rfl, (blk_cell BK185.out 1).trans rfl, (blk_cell BK185.out 2).trans rfl, (blk_cell BK185.out 3).trans rfl, (blk_cell BK185.out 4).trans rfl, hx201_0, ((HB.out.cell (World.block_lt_of_cell? w _ hw202_0)).trans hw202_0), ((HB.out.cell (World.block_lt_of_cell? w _ hw202_1)).trans hw202_1)⟩ (fun hHeld => ?_); refine with_tabW bobbinref03_Crash.tab15 bobbinref03_Crash.bits15 (fun HT_ HW_ => ?_)
                                  generalize wc.drew = w58 at HO_5 HO_186000 BK185 BK186 BK187 HB HL201_0 HR201_0 HR202_1 hx201_0 hx202_0 hx202_1 hHeld ⊢
                                  refine pure_ (i := 0) (N := some 53) (v := ?_) (a' := ?_) #[true, false, false, false, false, false, false, false, false, false, false, false, false, false, false, false, false] rfl rfl (any_of HT_.out (by kernel_rfl)) (fun _ _ _ h => h) (Or.inl ⟨by rfl, ?_⟩) ?_ ?_
                                  rotate_left
                                  · intro w'
                                    go_simp
                                    with_reducible rfl
                                  rotate_left
                                  · simp only [Act.put, List.setIfInBounds_toArray, List.set_cons_zero, List.set_cons_succ, i64_w, i32_w]
                                    rfl
                                  refine pure_ (i := 1) (N := some 54) (v := ?_) (a' := ?_) #[true, true, false, false, false, false, false, false, false, false, false, false, false, false, false, false, false] rfl rfl (any_of HT_.out (by kernel_rfl)) (fun _ _ _ h => h) (Or.inl ⟨by rfl, ?_⟩) ?_ ?_
                                  rotate_left
                                  · intro w'
                                    go_simp
                                    with_reducible rfl
                                  rotate_left
                                  · simp only [Act.put, List.setIfInBounds_toArray, List.set_cons_zero, List.set_cons_succ, i64_w, i32_w]
                                    rfl
                                  refine pure_ (i := 2) (N := some 55) (v := ?_) (a' := ?_) #[true, true, true, false, false, false, false, false, false, false, false, false, false, false, false, false, false] rfl rfl (any_of HT_.out (by kernel_rfl)) (fun _ _ _ h => h) (Or.inl ⟨by rfl, ?_⟩) ?_ ?_
                                  rotate_left
                                  · intro w'
                                    go_simp
                                    with_reducible rfl
                                  rotate_left
                                  · simp only [Act.put, List.setIfInBounds_toArray, List.set_cons_zero, List.set_cons_succ, i64_w, i32_w]
                                    rfl
                                  refine pure_ (i := 4) (N := some 57) (v := ?_) (a' := ?_) #[true, true, true, false, true, false, false, false, false, false, false, false, false, false, false, false, false] rfl rfl (any_of HT_.out (by kernel_rfl)) (fun _ _ _ h => h) (Or.inl ⟨by rfl, ?_⟩) ?_ ?_
                                  rotate_left
                                  · intro w'
                                    go_simp
                                    with_reducible rfl
                                  rotate_left
                                  · simp only [Act.put, List.setIfInBounds_toArray, List.set_cons_zero, List.set_cons_succ, i64_w, i32_w]
                                    rfl
                                  refine pure_ (i := 6) (N := some 59) (v := ?_) (a' := ?_) #[true, true, true, false, true, false, true, false, false, false, false, false, false, false, false, false, false] rfl rfl (any_of HT_.out (by kernel_rfl)) (fun _ _ _ h => h) (Or.inl ⟨by rfl, ?_⟩) ?_ ?_
                                  rotate_left
                                  · intro w'
                                    go_simp
                                    with_reducible rfl
                                  rotate_left
                                  · simp only [Act.put, List.setIfInBounds_toArray, List.set_cons_zero, List.set_cons_succ, i64_w, i32_w]
                                    rfl
                                  refine pure_ (i := 10) (N := some 63) (v := ?_) (a' := ?_) #[true, true, true, false, true, false, true, false, false, false, true, false, false, false, false, false, false] rfl rfl (any_of HT_.out (by kernel_rfl)) (fun _ _ _ h => h) (Or.inl ⟨by rfl, ?_⟩) ?_ ?_
                                  rotate_left
                                  · intro w'
                                    go_simp
                                    with_reducible rfl
                                  rotate_left
                                  · simp only [Act.put, List.setIfInBounds_toArray, List.set_cons_zero, List.set_cons_succ, i64_w, i32_w]
                                    rfl
                                  refine take_ (i := 3) (N := some 56) (v := ?_) (a' := ?_) #[true, true, true, true, true, false, true, false, false, false, true, false, false, false, false, false, false] rfl rfl (take_ofW HT_.out HW_.out (by kernel_rfl)) (fun _ _ _ h => h) (Or.inl ⟨by rfl, ?_⟩) hHeld ?_ ?_
                                  rotate_left
                                  · rintro w' ⟨s0, s1, s2, s3, s4, s5, s6, s7⟩
                                    go_simp
                                    with_reducible rfl
                                  rotate_left
                                  · simp only [Act.put, List.setIfInBounds_toArray, List.set_cons_zero, List.set_cons_succ, i64_w, i32_w]
                                    rfl
                                  refine take_ (i := 5) (N := some 58) (v := ?_) (a' := ?_) #[true, true, true, true, true, true, true, false, false, false, true, false, false, false, false, false, false] rfl rfl (take_ofW HT_.out HW_.out (by kernel_rfl)) (fun _ _ _ h => h) (Or.inl ⟨by rfl, ?_⟩) hHeld ?_ ?_
                                  rotate_left
                                  · rintro w' ⟨s0, s1, s2, s3, s4, s5, s6, s7⟩
                                    go_simp
                                    with_reducible rfl
                                  rotate_left
                                  · simp only [Act.put, List.setIfInBounds_toArray, List.set_cons_zero, List.set_cons_succ, i64_w, i32_w]
                                    rfl
                                  refine pure_ (i := 7) (N := some 60) (v := ?_) (a' := ?_) #[true, true, true, true, true, true, true, true, false, false, true, false, false, false, false, false, false] rfl rfl (any_of HT_.out (by kernel_rfl)) (fun _ _ _ h => h) (Or.inl ⟨by rfl, ?_⟩) ?_ ?_
                                  rotate_left
                                  · intro w'
                                    go_simp
                                    with_reducible rfl
                                  rotate_left
                                  · simp only [Act.put, List.setIfInBounds_toArray, List.set_cons_zero, List.set_cons_succ, i64_w, i32_w]
                                    rfl
                                  refine pure_ (i := 8) (N := some 61) (v := ?_) (a' := ?_) #[true, true, true, true, true, true, true, true, true, false, true, false, false, false, false, false, false] rfl rfl (any_of HT_.out (by kernel_rfl)) (fun _ _ _ h => h) (Or.inl ⟨by rfl, ?_⟩) ?_ ?_
                                  rotate_left
                                  · intro w'
                                    go_simp
                                    with_reducible rfl
                                  rotate_left
                                  · simp only [Act.put, List.setIfInBounds_toArray, List.set_cons_zero, List.set_cons_succ, i64_w, i32_w]
                                    rfl
                                  refine take_ (i := 9) (N := some 62) (v := ?_) (a' := ?_) #[true, true, true, true, true, true, true, true, true, true, true, false, false, false, false, false, false] rfl rfl (take_ofW HT_.out HW_.out (by kernel_rfl)) (fun _ _ _ h => h) (Or.inl ⟨by rfl, ?_⟩) hHeld ?_ ?_
                                  rotate_left
                                  · rintro w' ⟨s0, s1, s2, s3, s4, s5, s6, s7⟩
                                    go_simp
                                    with_reducible rfl
                                  rotate_left
                                  · simp only [Act.put, List.setIfInBounds_toArray, List.set_cons_zero, List.set_cons_succ, i64_w, i32_w]
                                    rfl
                                  refine one_ (i := 11) (N := some 64) #[true, true, true, true, true, true, true, true, true, true, true, true, false, false, false, false, false] rfl rfl (one_of HT_.out (by kernel_rfl)) (by decide) (fun K hK => ?_)
                                  refine goes_ Try.func35 (by kernel_rfl) rfl #[.slice A201_0 (rd_L1 x5_1 ((rd_T75 l0_1 x6_1).f0)).length c201_0, .slice A202_1 ((rd_T75 l0_1 x6_1).f1).length c202_1, .int .i64 0] (by rfl) rfl rfl (by (try simp only [List.map_toArray, List.map_cons, List.map_nil]); first | done | rfl | (simp only [List.length_drop, List.length_take]; rfl)) ?_
                                  with_reducible refine (bobbinref02_Part.calls kj24 _ _ (rd_L1 x5_1 ((rd_T75 l0_1 x6_1).f0)) _ _ ((rd_T75 l0_1 x6_1).f1) 0 t203 t204 _ ?side1 ?side2 ?side3 ?side4 A53.out).mono ?_
                                  (case side1 => repeat (first | exact (by repeat (first | (with_reducible exact HR201_0.out) | (with_reducible refine Kd.C_alloc ?_ _) | (with_reducible refine Kd.C_drewN ?_ _) | (with_reducible refine Kd.C_drew ?_) | exact HR201_0.out)) | (with_reducible refine Kd.C_alloc ?_ _) | (with_reducible refine Kd.C_drewN ?_ _) | (with_reducible refine Kd.C_drew ?_)))
                                  (case side2 => exact HC201_0.out)
                                  (case side3 => repeat (first | exact (Kd.C_below HR202_1.out HB.out) | (with_reducible refine Kd.C_alloc ?_ _) | (with_reducible refine Kd.C_drewN ?_ _) | (with_reducible refine Kd.C_drew ?_)))
                                  (case side4 => exact HC202_1.out)
                                  rintro e w60 ⟨v205, rfl, ho0, hb⟩
                                  have HS5_ := (hb.cell (World.block_lt_of_cell? _ _ (hHeld.2.2.2.2.2.1))).trans (hHeld.2.2.2.2.2.1)
                                  refine ⟨_, rfl, ?_⟩
                                  have n0_ := Aside0.mk (Kd.N_elder' (by (with_reducible repeat (first | apply Kd.N_alloc | apply Kd.N_drewN | apply Kd.N_drew)); exact HO_5.out) (Kd.R_base ho0) hb)
                                  have n1_ := Aside0.mk (Kd.V_elder' (by (with_reducible repeat (first | apply Kd.V_alloc | apply Kd.V_drewN | apply Kd.V_drew)); exact HO_186000.out) (Kd.R_base ho0) hb)
                                  have n2_ := Aside0.mk (Kd.V_elder' (by (with_reducible repeat (first | apply Kd.V_alloc | apply Kd.V_drewN | apply Kd.V_drew)); exact HL201_0.out) (Kd.R_base ho0) hb)
                                  have n3_ := Aside0.mk (Kd.R_lower (Kd.R_newM (M := fun k_ => (w.heap.size ≤ k_)) ho0 (below_size (by repeat (first | (with_reducible first | exact HB.out | apply below_alloc | apply pw_below_drewN | apply below_drew1 | refine below_set ?_ GE185.out | refine below_set ?_ GE186.out | refine below_set ?_ GE187.out) | exact HB.out))) (fun k_ h_ => h_)) (below_size (by repeat (first | (with_reducible first | exact HB.out | apply below_alloc | apply pw_below_drewN | apply below_drew1 | refine below_set ?_ GE185.out | refine below_set ?_ GE186.out | refine below_set ?_ GE187.out) | exact HB.out))))
                                  have n4_ := Aside0.mk (blk_below (g := gb185) (o := .cells #[.slice A0_0 l0_0.length c0_0, .slice (some ad200) l0_1.length c0_1, .bool a0_2, .bool a0_3, .int .i64 a0_4] 51 (0, 0)) (by (with_reducible repeat (first | refine blk_drewN ?_ _ | refine blk_drew ?_ | refine blk_alloc ?_ _)); exact BK185.out) hb)
                                  have n5_ := Aside0.mk (blk_below (g := gb186) (o := .cells #[.slice A1_0 l1_0.length c1_0, .int .i64 a1_1, .int .i64 a1_2] 29 (0, 0)) (by (with_reducible repeat (first | refine blk_drewN ?_ _ | refine blk_drew ?_ | refine blk_alloc ?_ _)); exact BK186.out) hb)
                                  have n6_ := Aside0.mk (blk_below (g := gb187) (o := .cells #[.slice none 0 0, .slice none 0 0, .bool false, .bool false, .int .i64 0] 51 (0, 0)) (by (with_reducible repeat (first | refine blk_drewN ?_ _ | refine blk_drew ?_ | refine blk_alloc ?_ _)); exact BK187.out) hb)
                                  have n7_ := Aside0.mk (Kd.C_below (by repeat (first | (with_reducible exact HR201_0.out) | (with_reducible refine Kd.C_alloc ?_ _) | (with_reducible refine Kd.C_drewN ?_ _) | (with_reducible refine Kd.C_drew ?_) | exact HR201_0.out)) hb)
                                  have n8_ := Aside0.mk (below_step (by repeat (first | (with_reducible first | exact HB.out | apply below_alloc | apply pw_below_drewN | apply below_drew1 | refine below_set ?_ GE185.out | refine below_set ?_ GE186.out | refine below_set ?_ GE187.out) | exact HB.out)) hb)
                                  clear HO_5
                                  clear HO_186000
                                  clear HL201_0
                                  clear BK185
                                  clear BK186
                                  clear BK187
                                  clear HR201_0
                                  clear HB
                                  have HO_5 := n0_
                                  have HO_186000 := n1_
                                  have HL201_0 := n2_
                                  have HO206 := n3_
                                  have BK185 := n4_
                                  have BK186 := n5_
                                  have BK187 := n6_
                                  have HR201_0 := n7_
                                  have HB := n8_
                                  clear n0_ n1_ n2_ n3_ n4_ n5_ n6_ n7_ n8_
                                  (try clear hb)
                                  (try clear hb2)
                                  (try clear hk)
                                  (try clear hi)
                                  (try clear ho0)
                                  refine hK.out _ _ ⟨(blk_cell BK185.out 0).trans rfl, (blk_cell BK185.out 1).trans rfl, (blk_cell BK185.out 2).trans rfl, (blk_cell BK185.out 3).trans rfl, (blk_cell BK185.out 4).trans rfl, HS5_, ((HB.out.cell (World.block_lt_of_cell? w _ hw202_0)).trans hw202_0), ((HB.out.cell (World.block_lt_of_cell? w _ hw202_1)).trans hw202_1)⟩ (fun hHeld => ?_)
                                  clear hK K
                                  refine norm_ (a' := ?_) ?_ ?_
                                  rotate_left
                                  · show Act.put _ (some 64) _ = _
                                    simp only [Act.put, List.setIfInBounds_toArray, List.set_cons_zero, List.set_cons_succ, i64_w, i32_w]
                                    rfl
                                  refine pure_ (i := 12) (N := some 52) (v := ?_) (a' := ?_) #[true, true, true, true, true, true, true, true, true, true, true, true, true, false, false, false, false] rfl rfl (any_of HT_.out (by kernel_rfl)) (fun _ _ _ h => h) (Or.inl ⟨by rfl, ?_⟩) ?_ ?_
                                  rotate_left
                                  · intro w'
                                    go_simp
                                    with_reducible rfl
                                  rotate_left
                                  · simp only [Act.put, List.setIfInBounds_toArray, List.set_cons_zero, List.set_cons_succ, i64_w, i32_w]
                                    rfl
                                  refine pure_ (i := 13) (N := some 65) (v := ?_) (a' := ?_) #[true, true, true, true, true, true, true, true, true, true, true, true, true, true, false, false, false] rfl rfl (any_of HT_.out (by kernel_rfl)) (fun _ _ _ h => h) (Or.inl ⟨by rfl, ?_⟩) ?_ ?_
                                  rotate_left
                                  · intro w'
                                    go_simp
                                    with_reducible rfl
                                  rotate_left
                                  · simp only [Act.put, List.setIfInBounds_toArray, List.set_cons_zero, List.set_cons_succ, i64_w, i32_w]
                                    rfl
                                  refine pure_ (i := 14) (N := some 66) (v := ?_) (a' := ?_) #[true, true, true, true, true, true, true, true, true, true, true, true, true, true, true, false, false] rfl rfl (any_of HT_.out (by kernel_rfl)) (fun _ _ _ h => h) (Or.inl ⟨by rfl, ?_⟩) ?_ ?_
                                  rotate_left
                                  · intro w'
                                    go_simp
                                    with_reducible rfl
                                  rotate_left
                                  · simp only [Act.put, List.setIfInBounds_toArray, List.set_cons_zero, List.set_cons_succ, i64_w, i32_w]
                                    rfl
                                  refine pure_ (i := 15) (N := some 9) (v := ?_) (a' := ?_) #[true, true, true, true, true, true, true, true, true, true, true, true, true, true, true, true, false] rfl rfl (any_of HT_.out (by kernel_rfl)) (fun _ _ _ h => h) (Or.inl ⟨by rfl, ?_⟩) ?_ ?_
                                  rotate_left
                                  · intro w'
                                    go_simp
                                    with_reducible rfl
                                  rotate_left
                                  · simp only [Act.put, List.setIfInBounds_toArray, List.set_cons_zero, List.set_cons_succ, i64_w, i32_w]
                                    rfl
                                  refine pure_ (i := 16) (N := some 10) (v := ?_) (a' := ?_) #[true, true, true, true, true, true, true, true, true, true, true, true, true, true, true, true, true] rfl rfl (any_of HT_.out (by kernel_rfl)) (fun _ _ _ h => h) (Or.inl ⟨by rfl, ?_⟩) ?_ ?_
                                  rotate_left
                                  · intro w'
                                    go_simp
                                    with_reducible rfl
                                  rotate_left
                                  · simp only [Act.put, List.setIfInBounds_toArray, List.set_cons_zero, List.set_cons_succ, i64_w, i32_w]
                                    rfl
                                  refine done_ (done_of HT_.out (by kernel_rfl)) ?_
                                  have p54 : 0 ≤ (((rd_T75 l0_1 x6_1).f0) : Int) := of_decide_eq_true (by first | (with_reducible assumption) | assumption)
                                  have q54 : (((rd_T75 l0_1 x6_1).f0) : Int) < ((x5_1.length : Int) : Int) := of_decide_eq_true (by first | (with_reducible assumption) | assumption)
                                  obtain ⟨go54, co54, eo54, gb54, gl54, cl54, HG54⟩ := Kd.N_form HO_5.out (by omega)
                                  (first | cases eo54 | (injection eo54 with ea_ en_ ec_; (first | subst ea_ | (injection ea_ with ea_; subst ea_)); subst ec_; clear en_))
                                  have GB54 := Aside0.mk gb54
                                  have GG54 := Aside0.mk HG54
                                  clear gb54 gl54 HG54
                                  (first | simp only [add_plain] at hx201_0 | skip)
                                  obtain ⟨ce54, hcl54, hM54, hcc54, hfr54⟩ := Kd.N_elem HO_5.out [] (((rd_T75 l0_1 x6_1).f0) : Int) p54 q54
                                  obtain ⟨ua54_0, uc54_0, rfl, ul54_0, ge54_0⟩ := Kd.FK_slice_open hM54
                                  have hx54_0 := hcc54 0 _ rfl
                                  have hf54_0 := hfr54 0
                                  (try simp only [show ((Kd.slice 5 (Kd.int .u8))).sz = 1 from rfl, Nat.mul_one, Nat.add_zero] at hx54_0)
                                  (try simp only [show ((Kd.slice 5 (Kd.int .u8))).sz = 1 from rfl, Nat.mul_one, Nat.add_zero] at hf54_0)
                                  clear hcl54 hcc54 hfr54 hM54
                                  replace p54 := eq_true p54
                                  replace q54 := eq_true q54
                                  have n_ := Aside0.mk (Kd.N_mono (ok' := (fun k_ => (P0_0_ k_ ∨ w.heap.size ≤ k_) ∧ some k_ ≠ (v205 : Value).ownBlock ∧ k_ ≠ gb185 ∧ k_ ≠ gb186 ∧ k_ ≠ gb187)) HO_5.out (fun k_ hk => ⟨hk.1.1, ⟨hk.2, ⟨hk.1.2.1, ⟨hk.1.2.2.1, hk.1.2.2.2⟩⟩⟩⟩))
                                  clear HO_5
                                  have HO_5 := n_
                                  clear n_
                                  have HX61 := Aside0.mk (show Kd.N (Kd.slice 5 (Kd.int .u8)) 30 w60 w.heap.size (fun k_ => (P0_0_ k_ ∨ w.heap.size ≤ k_) ∧ k_ ≠ gb185 ∧ k_ ≠ gb186 ∧ k_ ≠ gb187) (.slice (some ⟨go54, 0, none⟩) x5_1.length co59) x5_1 from (by (with_reducible repeat (first | apply Kd.N_alloc | apply Kd.N_drewN | apply Kd.N_drew)); exact Kd.N_mono HO_5.out (fun _ hk => ⟨hk.1, ⟨hk.2.2.1, ⟨hk.2.2.2.1, hk.2.2.2.2⟩⟩⟩)))
                                  obtain ⟨ce61, hcl61, hM61, hcc61, hfr61⟩ := Kd.N_elem HX61.out [] (((rd_T75 l0_1 x6_1).f0) : Int) (of_decide_eq_true (by first | (with_reducible assumption) | assumption)) (by have h_ : (((rd_T75 l0_1 x6_1).f0) : Int) < ((x5_1.length : Int) : Int) := of_decide_eq_true (by first | (with_reducible assumption) | assumption); first | exact h_ | (have e_ := (Kd.N_reads' HO_5.out).1; omega) | simpa using h_)
                                  obtain ⟨ua61_0, uc61_0, rfl, ul61_0, ge61_0⟩ := Kd.FK_slice_open hM61
                                  obtain ⟨Aq_, cq_, eqq_⟩ := Kd.R_slice HO206.out
                                  subst eqq_
                                  have HP61 := Kd.N_seg HX61.out (((rd_T75 l0_1 x6_1).f0) : Int) (of_decide_eq_true (by first | (with_reducible assumption) | assumption)) (by have h_ : (((rd_T75 l0_1 x6_1).f0) : Int) < ((x5_1.length : Int) : Int) := of_decide_eq_true (by first | (with_reducible assumption) | assumption); first | exact h_ | (have e_ := (Kd.N_reads' HO_5.out).1; omega) | simpa using h_) (seg := [(.slice Aq_ t203.length cq_ : Value)]) (j := 0) hcl61 hcc61 (show 1 ≤ 1 from by decide) (x' := t203) (Kd.FK_slice_mk (Kd.R_reads' (Kd.R_mono (ok' := (fun k_ => ((fun k_ => (P0_0_ k_ ∨ w.heap.size ≤ k_) ∧ k_ ≠ gb185 ∧ k_ ≠ gb186 ∧ k_ ≠ gb187)) k_ ∧ k_ ≠ go54)) (Kd.R_types (Kd.R_types (Kd.R_types (Kd.R_apart' (HO206.out) (Kd.N_typed HO_5.out) (by decide)) BK185.out (by decide)) BK186.out (by decide)) BK187.out (by decide)) (fun k_ hk => ⟨⟨(.inr (hk.1.1.1.1.1)), ⟨hk.1.1.2, ⟨hk.1.2, hk.2⟩⟩⟩, fun e_ => (hk.1.1.1.2) (by rw [e_]; rfl)⟩))).2.1 (Kd.R_F (Kd.R_mono (ok' := (fun k_ => ((fun k_ => (P0_0_ k_ ∨ w.heap.size ≤ k_) ∧ k_ ≠ gb185 ∧ k_ ≠ gb186 ∧ k_ ≠ gb187)) k_ ∧ k_ ≠ go54)) (Kd.R_types (Kd.R_types (Kd.R_types (Kd.R_apart' (HO206.out) (Kd.N_typed HO_5.out) (by decide)) BK185.out (by decide)) BK186.out (by decide)) BK187.out (by decide)) (fun k_ hk => ⟨⟨(.inr (hk.1.1.1.1.1)), ⟨hk.1.1.2, ⟨hk.1.2, hk.2⟩⟩⟩, fun e_ => (hk.1.1.1.2) (by rw [e_]; rfl)⟩)))) (fun _ hk => hk)
                                  have hx61_0 := hcc61 0 _ rfl
                                  (try simp only [show ((Kd.slice 5 (Kd.int .u8))).sz = 1 from rfl, Nat.mul_one, Nat.add_zero] at hx61_0)
                                  have hf61_0 := hfr61 0
                                  (try simp only [show ((Kd.slice 5 (Kd.int .u8))).sz = 1 from rfl, Nat.mul_one, Nat.add_zero] at hf61_0)
                                  clear hcl61 hcc61 hfr61 hM61
                                  (try simp only [show ((Kd.slice 5 (Kd.int .u8))).sz = 1 from rfl, Nat.mul_one, Nat.add_zero] at HP61)
                                  (try simp only [show ((Kd.slice 5 (Kd.int .u8))).sz = 1 from rfl, Nat.mul_one, Nat.add_zero] at HP61)
                                  try go_wp2_with (first | ((with_reducible refine gate_store (t := 30) (p := 70) rfl ?_); refine store_event (t := 30) (p := 70) (v := ?vo_w62) (w1 := (w60.setCell ⟨go54, (((rd_T75 l0_1 x6_1).f0) : Int).toNat, none⟩ ((.slice Aq_ t203.length cq_ : Value)))) ?hg ?ho ?hn ?hr ?_; (case ho => rfl); (case hg => rfl); (case hn => rfl); (case hr => first | (go_simp; done) | (go_simp; rfl)); intro w62 hw; have hg : w60.grownBy w62 (some go54) := (by rw [hw]; exact HP61.2); have hp_ : Kd.N (Kd.slice 5 (Kd.int .u8)) 30 w62 w.heap.size (fun k_ => (P0_0_ k_ ∨ w.heap.size ≤ k_) ∧ k_ ≠ gb185 ∧ k_ ≠ gb186 ∧ k_ ≠ gb187) (.slice (some ⟨go54, 0, none⟩) x5_1.length co59) y207 := (by rw [hw, Ny207.out]; exact HP61.1); clear HP61; have n0_ := Aside0.mk (hp_); have n1_ := Aside0.mk (Kd.V_afterv (v := (.slice (some ⟨go54, 0, none⟩) x5_1.length co59)) (v1 := (.slice (some ⟨go54, 0, none⟩) x5_1.length co59)) (ok := (fun k_ => (P0_0_ k_ ∨ w.heap.size ≤ k_) ∧ some k_ ≠ (.slice Aq_ t203.length cq_ : Value).ownBlock ∧ k_ ≠ gb185 ∧ k_ ≠ gb186 ∧ k_ ≠ gb187)) (by (with_reducible repeat (first | apply Kd.V_alloc | apply Kd.V_drewN | apply Kd.V_drew)); exact Kd.V_mono HO_186000.out (fun _ hk => ⟨⟨hk.1.1, ⟨hk.2, ⟨hk.1.2.2.1, ⟨hk.1.2.2.2.1, hk.1.2.2.2.2⟩⟩⟩⟩, hk.1.2.1⟩)) hg (.inl rfl)); have n2_ := Aside0.mk (blk_grown (g := gb185) (o := .cells #[.slice A0_0 l0_0.length c0_0, .slice (some ad200) l0_1.length c0_1, .bool a0_2, .bool a0_3, .int .i64 a0_4] 51 (0, 0)) (by (with_reducible repeat (first | refine blk_drewN ?_ _ | refine blk_drew ?_ | refine blk_alloc ?_ _)); exact BK185.out) hg (Kd.N_ne HO_5.out BK185.out (by decide))); have n3_ := Aside0.mk (blk_grown (g := gb186) (o := .cells #[.slice A1_0 l1_0.length c1_0, .int .i64 a1_1, .int .i64 a1_2] 29 (0, 0)) (by (with_reducible repeat (first | refine blk_drewN ?_ _ | refine blk_drew ?_ | refine blk_alloc ?_ _)); exact BK186.out) hg (Kd.N_ne HO_5.out BK186.out (by decide))); have n4_ := Aside0.mk (blk_grown (g := gb187) (o := .cells #[.slice none 0 0, .slice none 0 0, .bool false, .bool false, .int .i64 0] 51 (0, 0)) (by (with_reducible repeat (first | refine blk_drewN ?_ _ | refine blk_drew ?_ | refine blk_alloc ?_ _)); exact BK187.out) hg (Kd.N_ne HO_5.out BK187.out (by decide))); have n5_ := Aside0.mk (Kd.V_afterv (v := (.slice (some ⟨go54, 0, none⟩) x5_1.length co59)) (v1 := (.slice (some ⟨go54, 0, none⟩) x5_1.length co59)) (ok := (fun k_ => (P0_0_ k_ ∨ w.heap.size ≤ k_) ∧ some k_ ≠ (.slice Aq_ t203.length cq_ : Value).ownBlock ∧ k_ ≠ gb185 ∧ k_ ≠ gb186 ∧ k_ ≠ gb187)) (by (with_reducible repeat (first | apply Kd.V_alloc | apply Kd.V_drewN | apply Kd.V_drew)); exact Kd.V_mono HL201_0.out (fun _ hk => ⟨⟨hk.1.1.1, ⟨hk.2, ⟨hk.1.1.2.1, ⟨hk.1.1.2.2.1, hk.1.1.2.2.2⟩⟩⟩⟩, hk.1.2⟩)) hg (.inl rfl)); have n6_ := Aside0.mk ((by rw [hw]; exact below_set (HB.out) GB54.out : Below w.heap.size w w62)); clear HO_5; clear HO_186000; clear BK185; clear BK186; clear BK187; clear HL201_0; clear HB; clear HO206; have HO_5 := n0_; have HO_186000 := n1_; have BK185 := n2_; have BK186 := n3_; have BK187 := n4_; have HL201_0 := n5_; have HB := n6_; clear n0_ n1_ n2_ n3_ n4_ n5_ n6_; clear hg hw hp_))
                                  go_roundg kj24
                                  case measure => have := HK1.out; have := HJ11.out; have := HJ22.out; have := HJ24.out; omega
                                  case rel => exact ⟨(y207), (wrap64 (x6_1 + 1)), (by first | rfl | (simp; done) | (simp [*]; done)), H', ⟨by have := HK1.out; have := HJ11.out; have := HJ22.out; have := HJ24.out; omega⟩, ⟨by (with_reducible repeat (first | apply Kd.N_alloc | apply Kd.N_drewN | apply Kd.N_drew)); exact HO_5.out⟩, ⟨by (with_reducible repeat (first | apply Kd.V_alloc | apply Kd.V_drewN | apply Kd.V_drew)); exact Kd.V_mono HO_186000.out (fun _ hk => ⟨hk.1.1, ⟨hk.2, ⟨hk.1.2.2.1, ⟨hk.1.2.2.2.1, hk.1.2.2.2.2⟩⟩⟩⟩)⟩, ⟨by (with_reducible repeat (first | refine blk_drewN ?_ _ | refine blk_drew ?_ | refine blk_alloc ?_ _)); exact BK185.out⟩, ⟨by (with_reducible repeat (first | refine blk_drewN ?_ _ | refine blk_drew ?_ | refine blk_alloc ?_ _)); exact BK186.out⟩, ⟨by (with_reducible repeat (first | refine blk_drewN ?_ _ | refine blk_drew ?_ | refine blk_alloc ?_ _)); exact BK187.out⟩, ⟨by repeat (first | (with_reducible first | exact HB.out | apply below_alloc | apply pw_below_drewN | apply below_drew1 | refine below_set ?_ GE185.out | refine below_set ?_ GE186.out | refine below_set ?_ GE187.out) | exact HB.out)⟩⟩
                                · rw [if_neg c52] at H
                                  exact absurd H (by simp)
                              · rw [if_neg c51] at H
                                exact absurd H (by simp)
                            · rw [if_neg c50] at H
                              exact absurd H (by simp)
                          · rw [if_neg c49] at H
                            exact absurd H (by simp)
                      · rw [if_neg c33] at H
                        have c33b0 : decide (x7_24 < 0) = false := decide_eq_false c33
                        clear c33
                        by_cases c63 : x7_24 > 256
                        · rw [if_pos c63] at H
                          have c63b0 : decide (256 < x7_24) = true := decide_eq_true c63
                          clear c63
                          by_cases c64 : 0 ≤ x6_1
                          · rw [if_pos c64] at H
                            have c64b0 : decide (0 ≤ x6_1) = true := decide_eq_true c64
                            clear c64
                            by_cases c65 : x6_1 < (l0_1.length : Int)
                            · rw [if_pos c65] at H
                              have c65b0 : decide (x6_1 < (l0_1.length : Int)) = true := decide_eq_true c65
                              clear c65
                              by_cases c66 : 0 ≤ ((rd_T75 l0_1 x6_1).f0)
                              · rw [if_pos c66] at H
                                have c66b0 : decide (0 ≤ ((rd_T75 l0_1 x6_1).f0)) = true := decide_eq_true c66
                                clear c66
                                by_cases c67 : ((rd_T75 l0_1 x6_1).f0) < (x5_1.length : Int)
                                · rw [if_pos c67] at H
                                  have c67b0 : decide (((rd_T75 l0_1 x6_1).f0) < (x5_1.length : Int)) = true := decide_eq_true c67
                                  clear c67
                                  replace H := Option.bind_eq_some_iff.mp H
                                  obtain ⟨⟨t211, t212⟩, A680, H⟩ := H
                                  replace H : (bobbinref03_Crash.l0 kj24 (x5_1.set (((rd_T75 l0_1 x6_1).f0) : Int).toNat t211) (wrap64 (x6_1 + 1)) l0_0 l0_1 a0_2 a0_3 a0_4 l1_0 a1_1 a1_2) = some (r1, r2, r3, r4, r5) := H
                                  have A68 := Aside0.mk A680
                                  clear A680
                                  obtain ⟨y215, hy215⟩ : ∃ y_ : List (List Int), y_ = (x5_1.set (((rd_T75 l0_1 x6_1).f0) : Int).toNat t211) := ⟨_, rfl⟩
                                  replace H : (bobbinref03_Crash.l0 kj24 y215 (wrap64 (x6_1 + 1)) l0_0 l0_1 a0_2 a0_3 a0_4 l1_0 a1_1 a1_2) = some (r1, r2, r3, r4, r5) := by first | (rw [hy215]; with_reducible exact H) | (have H2_ := (Option.bind_some _ _).symm.trans H; rw [hy215]; with_reducible exact H2_) | (have H2_ := (Option.bind_some _ _).symm.trans H; with_reducible exact H2_) | with_reducible exact H | (rw [hy215]; exact H) | exact H
                                  have Ny215 := Aside0.mk hy215
                                  clear hy215
                                  have H' := Aside0.mk H
                                  clear H
                                  have hnb70 := NB185_186.out
                                  have hnc70 := NB186_185.out
                                  have hnb71 := NB185_187.out
                                  have hnc71 := NB187_185.out
                                  have hcz72_0 : wc.cell? ⟨gb185, 0, none⟩ = some (.slice A0_0 l0_0.length c0_0) := (blk_cell BK185.out 0).trans rfl
                                  have hcz72_1 : wc.cell? ⟨gb185, 1, none⟩ = some (.slice A0_1 l0_1.length c0_1) := (blk_cell BK185.out 1).trans rfl
                                  have hcz72_2 : wc.cell? ⟨gb185, 2, none⟩ = some (.bool a0_2) := (blk_cell BK185.out 2).trans rfl
                                  have hcz72_3 : wc.cell? ⟨gb185, 3, none⟩ = some (.bool a0_3) := (blk_cell BK185.out 3).trans rfl
                                  have hcz72_4 : wc.cell? ⟨gb185, 4, none⟩ = some (.int .i64 a0_4) := (blk_cell BK185.out 4).trans rfl
                                  have hfz72_0 := blk_frozen BK185.out 0
                                  have hfz72_1 := blk_frozen BK185.out 1
                                  have hfz72_2 := blk_frozen BK185.out 2
                                  have hfz72_3 := blk_frozen BK185.out 3
                                  have hfz72_4 := blk_frozen BK185.out 4
                                  have p208 : 0 ≤ (x6_1 : Int) := of_decide_eq_true (by first | (with_reducible assumption) | assumption)
                                  have q208 : x6_1 < (l0_1.length : Int) := of_decide_eq_true (by first | (with_reducible assumption) | assumption)
                                  obtain ⟨ad208, A208_1, c208_1, e208, hx208_0, hx208_1, hl208_1, hi208_1⟩ := at_T75 HR0_1.out x6_1 p208 q208
                                  cases e208
                                  replace hx208_0 := (HB.out.cell (World.block_lt_of_cell? w _ hx208_0)).trans hx208_0
                                  replace hx208_1 := (HB.out.cell (World.block_lt_of_cell? w _ hx208_1)).trans hx208_1
                                  have HR208_1 := Aside0.mk hi208_1
                                  have HC208_1 := Aside0.mk hl208_1
                                  clear hi208_1 hl208_1
                                  replace p208 := eq_true p208
                                  replace q208 := eq_true q208
                                  try go_wp2
                                  have n0_ := Aside0.mk (Kd.N_drew HO_5.out)
                                  have n1_ := Aside0.mk (Kd.V_drew HO_186000.out)
                                  have n2_ := Aside0.mk (blk_drew BK185.out)
                                  have n3_ := Aside0.mk (blk_drew BK186.out)
                                  have n4_ := Aside0.mk (blk_drew BK187.out)
                                  have n5_ := Aside0.mk (below_drew1 HB.out)
                                  clear HO_5
                                  clear HO_186000
                                  clear BK185
                                  clear BK186
                                  clear BK187
                                  clear HB
                                  have HO_5 := n0_
                                  have HO_186000 := n1_
                                  have BK185 := n2_
                                  have BK186 := n3_
                                  have BK187 := n4_
                                  have HB := n5_
                                  clear n0_ n1_ n2_ n3_ n4_ n5_
                                  obtain ⟨Ao74, co74, eo74⟩ := Kd.N_slice HO_5.out
                                  (first | subst eo74 | (injection eo74 with f1_ f2_ f3_; have f4_ := f1_.symm; have f5_ := f3_.symm; clear f1_ f2_ f3_; subst f4_; subst f5_))
                                  have p209 : 0 ≤ (((rd_T75 l0_1 x6_1).f0) : Int) := of_decide_eq_true (by first | (with_reducible assumption) | assumption)
                                  have q209 : ((rd_T75 l0_1 x6_1).f0) < (x5_1.length : Int) := of_decide_eq_true (by first | (with_reducible assumption) | assumption)
                                  obtain ⟨ad209, A209_0, c209_0, e209, hx209_0, hl209_0, hi209_0⟩ := at_L1 (Kd.N_reads' HO_5.out).2.2 ((rd_T75 l0_1 x6_1).f0) p209 q209
                                  cases e209
                                  obtain ⟨ce209, hce209, hMe209, hcc209⟩ := Kd.N_get HO_5.out [] ((rd_T75 l0_1 x6_1).f0) p209 (by first | exact q209 | exact of_decide_eq_true (by first | (with_reducible assumption) | assumption) | (have e_ := (Kd.N_reads' HO_5.out).1; omega))
                                  obtain ⟨ua209_0, uc209_0, rfl, ul209_0, ge209_0⟩ := Kd.FK_slice_open hMe209
                                  have hv209_0 := hcc209 0 _ rfl
                                  rw [Nat.add_zero, show ((Kd.slice 5 (Kd.int .u8))).sz = 1 from rfl, Nat.mul_one] at hv209_0
                                  replace hv209_0 := Option.some.inj (hv209_0.symm.trans hx209_0)
                                  injection hv209_0 with hva_ hvn_ hvc_
                                  rw [hva_] at ge209_0
                                  rw [hvc_] at ul209_0
                                  have HL209_0 := Aside0.mk (show Kd.V (Kd.int .u8) 5 _ w.heap.size _ _ (rd_L1 x5_1 ((rd_T75 l0_1 x6_1).f0)) from Kd.V_mk ul209_0 ge209_0)
                                  clear hva_ hvn_ hvc_ ge209_0 ul209_0
                                  clear hcc209 hce209
                                  have HR209_0 := Aside0.mk hi209_0
                                  have HC209_0 := Aside0.mk hl209_0
                                  clear hi209_0 hl209_0
                                  replace p209 := eq_true p209
                                  replace q209 := eq_true q209
                                  have p210 : 0 ≤ (x6_1 : Int) := of_decide_eq_true (by first | (with_reducible assumption) | assumption)
                                  have q210 : x6_1 < (l0_1.length : Int) := of_decide_eq_true (by first | (with_reducible assumption) | assumption)
                                  obtain ⟨ad210, A210_1, c210_1, e210, hx210_0, hx210_1, hl210_1, hi210_1⟩ := at_T75 HR0_1.out x6_1 p210 q210
                                  have hw210_1 := hx210_1
                                  have hw210_0 := hx210_0
                                  obtain rfl : ad208 = ad210 := (by injection e210)
                                  replace hx210_0 := (HB.out.cell (World.block_lt_of_cell? w _ hx210_0)).trans hx210_0
                                  replace hx210_1 := (HB.out.cell (World.block_lt_of_cell? w _ hx210_1)).trans hx210_1
                                  have HR210_1 := Aside0.mk hi210_1
                                  have HC210_1 := Aside0.mk hl210_1
                                  clear hi210_1 hl210_1
                                  replace p210 := eq_true p210
                                  replace q210 := eq_true q210
                                  refine start_ (n := 17) (S := fun w' => w'.cell? ⟨gb185, 0, none⟩ = some (.slice A0_0 l0_0.length c0_0) ∧ w'.cell? ⟨gb185, 1, none⟩ = some (.slice (some ad208) l0_1.length c0_1) ∧ w'.cell? ⟨gb185, 2, none⟩ = some (.bool a0_2) ∧ w'.cell? ⟨gb185, 3, none⟩ = some (.bool a0_3) ∧ w'.cell? ⟨gb185, 4, none⟩ = some (.int .i64 a0_4) ∧ w'.cell? (ad209.add (((rd_T75 l0_1 x6_1).f0)).toNat) = some (.slice A209_0 (rd_L1 x5_1 ((rd_T75 l0_1 x6_1).f0)).length c209_0) ∧ w'.cell? (ad208.add ((x6_1).toNat * 2)) = some (.int .i64 ((rd_T75 l0_1 x6_1).f0)) ∧ w'.cell? ⟨(ad208.add ((x6_1).toNat * 2)).block, (ad208.add ((x6_1).toNat * 2)).off + 1, none⟩ = some (.slice A210_1 ((rd_T75 l0_1 x6_1).f1).length c210_1)) (ds := []) #[false, false, false, false, false, false, false, false, false, false, false, false, false, false, false, false, false] (by kernel_rfl) rfl rfl ⟨(blk_cell BK185.out 0).trans rfl, (blk_cell BK185.out 1).trans rfl, (blk_cell BK185.out 2).trans rfl, (blk_cell BK185.out 3).trans rfl, (blk_cell BK185.out 4).trans rfl, hx209_0, ((HB.out.cell (World.block_lt_of_cell? w _ hw210_0)).trans hw210_0), ((HB.out.cell (World.block_lt_of_cell? w _ hw210_1)).trans hw210_1)⟩ (fun hHeld => ?_); refine with_tabW bobbinref03_Crash.tab15 bobbinref03_Crash.bits15 (fun HT_ HW_ => ?_)
                                  generalize wc.drew = w73 at HO_5 HO_186000 BK185 BK186 BK187 HB HL209_0 HR209_0 HR210_1 hx209_0 hx210_0 hx210_1 hHeld ⊢
                                  refine pure_ (i := 0) (N := some 53) (v := ?_) (a' := ?_) #[true, false, false, false, false, false, false, false, false, false, false, false, false, false, false, false, false] rfl rfl (any_of HT_.out (by kernel_rfl)) (fun _ _ _ h => h) (Or.inl ⟨by rfl, ?_⟩) ?_ ?_
                                  rotate_left
                                  · intro w'
                                    go_simp
                                    with_reducible rfl
                                  rotate_left
                                  · simp only [Act.put, List.setIfInBounds_toArray, List.set_cons_zero, List.set_cons_succ, i64_w, i32_w]
                                    rfl
                                  refine pure_ (i := 1) (N := some 54) (v := ?_) (a' := ?_) #[true, true, false, false, false, false, false, false, false, false, false, false, false, false, false, false, false] rfl rfl (any_of HT_.out (by kernel_rfl)) (fun _ _ _ h => h) (Or.inl ⟨by rfl, ?_⟩) ?_ ?_
                                  rotate_left
                                  · intro w'
                                    go_simp
                                    with_reducible rfl
                                  rotate_left
                                  · simp only [Act.put, List.setIfInBounds_toArray, List.set_cons_zero, List.set_cons_succ, i64_w, i32_w]
                                    rfl
                                  refine pure_ (i := 2) (N := some 55) (v := ?_) (a' := ?_) #[true, true, true, false, false, false, false, false, false, false, false, false, false, false, false, false, false] rfl rfl (any_of HT_.out (by kernel_rfl)) (fun _ _ _ h => h) (Or.inl ⟨by rfl, ?_⟩) ?_ ?_
                                  rotate_left
                                  · intro w'
                                    go_simp
                                    with_reducible rfl
                                  rotate_left
                                  · simp only [Act.put, List.setIfInBounds_toArray, List.set_cons_zero, List.set_cons_succ, i64_w, i32_w]
                                    rfl
                                  refine pure_ (i := 4) (N := some 57) (v := ?_) (a' := ?_) #[true, true, true, false, true, false, false, false, false, false, false, false, false, false, false, false, false] rfl rfl (any_of HT_.out (by kernel_rfl)) (fun _ _ _ h => h) (Or.inl ⟨by rfl, ?_⟩) ?_ ?_
                                  rotate_left
                                  · intro w'
                                    go_simp
                                    with_reducible rfl
                                  rotate_left
                                  · simp only [Act.put, List.setIfInBounds_toArray, List.set_cons_zero, List.set_cons_succ, i64_w, i32_w]
                                    rfl
                                  refine pure_ (i := 6) (N := some 59) (v := ?_) (a' := ?_) #[true, true, true, false, true, false, true, false, false, false, false, false, false, false, false, false, false] rfl rfl (any_of HT_.out (by kernel_rfl)) (fun _ _ _ h => h) (Or.inl ⟨by rfl, ?_⟩) ?_ ?_
                                  rotate_left
                                  · intro w'
                                    go_simp
                                    with_reducible rfl
                                  rotate_left
                                  · simp only [Act.put, List.setIfInBounds_toArray, List.set_cons_zero, List.set_cons_succ, i64_w, i32_w]
                                    rfl
                                  refine pure_ (i := 10) (N := some 63) (v := ?_) (a' := ?_) #[true, true, true, false, true, false, true, false, false, false, true, false, false, false, false, false, false] rfl rfl (any_of HT_.out (by kernel_rfl)) (fun _ _ _ h => h) (Or.inl ⟨by rfl, ?_⟩) ?_ ?_
                                  rotate_left
                                  · intro w'
                                    go_simp
                                    with_reducible rfl
                                  rotate_left
                                  · simp only [Act.put, List.setIfInBounds_toArray, List.set_cons_zero, List.set_cons_succ, i64_w, i32_w]
                                    rfl
                                  refine take_ (i := 3) (N := some 56) (v := ?_) (a' := ?_) #[true, true, true, true, true, false, true, false, false, false, true, false, false, false, false, false, false] rfl rfl (take_ofW HT_.out HW_.out (by kernel_rfl)) (fun _ _ _ h => h) (Or.inl ⟨by rfl, ?_⟩) hHeld ?_ ?_
                                  rotate_left
                                  · rintro w' ⟨s0, s1, s2, s3, s4, s5, s6, s7⟩
                                    go_simp
                                    with_reducible rfl
                                  rotate_left
                                  · simp only [Act.put, List.setIfInBounds_toArray, List.set_cons_zero, List.set_cons_succ, i64_w, i32_w]
                                    rfl
                                  refine take_ (i := 5) (N := some 58) (v := ?_) (a' := ?_) #[true, true, true, true, true, true, true, false, false, false, true, false, false, false, false, false, false] rfl rfl (take_ofW HT_.out HW_.out (by kernel_rfl)) (fun _ _ _ h => h) (Or.inl ⟨by rfl, ?_⟩) hHeld ?_ ?_
                                  rotate_left
                                  · rintro w' ⟨s0, s1, s2, s3, s4, s5, s6, s7⟩
                                    go_simp
                                    with_reducible rfl
                                  rotate_left
                                  · simp only [Act.put, List.setIfInBounds_toArray, List.set_cons_zero, List.set_cons_succ, i64_w, i32_w]
                                    rfl
                                  refine pure_ (i := 7) (N := some 60) (v := ?_) (a' := ?_) #[true, true, true, true, true, true, true, true, false, false, true, false, false, false, false, false, false] rfl rfl (any_of HT_.out (by kernel_rfl)) (fun _ _ _ h => h) (Or.inl ⟨by rfl, ?_⟩) ?_ ?_
                                  rotate_left
                                  · intro w'
                                    go_simp
                                    with_reducible rfl
                                  rotate_left
                                  · simp only [Act.put, List.setIfInBounds_toArray, List.set_cons_zero, List.set_cons_succ, i64_w, i32_w]
                                    rfl
                                  refine pure_ (i := 8) (N := some 61) (v := ?_) (a' := ?_) #[true, true, true, true, true, true, true, true, true, false, true, false, false, false, false, false, false] rfl rfl (any_of HT_.out (by kernel_rfl)) (fun _ _ _ h => h) (Or.inl ⟨by rfl, ?_⟩) ?_ ?_
                                  rotate_left
                                  · intro w'
                                    go_simp
                                    with_reducible rfl
                                  rotate_left
                                  · simp only [Act.put, List.setIfInBounds_toArray, List.set_cons_zero, List.set_cons_succ, i64_w, i32_w]
                                    rfl
                                  refine take_ (i := 9) (N := some 62) (v := ?_) (a' := ?_) #[true, true, true, true, true, true, true, true, true, true, true, false, false, false, false, false, false] rfl rfl (take_ofW HT_.out HW_.out (by kernel_rfl)) (fun _ _ _ h => h) (Or.inl ⟨by rfl, ?_⟩) hHeld ?_ ?_
                                  rotate_left
                                  · rintro w' ⟨s0, s1, s2, s3, s4, s5, s6, s7⟩
                                    go_simp
                                    with_reducible rfl
                                  rotate_left
                                  · simp only [Act.put, List.setIfInBounds_toArray, List.set_cons_zero, List.set_cons_succ, i64_w, i32_w]
                                    rfl
                                  refine one_ (i := 11) (N := some 64) #[true, true, true, true, true, true, true, true, true, true, true, true, false, false, false, false, false] rfl rfl (one_of HT_.out (by kernel_rfl)) (by decide) (fun K hK => ?_)
                                  refine goes_ Try.func35 (by kernel_rfl) rfl #[.slice A209_0 (rd_L1 x5_1 ((rd_T75 l0_1 x6_1).f0)).length c209_0, .slice A210_1 ((rd_T75 l0_1 x6_1).f1).length c210_1, .int .i64 256] (by rfl) rfl rfl (by (try simp only [List.map_toArray, List.map_cons, List.map_nil]); first | done | rfl | (simp only [List.length_drop, List.length_take]; rfl)) ?_
                                  with_reducible refine (bobbinref02_Part.calls kj24 _ _ (rd_L1 x5_1 ((rd_T75 l0_1 x6_1).f0)) _ _ ((rd_T75 l0_1 x6_1).f1) 256 t211 t212 _ ?side1 ?side2 ?side3 ?side4 A68.out).mono ?_
                                  (case side1 => repeat (first | exact (by repeat (first | (with_reducible exact HR209_0.out) | (with_reducible refine Kd.C_alloc ?_ _) | (with_reducible refine Kd.C_drewN ?_ _) | (with_reducible refine Kd.C_drew ?_) | exact HR209_0.out)) | (with_reducible refine Kd.C_alloc ?_ _) | (with_reducible refine Kd.C_drewN ?_ _) | (with_reducible refine Kd.C_drew ?_)))
                                  (case side2 => exact HC209_0.out)
                                  (case side3 => repeat (first | exact (Kd.C_below HR210_1.out HB.out) | (with_reducible refine Kd.C_alloc ?_ _) | (with_reducible refine Kd.C_drewN ?_ _) | (with_reducible refine Kd.C_drew ?_)))
                                  (case side4 => exact HC210_1.out)
                                  rintro e w75 ⟨v213, rfl, ho0, hb⟩
                                  have HS5_ := (hb.cell (World.block_lt_of_cell? _ _ (hHeld.2.2.2.2.2.1))).trans (hHeld.2.2.2.2.2.1)
                                  refine ⟨_, rfl, ?_⟩
                                  have n0_ := Aside0.mk (Kd.N_elder' (by (with_reducible repeat (first | apply Kd.N_alloc | apply Kd.N_drewN | apply Kd.N_drew)); exact HO_5.out) (Kd.R_base ho0) hb)
                                  have n1_ := Aside0.mk (Kd.V_elder' (by (with_reducible repeat (first | apply Kd.V_alloc | apply Kd.V_drewN | apply Kd.V_drew)); exact HO_186000.out) (Kd.R_base ho0) hb)
                                  have n2_ := Aside0.mk (Kd.V_elder' (by (with_reducible repeat (first | apply Kd.V_alloc | apply Kd.V_drewN | apply Kd.V_drew)); exact HL209_0.out) (Kd.R_base ho0) hb)
                                  have n3_ := Aside0.mk (Kd.R_lower (Kd.R_newM (M := fun k_ => (w.heap.size ≤ k_)) ho0 (below_size (by repeat (first | (with_reducible first | exact HB.out | apply below_alloc | apply pw_below_drewN | apply below_drew1 | refine below_set ?_ GE185.out | refine below_set ?_ GE186.out | refine below_set ?_ GE187.out) | exact HB.out))) (fun k_ h_ => h_)) (below_size (by repeat (first | (with_reducible first | exact HB.out | apply below_alloc | apply pw_below_drewN | apply below_drew1 | refine below_set ?_ GE185.out | refine below_set ?_ GE186.out | refine below_set ?_ GE187.out) | exact HB.out))))
                                  have n4_ := Aside0.mk (blk_below (g := gb185) (o := .cells #[.slice A0_0 l0_0.length c0_0, .slice (some ad208) l0_1.length c0_1, .bool a0_2, .bool a0_3, .int .i64 a0_4] 51 (0, 0)) (by (with_reducible repeat (first | refine blk_drewN ?_ _ | refine blk_drew ?_ | refine blk_alloc ?_ _)); exact BK185.out) hb)
                                  have n5_ := Aside0.mk (blk_below (g := gb186) (o := .cells #[.slice A1_0 l1_0.length c1_0, .int .i64 a1_1, .int .i64 a1_2] 29 (0, 0)) (by (with_reducible repeat (first | refine blk_drewN ?_ _ | refine blk_drew ?_ | refine blk_alloc ?_ _)); exact BK186.out) hb)
                                  have n6_ := Aside0.mk (blk_below (g := gb187) (o := .cells #[.slice none 0 0, .slice none 0 0, .bool false, .bool false, .int .i64 0] 51 (0, 0)) (by (with_reducible repeat (first | refine blk_drewN ?_ _ | refine blk_drew ?_ | refine blk_alloc ?_ _)); exact BK187.out) hb)
                                  have n7_ := Aside0.mk (Kd.C_below (by repeat (first | (with_reducible exact HR209_0.out) | (with_reducible refine Kd.C_alloc ?_ _) | (with_reducible refine Kd.C_drewN ?_ _) | (with_reducible refine Kd.C_drew ?_) | exact HR209_0.out)) hb)
                                  have n8_ := Aside0.mk (below_step (by repeat (first | (with_reducible first | exact HB.out | apply below_alloc | apply pw_below_drewN | apply below_drew1 | refine below_set ?_ GE185.out | refine below_set ?_ GE186.out | refine below_set ?_ GE187.out) | exact HB.out)) hb)
                                  clear HO_5
                                  clear HO_186000
                                  clear HL209_0
                                  clear BK185
                                  clear BK186
                                  clear BK187
                                  clear HR209_0
                                  clear HB
                                  have HO_5 := n0_
                                  have HO_186000 := n1_
                                  have HL209_0 := n2_
                                  have HO214 := n3_
                                  have BK185 := n4_
                                  have BK186 := n5_
                                  have BK187 := n6_
                                  have HR209_0 := n7_
                                  have HB := n8_
                                  clear n0_ n1_ n2_ n3_ n4_ n5_ n6_ n7_ n8_
                                  (try clear hb)
                                  (try clear hb2)
                                  (try clear hk)
                                  (try clear hi)
                                  (try clear ho0)
                                  refine hK.out _ _ ⟨(blk_cell BK185.out 0).trans rfl, (blk_cell BK185.out 1).trans rfl, (blk_cell BK185.out 2).trans rfl, (blk_cell BK185.out 3).trans rfl, (blk_cell BK185.out 4).trans rfl, HS5_, ((HB.out.cell (World.block_lt_of_cell? w _ hw210_0)).trans hw210_0), ((HB.out.cell (World.block_lt_of_cell? w _ hw210_1)).trans hw210_1)⟩ (fun hHeld => ?_)
                                  clear hK K
                                  refine norm_ (a' := ?_) ?_ ?_
                                  rotate_left
                                  · show Act.put _ (some 64) _ = _
                                    simp only [Act.put, List.setIfInBounds_toArray, List.set_cons_zero, List.set_cons_succ, i64_w, i32_w]
                                    rfl
                                  refine pure_ (i := 12) (N := some 52) (v := ?_) (a' := ?_) #[true, true, true, true, true, true, true, true, true, true, true, true, true, false, false, false, false] rfl rfl (any_of HT_.out (by kernel_rfl)) (fun _ _ _ h => h) (Or.inl ⟨by rfl, ?_⟩) ?_ ?_
                                  rotate_left
                                  · intro w'
                                    go_simp
                                    with_reducible rfl
                                  rotate_left
                                  · simp only [Act.put, List.setIfInBounds_toArray, List.set_cons_zero, List.set_cons_succ, i64_w, i32_w]
                                    rfl
                                  refine pure_ (i := 13) (N := some 65) (v := ?_) (a' := ?_) #[true, true, true, true, true, true, true, true, true, true, true, true, true, true, false, false, false] rfl rfl (any_of HT_.out (by kernel_rfl)) (fun _ _ _ h => h) (Or.inl ⟨by rfl, ?_⟩) ?_ ?_
                                  rotate_left
                                  · intro w'
                                    go_simp
                                    with_reducible rfl
                                  rotate_left
                                  · simp only [Act.put, List.setIfInBounds_toArray, List.set_cons_zero, List.set_cons_succ, i64_w, i32_w]
                                    rfl
                                  refine pure_ (i := 14) (N := some 66) (v := ?_) (a' := ?_) #[true, true, true, true, true, true, true, true, true, true, true, true, true, true, true, false, false] rfl rfl (any_of HT_.out (by kernel_rfl)) (fun _ _ _ h => h) (Or.inl ⟨by rfl, ?_⟩) ?_ ?_
                                  rotate_left
                                  · intro w'
                                    go_simp
                                    with_reducible rfl
                                  rotate_left
                                  · simp only [Act.put, List.setIfInBounds_toArray, List.set_cons_zero, List.set_cons_succ, i64_w, i32_w]
                                    rfl
                                  refine pure_ (i := 15) (N := some 9) (v := ?_) (a' := ?_) #[true, true, true, true, true, true, true, true, true, true, true, true, true, true, true, true, false] rfl rfl (any_of HT_.out (by kernel_rfl)) (fun _ _ _ h => h) (Or.inl ⟨by rfl, ?_⟩) ?_ ?_
                                  rotate_left
                                  · intro w'
                                    go_simp
                                    with_reducible rfl
                                  rotate_left
                                  · simp only [Act.put, List.setIfInBounds_toArray, List.set_cons_zero, List.set_cons_succ, i64_w, i32_w]
                                    rfl
                                  refine pure_ (i := 16) (N := some 10) (v := ?_) (a' := ?_) #[true, true, true, true, true, true, true, true, true, true, true, true, true, true, true, true, true] rfl rfl (any_of HT_.out (by kernel_rfl)) (fun _ _ _ h => h) (Or.inl ⟨by rfl, ?_⟩) ?_ ?_
                                  rotate_left
                                  · intro w'
                                    go_simp
                                    with_reducible rfl
                                  rotate_left
                                  · simp only [Act.put, List.setIfInBounds_toArray, List.set_cons_zero, List.set_cons_succ, i64_w, i32_w]
                                    rfl
                                  refine done_ (done_of HT_.out (by kernel_rfl)) ?_
                                  have p69 : 0 ≤ (((rd_T75 l0_1 x6_1).f0) : Int) := of_decide_eq_true (by first | (with_reducible assumption) | assumption)
                                  have q69 : (((rd_T75 l0_1 x6_1).f0) : Int) < ((x5_1.length : Int) : Int) := of_decide_eq_true (by first | (with_reducible assumption) | assumption)
                                  obtain ⟨go69, co69, eo69, gb69, gl69, cl69, HG69⟩ := Kd.N_form HO_5.out (by omega)
                                  (first | cases eo69 | (injection eo69 with ea_ en_ ec_; (first | subst ea_ | (injection ea_ with ea_; subst ea_)); subst ec_; clear en_))
                                  have GB69 := Aside0.mk gb69
                                  have GG69 := Aside0.mk HG69
                                  clear gb69 gl69 HG69
                                  (first | simp only [add_plain] at hx209_0 | skip)
                                  obtain ⟨ce69, hcl69, hM69, hcc69, hfr69⟩ := Kd.N_elem HO_5.out [] (((rd_T75 l0_1 x6_1).f0) : Int) p69 q69
                                  obtain ⟨ua69_0, uc69_0, rfl, ul69_0, ge69_0⟩ := Kd.FK_slice_open hM69
                                  have hx69_0 := hcc69 0 _ rfl
                                  have hf69_0 := hfr69 0
                                  (try simp only [show ((Kd.slice 5 (Kd.int .u8))).sz = 1 from rfl, Nat.mul_one, Nat.add_zero] at hx69_0)
                                  (try simp only [show ((Kd.slice 5 (Kd.int .u8))).sz = 1 from rfl, Nat.mul_one, Nat.add_zero] at hf69_0)
                                  clear hcl69 hcc69 hfr69 hM69
                                  replace p69 := eq_true p69
                                  replace q69 := eq_true q69
                                  have n_ := Aside0.mk (Kd.N_mono (ok' := (fun k_ => (P0_0_ k_ ∨ w.heap.size ≤ k_) ∧ some k_ ≠ (v213 : Value).ownBlock ∧ k_ ≠ gb185 ∧ k_ ≠ gb186 ∧ k_ ≠ gb187)) HO_5.out (fun k_ hk => ⟨hk.1.1, ⟨hk.2, ⟨hk.1.2.1, ⟨hk.1.2.2.1, hk.1.2.2.2⟩⟩⟩⟩))
                                  clear HO_5
                                  have HO_5 := n_
                                  clear n_
                                  have HX76 := Aside0.mk (show Kd.N (Kd.slice 5 (Kd.int .u8)) 30 w75 w.heap.size (fun k_ => (P0_0_ k_ ∨ w.heap.size ≤ k_) ∧ k_ ≠ gb185 ∧ k_ ≠ gb186 ∧ k_ ≠ gb187) (.slice (some ⟨go69, 0, none⟩) x5_1.length co74) x5_1 from (by (with_reducible repeat (first | apply Kd.N_alloc | apply Kd.N_drewN | apply Kd.N_drew)); exact Kd.N_mono HO_5.out (fun _ hk => ⟨hk.1, ⟨hk.2.2.1, ⟨hk.2.2.2.1, hk.2.2.2.2⟩⟩⟩)))
                                  obtain ⟨ce76, hcl76, hM76, hcc76, hfr76⟩ := Kd.N_elem HX76.out [] (((rd_T75 l0_1 x6_1).f0) : Int) (of_decide_eq_true (by first | (with_reducible assumption) | assumption)) (by have h_ : (((rd_T75 l0_1 x6_1).f0) : Int) < ((x5_1.length : Int) : Int) := of_decide_eq_true (by first | (with_reducible assumption) | assumption); first | exact h_ | (have e_ := (Kd.N_reads' HO_5.out).1; omega) | simpa using h_)
                                  obtain ⟨ua76_0, uc76_0, rfl, ul76_0, ge76_0⟩ := Kd.FK_slice_open hM76
                                  obtain ⟨Aq_, cq_, eqq_⟩ := Kd.R_slice HO214.out
                                  subst eqq_
                                  have HP76 := Kd.N_seg HX76.out (((rd_T75 l0_1 x6_1).f0) : Int) (of_decide_eq_true (by first | (with_reducible assumption) | assumption)) (by have h_ : (((rd_T75 l0_1 x6_1).f0) : Int) < ((x5_1.length : Int) : Int) := of_decide_eq_true (by first | (with_reducible assumption) | assumption); first | exact h_ | (have e_ := (Kd.N_reads' HO_5.out).1; omega) | simpa using h_) (seg := [(.slice Aq_ t211.length cq_ : Value)]) (j := 0) hcl76 hcc76 (show 1 ≤ 1 from by decide) (x' := t211) (Kd.FK_slice_mk (Kd.R_reads' (Kd.R_mono (ok' := (fun k_ => ((fun k_ => (P0_0_ k_ ∨ w.heap.size ≤ k_) ∧ k_ ≠ gb185 ∧ k_ ≠ gb186 ∧ k_ ≠ gb187)) k_ ∧ k_ ≠ go69)) (Kd.R_types (Kd.R_types (Kd.R_types (Kd.R_apart' (HO214.out) (Kd.N_typed HO_5.out) (by decide)) BK185.out (by decide)) BK186.out (by decide)) BK187.out (by decide)) (fun k_ hk => ⟨⟨(.inr (hk.1.1.1.1.1)), ⟨hk.1.1.2, ⟨hk.1.2, hk.2⟩⟩⟩, fun e_ => (hk.1.1.1.2) (by rw [e_]; rfl)⟩))).2.1 (Kd.R_F (Kd.R_mono (ok' := (fun k_ => ((fun k_ => (P0_0_ k_ ∨ w.heap.size ≤ k_) ∧ k_ ≠ gb185 ∧ k_ ≠ gb186 ∧ k_ ≠ gb187)) k_ ∧ k_ ≠ go69)) (Kd.R_types (Kd.R_types (Kd.R_types (Kd.R_apart' (HO214.out) (Kd.N_typed HO_5.out) (by decide)) BK185.out (by decide)) BK186.out (by decide)) BK187.out (by decide)) (fun k_ hk => ⟨⟨(.inr (hk.1.1.1.1.1)), ⟨hk.1.1.2, ⟨hk.1.2, hk.2⟩⟩⟩, fun e_ => (hk.1.1.1.2) (by rw [e_]; rfl)⟩)))) (fun _ hk => hk)
                                  have hx76_0 := hcc76 0 _ rfl
                                  (try simp only [show ((Kd.slice 5 (Kd.int .u8))).sz = 1 from rfl, Nat.mul_one, Nat.add_zero] at hx76_0)
                                  have hf76_0 := hfr76 0
                                  (try simp only [show ((Kd.slice 5 (Kd.int .u8))).sz = 1 from rfl, Nat.mul_one, Nat.add_zero] at hf76_0)
                                  clear hcl76 hcc76 hfr76 hM76
                                  (try simp only [show ((Kd.slice 5 (Kd.int .u8))).sz = 1 from rfl, Nat.mul_one, Nat.add_zero] at HP76)
                                  (try simp only [show ((Kd.slice 5 (Kd.int .u8))).sz = 1 from rfl, Nat.mul_one, Nat.add_zero] at HP76)
                                  try go_wp2_with (first | ((with_reducible refine gate_store (t := 30) (p := 70) rfl ?_); refine store_event (t := 30) (p := 70) (v := ?vo_w77) (w1 := (w75.setCell ⟨go69, (((rd_T75 l0_1 x6_1).f0) : Int).toNat, none⟩ ((.slice Aq_ t211.length cq_ : Value)))) ?hg ?ho ?hn ?hr ?_; (case ho => rfl); (case hg => rfl); (case hn => rfl); (case hr => first | (go_simp; done) | (go_simp; rfl)); intro w77 hw; have hg : w75.grownBy w77 (some go69) := (by rw [hw]; exact HP76.2); have hp_ : Kd.N (Kd.slice 5 (Kd.int .u8)) 30 w77 w.heap.size (fun k_ => (P0_0_ k_ ∨ w.heap.size ≤ k_) ∧ k_ ≠ gb185 ∧ k_ ≠ gb186 ∧ k_ ≠ gb187) (.slice (some ⟨go69, 0, none⟩) x5_1.length co74) y215 := (by rw [hw, Ny215.out]; exact HP76.1); clear HP76; have n0_ := Aside0.mk (hp_); have n1_ := Aside0.mk (Kd.V_afterv (v := (.slice (some ⟨go69, 0, none⟩) x5_1.length co74)) (v1 := (.slice (some ⟨go69, 0, none⟩) x5_1.length co74)) (ok := (fun k_ => (P0_0_ k_ ∨ w.heap.size ≤ k_) ∧ some k_ ≠ (.slice Aq_ t211.length cq_ : Value).ownBlock ∧ k_ ≠ gb185 ∧ k_ ≠ gb186 ∧ k_ ≠ gb187)) (by (with_reducible repeat (first | apply Kd.V_alloc | apply Kd.V_drewN | apply Kd.V_drew)); exact Kd.V_mono HO_186000.out (fun _ hk => ⟨⟨hk.1.1, ⟨hk.2, ⟨hk.1.2.2.1, ⟨hk.1.2.2.2.1, hk.1.2.2.2.2⟩⟩⟩⟩, hk.1.2.1⟩)) hg (.inl rfl)); have n2_ := Aside0.mk (blk_grown (g := gb185) (o := .cells #[.slice A0_0 l0_0.length c0_0, .slice (some ad208) l0_1.length c0_1, .bool a0_2, .bool a0_3, .int .i64 a0_4] 51 (0, 0)) (by (with_reducible repeat (first | refine blk_drewN ?_ _ | refine blk_drew ?_ | refine blk_alloc ?_ _)); exact BK185.out) hg (Kd.N_ne HO_5.out BK185.out (by decide))); have n3_ := Aside0.mk (blk_grown (g := gb186) (o := .cells #[.slice A1_0 l1_0.length c1_0, .int .i64 a1_1, .int .i64 a1_2] 29 (0, 0)) (by (with_reducible repeat (first | refine blk_drewN ?_ _ | refine blk_drew ?_ | refine blk_alloc ?_ _)); exact BK186.out) hg (Kd.N_ne HO_5.out BK186.out (by decide))); have n4_ := Aside0.mk (blk_grown (g := gb187) (o := .cells #[.slice none 0 0, .slice none 0 0, .bool false, .bool false, .int .i64 0] 51 (0, 0)) (by (with_reducible repeat (first | refine blk_drewN ?_ _ | refine blk_drew ?_ | refine blk_alloc ?_ _)); exact BK187.out) hg (Kd.N_ne HO_5.out BK187.out (by decide))); have n5_ := Aside0.mk (Kd.V_afterv (v := (.slice (some ⟨go69, 0, none⟩) x5_1.length co74)) (v1 := (.slice (some ⟨go69, 0, none⟩) x5_1.length co74)) (ok := (fun k_ => (P0_0_ k_ ∨ w.heap.size ≤ k_) ∧ some k_ ≠ (.slice Aq_ t211.length cq_ : Value).ownBlock ∧ k_ ≠ gb185 ∧ k_ ≠ gb186 ∧ k_ ≠ gb187)) (by (with_reducible repeat (first | apply Kd.V_alloc | apply Kd.V_drewN | apply Kd.V_drew)); exact Kd.V_mono HL209_0.out (fun _ hk => ⟨⟨hk.1.1.1, ⟨hk.2, ⟨hk.1.1.2.1, ⟨hk.1.1.2.2.1, hk.1.1.2.2.2⟩⟩⟩⟩, hk.1.2⟩)) hg (.inl rfl)); have n6_ := Aside0.mk ((by rw [hw]; exact below_set (HB.out) GB69.out : Below w.heap.size w w77)); clear HO_5; clear HO_186000; clear BK185; clear BK186; clear BK187; clear HL209_0; clear HB; clear HO214; have HO_5 := n0_; have HO_186000 := n1_; have BK185 := n2_; have BK186 := n3_; have BK187 := n4_; have HL209_0 := n5_; have HB := n6_; clear n0_ n1_ n2_ n3_ n4_ n5_ n6_; clear hg hw hp_))
                                  go_roundg kj24
                                  case measure => have := HK1.out; have := HJ11.out; have := HJ22.out; have := HJ24.out; omega
                                  case rel => exact ⟨(y215), (wrap64 (x6_1 + 1)), (by first | rfl | (simp; done) | (simp [*]; done)), H', ⟨by have := HK1.out; have := HJ11.out; have := HJ22.out; have := HJ24.out; omega⟩, ⟨by (with_reducible repeat (first | apply Kd.N_alloc | apply Kd.N_drewN | apply Kd.N_drew)); exact HO_5.out⟩, ⟨by (with_reducible repeat (first | apply Kd.V_alloc | apply Kd.V_drewN | apply Kd.V_drew)); exact Kd.V_mono HO_186000.out (fun _ hk => ⟨hk.1.1, ⟨hk.2, ⟨hk.1.2.2.1, ⟨hk.1.2.2.2.1, hk.1.2.2.2.2⟩⟩⟩⟩)⟩, ⟨by (with_reducible repeat (first | refine blk_drewN ?_ _ | refine blk_drew ?_ | refine blk_alloc ?_ _)); exact BK185.out⟩, ⟨by (with_reducible repeat (first | refine blk_drewN ?_ _ | refine blk_drew ?_ | refine blk_alloc ?_ _)); exact BK186.out⟩, ⟨by (with_reducible repeat (first | refine blk_drewN ?_ _ | refine blk_drew ?_ | refine blk_alloc ?_ _)); exact BK187.out⟩, ⟨by repeat (first | (with_reducible first | exact HB.out | apply below_alloc | apply pw_below_drewN | apply below_drew1 | refine below_set ?_ GE185.out | refine below_set ?_ GE186.out | refine below_set ?_ GE187.out) | exact HB.out)⟩⟩
                                · rw [if_neg c67] at H
                                  exact absurd H (by simp)
                              · rw [if_neg c66] at H
                                exact absurd H (by simp)
                            · rw [if_neg c65] at H
                              exact absurd H (by simp)
                          · rw [if_neg c64] at H
                            exact absurd H (by simp)
                        · rw [if_neg c63] at H
                          have c63b0 : decide (256 < x7_24) = false := decide_eq_false c63
                          clear c63
                          by_cases c78 : 0 ≤ x6_1
                          · rw [if_pos c78] at H
                            have c78b0 : decide (0 ≤ x6_1) = true := decide_eq_true c78
                            clear c78
                            by_cases c79 : x6_1 < (l0_1.length : Int)
                            · rw [if_pos c79] at H
                              have c79b0 : decide (x6_1 < (l0_1.length : Int)) = true := decide_eq_true c79
                              clear c79
                              by_cases c80 : 0 ≤ ((rd_T75 l0_1 x6_1).f0)
                              · rw [if_pos c80] at H
                                have c80b0 : decide (0 ≤ ((rd_T75 l0_1 x6_1).f0)) = true := decide_eq_true c80
                                clear c80
                                by_cases c81 : ((rd_T75 l0_1 x6_1).f0) < (x5_1.length : Int)
                                · rw [if_pos c81] at H
                                  have c81b0 : decide (((rd_T75 l0_1 x6_1).f0) < (x5_1.length : Int)) = true := decide_eq_true c81
                                  clear c81
                                  replace H := Option.bind_eq_some_iff.mp H
                                  obtain ⟨⟨t219, t220⟩, A820, H⟩ := H
                                  replace H : (bobbinref03_Crash.l0 kj24 (x5_1.set (((rd_T75 l0_1 x6_1).f0) : Int).toNat t219) (wrap64 (x6_1 + 1)) l0_0 l0_1 a0_2 a0_3 a0_4 l1_0 a1_1 a1_2) = some (r1, r2, r3, r4, r5) := H
                                  have A82 := Aside0.mk A820
                                  clear A820
                                  obtain ⟨y223, hy223⟩ : ∃ y_ : List (List Int), y_ = (x5_1.set (((rd_T75 l0_1 x6_1).f0) : Int).toNat t219) := ⟨_, rfl⟩
                                  replace H : (bobbinref03_Crash.l0 kj24 y223 (wrap64 (x6_1 + 1)) l0_0 l0_1 a0_2 a0_3 a0_4 l1_0 a1_1 a1_2) = some (r1, r2, r3, r4, r5) := by first | (rw [hy223]; with_reducible exact H) | (have H2_ := (Option.bind_some _ _).symm.trans H; rw [hy223]; with_reducible exact H2_) | (have H2_ := (Option.bind_some _ _).symm.trans H; with_reducible exact H2_) | with_reducible exact H | (rw [hy223]; exact H) | exact H
                                  have Ny223 := Aside0.mk hy223
                                  clear hy223
                                  have H' := Aside0.mk H
                                  clear H
                                  have hnb84 := NB185_186.out
                                  have hnc84 := NB186_185.out
                                  have hnb85 := NB185_187.out
                                  have hnc85 := NB187_185.out
                                  have hcz86_0 : wc.cell? ⟨gb185, 0, none⟩ = some (.slice A0_0 l0_0.length c0_0) := (blk_cell BK185.out 0).trans rfl
                                  have hcz86_1 : wc.cell? ⟨gb185, 1, none⟩ = some (.slice A0_1 l0_1.length c0_1) := (blk_cell BK185.out 1).trans rfl
                                  have hcz86_2 : wc.cell? ⟨gb185, 2, none⟩ = some (.bool a0_2) := (blk_cell BK185.out 2).trans rfl
                                  have hcz86_3 : wc.cell? ⟨gb185, 3, none⟩ = some (.bool a0_3) := (blk_cell BK185.out 3).trans rfl
                                  have hcz86_4 : wc.cell? ⟨gb185, 4, none⟩ = some (.int .i64 a0_4) := (blk_cell BK185.out 4).trans rfl
                                  have hfz86_0 := blk_frozen BK185.out 0
                                  have hfz86_1 := blk_frozen BK185.out 1
                                  have hfz86_2 := blk_frozen BK185.out 2
                                  have hfz86_3 := blk_frozen BK185.out 3
                                  have hfz86_4 := blk_frozen BK185.out 4
                                  have p216 : 0 ≤ (x6_1 : Int) := of_decide_eq_true (by first | (with_reducible assumption) | assumption)
                                  have q216 : x6_1 < (l0_1.length : Int) := of_decide_eq_true (by first | (with_reducible assumption) | assumption)
                                  obtain ⟨ad216, A216_1, c216_1, e216, hx216_0, hx216_1, hl216_1, hi216_1⟩ := at_T75 HR0_1.out x6_1 p216 q216
                                  cases e216
                                  replace hx216_0 := (HB.out.cell (World.block_lt_of_cell? w _ hx216_0)).trans hx216_0
                                  replace hx216_1 := (HB.out.cell (World.block_lt_of_cell? w _ hx216_1)).trans hx216_1
                                  have HR216_1 := Aside0.mk hi216_1
                                  have HC216_1 := Aside0.mk hl216_1
                                  clear hi216_1 hl216_1
                                  replace p216 := eq_true p216
                                  replace q216 := eq_true q216
                                  try go_wp2
                                  have n0_ := Aside0.mk (Kd.N_drew HO_5.out)
                                  have n1_ := Aside0.mk (Kd.V_drew HO_186000.out)
                                  have n2_ := Aside0.mk (blk_drew BK185.out)
                                  have n3_ := Aside0.mk (blk_drew BK186.out)
                                  have n4_ := Aside0.mk (blk_drew BK187.out)
                                  have n5_ := Aside0.mk (below_drew1 HB.out)
                                  clear HO_5
                                  clear HO_186000
                                  clear BK185
                                  clear BK186
                                  clear BK187
                                  clear HB
                                  have HO_5 := n0_
                                  have HO_186000 := n1_
                                  have BK185 := n2_
                                  have BK186 := n3_
                                  have BK187 := n4_
                                  have HB := n5_
                                  clear n0_ n1_ n2_ n3_ n4_ n5_
                                  obtain ⟨Ao88, co88, eo88⟩ := Kd.N_slice HO_5.out
                                  (first | subst eo88 | (injection eo88 with f1_ f2_ f3_; have f4_ := f1_.symm; have f5_ := f3_.symm; clear f1_ f2_ f3_; subst f4_; subst f5_))
                                  have p217 : 0 ≤ (((rd_T75 l0_1 x6_1).f0) : Int) := of_decide_eq_true (by first | (with_reducible assumption) | assumption)
                                  have q217 : ((rd_T75 l0_1 x6_1).f0) < (x5_1.length : Int) := of_decide_eq_true (by first | (with_reducible assumption) | assumption)
                                  obtain ⟨ad217, A217_0, c217_0, e217, hx217_0, hl217_0, hi217_0⟩ := at_L1 (Kd.N_reads' HO_5.out).2.2 ((rd_T75 l0_1 x6_1).f0) p217 q217
                                  cases e217
                                  obtain ⟨ce217, hce217, hMe217, hcc217⟩ := Kd.N_get HO_5.out [] ((rd_T75 l0_1 x6_1).f0) p217 (by first | exact q217 | exact of_decide_eq_true (by first | (with_reducible assumption) | assumption) | (have e_ := (Kd.N_reads' HO_5.out).1; omega))
                                  obtain ⟨ua217_0, uc217_0, rfl, ul217_0, ge217_0⟩ := Kd.FK_slice_open hMe217
                                  have hv217_0 := hcc217 0 _ rfl
                                  rw [Nat.add_zero, show ((Kd.slice 5 (Kd.int .u8))).sz = 1 from rfl, Nat.mul_one] at hv217_0
                                  replace hv217_0 := Option.some.inj (hv217_0.symm.trans hx217_0)
                                  injection hv217_0 with hva_ hvn_ hvc_
                                  rw [hva_] at ge217_0
                                  rw [hvc_] at ul217_0
                                  have HL217_0 := Aside0.mk (show Kd.V (Kd.int .u8) 5 _ w.heap.size _ _ (rd_L1 x5_1 ((rd_T75 l0_1 x6_1).f0)) from Kd.V_mk ul217_0 ge217_0)
                                  clear hva_ hvn_ hvc_ ge217_0 ul217_0
                                  clear hcc217 hce217
                                  have HR217_0 := Aside0.mk hi217_0
                                  have HC217_0 := Aside0.mk hl217_0
                                  clear hi217_0 hl217_0
                                  replace p217 := eq_true p217
                                  replace q217 := eq_true q217
                                  have p218 : 0 ≤ (x6_1 : Int) := of_decide_eq_true (by first | (with_reducible assumption) | assumption)
                                  have q218 : x6_1 < (l0_1.length : Int) := of_decide_eq_true (by first | (with_reducible assumption) | assumption)
                                  obtain ⟨ad218, A218_1, c218_1, e218, hx218_0, hx218_1, hl218_1, hi218_1⟩ := at_T75 HR0_1.out x6_1 p218 q218
                                  have hw218_1 := hx218_1
                                  have hw218_0 := hx218_0
                                  obtain rfl : ad216 = ad218 := (by injection e218)
                                  replace hx218_0 := (HB.out.cell (World.block_lt_of_cell? w _ hx218_0)).trans hx218_0
                                  replace hx218_1 := (HB.out.cell (World.block_lt_of_cell? w _ hx218_1)).trans hx218_1
                                  have HR218_1 := Aside0.mk hi218_1
                                  have HC218_1 := Aside0.mk hl218_1
                                  clear hi218_1 hl218_1
                                  replace p218 := eq_true p218
                                  replace q218 := eq_true q218
                                  refine start_ (n := 17) (S := fun w' => w'.cell? ⟨gb185, 0, none⟩ = some (.slice A0_0 l0_0.length c0_0) ∧ w'.cell? ⟨gb185, 1, none⟩ = some (.slice (some ad216) l0_1.length c0_1) ∧ w'.cell? ⟨gb185, 2, none⟩ = some (.bool a0_2) ∧ w'.cell? ⟨gb185, 3, none⟩ = some (.bool a0_3) ∧ w'.cell? ⟨gb185, 4, none⟩ = some (.int .i64 a0_4) ∧ w'.cell? (ad217.add (((rd_T75 l0_1 x6_1).f0)).toNat) = some (.slice A217_0 (rd_L1 x5_1 ((rd_T75 l0_1 x6_1).f0)).length c217_0) ∧ w'.cell? (ad216.add ((x6_1).toNat * 2)) = some (.int .i64 ((rd_T75 l0_1 x6_1).f0)) ∧ w'.cell? ⟨(ad216.add ((x6_1).toNat * 2)).block, (ad216.add ((x6_1).toNat * 2)).off + 1, none⟩ = some (.slice A218_1 ((rd_T75 l0_1 x6_1).f1).length c218_1)) (ds := []) #[false, false, false, false, false, false, false, false, false, false, false, false, false, false, false, false, false] (by kernel_rfl) rfl rfl ⟨(blk_cell BK185.out 0).trans rfl, (blk_cell BK185.out 1).trans rfl, (blk_cell BK185.out 2).trans rfl, (blk_cell BK185.out 3).trans rfl, (blk_cell BK185.out 4).trans rfl, hx217_0, ((HB.out.cell (World.block_lt_of_cell? w _ hw218_0)).trans hw218_0), ((HB.out.cell (World.block_lt_of_cell? w _ hw218_1)).trans hw218_1)⟩ (fun hHeld => ?_); refine with_tabW bobbinref03_Crash.tab15 bobbinref03_Crash.bits15 (fun HT_ HW_ => ?_)
                                  generalize wc.drew = w87 at HO_5 HO_186000 BK185 BK186 BK187 HB HL217_0 HR217_0 HR218_1 hx217_0 hx218_0 hx218_1 hHeld ⊢
                                  refine pure_ (i := 0) (N := some 53) (v := ?_) (a' := ?_) #[true, false, false, false, false, false, false, false, false, false, false, false, false, false, false, false, false] rfl rfl (any_of HT_.out (by kernel_rfl)) (fun _ _ _ h => h) (Or.inl ⟨by rfl, ?_⟩) ?_ ?_
                                  rotate_left
                                  · intro w'
                                    go_simp
                                    with_reducible rfl
                                  rotate_left
                                  · simp only [Act.put, List.setIfInBounds_toArray, List.set_cons_zero, List.set_cons_succ, i64_w, i32_w]
                                    rfl
                                  refine pure_ (i := 1) (N := some 54) (v := ?_) (a' := ?_) #[true, true, false, false, false, false, false, false, false, false, false, false, false, false, false, false, false] rfl rfl (any_of HT_.out (by kernel_rfl)) (fun _ _ _ h => h) (Or.inl ⟨by rfl, ?_⟩) ?_ ?_
                                  rotate_left
                                  · intro w'
                                    go_simp
                                    with_reducible rfl
                                  rotate_left
                                  · simp only [Act.put, List.setIfInBounds_toArray, List.set_cons_zero, List.set_cons_succ, i64_w, i32_w]
                                    rfl
                                  refine pure_ (i := 2) (N := some 55) (v := ?_) (a' := ?_) #[true, true, true, false, false, false, false, false, false, false, false, false, false, false, false, false, false] rfl rfl (any_of HT_.out (by kernel_rfl)) (fun _ _ _ h => h) (Or.inl ⟨by rfl, ?_⟩) ?_ ?_
                                  rotate_left
                                  · intro w'
                                    go_simp
                                    with_reducible rfl
                                  rotate_left
                                  · simp only [Act.put, List.setIfInBounds_toArray, List.set_cons_zero, List.set_cons_succ, i64_w, i32_w]
                                    rfl
                                  refine pure_ (i := 4) (N := some 57) (v := ?_) (a' := ?_) #[true, true, true, false, true, false, false, false, false, false, false, false, false, false, false, false, false] rfl rfl (any_of HT_.out (by kernel_rfl)) (fun _ _ _ h => h) (Or.inl ⟨by rfl, ?_⟩) ?_ ?_
                                  rotate_left
                                  · intro w'
                                    go_simp
                                    with_reducible rfl
                                  rotate_left
                                  · simp only [Act.put, List.setIfInBounds_toArray, List.set_cons_zero, List.set_cons_succ, i64_w, i32_w]
                                    rfl
                                  refine pure_ (i := 6) (N := some 59) (v := ?_) (a' := ?_) #[true, true, true, false, true, false, true, false, false, false, false, false, false, false, false, false, false] rfl rfl (any_of HT_.out (by kernel_rfl)) (fun _ _ _ h => h) (Or.inl ⟨by rfl, ?_⟩) ?_ ?_
                                  rotate_left
                                  · intro w'
                                    go_simp
                                    with_reducible rfl
                                  rotate_left
                                  · simp only [Act.put, List.setIfInBounds_toArray, List.set_cons_zero, List.set_cons_succ, i64_w, i32_w]
                                    rfl
                                  refine pure_ (i := 10) (N := some 63) (v := ?_) (a' := ?_) #[true, true, true, false, true, false, true, false, false, false, true, false, false, false, false, false, false] rfl rfl (any_of HT_.out (by kernel_rfl)) (fun _ _ _ h => h) (Or.inl ⟨by rfl, ?_⟩) ?_ ?_
                                  rotate_left
                                  · intro w'
                                    go_simp
                                    with_reducible rfl
                                  rotate_left
                                  · simp only [Act.put, List.setIfInBounds_toArray, List.set_cons_zero, List.set_cons_succ, i64_w, i32_w]
                                    rfl
                                  refine take_ (i := 3) (N := some 56) (v := ?_) (a' := ?_) #[true, true, true, true, true, false, true, false, false, false, true, false, false, false, false, false, false] rfl rfl (take_ofW HT_.out HW_.out (by kernel_rfl)) (fun _ _ _ h => h) (Or.inl ⟨by rfl, ?_⟩) hHeld ?_ ?_
                                  rotate_left
                                  · rintro w' ⟨s0, s1, s2, s3, s4, s5, s6, s7⟩
                                    go_simp
                                    with_reducible rfl
                                  rotate_left
                                  · simp only [Act.put, List.setIfInBounds_toArray, List.set_cons_zero, List.set_cons_succ, i64_w, i32_w]
                                    rfl
                                  refine take_ (i := 5) (N := some 58) (v := ?_) (a' := ?_) #[true, true, true, true, true, true, true, false, false, false, true, false, false, false, false, false, false] rfl rfl (take_ofW HT_.out HW_.out (by kernel_rfl)) (fun _ _ _ h => h) (Or.inl ⟨by rfl, ?_⟩) hHeld ?_ ?_
                                  rotate_left
                                  · rintro w' ⟨s0, s1, s2, s3, s4, s5, s6, s7⟩
                                    go_simp
                                    with_reducible rfl
                                  rotate_left
                                  · simp only [Act.put, List.setIfInBounds_toArray, List.set_cons_zero, List.set_cons_succ, i64_w, i32_w]
                                    rfl
                                  refine pure_ (i := 7) (N := some 60) (v := ?_) (a' := ?_) #[true, true, true, true, true, true, true, true, false, false, true, false, false, false, false, false, false] rfl rfl (any_of HT_.out (by kernel_rfl)) (fun _ _ _ h => h) (Or.inl ⟨by rfl, ?_⟩) ?_ ?_
                                  rotate_left
                                  · intro w'
                                    go_simp
                                    with_reducible rfl
                                  rotate_left
                                  · simp only [Act.put, List.setIfInBounds_toArray, List.set_cons_zero, List.set_cons_succ, i64_w, i32_w]
                                    rfl
                                  refine pure_ (i := 8) (N := some 61) (v := ?_) (a' := ?_) #[true, true, true, true, true, true, true, true, true, false, true, false, false, false, false, false, false] rfl rfl (any_of HT_.out (by kernel_rfl)) (fun _ _ _ h => h) (Or.inl ⟨by rfl, ?_⟩) ?_ ?_
                                  rotate_left
                                  · intro w'
                                    go_simp
                                    with_reducible rfl
                                  rotate_left
                                  · simp only [Act.put, List.setIfInBounds_toArray, List.set_cons_zero, List.set_cons_succ, i64_w, i32_w]
                                    rfl
                                  refine take_ (i := 9) (N := some 62) (v := ?_) (a' := ?_) #[true, true, true, true, true, true, true, true, true, true, true, false, false, false, false, false, false] rfl rfl (take_ofW HT_.out HW_.out (by kernel_rfl)) (fun _ _ _ h => h) (Or.inl ⟨by rfl, ?_⟩) hHeld ?_ ?_
                                  rotate_left
                                  · rintro w' ⟨s0, s1, s2, s3, s4, s5, s6, s7⟩
                                    go_simp
                                    with_reducible rfl
                                  rotate_left
                                  · simp only [Act.put, List.setIfInBounds_toArray, List.set_cons_zero, List.set_cons_succ, i64_w, i32_w]
                                    rfl
                                  refine one_ (i := 11) (N := some 64) #[true, true, true, true, true, true, true, true, true, true, true, true, false, false, false, false, false] rfl rfl (one_of HT_.out (by kernel_rfl)) (by decide) (fun K hK => ?_)
                                  refine goes_ Try.func35 (by kernel_rfl) rfl #[.slice A217_0 (rd_L1 x5_1 ((rd_T75 l0_1 x6_1).f0)).length c217_0, .slice A218_1 ((rd_T75 l0_1 x6_1).f1).length c218_1, .int .i64 x7_24] (by rfl) rfl rfl (by (try simp only [List.map_toArray, List.map_cons, List.map_nil]); first | done | rfl | (simp only [List.length_drop, List.length_take]; rfl)) ?_
                                  with_reducible refine (bobbinref02_Part.calls kj24 _ _ (rd_L1 x5_1 ((rd_T75 l0_1 x6_1).f0)) _ _ ((rd_T75 l0_1 x6_1).f1) x7_24 t219 t220 _ ?side1 ?side2 ?side3 ?side4 A82.out).mono ?_
                                  (case side1 => repeat (first | exact (by repeat (first | (with_reducible exact HR217_0.out) | (with_reducible refine Kd.C_alloc ?_ _) | (with_reducible refine Kd.C_drewN ?_ _) | (with_reducible refine Kd.C_drew ?_) | exact HR217_0.out)) | (with_reducible refine Kd.C_alloc ?_ _) | (with_reducible refine Kd.C_drewN ?_ _) | (with_reducible refine Kd.C_drew ?_)))
                                  (case side2 => exact HC217_0.out)
                                  (case side3 => repeat (first | exact (Kd.C_below HR218_1.out HB.out) | (with_reducible refine Kd.C_alloc ?_ _) | (with_reducible refine Kd.C_drewN ?_ _) | (with_reducible refine Kd.C_drew ?_)))
                                  (case side4 => exact HC218_1.out)
                                  rintro e w89 ⟨v221, rfl, ho0, hb⟩
                                  have HS5_ := (hb.cell (World.block_lt_of_cell? _ _ (hHeld.2.2.2.2.2.1))).trans (hHeld.2.2.2.2.2.1)
                                  refine ⟨_, rfl, ?_⟩
                                  have n0_ := Aside0.mk (Kd.N_elder' (by (with_reducible repeat (first | apply Kd.N_alloc | apply Kd.N_drewN | apply Kd.N_drew)); exact HO_5.out) (Kd.R_base ho0) hb)
                                  have n1_ := Aside0.mk (Kd.V_elder' (by (with_reducible repeat (first | apply Kd.V_alloc | apply Kd.V_drewN | apply Kd.V_drew)); exact HO_186000.out) (Kd.R_base ho0) hb)
                                  have n2_ := Aside0.mk (Kd.V_elder' (by (with_reducible repeat (first | apply Kd.V_alloc | apply Kd.V_drewN | apply Kd.V_drew)); exact HL217_0.out) (Kd.R_base ho0) hb)
                                  have n3_ := Aside0.mk (Kd.R_lower (Kd.R_newM (M := fun k_ => (w.heap.size ≤ k_)) ho0 (below_size (by repeat (first | (with_reducible first | exact HB.out | apply below_alloc | apply pw_below_drewN | apply below_drew1 | refine below_set ?_ GE185.out | refine below_set ?_ GE186.out | refine below_set ?_ GE187.out) | exact HB.out))) (fun k_ h_ => h_)) (below_size (by repeat (first | (with_reducible first | exact HB.out | apply below_alloc | apply pw_below_drewN | apply below_drew1 | refine below_set ?_ GE185.out | refine below_set ?_ GE186.out | refine below_set ?_ GE187.out) | exact HB.out))))
                                  have n4_ := Aside0.mk (blk_below (g := gb185) (o := .cells #[.slice A0_0 l0_0.length c0_0, .slice (some ad216) l0_1.length c0_1, .bool a0_2, .bool a0_3, .int .i64 a0_4] 51 (0, 0)) (by (with_reducible repeat (first | refine blk_drewN ?_ _ | refine blk_drew ?_ | refine blk_alloc ?_ _)); exact BK185.out) hb)
                                  have n5_ := Aside0.mk (blk_below (g := gb186) (o := .cells #[.slice A1_0 l1_0.length c1_0, .int .i64 a1_1, .int .i64 a1_2] 29 (0, 0)) (by (with_reducible repeat (first | refine blk_drewN ?_ _ | refine blk_drew ?_ | refine blk_alloc ?_ _)); exact BK186.out) hb)
                                  have n6_ := Aside0.mk (blk_below (g := gb187) (o := .cells #[.slice none 0 0, .slice none 0 0, .bool false, .bool false, .int .i64 0] 51 (0, 0)) (by (with_reducible repeat (first | refine blk_drewN ?_ _ | refine blk_drew ?_ | refine blk_alloc ?_ _)); exact BK187.out) hb)
                                  have n7_ := Aside0.mk (Kd.C_below (by repeat (first | (with_reducible exact HR217_0.out) | (with_reducible refine Kd.C_alloc ?_ _) | (with_reducible refine Kd.C_drewN ?_ _) | (with_reducible refine Kd.C_drew ?_) | exact HR217_0.out)) hb)
                                  have n8_ := Aside0.mk (below_step (by repeat (first | (with_reducible first | exact HB.out | apply below_alloc | apply pw_below_drewN | apply below_drew1 | refine below_set ?_ GE185.out | refine below_set ?_ GE186.out | refine below_set ?_ GE187.out) | exact HB.out)) hb)
                                  clear HO_5
                                  clear HO_186000
                                  clear HL217_0
                                  clear BK185
                                  clear BK186
                                  clear BK187
                                  clear HR217_0
                                  clear HB
                                  have HO_5 := n0_
                                  have HO_186000 := n1_
                                  have HL217_0 := n2_
                                  have HO222 := n3_
                                  have BK185 := n4_
                                  have BK186 := n5_
                                  have BK187 := n6_
                                  have HR217_0 := n7_
                                  have HB := n8_
                                  clear n0_ n1_ n2_ n3_ n4_ n5_ n6_ n7_ n8_
                                  (try clear hb)
                                  (try clear hb2)
                                  (try clear hk)
                                  (try clear hi)
                                  (try clear ho0)
                                  refine hK.out _ _ ⟨(blk_cell BK185.out 0).trans rfl, (blk_cell BK185.out 1).trans rfl, (blk_cell BK185.out 2).trans rfl, (blk_cell BK185.out 3).trans rfl, (blk_cell BK185.out 4).trans rfl, HS5_, ((HB.out.cell (World.block_lt_of_cell? w _ hw218_0)).trans hw218_0), ((HB.out.cell (World.block_lt_of_cell? w _ hw218_1)).trans hw218_1)⟩ (fun hHeld => ?_)
                                  clear hK K
                                  refine norm_ (a' := ?_) ?_ ?_
                                  rotate_left
                                  · show Act.put _ (some 64) _ = _
                                    simp only [Act.put, List.setIfInBounds_toArray, List.set_cons_zero, List.set_cons_succ, i64_w, i32_w]
                                    rfl
                                  refine pure_ (i := 12) (N := some 52) (v := ?_) (a' := ?_) #[true, true, true, true, true, true, true, true, true, true, true, true, true, false, false, false, false] rfl rfl (any_of HT_.out (by kernel_rfl)) (fun _ _ _ h => h) (Or.inl ⟨by rfl, ?_⟩) ?_ ?_
                                  rotate_left
                                  · intro w'
                                    go_simp
                                    with_reducible rfl
                                  rotate_left
                                  · simp only [Act.put, List.setIfInBounds_toArray, List.set_cons_zero, List.set_cons_succ, i64_w, i32_w]
                                    rfl
                                  refine pure_ (i := 13) (N := some 65) (v := ?_) (a' := ?_) #[true, true, true, true, true, true, true, true, true, true, true, true, true, true, false, false, false] rfl rfl (any_of HT_.out (by kernel_rfl)) (fun _ _ _ h => h) (Or.inl ⟨by rfl, ?_⟩) ?_ ?_
                                  rotate_left
                                  · intro w'
                                    go_simp
                                    with_reducible rfl
                                  rotate_left
                                  · simp only [Act.put, List.setIfInBounds_toArray, List.set_cons_zero, List.set_cons_succ, i64_w, i32_w]
                                    rfl
                                  refine pure_ (i := 14) (N := some 66) (v := ?_) (a' := ?_) #[true, true, true, true, true, true, true, true, true, true, true, true, true, true, true, false, false] rfl rfl (any_of HT_.out (by kernel_rfl)) (fun _ _ _ h => h) (Or.inl ⟨by rfl, ?_⟩) ?_ ?_
                                  rotate_left
                                  · intro w'
                                    go_simp
                                    with_reducible rfl
                                  rotate_left
                                  · simp only [Act.put, List.setIfInBounds_toArray, List.set_cons_zero, List.set_cons_succ, i64_w, i32_w]
                                    rfl
                                  refine pure_ (i := 15) (N := some 9) (v := ?_) (a' := ?_) #[true, true, true, true, true, true, true, true, true, true, true, true, true, true, true, true, false] rfl rfl (any_of HT_.out (by kernel_rfl)) (fun _ _ _ h => h) (Or.inl ⟨by rfl, ?_⟩) ?_ ?_
                                  rotate_left
                                  · intro w'
                                    go_simp
                                    with_reducible rfl
                                  rotate_left
                                  · simp only [Act.put, List.setIfInBounds_toArray, List.set_cons_zero, List.set_cons_succ, i64_w, i32_w]
                                    rfl
                                  refine pure_ (i := 16) (N := some 10) (v := ?_) (a' := ?_) #[true, true, true, true, true, true, true, true, true, true, true, true, true, true, true, true, true] rfl rfl (any_of HT_.out (by kernel_rfl)) (fun _ _ _ h => h) (Or.inl ⟨by rfl, ?_⟩) ?_ ?_
                                  rotate_left
                                  · intro w'
                                    go_simp
                                    with_reducible rfl
                                  rotate_left
                                  · simp only [Act.put, List.setIfInBounds_toArray, List.set_cons_zero, List.set_cons_succ, i64_w, i32_w]
                                    rfl
                                  refine done_ (done_of HT_.out (by kernel_rfl)) ?_
                                  have p83 : 0 ≤ (((rd_T75 l0_1 x6_1).f0) : Int) := of_decide_eq_true (by first | (with_reducible assumption) | assumption)
                                  have q83 : (((rd_T75 l0_1 x6_1).f0) : Int) < ((x5_1.length : Int) : Int) := of_decide_eq_true (by first | (with_reducible assumption) | assumption)
                                  obtain ⟨go83, co83, eo83, gb83, gl83, cl83, HG83⟩ := Kd.N_form HO_5.out (by omega)
                                  (first | cases eo83 | (injection eo83 with ea_ en_ ec_; (first | subst ea_ | (injection ea_ with ea_; subst ea_)); subst ec_; clear en_))
                                  have GB83 := Aside0.mk gb83
                                  have GG83 := Aside0.mk HG83
                                  clear gb83 gl83 HG83
                                  (first | simp only [add_plain] at hx217_0 | skip)
                                  obtain ⟨ce83, hcl83, hM83, hcc83, hfr83⟩ := Kd.N_elem HO_5.out [] (((rd_T75 l0_1 x6_1).f0) : Int) p83 q83
                                  obtain ⟨ua83_0, uc83_0, rfl, ul83_0, ge83_0⟩ := Kd.FK_slice_open hM83
                                  have hx83_0 := hcc83 0 _ rfl
                                  have hf83_0 := hfr83 0
                                  (try simp only [show ((Kd.slice 5 (Kd.int .u8))).sz = 1 from rfl, Nat.mul_one, Nat.add_zero] at hx83_0)
                                  (try simp only [show ((Kd.slice 5 (Kd.int .u8))).sz = 1 from rfl, Nat.mul_one, Nat.add_zero] at hf83_0)
                                  clear hcl83 hcc83 hfr83 hM83
                                  replace p83 := eq_true p83
                                  replace q83 := eq_true q83
                                  have n_ := Aside0.mk (Kd.N_mono (ok' := (fun k_ => (P0_0_ k_ ∨ w.heap.size ≤ k_) ∧ some k_ ≠ (v221 : Value).ownBlock ∧ k_ ≠ gb185 ∧ k_ ≠ gb186 ∧ k_ ≠ gb187)) HO_5.out (fun k_ hk => ⟨hk.1.1, ⟨hk.2, ⟨hk.1.2.1, ⟨hk.1.2.2.1, hk.1.2.2.2⟩⟩⟩⟩))
                                  clear HO_5
                                  have HO_5 := n_
                                  clear n_
                                  have HX90 := Aside0.mk (show Kd.N (Kd.slice 5 (Kd.int .u8)) 30 w89 w.heap.size (fun k_ => (P0_0_ k_ ∨ w.heap.size ≤ k_) ∧ k_ ≠ gb185 ∧ k_ ≠ gb186 ∧ k_ ≠ gb187) (.slice (some ⟨go83, 0, none⟩) x5_1.length co88) x5_1 from (by (with_reducible repeat (first | apply Kd.N_alloc | apply Kd.N_drewN | apply Kd.N_drew)); exact Kd.N_mono HO_5.out (fun _ hk => ⟨hk.1, ⟨hk.2.2.1, ⟨hk.2.2.2.1, hk.2.2.2.2⟩⟩⟩)))
                                  obtain ⟨ce90, hcl90, hM90, hcc90, hfr90⟩ := Kd.N_elem HX90.out [] (((rd_T75 l0_1 x6_1).f0) : Int) (of_decide_eq_true (by first | (with_reducible assumption) | assumption)) (by have h_ : (((rd_T75 l0_1 x6_1).f0) : Int) < ((x5_1.length : Int) : Int) := of_decide_eq_true (by first | (with_reducible assumption) | assumption); first | exact h_ | (have e_ := (Kd.N_reads' HO_5.out).1; omega) | simpa using h_)
                                  obtain ⟨ua90_0, uc90_0, rfl, ul90_0, ge90_0⟩ := Kd.FK_slice_open hM90
                                  obtain ⟨Aq_, cq_, eqq_⟩ := Kd.R_slice HO222.out
                                  subst eqq_
                                  have HP90 := Kd.N_seg HX90.out (((rd_T75 l0_1 x6_1).f0) : Int) (of_decide_eq_true (by first | (with_reducible assumption) | assumption)) (by have h_ : (((rd_T75 l0_1 x6_1).f0) : Int) < ((x5_1.length : Int) : Int) := of_decide_eq_true (by first | (with_reducible assumption) | assumption); first | exact h_ | (have e_ := (Kd.N_reads' HO_5.out).1; omega) | simpa using h_) (seg := [(.slice Aq_ t219.length cq_ : Value)]) (j := 0) hcl90 hcc90 (show 1 ≤ 1 from by decide) (x' := t219) (Kd.FK_slice_mk (Kd.R_reads' (Kd.R_mono (ok' := (fun k_ => ((fun k_ => (P0_0_ k_ ∨ w.heap.size ≤ k_) ∧ k_ ≠ gb185 ∧ k_ ≠ gb186 ∧ k_ ≠ gb187)) k_ ∧ k_ ≠ go83)) (Kd.R_types (Kd.R_types (Kd.R_types (Kd.R_apart' (HO222.out) (Kd.N_typed HO_5.out) (by decide)) BK185.out (by decide)) BK186.out (by decide)) BK187.out (by decide)) (fun k_ hk => ⟨⟨(.inr (hk.1.1.1.1.1)), ⟨hk.1.1.2, ⟨hk.1.2, hk.2⟩⟩⟩, fun e_ => (hk.1.1.1.2) (by rw [e_]; rfl)⟩))).2.1 (Kd.R_F (Kd.R_mono (ok' := (fun k_ => ((fun k_ => (P0_0_ k_ ∨ w.heap.size ≤ k_) ∧ k_ ≠ gb185 ∧ k_ ≠ gb186 ∧ k_ ≠ gb187)) k_ ∧ k_ ≠ go83)) (Kd.R_types (Kd.R_types (Kd.R_types (Kd.R_apart' (HO222.out) (Kd.N_typed HO_5.out) (by decide)) BK185.out (by decide)) BK186.out (by decide)) BK187.out (by decide)) (fun k_ hk => ⟨⟨(.inr (hk.1.1.1.1.1)), ⟨hk.1.1.2, ⟨hk.1.2, hk.2⟩⟩⟩, fun e_ => (hk.1.1.1.2) (by rw [e_]; rfl)⟩)))) (fun _ hk => hk)
                                  have hx90_0 := hcc90 0 _ rfl
                                  (try simp only [show ((Kd.slice 5 (Kd.int .u8))).sz = 1 from rfl, Nat.mul_one, Nat.add_zero] at hx90_0)
                                  have hf90_0 := hfr90 0
                                  (try simp only [show ((Kd.slice 5 (Kd.int .u8))).sz = 1 from rfl, Nat.mul_one, Nat.add_zero] at hf90_0)
                                  clear hcl90 hcc90 hfr90 hM90
                                  (try simp only [show ((Kd.slice 5 (Kd.int .u8))).sz = 1 from rfl, Nat.mul_one, Nat.add_zero] at HP90)
                                  (try simp only [show ((Kd.slice 5 (Kd.int .u8))).sz = 1 from rfl, Nat.mul_one, Nat.add_zero] at HP90)
                                  try go_wp2_with (first | ((with_reducible refine gate_store (t := 30) (p := 70) rfl ?_); refine store_event (t := 30) (p := 70) (v := ?vo_w91) (w1 := (w89.setCell ⟨go83, (((rd_T75 l0_1 x6_1).f0) : Int).toNat, none⟩ ((.slice Aq_ t219.length cq_ : Value)))) ?hg ?ho ?hn ?hr ?_; (case ho => rfl); (case hg => rfl); (case hn => rfl); (case hr => first | (go_simp; done) | (go_simp; rfl)); intro w91 hw; have hg : w89.grownBy w91 (some go83) := (by rw [hw]; exact HP90.2); have hp_ : Kd.N (Kd.slice 5 (Kd.int .u8)) 30 w91 w.heap.size (fun k_ => (P0_0_ k_ ∨ w.heap.size ≤ k_) ∧ k_ ≠ gb185 ∧ k_ ≠ gb186 ∧ k_ ≠ gb187) (.slice (some ⟨go83, 0, none⟩) x5_1.length co88) y223 := (by rw [hw, Ny223.out]; exact HP90.1); clear HP90; have n0_ := Aside0.mk (hp_); have n1_ := Aside0.mk (Kd.V_afterv (v := (.slice (some ⟨go83, 0, none⟩) x5_1.length co88)) (v1 := (.slice (some ⟨go83, 0, none⟩) x5_1.length co88)) (ok := (fun k_ => (P0_0_ k_ ∨ w.heap.size ≤ k_) ∧ some k_ ≠ (.slice Aq_ t219.length cq_ : Value).ownBlock ∧ k_ ≠ gb185 ∧ k_ ≠ gb186 ∧ k_ ≠ gb187)) (by (with_reducible repeat (first | apply Kd.V_alloc | apply Kd.V_drewN | apply Kd.V_drew)); exact Kd.V_mono HO_186000.out (fun _ hk => ⟨⟨hk.1.1, ⟨hk.2, ⟨hk.1.2.2.1, ⟨hk.1.2.2.2.1, hk.1.2.2.2.2⟩⟩⟩⟩, hk.1.2.1⟩)) hg (.inl rfl)); have n2_ := Aside0.mk (blk_grown (g := gb185) (o := .cells #[.slice A0_0 l0_0.length c0_0, .slice (some ad216) l0_1.length c0_1, .bool a0_2, .bool a0_3, .int .i64 a0_4] 51 (0, 0)) (by (with_reducible repeat (first | refine blk_drewN ?_ _ | refine blk_drew ?_ | refine blk_alloc ?_ _)); exact BK185.out) hg (Kd.N_ne HO_5.out BK185.out (by decide))); have n3_ := Aside0.mk (blk_grown (g := gb186) (o := .cells #[.slice A1_0 l1_0.length c1_0, .int .i64 a1_1, .int .i64 a1_2] 29 (0, 0)) (by (with_reducible repeat (first | refine blk_drewN ?_ _ | refine blk_drew ?_ | refine blk_alloc ?_ _)); exact BK186.out) hg (Kd.N_ne HO_5.out BK186.out (by decide))); have n4_ := Aside0.mk (blk_grown (g := gb187) (o := .cells #[.slice none 0 0, .slice none 0 0, .bool false, .bool false, .int .i64 0] 51 (0, 0)) (by (with_reducible repeat (first | refine blk_drewN ?_ _ | refine blk_drew ?_ | refine blk_alloc ?_ _)); exact BK187.out) hg (Kd.N_ne HO_5.out BK187.out (by decide))); have n5_ := Aside0.mk (Kd.V_afterv (v := (.slice (some ⟨go83, 0, none⟩) x5_1.length co88)) (v1 := (.slice (some ⟨go83, 0, none⟩) x5_1.length co88)) (ok := (fun k_ => (P0_0_ k_ ∨ w.heap.size ≤ k_) ∧ some k_ ≠ (.slice Aq_ t219.length cq_ : Value).ownBlock ∧ k_ ≠ gb185 ∧ k_ ≠ gb186 ∧ k_ ≠ gb187)) (by (with_reducible repeat (first | apply Kd.V_alloc | apply Kd.V_drewN | apply Kd.V_drew)); exact Kd.V_mono HL217_0.out (fun _ hk => ⟨⟨hk.1.1.1, ⟨hk.2, ⟨hk.1.1.2.1, ⟨hk.1.1.2.2.1, hk.1.1.2.2.2⟩⟩⟩⟩, hk.1.2⟩)) hg (.inl rfl)); have n6_ := Aside0.mk ((by rw [hw]; exact below_set (HB.out) GB83.out : Below w.heap.size w w91)); clear HO_5; clear HO_186000; clear BK185; clear BK186; clear BK187; clear HL217_0; clear HB; clear HO222; have HO_5 := n0_; have HO_186000 := n1_; have BK185 := n2_; have BK186 := n3_; have BK187 := n4_; have HL217_0 := n5_; have HB := n6_; clear n0_ n1_ n2_ n3_ n4_ n5_ n6_; clear hg hw hp_))
                                  go_roundg kj24
                                  case measure => have := HK1.out; have := HJ11.out; have := HJ22.out; have := HJ24.out; omega
                                  case rel => exact ⟨(y223), (wrap64 (x6_1 + 1)), (by first | rfl | (simp; done) | (simp [*]; done)), H', ⟨by have := HK1.out; have := HJ11.out; have := HJ22.out; have := HJ24.out; omega⟩, ⟨by (with_reducible repeat (first | apply Kd.N_alloc | apply Kd.N_drewN | apply Kd.N_drew)); exact HO_5.out⟩, ⟨by (with_reducible repeat (first | apply Kd.V_alloc | apply Kd.V_drewN | apply Kd.V_drew)); exact Kd.V_mono HO_186000.out (fun _ hk => ⟨hk.1.1, ⟨hk.2, ⟨hk.1.2.2.1, ⟨hk.1.2.2.2.1, hk.1.2.2.2.2⟩⟩⟩⟩)⟩, ⟨by (with_reducible repeat (first | refine blk_drewN ?_ _ | refine blk_drew ?_ | refine blk_alloc ?_ _)); exact BK185.out⟩, ⟨by (with_reducible repeat (first | refine blk_drewN ?_ _ | refine blk_drew ?_ | refine blk_alloc ?_ _)); exact BK186.out⟩, ⟨by (with_reducible repeat (first | refine blk_drewN ?_ _ | refine blk_drew ?_ | refine blk_alloc ?_ _)); exact BK187.out⟩, ⟨by repeat (first | (with_reducible first | exact HB.out | apply below_alloc | apply pw_below_drewN | apply below_drew1 | refine below_set ?_ GE185.out | refine below_set ?_ GE186.out | refine below_set ?_ GE187.out) | exact HB.out)⟩⟩
                                · rw [if_neg c81] at H
                                  exact absurd H (by simp)
                              · rw [if_neg c80] at H
                                exact absurd H (by simp)
                            · rw [if_neg c79] at H
                              exact absurd H (by simp)
                          · rw [if_neg c78] at H
                            exact absurd H (by simp)
        · rw [if_neg c11] at H
          have c11b0 : decide (x6_1 < (l0_1.length : Int)) = false := decide_eq_false c11
          clear c11
          simp only [Option.some.injEq, Prod.mk.injEq] at H
          obtain ⟨rfl, rfl, rfl, rfl, rfl⟩ := H
          have hnb92 := NB185_186.out
          have hnc92 := NB186_185.out
          have hnb93 := NB185_187.out
          have hnc93 := NB187_185.out
          have hcz94_0 : wr.cell? ⟨gb185, 0, none⟩ = some (.slice A0_0 l0_0.length c0_0) := (blk_cell BK185.out 0).trans rfl
          have hcz94_1 : wr.cell? ⟨gb185, 1, none⟩ = some (.slice A0_1 l0_1.length c0_1) := (blk_cell BK185.out 1).trans rfl
          have hcz94_2 : wr.cell? ⟨gb185, 2, none⟩ = some (.bool a0_2) := (blk_cell BK185.out 2).trans rfl
          have hcz94_3 : wr.cell? ⟨gb185, 3, none⟩ = some (.bool a0_3) := (blk_cell BK185.out 3).trans rfl
          have hcz94_4 : wr.cell? ⟨gb185, 4, none⟩ = some (.int .i64 a0_4) := (blk_cell BK185.out 4).trans rfl
          have hfz94_0 := blk_frozen BK185.out 0
          have hfz94_1 := blk_frozen BK185.out 1
          have hfz94_2 := blk_frozen BK185.out 2
          have hfz94_3 := blk_frozen BK185.out 3
          have hfz94_4 := blk_frozen BK185.out 4
          obtain ⟨Ao95, co95, eo95⟩ := Kd.N_slice HO_5.out
          subst eo95
          have hnb96 := NB187_186.out
          have hnc96 := NB186_187.out
          have hcz97_0 : wr.cell? ⟨gb187, 0, none⟩ = some (.slice none 0 0) := (blk_cell BK187.out 0).trans rfl
          have hcz97_1 : wr.cell? ⟨gb187, 1, none⟩ = some (.slice none 0 0) := (blk_cell BK187.out 1).trans rfl
          have hcz97_2 : wr.cell? ⟨gb187, 2, none⟩ = some (.bool false) := (blk_cell BK187.out 2).trans rfl
          have hcz97_3 : wr.cell? ⟨gb187, 3, none⟩ = some (.bool false) := (blk_cell BK187.out 3).trans rfl
          have hcz97_4 : wr.cell? ⟨gb187, 4, none⟩ = some (.int .i64 0) := (blk_cell BK187.out 4).trans rfl
          have hfz97_0 := blk_frozen BK187.out 0
          have hfz97_1 := blk_frozen BK187.out 1
          have hfz97_2 := blk_frozen BK187.out 2
          have hfz97_3 := blk_frozen BK187.out 3
          have hfz97_4 := blk_frozen BK187.out 4
          go_wp2
          refine bodyPost_ret (results_cell_row rfl _ _ gb187 51 #[.slice Ao95 x5_1.length co95, .slice none 0 0, .bool false, .bool false, .int .i64 0] (0, 0) _ rfl (by (with_reducible repeat (first | refine blk_drewN ?_ _ | refine blk_drew ?_ | refine blk_alloc ?_ _)); refine blk_put (cs := #[.slice Ao95 x5_1.length co95, .slice none 0 0, .bool false, .bool false, .int .i64 0]) ?_ 4 _ rfl; (with_reducible repeat (first | refine blk_drewN ?_ _ | refine blk_drew ?_ | refine blk_alloc ?_ _)); refine blk_put (cs := #[.slice Ao95 x5_1.length co95, .slice none 0 0, .bool false, .bool false, .int .i64 0]) ?_ 3 _ rfl; (with_reducible repeat (first | refine blk_drewN ?_ _ | refine blk_drew ?_ | refine blk_alloc ?_ _)); refine blk_put (cs := #[.slice Ao95 x5_1.length co95, .slice none 0 0, .bool false, .bool false, .int .i64 0]) ?_ 2 _ rfl; (with_reducible repeat (first | refine blk_drewN ?_ _ | refine blk_drew ?_ | refine blk_alloc ?_ _)); refine blk_put (cs := #[.slice Ao95 x5_1.length co95, .slice none 0 0, .bool false, .bool false, .int .i64 0]) ?_ 1 _ rfl; (with_reducible repeat (first | refine blk_drewN ?_ _ | refine blk_drew ?_ | refine blk_alloc ?_ _)); refine blk_put (cs := #[.slice none 0 0, .slice none 0 0, .bool false, .bool false, .int .i64 0]) ?_ 0 _ rfl; (with_reducible repeat (first | refine blk_drewN ?_ _ | refine blk_drew ?_ | refine blk_alloc ?_ _)); exact BK187.out) Try.underlying51 rfl (by kernel_rfl)) rfl ?_
          exact ⟨_, _, by first | rfl | (simp [errW_none, errW_some] <;> rfl) | (simp [*, errW_none, errW_some] <;> rfl), by (with_reducible repeat (first | apply Kd.N_alloc | apply Kd.N_drewN | apply Kd.N_drew)); exact Kd.N_mono (Kd.N_far (p := ⟨gb187, 4, none⟩) (Kd.N_far (p := ⟨gb187, 3, none⟩) (Kd.N_far (p := ⟨gb187, 2, none⟩) (Kd.N_far (p := ⟨gb187, 1, none⟩) (Kd.N_far (p := ⟨gb187, 0, none⟩) (Kd.N_mono HO_5.out (fun k_ hk => (⟨hk, hk.2.2.2⟩ : _ ∧ k_ ≠ gb187))) (fun _ hk => hk.2) (.slice Ao95 x5_1.length co95)) (fun _ hk => hk.2) (.slice none 0 0)) (fun _ hk => hk.2) (.bool false)) (fun _ hk => hk.2) (.bool false)) (fun _ hk => hk.2) (.int .i64 0)) (fun _ hk => ⟨hk.1.1, (by simp [Value.ownBlock])⟩), by first | exact Kd.S_nil _ _ _ _ _ | exact Kd.N_nil _ _ _ _ _ | exact Kd.V_nil _ _ _ _ _ | exact Kd.Q_nil _ _ _ _ _ | exact Kd.R_nil _ _ _ _ _, by repeat (first | (with_reducible first | exact HB.out | apply below_alloc | apply pw_below_drewN | apply below_drew1 | refine below_set ?_ GE185.out | refine below_set ?_ GE186.out | refine below_set ?_ GE187.out) | exact HB.out)⟩
  · rw [if_neg c3] at H
    exact absurd H (by simp)

end Go.Proofs.Ytghhmbagjhmgfaa.Print
