-- Written by a program of this session (myprint.py over the kit's print.py) out of the translation. Not trusted: Lean checks it.
import Derived.Test.YtdpdghahmapgkaaPrint0
import Derived.Test.YtdpdghahmapgkaaPrint1
namespace Go.Proofs.Ytdpdghahmapgkaa.Print
open Go.RowKit Go.Proofs.YtdpdghahmapgkaaW.PrintWords Go.Proofs.YtdpdghahmapgkaaW.PrintLast Go.Proofs.YtdpdghahmapgkaaW.PrintMore
attribute [local go_sem] max2_int min2_int max_two min_two max_three min_three max_four min_four   -- for this text's walks alone
set_option linter.unusedVariables false
set_option linter.unusedSimpArgs false

/-! ### bobbinlaw13_WaitFree: function 5 -/
mutual
def bobbinlaw13_WaitFree.j0 : Nat → List (S29) → Bool → Bool → Option (Bool)
  | 0, _, _, _ => none
  | k + 1, x0, x3, x29 => if x29 = true then (some x3) else (bobbinlaw13_WaitFree.l0 k x0 0)
def bobbinlaw13_WaitFree.l0 : Nat → List (S29) → Int → Option (Bool)
  | 0, _, _ => none
  | k + 1, x0, x5 => if x5 < (x0.length : Int) then (bobbinlaw13_WaitFree.l1 k x0 x5 true 0) else (some false)
def bobbinlaw13_WaitFree.l1 : Nat → List (S29) → Int → Bool → Int → Option (Bool)
  | 0, _, _, _, _ => none
  | k + 1, x0, x5, x6, x7 => if x7 < (x0.length : Int) then (if x6 = true then (if 0 ≤ x7 then (if 0 ≤ x5 then (if x5 < (x0.length : Int) then (if ((rd_T29 x0 x7).f0) = ((rd_T29 x0 x5).f0) then (bobbinlaw13_WaitFree.l1 k x0 x5 ((((rd_T29 x0 x7).f1).length : Int) == 0) (wrap64 (x7 + 1))) else (bobbinlaw13_WaitFree.l1 k x0 x5 true (wrap64 (x7 + 1)))) else (none)) else (none)) else (none)) else (bobbinlaw13_WaitFree.l1 k x0 x5 false (wrap64 (x7 + 1)))) else (if x6 = true then (some true) else (bobbinlaw13_WaitFree.l2 k x0 x5 0))
def bobbinlaw13_WaitFree.l2 : Nat → List (S29) → Int → Int → Option (Bool)
  | 0, _, _, _ => none
  | k + 1, x0, x5, x8 => if 0 ≤ x5 then (if x5 < (x0.length : Int) then (if x8 < (((rd_T29 x0 x5).f1).length : Int) then (bobbinlaw13_WaitFree.l3 k x0 x5 x8 false 0) else (bobbinlaw13_WaitFree.l0 k x0 (wrap64 (x5 + 1)))) else (none)) else (none)
def bobbinlaw13_WaitFree.l3 : Nat → List (S29) → Int → Int → Bool → Int → Option (Bool)
  | 0, _, _, _, _, _ => none
  | k + 1, x0, x5, x8, x9, x10 => if x10 < (x0.length : Int) then (if x9 = true then (bobbinlaw13_WaitFree.l3 k x0 x5 x8 true (wrap64 (x10 + 1))) else (if 0 ≤ x10 then (if 0 ≤ x5 then (if x5 < (x0.length : Int) then (if 0 ≤ x8 then (if x8 < (((rd_T29 x0 x5).f1).length : Int) then (if ((rd_T29 x0 x10).f0) = (rd ((rd_T29 x0 x5).f1) x8) then (bobbinlaw13_WaitFree.l3 k x0 x5 x8 (decide ((((rd_T29 x0 x10).f1).length : Int) > 0)) (wrap64 (x10 + 1))) else (bobbinlaw13_WaitFree.l3 k x0 x5 x8 false (wrap64 (x10 + 1)))) else (none)) else (none)) else (none)) else (none)) else (none))) else (if x9 = true then (bobbinlaw13_WaitFree.l2 k x0 x5 (wrap64 (x8 + 1))) else (some true))
end
theorem bobbinlaw13_WaitFree.j0_eq : ∀ (k : Nat) x0 x3 x29, bobbinlaw13_WaitFree.j0 (k + 1) x0 x3 x29 = (if x29 = true then (some x3) else (bobbinlaw13_WaitFree.l0 k x0 0)) := fun _ _ _ _ => rfl
theorem bobbinlaw13_WaitFree.l0_eq : ∀ (k : Nat) x0 x5, bobbinlaw13_WaitFree.l0 (k + 1) x0 x5 = (if x5 < (x0.length : Int) then (bobbinlaw13_WaitFree.l1 k x0 x5 true 0) else (some false)) := fun _ _ _ => rfl
theorem bobbinlaw13_WaitFree.l1_eq : ∀ (k : Nat) x0 x5 x6 x7, bobbinlaw13_WaitFree.l1 (k + 1) x0 x5 x6 x7 = (if x7 < (x0.length : Int) then (if x6 = true then (if 0 ≤ x7 then (if 0 ≤ x5 then (if x5 < (x0.length : Int) then (if ((rd_T29 x0 x7).f0) = ((rd_T29 x0 x5).f0) then (bobbinlaw13_WaitFree.l1 k x0 x5 ((((rd_T29 x0 x7).f1).length : Int) == 0) (wrap64 (x7 + 1))) else (bobbinlaw13_WaitFree.l1 k x0 x5 true (wrap64 (x7 + 1)))) else (none)) else (none)) else (none)) else (bobbinlaw13_WaitFree.l1 k x0 x5 false (wrap64 (x7 + 1)))) else (if x6 = true then (some true) else (bobbinlaw13_WaitFree.l2 k x0 x5 0))) := fun _ _ _ _ _ => rfl
theorem bobbinlaw13_WaitFree.l2_eq : ∀ (k : Nat) x0 x5 x8, bobbinlaw13_WaitFree.l2 (k + 1) x0 x5 x8 = (if 0 ≤ x5 then (if x5 < (x0.length : Int) then (if x8 < (((rd_T29 x0 x5).f1).length : Int) then (bobbinlaw13_WaitFree.l3 k x0 x5 x8 false 0) else (bobbinlaw13_WaitFree.l0 k x0 (wrap64 (x5 + 1)))) else (none)) else (none)) := fun _ _ _ _ => rfl
theorem bobbinlaw13_WaitFree.l3_eq : ∀ (k : Nat) x0 x5 x8 x9 x10, bobbinlaw13_WaitFree.l3 (k + 1) x0 x5 x8 x9 x10 = (if x10 < (x0.length : Int) then (if x9 = true then (bobbinlaw13_WaitFree.l3 k x0 x5 x8 true (wrap64 (x10 + 1))) else (if 0 ≤ x10 then (if 0 ≤ x5 then (if x5 < (x0.length : Int) then (if 0 ≤ x8 then (if x8 < (((rd_T29 x0 x5).f1).length : Int) then (if ((rd_T29 x0 x10).f0) = (rd ((rd_T29 x0 x5).f1) x8) then (bobbinlaw13_WaitFree.l3 k x0 x5 x8 (decide ((((rd_T29 x0 x10).f1).length : Int) > 0)) (wrap64 (x10 + 1))) else (bobbinlaw13_WaitFree.l3 k x0 x5 x8 false (wrap64 (x10 + 1)))) else (none)) else (none)) else (none)) else (none)) else (none))) else (if x9 = true then (bobbinlaw13_WaitFree.l2 k x0 x5 (wrap64 (x8 + 1))) else (some true))) := fun _ _ _ _ _ _ => rfl
def bobbinlaw13_WaitFree.f (k : Nat) (l0 : List (S29)) : Option (Bool) := (bobbinlaw13_awake.f).bind fun t146 => ((bobbinlaw13_few.f k l0).bind fun t147 => (if t146 = true then (if t147 = true then ((wait_Still.f l0).bind fun t148 => (if t148 = true then (bobbinlaw13_WaitFree.j0 k l0 t146 ((l0.length : Int) == 0)) else (bobbinlaw13_WaitFree.j0 k l0 t146 true))) else (bobbinlaw13_WaitFree.j0 k l0 t146 true)) else (bobbinlaw13_WaitFree.j0 k l0 t146 true)))
theorem bobbinlaw13_WaitFree.mono_l : ∀ k, (∀ y0 y1 y2, LeO (bobbinlaw13_WaitFree.j0 k y0 y1 y2) (bobbinlaw13_WaitFree.j0 (k + 1) y0 y1 y2)) ∧ (∀ y0 y1, LeO (bobbinlaw13_WaitFree.l0 k y0 y1) (bobbinlaw13_WaitFree.l0 (k + 1) y0 y1)) ∧ (∀ y0 y1 y2 y3, LeO (bobbinlaw13_WaitFree.l1 k y0 y1 y2 y3) (bobbinlaw13_WaitFree.l1 (k + 1) y0 y1 y2 y3)) ∧ (∀ y0 y1 y2, LeO (bobbinlaw13_WaitFree.l2 k y0 y1 y2) (bobbinlaw13_WaitFree.l2 (k + 1) y0 y1 y2)) ∧ (∀ y0 y1 y2 y3 y4, LeO (bobbinlaw13_WaitFree.l3 k y0 y1 y2 y3 y4) (bobbinlaw13_WaitFree.l3 (k + 1) y0 y1 y2 y3 y4))
  | 0 => ⟨fun _ _ _ r h => by first | (cases h; done) | simp [bobbinlaw13_WaitFree.j0] at h, fun _ _ r h => by first | (cases h; done) | simp [bobbinlaw13_WaitFree.l0] at h, fun _ _ _ _ r h => by first | (cases h; done) | simp [bobbinlaw13_WaitFree.l1] at h, fun _ _ _ r h => by first | (cases h; done) | simp [bobbinlaw13_WaitFree.l2] at h, fun _ _ _ _ _ r h => by first | (cases h; done) | simp [bobbinlaw13_WaitFree.l3] at h⟩
  | k + 1 => by
    obtain ⟨ih0, ih1, ih2, ih3, ih4⟩ := bobbinlaw13_WaitFree.mono_l k
    refine ⟨?_, ?_, ?_, ?_, ?_⟩
    · intro y0 y1 y2
      unfold bobbinlaw13_WaitFree.j0
      repeat' first
      | (with_reducible exact ih0 _ _ _)
      | (with_reducible exact ih1 _ _)
      | (with_reducible exact ih2 _ _ _ _)
      | (with_reducible exact ih3 _ _ _)
      | (with_reducible exact ih4 _ _ _ _ _)
      | (with_reducible exact bobbinlaw13_few.mono _ _)
      | (with_reducible exact LeO.refl _)
      | (with_reducible exact LeO.none _)
      | (with_reducible refine LeO.ite ?_ ?_)
      | (with_reducible refine LeO.bind ?_ (fun _ => ?_))
      | exact ih0 _ _ _
      | exact ih1 _ _
      | exact ih2 _ _ _ _
      | exact ih3 _ _ _
      | exact ih4 _ _ _ _ _
      | exact bobbinlaw13_few.mono _ _
      | exact LeO.none _
      | refine LeO.ite ?_ ?_
      | refine LeO.bind ?_ (fun _ => ?_)
    · intro y0 y1
      unfold bobbinlaw13_WaitFree.l0
      repeat' first
      | (with_reducible exact ih0 _ _ _)
      | (with_reducible exact ih1 _ _)
      | (with_reducible exact ih2 _ _ _ _)
      | (with_reducible exact ih3 _ _ _)
      | (with_reducible exact ih4 _ _ _ _ _)
      | (with_reducible exact bobbinlaw13_few.mono _ _)
      | (with_reducible exact LeO.refl _)
      | (with_reducible exact LeO.none _)
      | (with_reducible refine LeO.ite ?_ ?_)
      | (with_reducible refine LeO.bind ?_ (fun _ => ?_))
      | exact ih0 _ _ _
      | exact ih1 _ _
      | exact ih2 _ _ _ _
      | exact ih3 _ _ _
      | exact ih4 _ _ _ _ _
      | exact bobbinlaw13_few.mono _ _
      | exact LeO.none _
      | refine LeO.ite ?_ ?_
      | refine LeO.bind ?_ (fun _ => ?_)
    · intro y0 y1 y2 y3
      unfold bobbinlaw13_WaitFree.l1
      repeat' first
      | (with_reducible exact ih0 _ _ _)
      | (with_reducible exact ih1 _ _)
      | (with_reducible exact ih2 _ _ _ _)
      | (with_reducible exact ih3 _ _ _)
      | (with_reducible exact ih4 _ _ _ _ _)
      | (with_reducible exact bobbinlaw13_few.mono _ _)
      | (with_reducible exact LeO.refl _)
      | (with_reducible exact LeO.none _)
      | (with_reducible refine LeO.ite ?_ ?_)
      | (with_reducible refine LeO.bind ?_ (fun _ => ?_))
      | exact ih0 _ _ _
      | exact ih1 _ _
      | exact ih2 _ _ _ _
      | exact ih3 _ _ _
      | exact ih4 _ _ _ _ _
      | exact bobbinlaw13_few.mono _ _
      | exact LeO.none _
      | refine LeO.ite ?_ ?_
      | refine LeO.bind ?_ (fun _ => ?_)
    · intro y0 y1 y2
      unfold bobbinlaw13_WaitFree.l2
      repeat' first
      | (with_reducible exact ih0 _ _ _)
      | (with_reducible exact ih1 _ _)
      | (with_reducible exact ih2 _ _ _ _)
      | (with_reducible exact ih3 _ _ _)
      | (with_reducible exact ih4 _ _ _ _ _)
      | (with_reducible exact bobbinlaw13_few.mono _ _)
      | (with_reducible exact LeO.refl _)
      | (with_reducible exact LeO.none _)
      | (with_reducible refine LeO.ite ?_ ?_)
      | (with_reducible refine LeO.bind ?_ (fun _ => ?_))
      | exact ih0 _ _ _
      | exact ih1 _ _
      | exact ih2 _ _ _ _
      | exact ih3 _ _ _
      | exact ih4 _ _ _ _ _
      | exact bobbinlaw13_few.mono _ _
      | exact LeO.none _
      | refine LeO.ite ?_ ?_
      | refine LeO.bind ?_ (fun _ => ?_)
    · intro y0 y1 y2 y3 y4
      unfold bobbinlaw13_WaitFree.l3
      repeat' first
      | (with_reducible exact ih0 _ _ _)
      | (with_reducible exact ih1 _ _)
      | (with_reducible exact ih2 _ _ _ _)
      | (with_reducible exact ih3 _ _ _)
      | (with_reducible exact ih4 _ _ _ _ _)
      | (with_reducible exact bobbinlaw13_few.mono _ _)
      | (with_reducible exact LeO.refl _)
      | (with_reducible exact LeO.none _)
      | (with_reducible refine LeO.ite ?_ ?_)
      | (with_reducible refine LeO.bind ?_ (fun _ => ?_))
      | exact ih0 _ _ _
      | exact ih1 _ _
      | exact ih2 _ _ _ _
      | exact ih3 _ _ _
      | exact ih4 _ _ _ _ _
      | exact bobbinlaw13_few.mono _ _
      | exact LeO.none _
      | refine LeO.ite ?_ ?_
      | refine LeO.bind ?_ (fun _ => ?_)
theorem bobbinlaw13_WaitFree.mono : ∀ a0 k, LeO (bobbinlaw13_WaitFree.f k a0) (bobbinlaw13_WaitFree.f (k + 1) a0) := by
  intro a0 k
  obtain ⟨ih0, ih1, ih2, ih3, ih4⟩ := bobbinlaw13_WaitFree.mono_l k
  unfold bobbinlaw13_WaitFree.f
  repeat' first
      | (with_reducible exact ih0 _ _ _)
      | (with_reducible exact ih1 _ _)
      | (with_reducible exact ih2 _ _ _ _)
      | (with_reducible exact ih3 _ _ _)
      | (with_reducible exact ih4 _ _ _ _ _)
      | (with_reducible exact bobbinlaw13_few.mono _ _)
      | (with_reducible exact LeO.refl _)
      | (with_reducible exact LeO.none _)
      | (with_reducible refine LeO.ite ?_ ?_)
      | (with_reducible refine LeO.bind ?_ (fun _ => ?_))
      | exact ih0 _ _ _
      | exact ih1 _ _
      | exact ih2 _ _ _ _
      | exact ih3 _ _ _
      | exact ih4 _ _ _ _ _
      | exact bobbinlaw13_few.mono _ _
      | exact LeO.none _
      | refine LeO.ite ?_ ?_
      | refine LeO.bind ?_ (fun _ => ?_)
set_option maxHeartbeats 8000000 in
set_option maxRecDepth 100000 in
theorem bobbinlaw13_WaitFree.calls (k : Nat) (A0 : Option Addr) (c0 : Nat) (l0 : List (S29)) (r : Bool) (w : World) (hr0 : Kd.C k29 w A0 l0.length l0) (hc0 : l0.length ≤ c0) (h : bobbinlaw13_WaitFree.f k l0 = some r) :
    Calls Try.prog 5 #[.slice A0 l0.length c0] w fun e w' => e = .returned (.bool r) ∧ Below w.heap.size w w' := by
  have HR0 := Aside0.mk hr0
  have HC0 := Aside0.mk hc0
  clear hr0 hc0
  have HB := Aside0.mk (Below.refl w.heap.size w)
  have H : ((bobbinlaw13_awake.f).bind fun t146 => ((bobbinlaw13_few.f k l0).bind fun t147 => (if t146 = true then (if t147 = true then ((wait_Still.f l0).bind fun t148 => (if t148 = true then (bobbinlaw13_WaitFree.j0 k l0 t146 ((l0.length : Int) == 0)) else (bobbinlaw13_WaitFree.j0 k l0 t146 true))) else (bobbinlaw13_WaitFree.j0 k l0 t146 true)) else (bobbinlaw13_WaitFree.j0 k l0 t146 true)))) = some r := h
  clear h
  replace H := Option.bind_eq_some_iff.mp H
  obtain ⟨t146, A20, H⟩ := H
  replace H : ((bobbinlaw13_few.f k l0).bind fun t147 => (if t146 = true then (if t147 = true then ((wait_Still.f l0).bind fun t148 => (if t148 = true then (bobbinlaw13_WaitFree.j0 k l0 t146 ((l0.length : Int) == 0)) else (bobbinlaw13_WaitFree.j0 k l0 t146 true))) else (bobbinlaw13_WaitFree.j0 k l0 t146 true)) else (bobbinlaw13_WaitFree.j0 k l0 t146 true))) = some r := H
  have A2 := Aside0.mk A20
  clear A20
  replace H := Option.bind_eq_some_iff.mp H
  obtain ⟨t147, A30, H⟩ := H
  replace H : (if t146 = true then (if t147 = true then ((wait_Still.f l0).bind fun t148 => (if t148 = true then (bobbinlaw13_WaitFree.j0 k l0 t146 ((l0.length : Int) == 0)) else (bobbinlaw13_WaitFree.j0 k l0 t146 true))) else (bobbinlaw13_WaitFree.j0 k l0 t146 true)) else (bobbinlaw13_WaitFree.j0 k l0 t146 true)) = some r := H
  have A3 := Aside0.mk A30
  clear A30
  have HC4 := Aside0.mk H
  clear H
  go_enter Try.func5, Try.ntmps5
  go_upto_region 3 with (first | (go_at_call 8; (with_reducible refine (bobbinlaw13_awake.calls  t146 _ A2.out).mono ?_); rintro e w5 ⟨rfl, hb⟩; have n0_ := Aside0.mk (below_step (by repeat (first | (with_reducible first | exact HB.out | apply below_alloc | apply pw_below_drewN | apply below_drew1) | exact HB.out)) hb); clear HB; have HB := n0_; clear n0_; (try clear hb); (try clear hb2); (try clear hk); (try clear hi)) | (go_at_call 9; (with_reducible refine (bobbinlaw13_few.calls k _ _ l0 t147 _ ?side1 ?side2 A3.out).mono ?_); (case side1 => repeat (first | exact (Kd.C_below HR0.out HB.out) | (with_reducible refine Kd.C_alloc ?_ _) | (with_reducible refine Kd.C_drewN ?_ _) | (with_reducible refine Kd.C_drew ?_))); (case side2 => exact HC0.out); rintro e w' ⟨rfl, ⟨nd, rfl⟩⟩; (try first | exact ⟨rfl, _, World.drewN_drewN _ _ _⟩ | exact ⟨rfl, _, Eq.trans (World.drewN_drewN _ _ _) (congrArg (World.drewN _) (Nat.add_assoc _ _ _))⟩)))
  repeat (go_quiet (first | (go_at_call 8; (with_reducible refine (bobbinlaw13_awake.calls  t146 _ A2.out).mono ?_); rintro e w5 ⟨rfl, hb⟩; have n0_ := Aside0.mk (below_step (by repeat (first | (with_reducible first | exact HB.out | apply below_alloc | apply pw_below_drewN | apply below_drew1) | exact HB.out)) hb); clear HB; have HB := n0_; clear n0_; (try clear hb); (try clear hb2); (try clear hk); (try clear hi)) | (go_at_call 9; (with_reducible refine (bobbinlaw13_few.calls k _ _ l0 t147 _ ?side1 ?side2 A3.out).mono ?_); (case side1 => repeat (first | exact (Kd.C_below HR0.out HB.out) | (with_reducible refine Kd.C_alloc ?_ _) | (with_reducible refine Kd.C_drewN ?_ _) | (with_reducible refine Kd.C_drew ?_))); (case side2 => exact HC0.out); rintro e w' ⟨rfl, ⟨nd, rfl⟩⟩; (try first | exact ⟨rfl, _, World.drewN_drewN _ _ _⟩ | exact ⟨rfl, _, Eq.trans (World.drewN_drewN _ _ _) (congrArg (World.drewN _) (Nat.add_assoc _ _ _))⟩))); go_upto_region 3 with (first | (go_at_call 8; (with_reducible refine (bobbinlaw13_awake.calls  t146 _ A2.out).mono ?_); rintro e w5 ⟨rfl, hb⟩; have n0_ := Aside0.mk (below_step (by repeat (first | (with_reducible first | exact HB.out | apply below_alloc | apply pw_below_drewN | apply below_drew1) | exact HB.out)) hb); clear HB; have HB := n0_; clear n0_; (try clear hb); (try clear hb2); (try clear hk); (try clear hi)) | (go_at_call 9; (with_reducible refine (bobbinlaw13_few.calls k _ _ l0 t147 _ ?side1 ?side2 A3.out).mono ?_); (case side1 => repeat (first | exact (Kd.C_below HR0.out HB.out) | (with_reducible refine Kd.C_alloc ?_ _) | (with_reducible refine Kd.C_drewN ?_ _) | (with_reducible refine Kd.C_drew ?_))); (case side2 => exact HC0.out); rintro e w' ⟨rfl, ⟨nd, rfl⟩⟩; (try first | exact ⟨rfl, _, World.drewN_drewN _ _ _⟩ | exact ⟨rfl, _, Eq.trans (World.drewN_drewN _ _ _) (congrArg (World.drewN _) (Nat.add_assoc _ _ _))⟩))))
  (try simp only [Act.put, List.setIfInBounds_toArray, List.set_cons_zero, List.set_cons_succ])
  go_cut [29] (fun v29 wc => ∃ (kq : Nat) (x29_3 : Bool), v29 = .bool x29_3 ∧ Aside0 (bobbinlaw13_WaitFree.j0 kq l0 t146 x29_3 = some r) ∧ Aside0 (kq ≤ k) ∧ Aside0 (Below w.heap.size w wc))
  case first =>
    have H := HC4.out
    clear HC4
    by_cases c6 : t146 = true
    · subst c6
      have H1 : (if t147 = true then ((wait_Still.f l0).bind fun t148 => (if t148 = true then (bobbinlaw13_WaitFree.j0 k l0 true ((l0.length : Int) == 0)) else (bobbinlaw13_WaitFree.j0 k l0 true true))) else (bobbinlaw13_WaitFree.j0 k l0 true true)) = some r := by rw [if_pos rfl] at H; exact H
      clear H
      have H := H1
      clear H1
      by_cases c7 : t147 = true
      · subst c7
        have H1 : ((wait_Still.f l0).bind fun t148 => (if t148 = true then (bobbinlaw13_WaitFree.j0 k l0 true ((l0.length : Int) == 0)) else (bobbinlaw13_WaitFree.j0 k l0 true true))) = some r := by rw [if_pos rfl] at H; exact H
        clear H
        have H := H1
        clear H1
        replace H := Option.bind_eq_some_iff.mp H
        obtain ⟨t148, A80, H⟩ := H
        replace H : (if t148 = true then (bobbinlaw13_WaitFree.j0 k l0 true ((l0.length : Int) == 0)) else (bobbinlaw13_WaitFree.j0 k l0 true true)) = some r := H
        have A8 := Aside0.mk A80
        clear A80
        by_cases c9 : t148 = true
        · subst c9
          have H1 : (bobbinlaw13_WaitFree.j0 k l0 true ((l0.length : Int) == 0)) = some r := by rw [if_pos rfl] at H; exact H
          clear H
          have H := H1
          clear H1
          have H' := Aside0.mk H
          clear H
          go_wp2_with (first | (go_at_call 13; (with_reducible refine (wait_Still.calls _ _ l0 true _ ?side1 ?side2 A8.out).mono ?_); (case side1 => repeat (first | exact (Kd.C_below HR0.out HB.out) | (with_reducible refine Kd.C_alloc ?_ _) | (with_reducible refine Kd.C_drewN ?_ _) | (with_reducible refine Kd.C_drew ?_))); (case side2 => exact HC0.out); rintro e w10 ⟨rfl, hb⟩; have n0_ := Aside0.mk (below_step (by repeat (first | (with_reducible first | exact HB.out | apply below_alloc | apply pw_below_drewN | apply below_drew1) | exact HB.out)) hb); clear HB; have HB := n0_; clear n0_; (try clear hb); (try clear hb2); (try clear hk); (try clear hi)))
          repeat (go_quiet (first | (go_at_call 13; (with_reducible refine (wait_Still.calls _ _ l0 true _ ?side1 ?side2 A8.out).mono ?_); (case side1 => repeat (first | exact (Kd.C_below HR0.out HB.out) | (with_reducible refine Kd.C_alloc ?_ _) | (with_reducible refine Kd.C_drewN ?_ _) | (with_reducible refine Kd.C_drew ?_))); (case side2 => exact HC0.out); rintro e w10 ⟨rfl, hb⟩; have n0_ := Aside0.mk (below_step (by repeat (first | (with_reducible first | exact HB.out | apply below_alloc | apply pw_below_drewN | apply below_drew1) | exact HB.out)) hb); clear HB; have HB := n0_; clear n0_; (try clear hb); (try clear hb2); (try clear hk); (try clear hi))); try go_wp2_with (first | (go_at_call 13; (with_reducible refine (wait_Still.calls _ _ l0 true _ ?side1 ?side2 A8.out).mono ?_); (case side1 => repeat (first | exact (Kd.C_below HR0.out HB.out) | (with_reducible refine Kd.C_alloc ?_ _) | (with_reducible refine Kd.C_drewN ?_ _) | (with_reducible refine Kd.C_drew ?_))); (case side2 => exact HC0.out); rintro e w10 ⟨rfl, hb⟩; have n0_ := Aside0.mk (below_step (by repeat (first | (with_reducible first | exact HB.out | apply below_alloc | apply pw_below_drewN | apply below_drew1) | exact HB.out)) hb); clear HB; have HB := n0_; clear n0_; (try clear hb); (try clear hb2); (try clear hk); (try clear hi))))
          go_meet
          case rel => exact ⟨_, (((l0.length : Int) == 0)), (by first | rfl | (simp; done) | (simp [*]; done)), H', ⟨by first | omega | exact Nat.le_refl _⟩, ⟨by repeat (first | (with_reducible first | exact HB.out | apply below_alloc | apply pw_below_drewN | apply below_drew1) | exact HB.out)⟩⟩
        · replace c9 := Bool.eq_false_iff.mpr c9
          subst c9
          have H1 : (bobbinlaw13_WaitFree.j0 k l0 true true) = some r := by rw [if_neg (show ¬ (false = true) by decide)] at H; exact H
          clear H
          have H := H1
          clear H1
          have H' := Aside0.mk H
          clear H
          go_wp2_with (first | (go_at_call 13; (with_reducible refine (wait_Still.calls _ _ l0 false _ ?side1 ?side2 A8.out).mono ?_); (case side1 => repeat (first | exact (Kd.C_below HR0.out HB.out) | (with_reducible refine Kd.C_alloc ?_ _) | (with_reducible refine Kd.C_drewN ?_ _) | (with_reducible refine Kd.C_drew ?_))); (case side2 => exact HC0.out); rintro e w11 ⟨rfl, hb⟩; have n0_ := Aside0.mk (below_step (by repeat (first | (with_reducible first | exact HB.out | apply below_alloc | apply pw_below_drewN | apply below_drew1) | exact HB.out)) hb); clear HB; have HB := n0_; clear n0_; (try clear hb); (try clear hb2); (try clear hk); (try clear hi)))
          repeat (go_quiet (first | (go_at_call 13; (with_reducible refine (wait_Still.calls _ _ l0 false _ ?side1 ?side2 A8.out).mono ?_); (case side1 => repeat (first | exact (Kd.C_below HR0.out HB.out) | (with_reducible refine Kd.C_alloc ?_ _) | (with_reducible refine Kd.C_drewN ?_ _) | (with_reducible refine Kd.C_drew ?_))); (case side2 => exact HC0.out); rintro e w11 ⟨rfl, hb⟩; have n0_ := Aside0.mk (below_step (by repeat (first | (with_reducible first | exact HB.out | apply below_alloc | apply pw_below_drewN | apply below_drew1) | exact HB.out)) hb); clear HB; have HB := n0_; clear n0_; (try clear hb); (try clear hb2); (try clear hk); (try clear hi))); try go_wp2_with (first | (go_at_call 13; (with_reducible refine (wait_Still.calls _ _ l0 false _ ?side1 ?side2 A8.out).mono ?_); (case side1 => repeat (first | exact (Kd.C_below HR0.out HB.out) | (with_reducible refine Kd.C_alloc ?_ _) | (with_reducible refine Kd.C_drewN ?_ _) | (with_reducible refine Kd.C_drew ?_))); (case side2 => exact HC0.out); rintro e w11 ⟨rfl, hb⟩; have n0_ := Aside0.mk (below_step (by repeat (first | (with_reducible first | exact HB.out | apply below_alloc | apply pw_below_drewN | apply below_drew1) | exact HB.out)) hb); clear HB; have HB := n0_; clear n0_; (try clear hb); (try clear hb2); (try clear hk); (try clear hi))))
          go_meet
          case rel => exact ⟨_, (true), (by first | rfl | (simp; done) | (simp [*]; done)), H', ⟨by first | omega | exact Nat.le_refl _⟩, ⟨by repeat (first | (with_reducible first | exact HB.out | apply below_alloc | apply pw_below_drewN | apply below_drew1) | exact HB.out)⟩⟩
      · replace c7 := Bool.eq_false_iff.mpr c7
        subst c7
        have H1 : (bobbinlaw13_WaitFree.j0 k l0 true true) = some r := by rw [if_neg (show ¬ (false = true) by decide)] at H; exact H
        clear H
        have H := H1
        clear H1
        have H' := Aside0.mk H
        clear H
        go_wp2
        repeat (go_quiet (fail); try go_wp2)
        go_meet
        case rel => exact ⟨_, (true), (by first | rfl | (simp; done) | (simp [*]; done)), H', ⟨by first | omega | exact Nat.le_refl _⟩, ⟨by repeat (first | (with_reducible first | exact HB.out | apply below_alloc | apply pw_below_drewN | apply below_drew1) | exact HB.out)⟩⟩
    · replace c6 := Bool.eq_false_iff.mpr c6
      subst c6
      have H1 : (bobbinlaw13_WaitFree.j0 k l0 false true) = some r := by rw [if_neg (show ¬ (false = true) by decide)] at H; exact H
      clear H
      have H := H1
      clear H1
      have H' := Aside0.mk H
      clear H
      go_wp2
      repeat (go_quiet (fail); try go_wp2)
      go_meet
      case rel => exact ⟨_, (true), (by first | rfl | (simp; done) | (simp [*]; done)), H', ⟨by first | omega | exact Nat.le_refl _⟩, ⟨by repeat (first | (with_reducible first | exact HB.out | apply below_alloc | apply pw_below_drewN | apply below_drew1) | exact HB.out)⟩⟩
  case rest =>
    clear HC4
    try clear p2
    try clear c5
    try clear c6
    try clear c7
    try clear c9
    obtain ⟨kq, x29_3, rfl, HA, HJ3, HB⟩ := hcut
    cases kq with
    | zero => exact absurd HA.out (by first | (intro h_; cases h_; done) | simp [bobbinlaw13_WaitFree.j0])
    | succ kj3 =>
      have H := HA.out
      clear HA
      rw [bobbinlaw13_WaitFree.j0_eq] at H
      by_cases c12 : x29_3 = true
      · subst c12
        have H1 : (some t146) = some r := by rw [if_pos rfl] at H; exact H
        clear H
        have H := H1
        clear H1
        obtain rfl := Option.some.inj H
        go_wp2
        repeat (go_quiet (fail); try go_wp2)
        go_ret
        exact ⟨by first | rfl | (simp [errW_none, errW_some] <;> rfl) | (simp [*, errW_none, errW_some] <;> rfl), by repeat (first | (with_reducible first | exact HB.out | apply below_alloc | apply pw_below_drewN | apply below_drew1) | exact HB.out)⟩
      · replace c12 := Bool.eq_false_iff.mpr c12
        subst c12
        have H1 : (bobbinlaw13_WaitFree.l0 kj3 l0 0) = some r := by rw [if_neg (show ¬ (false = true) by decide)] at H; exact H
        clear H
        have H := H1
        clear H1
        have H' := Aside0.mk H
        clear H
        go_wp2
        repeat (go_quiet (fail); try go_wp2)
        go_loopg [5] kj3 (fun kq v5 w' => ∃ (x5_2 : Int), v5 = .int .i64 x5_2 ∧ Aside0 (bobbinlaw13_WaitFree.l0 kq l0 x5_2 = some r) ∧ Aside0 (kq ≤ kj3) ∧ Aside0 (Below w.heap.size w w'))
        case atStart => exact ⟨(0), (by first | rfl | (simp; done) | (simp [*]; done)), H', ⟨Nat.le_refl _⟩, ⟨by repeat (first | (with_reducible first | exact HB.out | apply below_alloc | apply pw_below_drewN | apply below_drew1) | exact HB.out)⟩⟩
        case round =>
          clear H'
          try clear c1
          try clear p2
          try clear c5
          try clear c6
          try clear c7
          try clear c9
          try clear c12
          try clear p2
          obtain ⟨x5_2, rfl, HA, HK2, HB⟩ := hrel
          cases gk with
          | zero => exact absurd HA.out (by first | (intro h_; cases h_; done) | simp [bobbinlaw13_WaitFree.l0])
          | succ k2 =>
            have H := HA.out
            clear HA
            rw [bobbinlaw13_WaitFree.l0_eq] at H
            by_cases c13 : x5_2 < (l0.length : Int)
            · rw [if_pos c13] at H
              have c13b0 : decide (x5_2 < (l0.length : Int)) = true := decide_eq_true c13
              clear c13
              have H' := Aside0.mk H
              clear H
              go_wp2
              repeat (go_quiet (fail); try go_wp2)
              go_loopg [6, 7] k2 (fun kq v6 v7 w' => ∃ (x6_3 : Bool) (x7_3 : Int), v6 = .bool x6_3 ∧ v7 = .int .i64 x7_3 ∧ Aside0 (bobbinlaw13_WaitFree.l1 kq l0 x5_2 x6_3 x7_3 = some r) ∧ Aside0 (kq ≤ k2) ∧ Aside0 (Below w.heap.size w w'))
              case atStart => exact ⟨(true), (0), (by first | rfl | (simp; done) | (simp [*]; done)), (by first | rfl | (simp; done) | (simp [*]; done)), H', ⟨Nat.le_refl _⟩, ⟨by repeat (first | (with_reducible first | exact HB.out | apply below_alloc | apply pw_below_drewN | apply below_drew1) | exact HB.out)⟩⟩
              case round =>
                clear H'
                try clear c1
                try clear p2
                try clear c5
                try clear c6
                try clear c7
                try clear c9
                try clear c12
                try clear c13
                try clear c13b0
                try clear p2
                obtain ⟨x6_3, x7_3, rfl, rfl, HA, HK3, HB⟩ := hrel
                cases gk with
                | zero => exact absurd HA.out (by first | (intro h_; cases h_; done) | simp [bobbinlaw13_WaitFree.l1])
                | succ k3 =>
                  have H := HA.out
                  clear HA
                  rw [bobbinlaw13_WaitFree.l1_eq] at H
                  by_cases c14 : x7_3 < (l0.length : Int)
                  · rw [if_pos c14] at H
                    have c14b0 : decide (x7_3 < (l0.length : Int)) = true := decide_eq_true c14
                    clear c14
                    by_cases c15 : x6_3 = true
                    · subst c15
                      have H1 : (if 0 ≤ x7_3 then (if 0 ≤ x5_2 then (if x5_2 < (l0.length : Int) then (if ((rd_T29 l0 x7_3).f0) = ((rd_T29 l0 x5_2).f0) then (bobbinlaw13_WaitFree.l1 k3 l0 x5_2 ((((rd_T29 l0 x7_3).f1).length : Int) == 0) (wrap64 (x7_3 + 1))) else (bobbinlaw13_WaitFree.l1 k3 l0 x5_2 true (wrap64 (x7_3 + 1)))) else (none)) else (none)) else (none)) = some r := by rw [if_pos rfl] at H; exact H
                      clear H
                      have H := H1
                      clear H1
                      by_cases c16 : 0 ≤ x7_3
                      · rw [if_pos c16] at H
                        have c16b0 : decide (0 ≤ x7_3) = true := decide_eq_true c16
                        clear c16
                        by_cases c17 : 0 ≤ x5_2
                        · rw [if_pos c17] at H
                          have c17b0 : decide (0 ≤ x5_2) = true := decide_eq_true c17
                          clear c17
                          by_cases c18 : x5_2 < (l0.length : Int)
                          · rw [if_pos c18] at H
                            have c18b0 : decide (x5_2 < (l0.length : Int)) = true := decide_eq_true c18
                            clear c18
                            by_cases c19 : ((rd_T29 l0 x7_3).f0) = ((rd_T29 l0 x5_2).f0)
                            · rw [if_pos c19] at H
                              have c19b0 : (((rd_T29 l0 x7_3).f0) == ((rd_T29 l0 x5_2).f0)) = true := beq_iff_eq.mpr c19
                              have c19b1 : (((rd_T29 l0 x7_3).f0) != ((rd_T29 l0 x5_2).f0)) = false := bne_eq_false_iff_eq.mpr c19
                              clear c19
                              have H' := Aside0.mk H
                              clear H
                              have p149 : 0 ≤ (x7_3 : Int) := of_decide_eq_true (by first | (with_reducible assumption) | assumption)
                              have q149 : x7_3 < (l0.length : Int) := of_decide_eq_true (by first | (with_reducible assumption) | assumption)
                              obtain ⟨ad149, A149_1, c149_1, e149, hx149_0, hx149_1, hl149_1, hi149_1⟩ := at_T29 HR0.out x7_3 p149 q149
                              cases e149
                              replace hx149_0 := (HB.out.cell (World.block_lt_of_cell? w _ hx149_0)).trans hx149_0
                              replace hx149_1 := (HB.out.cell (World.block_lt_of_cell? w _ hx149_1)).trans hx149_1
                              have HR149_1 := Aside0.mk hi149_1
                              have HC149_1 := Aside0.mk hl149_1
                              clear hi149_1 hl149_1
                              replace p149 := eq_true p149
                              replace q149 := eq_true q149
                              have p150 : 0 ≤ (x5_2 : Int) := of_decide_eq_true (by first | (with_reducible assumption) | assumption)
                              have q150 : x5_2 < (l0.length : Int) := of_decide_eq_true (by first | (with_reducible assumption) | assumption)
                              obtain ⟨ad150, A150_1, c150_1, e150, hx150_0, hx150_1, hl150_1, hi150_1⟩ := at_T29 HR0.out x5_2 p150 q150
                              obtain rfl : ad149 = ad150 := (by injection e150)
                              replace hx150_0 := (HB.out.cell (World.block_lt_of_cell? w _ hx150_0)).trans hx150_0
                              replace hx150_1 := (HB.out.cell (World.block_lt_of_cell? w _ hx150_1)).trans hx150_1
                              have HR150_1 := Aside0.mk hi150_1
                              have HC150_1 := Aside0.mk hl150_1
                              clear hi150_1 hl150_1
                              replace p150 := eq_true p150
                              replace q150 := eq_true q150
                              have p151 : 0 ≤ (x7_3 : Int) := of_decide_eq_true (by first | (with_reducible assumption) | assumption)
                              have q151 : x7_3 < (l0.length : Int) := of_decide_eq_true (by first | (with_reducible assumption) | assumption)
                              obtain ⟨ad151, A151_1, c151_1, e151, hx151_0, hx151_1, hl151_1, hi151_1⟩ := at_T29 HR0.out x7_3 p151 q151
                              obtain rfl : ad149 = ad151 := (by injection e151)
                              replace hx151_0 := (HB.out.cell (World.block_lt_of_cell? w _ hx151_0)).trans hx151_0
                              replace hx151_1 := (HB.out.cell (World.block_lt_of_cell? w _ hx151_1)).trans hx151_1
                              have HR151_1 := Aside0.mk hi151_1
                              have HC151_1 := Aside0.mk hl151_1
                              clear hi151_1 hl151_1
                              replace p151 := eq_true p151
                              replace q151 := eq_true q151
                              have ea_ := Option.some.inj (hx149_1.symm.trans hx151_1)
                              injection ea_ with ea_ en_ ec_
                              subst ea_
                              subst ec_
                              clear en_
                              go_wp2
                              repeat (go_quiet (fail); try go_wp2)
                              go_roundg k3
                              case measure => have := HJ3.out; have := HK2.out; have := HK3.out; omega
                              case rel => exact ⟨(((((rd_T29 l0 x7_3).f1).length : Int) == 0)), (wrap64 (x7_3 + 1)), (by first | rfl | (simp; done) | (simp [*]; done)), (by first | rfl | (simp; done) | (simp [*]; done)), H', ⟨by have := HJ3.out; have := HK2.out; have := HK3.out; omega⟩, ⟨by repeat (first | (with_reducible first | exact HB.out | apply below_alloc | apply pw_below_drewN | apply below_drew1) | exact HB.out)⟩⟩
                            · rw [if_neg c19] at H
                              have c19b0 : (((rd_T29 l0 x7_3).f0) == ((rd_T29 l0 x5_2).f0)) = false := beq_eq_false_iff_ne.mpr c19
                              have c19b1 : (((rd_T29 l0 x7_3).f0) != ((rd_T29 l0 x5_2).f0)) = true := bne_iff_ne.mpr c19
                              have H' := Aside0.mk H
                              clear H
                              have p149 : 0 ≤ (x7_3 : Int) := of_decide_eq_true (by first | (with_reducible assumption) | assumption)
                              have q149 : x7_3 < (l0.length : Int) := of_decide_eq_true (by first | (with_reducible assumption) | assumption)
                              obtain ⟨ad149, A149_1, c149_1, e149, hx149_0, hx149_1, hl149_1, hi149_1⟩ := at_T29 HR0.out x7_3 p149 q149
                              cases e149
                              replace hx149_0 := (HB.out.cell (World.block_lt_of_cell? w _ hx149_0)).trans hx149_0
                              replace hx149_1 := (HB.out.cell (World.block_lt_of_cell? w _ hx149_1)).trans hx149_1
                              have HR149_1 := Aside0.mk hi149_1
                              have HC149_1 := Aside0.mk hl149_1
                              clear hi149_1 hl149_1
                              replace p149 := eq_true p149
                              replace q149 := eq_true q149
                              have p150 : 0 ≤ (x5_2 : Int) := of_decide_eq_true (by first | (with_reducible assumption) | assumption)
                              have q150 : x5_2 < (l0.length : Int) := of_decide_eq_true (by first | (with_reducible assumption) | assumption)
                              obtain ⟨ad150, A150_1, c150_1, e150, hx150_0, hx150_1, hl150_1, hi150_1⟩ := at_T29 HR0.out x5_2 p150 q150
                              obtain rfl : ad149 = ad150 := (by injection e150)
                              replace hx150_0 := (HB.out.cell (World.block_lt_of_cell? w _ hx150_0)).trans hx150_0
                              replace hx150_1 := (HB.out.cell (World.block_lt_of_cell? w _ hx150_1)).trans hx150_1
                              have HR150_1 := Aside0.mk hi150_1
                              have HC150_1 := Aside0.mk hl150_1
                              clear hi150_1 hl150_1
                              replace p150 := eq_true p150
                              replace q150 := eq_true q150
                              go_wp2
                              repeat (go_quiet (fail); try go_wp2)
                              go_roundg k3
                              case measure => have := HJ3.out; have := HK2.out; have := HK3.out; omega
                              case rel => exact ⟨(true), (wrap64 (x7_3 + 1)), (by first | rfl | (simp; done) | (simp [*]; done)), (by first | rfl | (simp; done) | (simp [*]; done)), H', ⟨by have := HJ3.out; have := HK2.out; have := HK3.out; omega⟩, ⟨by repeat (first | (with_reducible first | exact HB.out | apply below_alloc | apply pw_below_drewN | apply below_drew1) | exact HB.out)⟩⟩
                          · rw [if_neg c18] at H
                            exact absurd H (by simp)
                        · rw [if_neg c17] at H
                          exact absurd H (by simp)
                      · rw [if_neg c16] at H
                        exact absurd H (by simp)
                    · replace c15 := Bool.eq_false_iff.mpr c15
                      subst c15
                      have H1 : (bobbinlaw13_WaitFree.l1 k3 l0 x5_2 false (wrap64 (x7_3 + 1))) = some r := by rw [if_neg (show ¬ (false = true) by decide)] at H; exact H
                      clear H
                      have H := H1
                      clear H1
                      have H' := Aside0.mk H
                      clear H
                      go_wp2
                      repeat (go_quiet (fail); try go_wp2)
                      go_roundg k3
                      case measure => have := HJ3.out; have := HK2.out; have := HK3.out; omega
                      case rel => exact ⟨(false), (wrap64 (x7_3 + 1)), (by first | rfl | (simp; done) | (simp [*]; done)), (by first | rfl | (simp; done) | (simp [*]; done)), H', ⟨by have := HJ3.out; have := HK2.out; have := HK3.out; omega⟩, ⟨by repeat (first | (with_reducible first | exact HB.out | apply below_alloc | apply pw_below_drewN | apply below_drew1) | exact HB.out)⟩⟩
                  · rw [if_neg c14] at H
                    have c14b0 : decide (x7_3 < (l0.length : Int)) = false := decide_eq_false c14
                    clear c14
                    by_cases c20 : x6_3 = true
                    · subst c20
                      have H1 : (some true) = some r := by rw [if_pos rfl] at H; exact H
                      clear H
                      have H := H1
                      clear H1
                      obtain rfl := Option.some.inj H
                      go_wp2
                      repeat (go_quiet (fail); try go_wp2)
                      go_ret
                      exact ⟨by first | rfl | (simp [errW_none, errW_some] <;> rfl) | (simp [*, errW_none, errW_some] <;> rfl), by repeat (first | (with_reducible first | exact HB.out | apply below_alloc | apply pw_below_drewN | apply below_drew1) | exact HB.out)⟩
                    · replace c20 := Bool.eq_false_iff.mpr c20
                      subst c20
                      have H1 : (bobbinlaw13_WaitFree.l2 k3 l0 x5_2 0) = some r := by rw [if_neg (show ¬ (false = true) by decide)] at H; exact H
                      clear H
                      have H := H1
                      clear H1
                      have H' := Aside0.mk H
                      clear H
                      go_wp2
                      repeat (go_quiet (fail); try go_wp2)
                      go_loopg [8] k3 (fun kq v8 w' => ∃ (x8_4 : Int), v8 = .int .i64 x8_4 ∧ Aside0 (bobbinlaw13_WaitFree.l2 kq l0 x5_2 x8_4 = some r) ∧ Aside0 (kq ≤ k3) ∧ Aside0 (Below w.heap.size w w'))
                      case atStart => exact ⟨(0), (by first | rfl | (simp; done) | (simp [*]; done)), H', ⟨Nat.le_refl _⟩, ⟨by repeat (first | (with_reducible first | exact HB.out | apply below_alloc | apply pw_below_drewN | apply below_drew1) | exact HB.out)⟩⟩
                      case round =>
                        clear H'
                        try clear c1
                        try clear p1
                        try clear q1
                        try clear hx1
                        try clear c2
                        try clear p2
                        try clear c5
                        try clear c6
                        try clear p6
                        try clear c7
                        try clear c9
                        try clear c12
                        try clear c13
                        try clear c13b0
                        try clear c14
                        try clear c14b0
                        try clear p14
                        try clear q14
                        try clear hx14
                        try clear c15
                        try clear p15
                        try clear q15
                        try clear hx15
                        try clear c16
                        try clear c16b0
                        try clear c17
                        try clear c17b0
                        try clear c18
                        try clear c18b0
                        try clear c19
                        try clear c19b0
                        try clear c19b1
                        try clear c20
                        try clear hx149_0
                        try clear hx149_1
                        try clear hx150_0
                        try clear hx150_1
                        try clear hx151_0
                        try clear hx151_1
                        try clear p149
                        try clear p150
                        try clear p151
                        try clear p2
                        try clear q149
                        try clear q150
                        try clear q151
                        obtain ⟨x8_4, rfl, HA, HK4, HB⟩ := hrel
                        cases gk with
                        | zero => exact absurd HA.out (by first | (intro h_; cases h_; done) | simp [bobbinlaw13_WaitFree.l2])
                        | succ k4 =>
                          have H := HA.out
                          clear HA
                          rw [bobbinlaw13_WaitFree.l2_eq] at H
                          by_cases c21 : 0 ≤ x5_2
                          · rw [if_pos c21] at H
                            have c21b0 : decide (0 ≤ x5_2) = true := decide_eq_true c21
                            clear c21
                            by_cases c22 : x5_2 < (l0.length : Int)
                            · rw [if_pos c22] at H
                              have c22b0 : decide (x5_2 < (l0.length : Int)) = true := decide_eq_true c22
                              clear c22
                              by_cases c23 : x8_4 < (((rd_T29 l0 x5_2).f1).length : Int)
                              · rw [if_pos c23] at H
                                have c23b0 : decide (x8_4 < (((rd_T29 l0 x5_2).f1).length : Int)) = true := decide_eq_true c23
                                clear c23
                                have H' := Aside0.mk H
                                clear H
                                have p152 : 0 ≤ (x5_2 : Int) := of_decide_eq_true (by first | (with_reducible assumption) | assumption)
                                have q152 : x5_2 < (l0.length : Int) := of_decide_eq_true (by first | (with_reducible assumption) | assumption)
                                obtain ⟨ad152, A152_1, c152_1, e152, hx152_0, hx152_1, hl152_1, hi152_1⟩ := at_T29 HR0.out x5_2 p152 q152
                                cases e152
                                replace hx152_0 := (HB.out.cell (World.block_lt_of_cell? w _ hx152_0)).trans hx152_0
                                replace hx152_1 := (HB.out.cell (World.block_lt_of_cell? w _ hx152_1)).trans hx152_1
                                have HR152_1 := Aside0.mk hi152_1
                                have HC152_1 := Aside0.mk hl152_1
                                clear hi152_1 hl152_1
                                replace p152 := eq_true p152
                                replace q152 := eq_true q152
                                go_wp2
                                repeat (go_quiet (fail); try go_wp2)
                                go_loopg [9, 10] k4 (fun kq v9 v10 w' => ∃ (x9_5 : Bool) (x10_5 : Int), v9 = .bool x9_5 ∧ v10 = .int .i64 x10_5 ∧ Aside0 (bobbinlaw13_WaitFree.l3 kq l0 x5_2 x8_4 x9_5 x10_5 = some r) ∧ Aside0 (kq ≤ k4) ∧ Aside0 (Below w.heap.size w w'))
                                case atStart => exact ⟨(false), (0), (by first | rfl | (simp; done) | (simp [*]; done)), (by first | rfl | (simp; done) | (simp [*]; done)), H', ⟨Nat.le_refl _⟩, ⟨by repeat (first | (with_reducible first | exact HB.out | apply below_alloc | apply pw_below_drewN | apply below_drew1) | exact HB.out)⟩⟩
                                case round =>
                                  clear H'
                                  try clear c1
                                  try clear p1
                                  try clear q1
                                  try clear hx1
                                  try clear c2
                                  try clear p2
                                  try clear c5
                                  try clear c6
                                  try clear p6
                                  try clear c7
                                  try clear c9
                                  try clear c12
                                  try clear c13
                                  try clear c13b0
                                  try clear c14
                                  try clear c14b0
                                  try clear p14
                                  try clear q14
                                  try clear hx14
                                  try clear c15
                                  try clear p15
                                  try clear q15
                                  try clear hx15
                                  try clear c16
                                  try clear c16b0
                                  try clear c17
                                  try clear c17b0
                                  try clear c18
                                  try clear c18b0
                                  try clear c19
                                  try clear c19b0
                                  try clear c19b1
                                  try clear c20
                                  try clear c21
                                  try clear c21b0
                                  try clear c22
                                  try clear c22b0
                                  try clear c23
                                  try clear c23b0
                                  try clear hx149_0
                                  try clear hx149_1
                                  try clear hx150_0
                                  try clear hx150_1
                                  try clear hx151_0
                                  try clear hx151_1
                                  try clear hx152_0
                                  try clear hx152_1
                                  try clear p1
                                  try clear p14
                                  try clear p149
                                  try clear p15
                                  try clear p150
                                  try clear p151
                                  try clear p152
                                  try clear p2
                                  try clear p6
                                  try clear q1
                                  try clear q14
                                  try clear q149
                                  try clear q15
                                  try clear q150
                                  try clear q151
                                  try clear q152
                                  obtain ⟨x9_5, x10_5, rfl, rfl, HA, HK5, HB⟩ := hrel
                                  cases gk with
                                  | zero => exact absurd HA.out (by first | (intro h_; cases h_; done) | simp [bobbinlaw13_WaitFree.l3])
                                  | succ k5 =>
                                    have H := HA.out
                                    clear HA
                                    rw [bobbinlaw13_WaitFree.l3_eq] at H
                                    by_cases c24 : x10_5 < (l0.length : Int)
                                    · rw [if_pos c24] at H
                                      have c24b0 : decide (x10_5 < (l0.length : Int)) = true := decide_eq_true c24
                                      clear c24
                                      by_cases c25 : x9_5 = true
                                      · subst c25
                                        have H1 : (bobbinlaw13_WaitFree.l3 k5 l0 x5_2 x8_4 true (wrap64 (x10_5 + 1))) = some r := by rw [if_pos rfl] at H; exact H
                                        clear H
                                        have H := H1
                                        clear H1
                                        have H' := Aside0.mk H
                                        clear H
                                        go_wp2
                                        repeat (go_quiet (fail); try go_wp2)
                                        go_roundg k5
                                        case measure => have := HJ3.out; have := HK2.out; have := HK3.out; have := HK4.out; have := HK5.out; omega
                                        case rel => exact ⟨(true), (wrap64 (x10_5 + 1)), (by first | rfl | (simp; done) | (simp [*]; done)), (by first | rfl | (simp; done) | (simp [*]; done)), H', ⟨by have := HJ3.out; have := HK2.out; have := HK3.out; have := HK4.out; have := HK5.out; omega⟩, ⟨by repeat (first | (with_reducible first | exact HB.out | apply below_alloc | apply pw_below_drewN | apply below_drew1) | exact HB.out)⟩⟩
                                      · replace c25 := Bool.eq_false_iff.mpr c25
                                        subst c25
                                        have H1 : (if 0 ≤ x10_5 then (if 0 ≤ x5_2 then (if x5_2 < (l0.length : Int) then (if 0 ≤ x8_4 then (if x8_4 < (((rd_T29 l0 x5_2).f1).length : Int) then (if ((rd_T29 l0 x10_5).f0) = (rd ((rd_T29 l0 x5_2).f1) x8_4) then (bobbinlaw13_WaitFree.l3 k5 l0 x5_2 x8_4 (decide ((((rd_T29 l0 x10_5).f1).length : Int) > 0)) (wrap64 (x10_5 + 1))) else (bobbinlaw13_WaitFree.l3 k5 l0 x5_2 x8_4 false (wrap64 (x10_5 + 1)))) else (none)) else (none)) else (none)) else (none)) else (none)) = some r := by rw [if_neg (show ¬ (false = true) by decide)] at H; exact H
                                        clear H
                                        have H := H1
                                        clear H1
                                        by_cases c26 : 0 ≤ x10_5
                                        · rw [if_pos c26] at H
                                          have c26b0 : decide (0 ≤ x10_5) = true := decide_eq_true c26
                                          clear c26
                                          by_cases c27 : 0 ≤ x5_2
                                          · rw [if_pos c27] at H
                                            have c27b0 : decide (0 ≤ x5_2) = true := decide_eq_true c27
                                            clear c27
                                            by_cases c28 : x5_2 < (l0.length : Int)
                                            · rw [if_pos c28] at H
                                              have c28b0 : decide (x5_2 < (l0.length : Int)) = true := decide_eq_true c28
                                              clear c28
                                              by_cases c29 : 0 ≤ x8_4
                                              · rw [if_pos c29] at H
                                                have c29b0 : decide (0 ≤ x8_4) = true := decide_eq_true c29
                                                clear c29
                                                by_cases c30 : x8_4 < (((rd_T29 l0 x5_2).f1).length : Int)
                                                · rw [if_pos c30] at H
                                                  have c30b0 : decide (x8_4 < (((rd_T29 l0 x5_2).f1).length : Int)) = true := decide_eq_true c30
                                                  clear c30
                                                  by_cases c31 : ((rd_T29 l0 x10_5).f0) = (rd ((rd_T29 l0 x5_2).f1) x8_4)
                                                  · rw [if_pos c31] at H
                                                    have c31b0 : (((rd_T29 l0 x10_5).f0) == (rd ((rd_T29 l0 x5_2).f1) x8_4)) = true := beq_iff_eq.mpr c31
                                                    have c31b1 : (((rd_T29 l0 x10_5).f0) != (rd ((rd_T29 l0 x5_2).f1) x8_4)) = false := bne_eq_false_iff_eq.mpr c31
                                                    clear c31
                                                    have H' := Aside0.mk H
                                                    clear H
                                                    have p153 : 0 ≤ (x10_5 : Int) := of_decide_eq_true (by first | (with_reducible assumption) | assumption)
                                                    have q153 : x10_5 < (l0.length : Int) := of_decide_eq_true (by first | (with_reducible assumption) | assumption)
                                                    obtain ⟨ad153, A153_1, c153_1, e153, hx153_0, hx153_1, hl153_1, hi153_1⟩ := at_T29 HR0.out x10_5 p153 q153
                                                    obtain rfl : ad152 = ad153 := (by injection e153)
                                                    replace hx153_0 := (HB.out.cell (World.block_lt_of_cell? w _ hx153_0)).trans hx153_0
                                                    replace hx153_1 := (HB.out.cell (World.block_lt_of_cell? w _ hx153_1)).trans hx153_1
                                                    have HR153_1 := Aside0.mk hi153_1
                                                    have HC153_1 := Aside0.mk hl153_1
                                                    clear hi153_1 hl153_1
                                                    replace p153 := eq_true p153
                                                    replace q153 := eq_true q153
                                                    have p154 : 0 ≤ (x5_2 : Int) := of_decide_eq_true (by first | (with_reducible assumption) | assumption)
                                                    have q154 : x5_2 < (l0.length : Int) := of_decide_eq_true (by first | (with_reducible assumption) | assumption)
                                                    obtain ⟨ad154, A154_1, c154_1, e154, hx154_0, hx154_1, hl154_1, hi154_1⟩ := at_T29 HR0.out x5_2 p154 q154
                                                    obtain rfl : ad152 = ad154 := (by injection e154)
                                                    replace hx154_0 := (HB.out.cell (World.block_lt_of_cell? w _ hx154_0)).trans hx154_0
                                                    replace hx154_1 := (HB.out.cell (World.block_lt_of_cell? w _ hx154_1)).trans hx154_1
                                                    have HR154_1 := Aside0.mk hi154_1
                                                    have HC154_1 := Aside0.mk hl154_1
                                                    clear hi154_1 hl154_1
                                                    replace p154 := eq_true p154
                                                    replace q154 := eq_true q154
                                                    have p155 : 0 ≤ (x8_4 : Int) := of_decide_eq_true (by first | (with_reducible assumption) | assumption)
                                                    have q155 : x8_4 < (((rd_T29 l0 x5_2).f1).length : Int) := of_decide_eq_true (by first | (with_reducible assumption) | assumption)
                                                    obtain ⟨ad155, e155, hx155_0⟩ := Kd.at_int HR154_1.out x8_4 p155 q155
                                                    cases e155
                                                    replace hx155_0 := (HB.out.cell (World.block_lt_of_cell? w _ hx155_0)).trans hx155_0
                                                    replace p155 := eq_true p155
                                                    replace q155 := eq_true q155
                                                    have p156 : 0 ≤ (x10_5 : Int) := of_decide_eq_true (by first | (with_reducible assumption) | assumption)
                                                    have q156 : x10_5 < (l0.length : Int) := of_decide_eq_true (by first | (with_reducible assumption) | assumption)
                                                    obtain ⟨ad156, A156_1, c156_1, e156, hx156_0, hx156_1, hl156_1, hi156_1⟩ := at_T29 HR0.out x10_5 p156 q156
                                                    obtain rfl : ad152 = ad156 := (by injection e156)
                                                    replace hx156_0 := (HB.out.cell (World.block_lt_of_cell? w _ hx156_0)).trans hx156_0
                                                    replace hx156_1 := (HB.out.cell (World.block_lt_of_cell? w _ hx156_1)).trans hx156_1
                                                    have HR156_1 := Aside0.mk hi156_1
                                                    have HC156_1 := Aside0.mk hl156_1
                                                    clear hi156_1 hl156_1
                                                    replace p156 := eq_true p156
                                                    replace q156 := eq_true q156
                                                    have ea_ := Option.some.inj (hx153_1.symm.trans hx156_1)
                                                    injection ea_ with ea_ en_ ec_
                                                    subst ea_
                                                    subst ec_
                                                    clear en_
                                                    go_wp2
                                                    repeat (go_quiet (fail); try go_wp2)
                                                    go_roundg k5
                                                    case measure => have := HJ3.out; have := HK2.out; have := HK3.out; have := HK4.out; have := HK5.out; omega
                                                    case rel => exact ⟨(decide ((((rd_T29 l0 x10_5).f1).length : Int) > 0)), (wrap64 (x10_5 + 1)), (by first | rfl | (simp; done) | (simp [*]; done)), (by first | rfl | (simp; done) | (simp [*]; done)), H', ⟨by have := HJ3.out; have := HK2.out; have := HK3.out; have := HK4.out; have := HK5.out; omega⟩, ⟨by repeat (first | (with_reducible first | exact HB.out | apply below_alloc | apply pw_below_drewN | apply below_drew1) | exact HB.out)⟩⟩
                                                  · rw [if_neg c31] at H
                                                    have c31b0 : (((rd_T29 l0 x10_5).f0) == (rd ((rd_T29 l0 x5_2).f1) x8_4)) = false := beq_eq_false_iff_ne.mpr c31
                                                    have c31b1 : (((rd_T29 l0 x10_5).f0) != (rd ((rd_T29 l0 x5_2).f1) x8_4)) = true := bne_iff_ne.mpr c31
                                                    have H' := Aside0.mk H
                                                    clear H
                                                    have p153 : 0 ≤ (x10_5 : Int) := of_decide_eq_true (by first | (with_reducible assumption) | assumption)
                                                    have q153 : x10_5 < (l0.length : Int) := of_decide_eq_true (by first | (with_reducible assumption) | assumption)
                                                    obtain ⟨ad153, A153_1, c153_1, e153, hx153_0, hx153_1, hl153_1, hi153_1⟩ := at_T29 HR0.out x10_5 p153 q153
                                                    obtain rfl : ad152 = ad153 := (by injection e153)
                                                    replace hx153_0 := (HB.out.cell (World.block_lt_of_cell? w _ hx153_0)).trans hx153_0
                                                    replace hx153_1 := (HB.out.cell (World.block_lt_of_cell? w _ hx153_1)).trans hx153_1
                                                    have HR153_1 := Aside0.mk hi153_1
                                                    have HC153_1 := Aside0.mk hl153_1
                                                    clear hi153_1 hl153_1
                                                    replace p153 := eq_true p153
                                                    replace q153 := eq_true q153
                                                    have p154 : 0 ≤ (x5_2 : Int) := of_decide_eq_true (by first | (with_reducible assumption) | assumption)
                                                    have q154 : x5_2 < (l0.length : Int) := of_decide_eq_true (by first | (with_reducible assumption) | assumption)
                                                    obtain ⟨ad154, A154_1, c154_1, e154, hx154_0, hx154_1, hl154_1, hi154_1⟩ := at_T29 HR0.out x5_2 p154 q154
                                                    obtain rfl : ad152 = ad154 := (by injection e154)
                                                    replace hx154_0 := (HB.out.cell (World.block_lt_of_cell? w _ hx154_0)).trans hx154_0
                                                    replace hx154_1 := (HB.out.cell (World.block_lt_of_cell? w _ hx154_1)).trans hx154_1
                                                    have HR154_1 := Aside0.mk hi154_1
                                                    have HC154_1 := Aside0.mk hl154_1
                                                    clear hi154_1 hl154_1
                                                    replace p154 := eq_true p154
                                                    replace q154 := eq_true q154
                                                    have p155 : 0 ≤ (x8_4 : Int) := of_decide_eq_true (by first | (with_reducible assumption) | assumption)
                                                    have q155 : x8_4 < (((rd_T29 l0 x5_2).f1).length : Int) := of_decide_eq_true (by first | (with_reducible assumption) | assumption)
                                                    obtain ⟨ad155, e155, hx155_0⟩ := Kd.at_int HR154_1.out x8_4 p155 q155
                                                    cases e155
                                                    replace hx155_0 := (HB.out.cell (World.block_lt_of_cell? w _ hx155_0)).trans hx155_0
                                                    replace p155 := eq_true p155
                                                    replace q155 := eq_true q155
                                                    go_wp2
                                                    repeat (go_quiet (fail); try go_wp2)
                                                    go_roundg k5
                                                    case measure => have := HJ3.out; have := HK2.out; have := HK3.out; have := HK4.out; have := HK5.out; omega
                                                    case rel => exact ⟨(false), (wrap64 (x10_5 + 1)), (by first | rfl | (simp; done) | (simp [*]; done)), (by first | rfl | (simp; done) | (simp [*]; done)), H', ⟨by have := HJ3.out; have := HK2.out; have := HK3.out; have := HK4.out; have := HK5.out; omega⟩, ⟨by repeat (first | (with_reducible first | exact HB.out | apply below_alloc | apply pw_below_drewN | apply below_drew1) | exact HB.out)⟩⟩
                                                · rw [if_neg c30] at H
                                                  exact absurd H (by simp)
                                              · rw [if_neg c29] at H
                                                exact absurd H (by simp)
                                            · rw [if_neg c28] at H
                                              exact absurd H (by simp)
                                          · rw [if_neg c27] at H
                                            exact absurd H (by simp)
                                        · rw [if_neg c26] at H
                                          exact absurd H (by simp)
                                    · rw [if_neg c24] at H
                                      have c24b0 : decide (x10_5 < (l0.length : Int)) = false := decide_eq_false c24
                                      clear c24
                                      by_cases c32 : x9_5 = true
                                      · subst c32
                                        have H1 : (bobbinlaw13_WaitFree.l2 k5 l0 x5_2 (wrap64 (x8_4 + 1))) = some r := by rw [if_pos rfl] at H; exact H
                                        clear H
                                        have H := H1
                                        clear H1
                                        have H' := Aside0.mk H
                                        clear H
                                        go_wp2
                                        repeat (go_quiet (fail); try go_wp2)
                                        go_roundg k5
                                        case measure => have := HJ3.out; have := HK2.out; have := HK3.out; have := HK4.out; have := HK5.out; omega
                                        case rel => exact ⟨(wrap64 (x8_4 + 1)), (by first | rfl | (simp; done) | (simp [*]; done)), H', ⟨by have := HJ3.out; have := HK2.out; have := HK3.out; have := HK4.out; have := HK5.out; omega⟩, ⟨by repeat (first | (with_reducible first | exact HB.out | apply below_alloc | apply pw_below_drewN | apply below_drew1) | exact HB.out)⟩⟩
                                      · replace c32 := Bool.eq_false_iff.mpr c32
                                        subst c32
                                        have H1 : (some true) = some r := by rw [if_neg (show ¬ (false = true) by decide)] at H; exact H
                                        clear H
                                        have H := H1
                                        clear H1
                                        obtain rfl := Option.some.inj H
                                        go_wp2
                                        repeat (go_quiet (fail); try go_wp2)
                                        go_ret
                                        exact ⟨by first | rfl | (simp [errW_none, errW_some] <;> rfl) | (simp [*, errW_none, errW_some] <;> rfl), by repeat (first | (with_reducible first | exact HB.out | apply below_alloc | apply pw_below_drewN | apply below_drew1) | exact HB.out)⟩
                              · rw [if_neg c23] at H
                                have c23b0 : decide (x8_4 < (((rd_T29 l0 x5_2).f1).length : Int)) = false := decide_eq_false c23
                                clear c23
                                have H' := Aside0.mk H
                                clear H
                                have p152 : 0 ≤ (x5_2 : Int) := of_decide_eq_true (by first | (with_reducible assumption) | assumption)
                                have q152 : x5_2 < (l0.length : Int) := of_decide_eq_true (by first | (with_reducible assumption) | assumption)
                                obtain ⟨ad152, A152_1, c152_1, e152, hx152_0, hx152_1, hl152_1, hi152_1⟩ := at_T29 HR0.out x5_2 p152 q152
                                cases e152
                                replace hx152_0 := (HB.out.cell (World.block_lt_of_cell? w _ hx152_0)).trans hx152_0
                                replace hx152_1 := (HB.out.cell (World.block_lt_of_cell? w _ hx152_1)).trans hx152_1
                                have HR152_1 := Aside0.mk hi152_1
                                have HC152_1 := Aside0.mk hl152_1
                                clear hi152_1 hl152_1
                                replace p152 := eq_true p152
                                replace q152 := eq_true q152
                                go_wp2
                                repeat (go_quiet (fail); try go_wp2)
                                go_roundg k4
                                case measure => have := HJ3.out; have := HK2.out; have := HK3.out; have := HK4.out; omega
                                case rel => exact ⟨(wrap64 (x5_2 + 1)), (by first | rfl | (simp; done) | (simp [*]; done)), H', ⟨by have := HJ3.out; have := HK2.out; have := HK3.out; have := HK4.out; omega⟩, ⟨by repeat (first | (with_reducible first | exact HB.out | apply below_alloc | apply pw_below_drewN | apply below_drew1) | exact HB.out)⟩⟩
                            · rw [if_neg c22] at H
                              exact absurd H (by simp)
                          · rw [if_neg c21] at H
                            exact absurd H (by simp)
            · rw [if_neg c13] at H
              have c13b0 : decide (x5_2 < (l0.length : Int)) = false := decide_eq_false c13
              clear c13
              obtain rfl := Option.some.inj H
              go_wp2
              repeat (go_quiet (fail); try go_wp2)
              go_ret
              exact ⟨by first | rfl | (simp [errW_none, errW_some] <;> rfl) | (simp [*, errW_none, errW_some] <;> rfl), by repeat (first | (with_reducible first | exact HB.out | apply below_alloc | apply pw_below_drewN | apply below_drew1) | exact HB.out)⟩

-- NOT PRINTED: function 6 (bobbinlaw13_WaitMore)

end Go.Proofs.Ytdpdghahmapgkaa.Print
