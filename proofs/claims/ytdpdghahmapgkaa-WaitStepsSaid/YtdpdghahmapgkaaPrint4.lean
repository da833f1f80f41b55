-- Written by a program of this session (myprint.py over the kit's print.py) out of the translation. Not trusted: Lean checks it.
import Derived.Test.YtdpdghahmapgkaaPrint0
import Derived.Test.YtdpdghahmapgkaaPrint1
namespace Go.Proofs.Ytdpdghahmapgkaa.Print
open Go.RowKit Go.Proofs.YtdpdghahmapgkaaW.PrintWords Go.Proofs.YtdpdghahmapgkaaW.PrintLast Go.Proofs.YtdpdghahmapgkaaW.PrintMore
attribute [local go_sem] max2_int min2_int max_two min_two max_three min_three max_four min_four   -- for this text's walks alone
set_option linter.unusedVariables false
set_option linter.unusedSimpArgs false

/-! ### bobbinlaw13_WaitSteps: function 4 -/
mutual
def bobbinlaw13_WaitSteps.j0 : Nat → List (S29) → Int → Int → Int → Bool → Bool → Option (Bool)
  | 0, _, _, _, _, _, _ => none
  | k + 1, x0, x1, x2, x3, x9, x23 => if x23 = true then (some x9) else (bobbinlaw13_WaitSteps.l0 k x0 x1 x2 x3 false 0)
def bobbinlaw13_WaitSteps.l0 : Nat → List (S29) → Int → Int → Int → Bool → Int → Option (Bool)
  | 0, _, _, _, _, _, _ => none
  | k + 1, x0, x1, x2, x3, x11, x12 => if x12 < (x0.length : Int) then (bobbinlaw13_WaitSteps.l1 k x0 x1 x2 x3 x11 x12 0) else ((wait_Reach.f x0 x1 x2).bind fun t140 => (if t140 = true then ((wait_Reach.f x0 x2 x3).bind fun t141 => (if t141 = true then ((wait_Reach.f x0 x1 x3).bind fun t142 => (if t142 = true then ((wait_Reach.f x0 x1 x2).bind fun t143 => (some (t143 == x11))) else (some false))) else ((wait_Reach.f x0 x1 x2).bind fun t144 => (some (t144 == x11))))) else ((wait_Reach.f x0 x1 x2).bind fun t145 => (some (t145 == x11)))))
def bobbinlaw13_WaitSteps.l1 : Nat → List (S29) → Int → Int → Int → Bool → Int → Int → Option (Bool)
  | 0, _, _, _, _, _, _, _ => none
  | k + 1, x0, x1, x2, x3, x11, x12, x13 => if 0 ≤ x12 then (if x12 < (x0.length : Int) then (if x13 < (((rd_T29 x0 x12).f1).length : Int) then (if ((rd_T29 x0 x12).f0) = x1 then (if x11 = true then (bobbinlaw13_WaitSteps.l1 k x0 x1 x2 x3 true x12 (wrap64 (x13 + 1))) else (if 0 ≤ x13 then (if (rd ((rd_T29 x0 x12).f1) x13) = x2 then (bobbinlaw13_WaitSteps.l1 k x0 x1 x2 x3 true x12 (wrap64 (x13 + 1))) else ((wait_Reach.f x0 (rd ((rd_T29 x0 x12).f1) x13) x2).bind fun t139 => (bobbinlaw13_WaitSteps.l1 k x0 x1 x2 x3 t139 x12 (wrap64 (x13 + 1))))) else (none))) else (bobbinlaw13_WaitSteps.l0 k x0 x1 x2 x3 x11 (wrap64 (x12 + 1)))) else (bobbinlaw13_WaitSteps.l0 k x0 x1 x2 x3 x11 (wrap64 (x12 + 1)))) else (none)) else (none)
end
theorem bobbinlaw13_WaitSteps.j0_eq : ∀ (k : Nat) x0 x1 x2 x3 x9 x23, bobbinlaw13_WaitSteps.j0 (k + 1) x0 x1 x2 x3 x9 x23 = (if x23 = true then (some x9) else (bobbinlaw13_WaitSteps.l0 k x0 x1 x2 x3 false 0)) := fun _ _ _ _ _ _ _ => rfl
theorem bobbinlaw13_WaitSteps.l0_eq : ∀ (k : Nat) x0 x1 x2 x3 x11 x12, bobbinlaw13_WaitSteps.l0 (k + 1) x0 x1 x2 x3 x11 x12 = (if x12 < (x0.length : Int) then (bobbinlaw13_WaitSteps.l1 k x0 x1 x2 x3 x11 x12 0) else ((wait_Reach.f x0 x1 x2).bind fun t140 => (if t140 = true then ((wait_Reach.f x0 x2 x3).bind fun t141 => (if t141 = true then ((wait_Reach.f x0 x1 x3).bind fun t142 => (if t142 = true then ((wait_Reach.f x0 x1 x2).bind fun t143 => (some (t143 == x11))) else (some false))) else ((wait_Reach.f x0 x1 x2).bind fun t144 => (some (t144 == x11))))) else ((wait_Reach.f x0 x1 x2).bind fun t145 => (some (t145 == x11)))))) := fun _ _ _ _ _ _ _ => rfl
theorem bobbinlaw13_WaitSteps.l1_eq : ∀ (k : Nat) x0 x1 x2 x3 x11 x12 x13, bobbinlaw13_WaitSteps.l1 (k + 1) x0 x1 x2 x3 x11 x12 x13 = (if 0 ≤ x12 then (if x12 < (x0.length : Int) then (if x13 < (((rd_T29 x0 x12).f1).length : Int) then (if ((rd_T29 x0 x12).f0) = x1 then (if x11 = true then (bobbinlaw13_WaitSteps.l1 k x0 x1 x2 x3 true x12 (wrap64 (x13 + 1))) else (if 0 ≤ x13 then (if (rd ((rd_T29 x0 x12).f1) x13) = x2 then (bobbinlaw13_WaitSteps.l1 k x0 x1 x2 x3 true x12 (wrap64 (x13 + 1))) else ((wait_Reach.f x0 (rd ((rd_T29 x0 x12).f1) x13) x2).bind fun t139 => (bobbinlaw13_WaitSteps.l1 k x0 x1 x2 x3 t139 x12 (wrap64 (x13 + 1))))) else (none))) else (bobbinlaw13_WaitSteps.l0 k x0 x1 x2 x3 x11 (wrap64 (x12 + 1)))) else (bobbinlaw13_WaitSteps.l0 k x0 x1 x2 x3 x11 (wrap64 (x12 + 1)))) else (none)) else (none)) := fun _ _ _ _ _ _ _ _ => rfl
def bobbinlaw13_WaitSteps.f (k : Nat) (l0 : List (S29)) (a1 : Int) (a2 : Int) (a3 : Int) : Option (Bool) := (bobbinlaw13_awake.f).bind fun t131 => ((bobbinlaw13_few.f k l0).bind fun t132 => (if t131 = true then (bobbinlaw13_WaitSteps.j0 k l0 a1 a2 a3 t131 (!t132)) else (bobbinlaw13_WaitSteps.j0 k l0 a1 a2 a3 t131 true)))
theorem bobbinlaw13_WaitSteps.mono_l : ∀ k, (∀ y0 y1 y2 y3 y4 y5, LeO (bobbinlaw13_WaitSteps.j0 k y0 y1 y2 y3 y4 y5) (bobbinlaw13_WaitSteps.j0 (k + 1) y0 y1 y2 y3 y4 y5)) ∧ (∀ y0 y1 y2 y3 y4 y5, LeO (bobbinlaw13_WaitSteps.l0 k y0 y1 y2 y3 y4 y5) (bobbinlaw13_WaitSteps.l0 (k + 1) y0 y1 y2 y3 y4 y5)) ∧ (∀ y0 y1 y2 y3 y4 y5 y6, LeO (bobbinlaw13_WaitSteps.l1 k y0 y1 y2 y3 y4 y5 y6) (bobbinlaw13_WaitSteps.l1 (k + 1) y0 y1 y2 y3 y4 y5 y6))
  | 0 => ⟨fun _ _ _ _ _ _ r h => by first | (cases h; done) | simp [bobbinlaw13_WaitSteps.j0] at h, fun _ _ _ _ _ _ r h => by first | (cases h; done) | simp [bobbinlaw13_WaitSteps.l0] at h, fun _ _ _ _ _ _ _ r h => by first | (cases h; done) | simp [bobbinlaw13_WaitSteps.l1] at h⟩
  | k + 1 => by
    obtain ⟨ih0, ih1, ih2⟩ := bobbinlaw13_WaitSteps.mono_l k
    refine ⟨?_, ?_, ?_⟩
    · intro y0 y1 y2 y3 y4 y5
      unfold bobbinlaw13_WaitSteps.j0
      repeat' first
      | (with_reducible exact ih0 _ _ _ _ _ _)
      | (with_reducible exact ih1 _ _ _ _ _ _)
      | (with_reducible exact ih2 _ _ _ _ _ _ _)
      | (with_reducible exact bobbinlaw13_few.mono _ _)
      | (with_reducible exact LeO.refl _)
      | (with_reducible exact LeO.none _)
      | (with_reducible refine LeO.ite ?_ ?_)
      | (with_reducible refine LeO.bind ?_ (fun _ => ?_))
      | exact ih0 _ _ _ _ _ _
      | exact ih1 _ _ _ _ _ _
      | exact ih2 _ _ _ _ _ _ _
      | exact bobbinlaw13_few.mono _ _
      | exact LeO.none _
      | refine LeO.ite ?_ ?_
      | refine LeO.bind ?_ (fun _ => ?_)
    · intro y0 y1 y2 y3 y4 y5
      unfold bobbinlaw13_WaitSteps.l0
      repeat' first
      | (with_reducible exact ih0 _ _ _ _ _ _)
      | (with_reducible exact ih1 _ _ _ _ _ _)
      | (with_reducible exact ih2 _ _ _ _ _ _ _)
      | (with_reducible exact bobbinlaw13_few.mono _ _)
      | (with_reducible exact LeO.refl _)
      | (with_reducible exact LeO.none _)
      | (with_reducible refine LeO.ite ?_ ?_)
      | (with_reducible refine LeO.bind ?_ (fun _ => ?_))
      | exact ih0 _ _ _ _ _ _
      | exact ih1 _ _ _ _ _ _
      | exact ih2 _ _ _ _ _ _ _
      | exact bobbinlaw13_few.mono _ _
      | exact LeO.none _
      | refine LeO.ite ?_ ?_
      | refine LeO.bind ?_ (fun _ => ?_)
    · intro y0 y1 y2 y3 y4 y5 y6
      unfold bobbinlaw13_WaitSteps.l1
      repeat' first
      | (with_reducible exact ih0 _ _ _ _ _ _)
      | (with_reducible exact ih1 _ _ _ _ _ _)
      | (with_reducible exact ih2 _ _ _ _ _ _ _)
      | (with_reducible exact bobbinlaw13_few.mono _ _)
      | (with_reducible exact LeO.refl _)
      | (with_reducible exact LeO.none _)
      | (with_reducible refine LeO.ite ?_ ?_)
      | (with_reducible refine LeO.bind ?_ (fun _ => ?_))
      | exact ih0 _ _ _ _ _ _
      | exact ih1 _ _ _ _ _ _
      | exact ih2 _ _ _ _ _ _ _
      | exact bobbinlaw13_few.mono _ _
      | exact LeO.none _
      | refine LeO.ite ?_ ?_
      | refine LeO.bind ?_ (fun _ => ?_)
theorem bobbinlaw13_WaitSteps.mono : ∀ a0 a1 a2 a3 k, LeO (bobbinlaw13_WaitSteps.f k a0 a1 a2 a3) (bobbinlaw13_WaitSteps.f (k + 1) a0 a1 a2 a3) := by
  intro a0 a1 a2 a3 k
  obtain ⟨ih0, ih1, ih2⟩ := bobbinlaw13_WaitSteps.mono_l k
  unfold bobbinlaw13_WaitSteps.f
  repeat' first
      | (with_reducible exact ih0 _ _ _ _ _ _)
      | (with_reducible exact ih1 _ _ _ _ _ _)
      | (with_reducible exact ih2 _ _ _ _ _ _ _)
      | (with_reducible exact bobbinlaw13_few.mono _ _)
      | (with_reducible exact LeO.refl _)
      | (with_reducible exact LeO.none _)
      | (with_reducible refine LeO.ite ?_ ?_)
      | (with_reducible refine LeO.bind ?_ (fun _ => ?_))
      | exact ih0 _ _ _ _ _ _
      | exact ih1 _ _ _ _ _ _
      | exact ih2 _ _ _ _ _ _ _
      | exact bobbinlaw13_few.mono _ _
      | exact LeO.none _
      | refine LeO.ite ?_ ?_
      | refine LeO.bind ?_ (fun _ => ?_)
set_option maxHeartbeats 8000000 in
set_option maxRecDepth 100000 in
theorem bobbinlaw13_WaitSteps.calls (k : Nat) (A0 : Option Addr) (c0 : Nat) (l0 : List (S29)) (a1 : Int) (a2 : Int) (a3 : Int) (r : Bool) (w : World) (hr0 : Kd.C k29 w A0 l0.length l0) (hc0 : l0.length ≤ c0) (h : bobbinlaw13_WaitSteps.f k l0 a1 a2 a3 = some r) :
    Calls Try.prog 4 #[.slice A0 l0.length c0, .int .i64 a1, .int .i64 a2, .int .i64 a3] w fun e w' => e = .returned (.bool r) ∧ Below w.heap.size w w' := by
  have HR0 := Aside0.mk hr0
  have HC0 := Aside0.mk hc0
  clear hr0 hc0
  have HB := Aside0.mk (Below.refl w.heap.size w)
  have H : ((bobbinlaw13_awake.f).bind fun t131 => ((bobbinlaw13_few.f k l0).bind fun t132 => (if t131 = true then (bobbinlaw13_WaitSteps.j0 k l0 a1 a2 a3 t131 (!t132)) else (bobbinlaw13_WaitSteps.j0 k l0 a1 a2 a3 t131 true)))) = some r := h
  clear h
  replace H := Option.bind_eq_some_iff.mp H
  obtain ⟨t131, A50, H⟩ := H
  replace H : ((bobbinlaw13_few.f k l0).bind fun t132 => (if t131 = true then (bobbinlaw13_WaitSteps.j0 k l0 a1 a2 a3 t131 (!t132)) else (bobbinlaw13_WaitSteps.j0 k l0 a1 a2 a3 t131 true))) = some r := H
  have A5 := Aside0.mk A50
  clear A50
  replace H := Option.bind_eq_some_iff.mp H
  obtain ⟨t132, A60, H⟩ := H
  replace H : (if t131 = true then (bobbinlaw13_WaitSteps.j0 k l0 a1 a2 a3 t131 (!t132)) else (bobbinlaw13_WaitSteps.j0 k l0 a1 a2 a3 t131 true)) = some r := H
  have A6 := Aside0.mk A60
  clear A60
  have HC7 := Aside0.mk H
  clear H
  go_enter Try.func4, Try.ntmps4
  go_upto_region 3 with (first | ((with_reducible refine gate_callee (f := 8) rfl ?_); refine goesL_ (some 15) rfl rfl Try.func8 (by kernel_rfl) rfl #[] rfl (by (try simp only [List.map_toArray, List.map_cons, List.map_nil]); first | done | rfl | (simp only [List.length_drop, List.length_take]; rfl)) ?_; (with_reducible refine (bobbinlaw13_awake.calls  t131 _ A5.out).mono ?_); rintro e w8 ⟨rfl, hb⟩; refine ⟨_, rfl, ?_⟩; have n0_ := Aside0.mk (below_step (by repeat (first | (with_reducible first | exact HB.out | apply below_alloc | apply pw_below_drewN | apply below_drew1) | exact HB.out)) hb); clear HB; have HB := n0_; clear n0_; (try clear hb); (try clear hb2); (try clear hk); (try clear hi)) | ((with_reducible refine gate_callee (f := 9) rfl ?_); refine goesL_ (some 17) rfl rfl Try.func9 (by kernel_rfl) rfl #[.slice A0 l0.length c0] rfl (by (try simp only [List.map_toArray, List.map_cons, List.map_nil]); first | done | rfl | (simp only [List.length_drop, List.length_take]; rfl)) ?_; (with_reducible refine (bobbinlaw13_few.calls k _ _ l0 t132 _ ?side1 ?side2 A6.out).mono ?_); (case side1 => repeat (first | exact (Kd.C_below HR0.out HB.out) | (with_reducible refine Kd.C_alloc ?_ _) | (with_reducible refine Kd.C_drewN ?_ _) | (with_reducible refine Kd.C_drew ?_))); (case side2 => exact HC0.out); rintro e w' ⟨rfl, ⟨nd, rfl⟩⟩; refine ⟨_, rfl, ?_⟩))
  (try simp only [Act.put, List.setIfInBounds_toArray, List.set_cons_zero, List.set_cons_succ])
  go_cut [23] (fun v23 wc => ∃ (kq : Nat) (x23_6 : Bool), v23 = .bool x23_6 ∧ Aside0 (bobbinlaw13_WaitSteps.j0 kq l0 a1 a2 a3 t131 x23_6 = some r) ∧ Aside0 (kq ≤ k) ∧ Aside0 (Below w.heap.size w wc))
  case first =>
    have H := HC7.out
    clear HC7
    by_cases c9 : t131 = true
    · subst c9
      have H1 : (bobbinlaw13_WaitSteps.j0 k l0 a1 a2 a3 true (!t132)) = some r := by rw [if_pos rfl] at H; exact H
      clear H
      have H := H1
      clear H1
      have H' := Aside0.mk H
      clear H
      go_wp2
      go_meet
      case rel => exact ⟨_, (!t132), (by first | rfl | (simp; done) | (simp [*]; done)), H', ⟨by first | omega | exact Nat.le_refl _⟩, ⟨by repeat (first | (with_reducible first | exact HB.out | apply below_alloc | apply pw_below_drewN | apply below_drew1) | exact HB.out)⟩⟩
    · replace c9 := Bool.eq_false_iff.mpr c9
      subst c9
      have H1 : (bobbinlaw13_WaitSteps.j0 k l0 a1 a2 a3 false true) = some r := by rw [if_neg (show ¬ (false = true) by decide)] at H; exact H
      clear H
      have H := H1
      clear H1
      have H' := Aside0.mk H
      clear H
      go_wp2
      go_meet
      case rel => exact ⟨_, (true), (by first | rfl | (simp; done) | (simp [*]; done)), H', ⟨by first | omega | exact Nat.le_refl _⟩, ⟨by repeat (first | (with_reducible first | exact HB.out | apply below_alloc | apply pw_below_drewN | apply below_drew1) | exact HB.out)⟩⟩
  case rest =>
    clear HC7
    try clear p2
    try clear c4
    try clear c8
    try clear c9
    obtain ⟨kq, x23_6, rfl, HA, HJ6, HB⟩ := hcut
    cases kq with
    | zero => exact absurd HA.out (by first | (intro h_; cases h_; done) | simp [bobbinlaw13_WaitSteps.j0])
    | succ kj6 =>
      have H := HA.out
      clear HA
      rw [bobbinlaw13_WaitSteps.j0_eq] at H
      by_cases c10 : x23_6 = true
      · subst c10
        have H1 : (some t131) = some r := by rw [if_pos rfl] at H; exact H
        clear H
        have H := H1
        clear H1
        obtain rfl := Option.some.inj H
        go_wp2
        go_ret
        exact ⟨by first | rfl | (simp [errW_none, errW_some] <;> rfl) | (simp [*, errW_none, errW_some] <;> rfl), by repeat (first | (with_reducible first | exact HB.out | apply below_alloc | apply pw_below_drewN | apply below_drew1) | exact HB.out)⟩
      · replace c10 := Bool.eq_false_iff.mpr c10
        subst c10
        have H1 : (bobbinlaw13_WaitSteps.l0 kj6 l0 a1 a2 a3 false 0) = some r := by rw [if_neg (show ¬ (false = true) by decide)] at H; exact H
        clear H
        have H := H1
        clear H1
        have H' := Aside0.mk H
        clear H
        go_wp2
        go_loopg [11, 12] kj6 (fun kq v11 v12 w' => ∃ (x11_2 : Bool) (x12_2 : Int), v11 = .bool x11_2 ∧ v12 = .int .i64 x12_2 ∧ Aside0 (bobbinlaw13_WaitSteps.l0 kq l0 a1 a2 a3 x11_2 x12_2 = some r) ∧ Aside0 (kq ≤ kj6) ∧ Aside0 (Below w.heap.size w w'))
        case atStart => exact ⟨(false), (0), (by first | rfl | (simp; done) | (simp [*]; done)), (by first | rfl | (simp; done) | (simp [*]; done)), H', ⟨Nat.le_refl _⟩, ⟨by repeat (first | (with_reducible first | exact HB.out | apply below_alloc | apply pw_below_drewN | apply below_drew1) | exact HB.out)⟩⟩
        case round =>
          clear H'
          try clear c1
          try clear p2
          try clear c4
          try clear c8
          try clear c9
          try clear c10
          try clear p2
          obtain ⟨x11_2, x12_2, rfl, rfl, HA, HK2, HB⟩ := hrel
          cases gk with
          | zero => exact absurd HA.out (by first | (intro h_; cases h_; done) | simp [bobbinlaw13_WaitSteps.l0])
          | succ k2 =>
            have H := HA.out
            clear HA
            rw [bobbinlaw13_WaitSteps.l0_eq] at H
            by_cases c11 : x12_2 < (l0.length : Int)
            · rw [if_pos c11] at H
              have c11b0 : decide (x12_2 < (l0.length : Int)) = true := decide_eq_true c11
              clear c11
              have H' := Aside0.mk H
              clear H
              go_wp2
              go_loopg [11, 13] k2 (fun kq v11 v13 w' => ∃ (x11_3 : Bool) (x13_3 : Int), v11 = .bool x11_3 ∧ v13 = .int .i64 x13_3 ∧ Aside0 (bobbinlaw13_WaitSteps.l1 kq l0 a1 a2 a3 x11_3 x12_2 x13_3 = some r) ∧ Aside0 (kq ≤ k2) ∧ Aside0 (Below w.heap.size w w'))
              case atStart => exact ⟨(x11_2), (0), (by first | rfl | (simp; done) | (simp [*]; done)), (by first | rfl | (simp; done) | (simp [*]; done)), H', ⟨Nat.le_refl _⟩, ⟨by repeat (first | (with_reducible first | exact HB.out | apply below_alloc | apply pw_below_drewN | apply below_drew1) | exact HB.out)⟩⟩
              case round =>
                clear H'
                try clear c1
                try clear p2
                try clear c4
                try clear c8
                try clear c9
                try clear c10
                try clear c11
                try clear c11b0
                try clear p2
                obtain ⟨x11_3, x13_3, rfl, rfl, HA, HK3, HB⟩ := hrel
                cases gk with
                | zero => exact absurd HA.out (by first | (intro h_; cases h_; done) | simp [bobbinlaw13_WaitSteps.l1])
                | succ k3 =>
                  have H := HA.out
                  clear HA
                  rw [bobbinlaw13_WaitSteps.l1_eq] at H
                  by_cases c12 : 0 ≤ x12_2
                  · rw [if_pos c12] at H
                    have c12b0 : decide (0 ≤ x12_2) = true := decide_eq_true c12
                    clear c12
                    by_cases c13 : x12_2 < (l0.length : Int)
                    · rw [if_pos c13] at H
                      have c13b0 : decide (x12_2 < (l0.length : Int)) = true := decide_eq_true c13
                      clear c13
                      by_cases c14 : x13_3 < (((rd_T29 l0 x12_2).f1).length : Int)
                      · rw [if_pos c14] at H
                        have c14b0 : decide (x13_3 < (((rd_T29 l0 x12_2).f1).length : Int)) = true := decide_eq_true c14
                        clear c14
                        by_cases c15 : ((rd_T29 l0 x12_2).f0) = a1
                        · rw [if_pos c15] at H
                          have c15b0 : (((rd_T29 l0 x12_2).f0) == a1) = true := beq_iff_eq.mpr c15
                          have c15b1 : (((rd_T29 l0 x12_2).f0) != a1) = false := bne_eq_false_iff_eq.mpr c15
                          clear c15
                          by_cases c16 : x11_3 = true
                          · subst c16
                            have H1 : (bobbinlaw13_WaitSteps.l1 k3 l0 a1 a2 a3 true x12_2 (wrap64 (x13_3 + 1))) = some r := by rw [if_pos rfl] at H; exact H
                            clear H
                            have H := H1
                            clear H1
                            have H' := Aside0.mk H
                            clear H
                            have p133 : 0 ≤ (x12_2 : Int) := of_decide_eq_true (by first | (with_reducible assumption) | assumption)
                            have q133 : x12_2 < (l0.length : Int) := of_decide_eq_true (by first | (with_reducible assumption) | assumption)
                            obtain ⟨ad133, A133_1, c133_1, e133, hx133_0, hx133_1, hl133_1, hi133_1⟩ := at_T29 HR0.out x12_2 p133 q133
                            cases e133
                            replace hx133_0 := (HB.out.cell (World.block_lt_of_cell? w _ hx133_0)).trans hx133_0
                            replace hx133_1 := (HB.out.cell (World.block_lt_of_cell? w _ hx133_1)).trans hx133_1
                            have HR133_1 := Aside0.mk hi133_1
                            have HC133_1 := Aside0.mk hl133_1
                            clear hi133_1 hl133_1
                            replace p133 := eq_true p133
                            replace q133 := eq_true q133
                            have p134 : 0 ≤ (x12_2 : Int) := of_decide_eq_true (by first | (with_reducible assumption) | assumption)
                            have q134 : x12_2 < (l0.length : Int) := of_decide_eq_true (by first | (with_reducible assumption) | assumption)
                            obtain ⟨ad134, A134_1, c134_1, e134, hx134_0, hx134_1, hl134_1, hi134_1⟩ := at_T29 HR0.out x12_2 p134 q134
                            obtain rfl : ad133 = ad134 := (by injection e134)
                            replace hx134_0 := (HB.out.cell (World.block_lt_of_cell? w _ hx134_0)).trans hx134_0
                            replace hx134_1 := (HB.out.cell (World.block_lt_of_cell? w _ hx134_1)).trans hx134_1
                            have HR134_1 := Aside0.mk hi134_1
                            have HC134_1 := Aside0.mk hl134_1
                            clear hi134_1 hl134_1
                            replace p134 := eq_true p134
                            replace q134 := eq_true q134
                            have ea_ := Option.some.inj (hx133_1.symm.trans hx134_1)
                            injection ea_ with ea_ en_ ec_
                            subst ea_
                            subst ec_
                            clear en_
                            go_wp2
                            go_roundg k3
                            case measure => have := HJ6.out; have := HK2.out; have := HK3.out; omega
                            case rel => exact ⟨(true), (wrap64 (x13_3 + 1)), (by first | rfl | (simp; done) | (simp [*]; done)), (by first | rfl | (simp; done) | (simp [*]; done)), H', ⟨by have := HJ6.out; have := HK2.out; have := HK3.out; omega⟩, ⟨by repeat (first | (with_reducible first | exact HB.out | apply below_alloc | apply pw_below_drewN | apply below_drew1) | exact HB.out)⟩⟩
                          · replace c16 := Bool.eq_false_iff.mpr c16
                            subst c16
                            have H1 : (if 0 ≤ x13_3 then (if (rd ((rd_T29 l0 x12_2).f1) x13_3) = a2 then (bobbinlaw13_WaitSteps.l1 k3 l0 a1 a2 a3 true x12_2 (wrap64 (x13_3 + 1))) else ((wait_Reach.f l0 (rd ((rd_T29 l0 x12_2).f1) x13_3) a2).bind fun t139 => (bobbinlaw13_WaitSteps.l1 k3 l0 a1 a2 a3 t139 x12_2 (wrap64 (x13_3 + 1))))) else (none)) = some r := by rw [if_neg (show ¬ (false = true) by decide)] at H; exact H
                            clear H
                            have H := H1
                            clear H1
                            by_cases c17 : 0 ≤ x13_3
                            · rw [if_pos c17] at H
                              have c17b0 : decide (0 ≤ x13_3) = true := decide_eq_true c17
                              clear c17
                              by_cases c18 : (rd ((rd_T29 l0 x12_2).f1) x13_3) = a2
                              · rw [if_pos c18] at H
                                have c18b0 : ((rd ((rd_T29 l0 x12_2).f1) x13_3) == a2) = true := beq_iff_eq.mpr c18
                                have c18b1 : ((rd ((rd_T29 l0 x12_2).f1) x13_3) != a2) = false := bne_eq_false_iff_eq.mpr c18
                                clear c18
                                have H' := Aside0.mk H
                                clear H
                                have p133 : 0 ≤ (x12_2 : Int) := of_decide_eq_true (by first | (with_reducible assumption) | assumption)
                                have q133 : x12_2 < (l0.length : Int) := of_decide_eq_true (by first | (with_reducible assumption) | assumption)
                                obtain ⟨ad133, A133_1, c133_1, e133, hx133_0, hx133_1, hl133_1, hi133_1⟩ := at_T29 HR0.out x12_2 p133 q133
                                cases e133
                                replace hx133_0 := (HB.out.cell (World.block_lt_of_cell? w _ hx133_0)).trans hx133_0
                                replace hx133_1 := (HB.out.cell (World.block_lt_of_cell? w _ hx133_1)).trans hx133_1
                                have HR133_1 := Aside0.mk hi133_1
                                have HC133_1 := Aside0.mk hl133_1
                                clear hi133_1 hl133_1
                                replace p133 := eq_true p133
                                replace q133 := eq_true q133
                                have p134 : 0 ≤ (x12_2 : Int) := of_decide_eq_true (by first | (with_reducible assumption) | assumption)
                                have q134 : x12_2 < (l0.length : Int) := of_decide_eq_true (by first | (with_reducible assumption) | assumption)
                                obtain ⟨ad134, A134_1, c134_1, e134, hx134_0, hx134_1, hl134_1, hi134_1⟩ := at_T29 HR0.out x12_2 p134 q134
                                obtain rfl : ad133 = ad134 := (by injection e134)
                                replace hx134_0 := (HB.out.cell (World.block_lt_of_cell? w _ hx134_0)).trans hx134_0
                                replace hx134_1 := (HB.out.cell (World.block_lt_of_cell? w _ hx134_1)).trans hx134_1
                                have HR134_1 := Aside0.mk hi134_1
                                have HC134_1 := Aside0.mk hl134_1
                                clear hi134_1 hl134_1
                                replace p134 := eq_true p134
                                replace q134 := eq_true q134
                                have ea_ := Option.some.inj (hx133_1.symm.trans hx134_1)
                                injection ea_ with ea_ en_ ec_
                                subst ea_
                                subst ec_
                                clear en_
                                have p135 : 0 ≤ (x12_2 : Int) := of_decide_eq_true (by first | (with_reducible assumption) | assumption)
                                have q135 : x12_2 < (l0.length : Int) := of_decide_eq_true (by first | (with_reducible assumption) | assumption)
                                obtain ⟨ad135, A135_1, c135_1, e135, hx135_0, hx135_1, hl135_1, hi135_1⟩ := at_T29 HR0.out x12_2 p135 q135
                                obtain rfl : ad133 = ad135 := (by injection e135)
                                replace hx135_0 := (HB.out.cell (World.block_lt_of_cell? w _ hx135_0)).trans hx135_0
                                replace hx135_1 := (HB.out.cell (World.block_lt_of_cell? w _ hx135_1)).trans hx135_1
                                have HR135_1 := Aside0.mk hi135_1
                                have HC135_1 := Aside0.mk hl135_1
                                clear hi135_1 hl135_1
                                replace p135 := eq_true p135
                                replace q135 := eq_true q135
                                have ea_ := Option.some.inj (hx133_1.symm.trans hx135_1)
                                injection ea_ with ea_ en_ ec_
                                subst ea_
                                subst ec_
                                clear en_
                                have p136 : 0 ≤ (x13_3 : Int) := of_decide_eq_true (by first | (with_reducible assumption) | assumption)
                                have q136 : x13_3 < (((rd_T29 l0 x12_2).f1).length : Int) := of_decide_eq_true (by first | (with_reducible assumption) | assumption)
                                obtain ⟨ad136, e136, hx136_0⟩ := Kd.at_int HR135_1.out x13_3 p136 q136
                                cases e136
                                replace hx136_0 := (HB.out.cell (World.block_lt_of_cell? w _ hx136_0)).trans hx136_0
                                replace p136 := eq_true p136
                                replace q136 := eq_true q136
                                go_wp2
                                go_roundg k3
                                case measure => have := HJ6.out; have := HK2.out; have := HK3.out; omega
                                case rel => exact ⟨(true), (wrap64 (x13_3 + 1)), (by first | rfl | (simp; done) | (simp [*]; done)), (by first | rfl | (simp; done) | (simp [*]; done)), H', ⟨by have := HJ6.out; have := HK2.out; have := HK3.out; omega⟩, ⟨by repeat (first | (with_reducible first | exact HB.out | apply below_alloc | apply pw_below_drewN | apply below_drew1) | exact HB.out)⟩⟩
                              · rw [if_neg c18] at H
                                have c18b0 : ((rd ((rd_T29 l0 x12_2).f1) x13_3) == a2) = false := beq_eq_false_iff_ne.mpr c18
                                have c18b1 : ((rd ((rd_T29 l0 x12_2).f1) x13_3) != a2) = true := bne_iff_ne.mpr c18
                                replace H := Option.bind_eq_some_iff.mp H
                                obtain ⟨t139, A190, H⟩ := H
                                replace H : (bobbinlaw13_WaitSteps.l1 k3 l0 a1 a2 a3 t139 x12_2 (wrap64 (x13_3 + 1))) = some r := H
                                have A19 := Aside0.mk A190
                                clear A190
                                have H' := Aside0.mk H
                                clear H
                                have p133 : 0 ≤ (x12_2 : Int) := of_decide_eq_true (by first | (with_reducible assumption) | assumption)
                                have q133 : x12_2 < (l0.length : Int) := of_decide_eq_true (by first | (with_reducible assumption) | assumption)
                                obtain ⟨ad133, A133_1, c133_1, e133, hx133_0, hx133_1, hl133_1, hi133_1⟩ := at_T29 HR0.out x12_2 p133 q133
                                cases e133
                                replace hx133_0 := (HB.out.cell (World.block_lt_of_cell? w _ hx133_0)).trans hx133_0
                                replace hx133_1 := (HB.out.cell (World.block_lt_of_cell? w _ hx133_1)).trans hx133_1
                                have HR133_1 := Aside0.mk hi133_1
                                have HC133_1 := Aside0.mk hl133_1
                                clear hi133_1 hl133_1
                                replace p133 := eq_true p133
                                replace q133 := eq_true q133
                                have p134 : 0 ≤ (x12_2 : Int) := of_decide_eq_true (by first | (with_reducible assumption) | assumption)
                                have q134 : x12_2 < (l0.length : Int) := of_decide_eq_true (by first | (with_reducible assumption) | assumption)
                                obtain ⟨ad134, A134_1, c134_1, e134, hx134_0, hx134_1, hl134_1, hi134_1⟩ := at_T29 HR0.out x12_2 p134 q134
                                obtain rfl : ad133 = ad134 := (by injection e134)
                                replace hx134_0 := (HB.out.cell (World.block_lt_of_cell? w _ hx134_0)).trans hx134_0
                                replace hx134_1 := (HB.out.cell (World.block_lt_of_cell? w _ hx134_1)).trans hx134_1
                                have HR134_1 := Aside0.mk hi134_1
                                have HC134_1 := Aside0.mk hl134_1
                                clear hi134_1 hl134_1
                                replace p134 := eq_true p134
                                replace q134 := eq_true q134
                                have ea_ := Option.some.inj (hx133_1.symm.trans hx134_1)
                                injection ea_ with ea_ en_ ec_
                                subst ea_
                                subst ec_
                                clear en_
                                have p135 : 0 ≤ (x12_2 : Int) := of_decide_eq_true (by first | (with_reducible assumption) | assumption)
                                have q135 : x12_2 < (l0.length : Int) := of_decide_eq_true (by first | (with_reducible assumption) | assumption)
                                obtain ⟨ad135, A135_1, c135_1, e135, hx135_0, hx135_1, hl135_1, hi135_1⟩ := at_T29 HR0.out x12_2 p135 q135
                                obtain rfl : ad133 = ad135 := (by injection e135)
                                replace hx135_0 := (HB.out.cell (World.block_lt_of_cell? w _ hx135_0)).trans hx135_0
                                replace hx135_1 := (HB.out.cell (World.block_lt_of_cell? w _ hx135_1)).trans hx135_1
                                have HR135_1 := Aside0.mk hi135_1
                                have HC135_1 := Aside0.mk hl135_1
                                clear hi135_1 hl135_1
                                replace p135 := eq_true p135
                                replace q135 := eq_true q135
                                have ea_ := Option.some.inj (hx133_1.symm.trans hx135_1)
                                injection ea_ with ea_ en_ ec_
                                subst ea_
                                subst ec_
                                clear en_
                                have p136 : 0 ≤ (x13_3 : Int) := of_decide_eq_true (by first | (with_reducible assumption) | assumption)
                                have q136 : x13_3 < (((rd_T29 l0 x12_2).f1).length : Int) := of_decide_eq_true (by first | (with_reducible assumption) | assumption)
                                obtain ⟨ad136, e136, hx136_0⟩ := Kd.at_int HR135_1.out x13_3 p136 q136
                                cases e136
                                replace hx136_0 := (HB.out.cell (World.block_lt_of_cell? w _ hx136_0)).trans hx136_0
                                replace p136 := eq_true p136
                                replace q136 := eq_true q136
                                have p137 : 0 ≤ (x12_2 : Int) := of_decide_eq_true (by first | (with_reducible assumption) | assumption)
                                have q137 : x12_2 < (l0.length : Int) := of_decide_eq_true (by first | (with_reducible assumption) | assumption)
                                obtain ⟨ad137, A137_1, c137_1, e137, hx137_0, hx137_1, hl137_1, hi137_1⟩ := at_T29 HR0.out x12_2 p137 q137
                                obtain rfl : ad133 = ad137 := (by injection e137)
                                replace hx137_0 := (HB.out.cell (World.block_lt_of_cell? w _ hx137_0)).trans hx137_0
                                replace hx137_1 := (HB.out.cell (World.block_lt_of_cell? w _ hx137_1)).trans hx137_1
                                have HR137_1 := Aside0.mk hi137_1
                                have HC137_1 := Aside0.mk hl137_1
                                clear hi137_1 hl137_1
                                replace p137 := eq_true p137
                                replace q137 := eq_true q137
                                have ea_ := Option.some.inj (hx133_1.symm.trans hx137_1)
                                injection ea_ with ea_ en_ ec_
                                subst ea_
                                subst ec_
                                clear en_
                                have p138 : 0 ≤ (x13_3 : Int) := of_decide_eq_true (by first | (with_reducible assumption) | assumption)
                                have q138 : x13_3 < (((rd_T29 l0 x12_2).f1).length : Int) := of_decide_eq_true (by first | (with_reducible assumption) | assumption)
                                obtain ⟨ad138, e138, hx138_0⟩ := Kd.at_int HR137_1.out x13_3 p138 q138
                                cases e138
                                replace hx138_0 := (HB.out.cell (World.block_lt_of_cell? w _ hx138_0)).trans hx138_0
                                replace p138 := eq_true p138
                                replace q138 := eq_true q138
                                go_wp2_with (first | (go_at_call 10; (with_reducible refine (wait_Reach.calls _ _ l0 (rd ((rd_T29 l0 x12_2).f1) x13_3) a2 t139 _ ?side1 ?side2 A19.out).mono ?_); (case side1 => repeat (first | exact (Kd.C_below HR0.out HB.out) | (with_reducible refine Kd.C_alloc ?_ _) | (with_reducible refine Kd.C_drewN ?_ _) | (with_reducible refine Kd.C_drew ?_))); (case side2 => exact HC0.out); rintro e w20 ⟨rfl, hb⟩; have n0_ := Aside0.mk (below_step (by repeat (first | (with_reducible first | exact HB.out | apply below_alloc | apply pw_below_drewN | apply below_drew1) | exact HB.out)) hb); clear HB; have HB := n0_; clear n0_; (try clear hb); (try clear hb2); (try clear hk); (try clear hi)))
                                go_roundg k3
                                case measure => have := HJ6.out; have := HK2.out; have := HK3.out; omega
                                case rel => exact ⟨(t139), (wrap64 (x13_3 + 1)), (by first | rfl | (simp; done) | (simp [*]; done)), (by first | rfl | (simp; done) | (simp [*]; done)), H', ⟨by have := HJ6.out; have := HK2.out; have := HK3.out; omega⟩, ⟨by repeat (first | (with_reducible first | exact HB.out | apply below_alloc | apply pw_below_drewN | apply below_drew1) | exact HB.out)⟩⟩
                            · rw [if_neg c17] at H
                              exact absurd H (by simp)
                        · rw [if_neg c15] at H
                          have c15b0 : (((rd_T29 l0 x12_2).f0) == a1) = false := beq_eq_false_iff_ne.mpr c15
                          have c15b1 : (((rd_T29 l0 x12_2).f0) != a1) = true := bne_iff_ne.mpr c15
                          have H' := Aside0.mk H
                          clear H
                          have p133 : 0 ≤ (x12_2 : Int) := of_decide_eq_true (by first | (with_reducible assumption) | assumption)
                          have q133 : x12_2 < (l0.length : Int) := of_decide_eq_true (by first | (with_reducible assumption) | assumption)
                          obtain ⟨ad133, A133_1, c133_1, e133, hx133_0, hx133_1, hl133_1, hi133_1⟩ := at_T29 HR0.out x12_2 p133 q133
                          cases e133
                          replace hx133_0 := (HB.out.cell (World.block_lt_of_cell? w _ hx133_0)).trans hx133_0
                          replace hx133_1 := (HB.out.cell (World.block_lt_of_cell? w _ hx133_1)).trans hx133_1
                          have HR133_1 := Aside0.mk hi133_1
                          have HC133_1 := Aside0.mk hl133_1
                          clear hi133_1 hl133_1
                          replace p133 := eq_true p133
                          replace q133 := eq_true q133
                          have p134 : 0 ≤ (x12_2 : Int) := of_decide_eq_true (by first | (with_reducible assumption) | assumption)
                          have q134 : x12_2 < (l0.length : Int) := of_decide_eq_true (by first | (with_reducible assumption) | assumption)
                          obtain ⟨ad134, A134_1, c134_1, e134, hx134_0, hx134_1, hl134_1, hi134_1⟩ := at_T29 HR0.out x12_2 p134 q134
                          obtain rfl : ad133 = ad134 := (by injection e134)
                          replace hx134_0 := (HB.out.cell (World.block_lt_of_cell? w _ hx134_0)).trans hx134_0
                          replace hx134_1 := (HB.out.cell (World.block_lt_of_cell? w _ hx134_1)).trans hx134_1
                          have HR134_1 := Aside0.mk hi134_1
                          have HC134_1 := Aside0.mk hl134_1
                          clear hi134_1 hl134_1
                          replace p134 := eq_true p134
                          replace q134 := eq_true q134
                          have ea_ := Option.some.inj (hx133_1.symm.trans hx134_1)
                          injection ea_ with ea_ en_ ec_
                          subst ea_
                          subst ec_
                          clear en_
                          go_wp2
                          go_roundg k3
                          case measure => have := HJ6.out; have := HK2.out; have := HK3.out; omega
                          case rel => exact ⟨(x11_3), (wrap64 (x12_2 + 1)), (by first | rfl | (simp; done) | (simp [*]; done)), (by first | rfl | (simp; done) | (simp [*]; done)), H', ⟨by have := HJ6.out; have := HK2.out; have := HK3.out; omega⟩, ⟨by repeat (first | (with_reducible first | exact HB.out | apply below_alloc | apply pw_below_drewN | apply below_drew1) | exact HB.out)⟩⟩
                      · rw [if_neg c14] at H
                        have c14b0 : decide (x13_3 < (((rd_T29 l0 x12_2).f1).length : Int)) = false := decide_eq_false c14
                        clear c14
                        have H' := Aside0.mk H
                        clear H
                        have p133 : 0 ≤ (x12_2 : Int) := of_decide_eq_true (by first | (with_reducible assumption) | assumption)
                        have q133 : x12_2 < (l0.length : Int) := of_decide_eq_true (by first | (with_reducible assumption) | assumption)
                        obtain ⟨ad133, A133_1, c133_1, e133, hx133_0, hx133_1, hl133_1, hi133_1⟩ := at_T29 HR0.out x12_2 p133 q133
                        cases e133
                        replace hx133_0 := (HB.out.cell (World.block_lt_of_cell? w _ hx133_0)).trans hx133_0
                        replace hx133_1 := (HB.out.cell (World.block_lt_of_cell? w _ hx133_1)).trans hx133_1
                        have HR133_1 := Aside0.mk hi133_1
                        have HC133_1 := Aside0.mk hl133_1
                        clear hi133_1 hl133_1
                        replace p133 := eq_true p133
                        replace q133 := eq_true q133
                        go_wp2
                        go_roundg k3
                        case measure => have := HJ6.out; have := HK2.out; have := HK3.out; omega
                        case rel => exact ⟨(x11_3), (wrap64 (x12_2 + 1)), (by first | rfl | (simp; done) | (simp [*]; done)), (by first | rfl | (simp; done) | (simp [*]; done)), H', ⟨by have := HJ6.out; have := HK2.out; have := HK3.out; omega⟩, ⟨by repeat (first | (with_reducible first | exact HB.out | apply below_alloc | apply pw_below_drewN | apply below_drew1) | exact HB.out)⟩⟩
                    · rw [if_neg c13] at H
                      exact absurd H (by simp)
                  · rw [if_neg c12] at H
                    exact absurd H (by simp)
            · rw [if_neg c11] at H
              have c11b0 : decide (x12_2 < (l0.length : Int)) = false := decide_eq_false c11
              clear c11
              replace H := Option.bind_eq_some_iff.mp H
              obtain ⟨t140, A210, H⟩ := H
              replace H : (if t140 = true then ((wait_Reach.f l0 a2 a3).bind fun t141 => (if t141 = true then ((wait_Reach.f l0 a1 a3).bind fun t142 => (if t142 = true then ((wait_Reach.f l0 a1 a2).bind fun t143 => (some (t143 == x11_2))) else (some false))) else ((wait_Reach.f l0 a1 a2).bind fun t144 => (some (t144 == x11_2))))) else ((wait_Reach.f l0 a1 a2).bind fun t145 => (some (t145 == x11_2)))) = some r := H
              have A21 := Aside0.mk A210
              clear A210
              by_cases c22 : t140 = true
              · subst c22
                have H1 : ((wait_Reach.f l0 a2 a3).bind fun t141 => (if t141 = true then ((wait_Reach.f l0 a1 a3).bind fun t142 => (if t142 = true then ((wait_Reach.f l0 a1 a2).bind fun t143 => (some (t143 == x11_2))) else (some false))) else ((wait_Reach.f l0 a1 a2).bind fun t144 => (some (t144 == x11_2))))) = some r := by rw [if_pos rfl] at H; exact H
                clear H
                have H := H1
                clear H1
                replace H := Option.bind_eq_some_iff.mp H
                obtain ⟨t141, A230, H⟩ := H
                replace H : (if t141 = true then ((wait_Reach.f l0 a1 a3).bind fun t142 => (if t142 = true then ((wait_Reach.f l0 a1 a2).bind fun t143 => (some (t143 == x11_2))) else (some false))) else ((wait_Reach.f l0 a1 a2).bind fun t144 => (some (t144 == x11_2)))) = some r := H
                have A23 := Aside0.mk A230
                clear A230
                by_cases c24 : t141 = true
                · subst c24
                  have H1 : ((wait_Reach.f l0 a1 a3).bind fun t142 => (if t142 = true then ((wait_Reach.f l0 a1 a2).bind fun t143 => (some (t143 == x11_2))) else (some false))) = some r := by rw [if_pos rfl] at H; exact H
                  clear H
                  have H := H1
                  clear H1
                  replace H := Option.bind_eq_some_iff.mp H
                  obtain ⟨t142, A250, H⟩ := H
                  replace H : (if t142 = true then ((wait_Reach.f l0 a1 a2).bind fun t143 => (some (t143 == x11_2))) else (some false)) = some r := H
                  have A25 := Aside0.mk A250
                  clear A250
                  by_cases c26 : t142 = true
                  · subst c26
                    have H1 : ((wait_Reach.f l0 a1 a2).bind fun t143 => (some (t143 == x11_2))) = some r := by rw [if_pos rfl] at H; exact H
                    clear H
                    have H := H1
                    clear H1
                    replace H := Option.bind_eq_some_iff.mp H
                    obtain ⟨t143, A270, H⟩ := H
                    replace H : (some (t143 == x11_2)) = some r := H
                    have A27 := Aside0.mk A270
                    clear A270
                    obtain rfl := Option.some.inj H
                    go_wp2_with (first | ((with_reducible refine gate_callee (f := 10) rfl ?_); refine goesL_ (some 79) rfl rfl Try.func10 (by kernel_rfl) rfl #[.slice A0 l0.length c0, .int .i64 a1, .int .i64 a2] rfl (by (try simp only [List.map_toArray, List.map_cons, List.map_nil]); first | done | rfl | (simp only [List.length_drop, List.length_take]; rfl)) ?_; (with_reducible refine (wait_Reach.calls _ _ l0 a1 a2 true _ ?side1 ?side2 A21.out).mono ?_); (case side1 => repeat (first | exact (Kd.C_below HR0.out HB.out) | (with_reducible refine Kd.C_alloc ?_ _) | (with_reducible refine Kd.C_drewN ?_ _) | (with_reducible refine Kd.C_drew ?_))); (case side2 => exact HC0.out); rintro e w28 ⟨rfl, hb⟩; refine ⟨_, rfl, ?_⟩; have n0_ := Aside0.mk (below_step (by repeat (first | (with_reducible first | exact HB.out | apply below_alloc | apply pw_below_drewN | apply below_drew1) | exact HB.out)) hb); clear HB; have HB := n0_; clear n0_; (try clear hb); (try clear hb2); (try clear hk); (try clear hi)) | (go_at_call 10; (with_reducible refine (wait_Reach.calls _ _ l0 a2 a3 true _ ?side1 ?side2 A23.out).mono ?_); (case side1 => repeat (first | exact (Kd.C_below HR0.out HB.out) | (with_reducible refine Kd.C_alloc ?_ _) | (with_reducible refine Kd.C_drewN ?_ _) | (with_reducible refine Kd.C_drew ?_))); (case side2 => exact HC0.out); rintro e w29 ⟨rfl, hb⟩; have n0_ := Aside0.mk (below_step (by repeat (first | (with_reducible first | exact HB.out | apply below_alloc | apply pw_below_drewN | apply below_drew1) | exact HB.out)) hb); clear HB; have HB := n0_; clear n0_; (try clear hb); (try clear hb2); (try clear hk); (try clear hi)) | (go_at_call 10; (with_reducible refine (wait_Reach.calls _ _ l0 a1 a3 true _ ?side1 ?side2 A25.out).mono ?_); (case side1 => repeat (first | exact (Kd.C_below HR0.out HB.out) | (with_reducible refine Kd.C_alloc ?_ _) | (with_reducible refine Kd.C_drewN ?_ _) | (with_reducible refine Kd.C_drew ?_))); (case side2 => exact HC0.out); rintro e w30 ⟨rfl, hb⟩; have n0_ := Aside0.mk (below_step (by repeat (first | (with_reducible first | exact HB.out | apply below_alloc | apply pw_below_drewN | apply below_drew1) | exact HB.out)) hb); clear HB; have HB := n0_; clear n0_; (try clear hb); (try clear hb2); (try clear hk); (try clear hi)) | (go_at_call 10; (with_reducible refine (wait_Reach.calls _ _ l0 a1 a2 t143 _ ?side1 ?side2 A27.out).mono ?_); (case side1 => repeat (first | exact (Kd.C_below HR0.out HB.out) | (with_reducible refine Kd.C_alloc ?_ _) | (with_reducible refine Kd.C_drewN ?_ _) | (with_reducible refine Kd.C_drew ?_))); (case side2 => exact HC0.out); rintro e w31 ⟨rfl, hb⟩; have n0_ := Aside0.mk (below_step (by repeat (first | (with_reducible first | exact HB.out | apply below_alloc | apply pw_below_drewN | apply below_drew1) | exact HB.out)) hb); clear HB; have HB := n0_; clear n0_; (try clear hb); (try clear hb2); (try clear hk); (try clear hi)))
                    go_ret
                    exact ⟨by first | rfl | (simp [errW_none, errW_some] <;> rfl) | (simp [*, errW_none, errW_some] <;> rfl), by repeat (first | (with_reducible first | exact HB.out | apply below_alloc | apply pw_below_drewN | apply below_drew1) | exact HB.out)⟩
                  · replace c26 := Bool.eq_false_iff.mpr c26
                    subst c26
                    have H1 : (some false) = some r := by rw [if_neg (show ¬ (false = true) by decide)] at H; exact H
                    clear H
                    have H := H1
                    clear H1
                    obtain rfl := Option.some.inj H
                    go_wp2_with (first | ((with_reducible refine gate_callee (f := 10) rfl ?_); refine goesL_ (some 79) rfl rfl Try.func10 (by kernel_rfl) rfl #[.slice A0 l0.length c0, .int .i64 a1, .int .i64 a2] rfl (by (try simp only [List.map_toArray, List.map_cons, List.map_nil]); first | done | rfl | (simp only [List.length_drop, List.length_take]; rfl)) ?_; (with_reducible refine (wait_Reach.calls _ _ l0 a1 a2 true _ ?side1 ?side2 A21.out).mono ?_); (case side1 => repeat (first | exact (Kd.C_below HR0.out HB.out) | (with_reducible refine Kd.C_alloc ?_ _) | (with_reducible refine Kd.C_drewN ?_ _) | (with_reducible refine Kd.C_drew ?_))); (case side2 => exact HC0.out); rintro e w32 ⟨rfl, hb⟩; refine ⟨_, rfl, ?_⟩; have n0_ := Aside0.mk (below_step (by repeat (first | (with_reducible first | exact HB.out | apply below_alloc | apply pw_below_drewN | apply below_drew1) | exact HB.out)) hb); clear HB; have HB := n0_; clear n0_; (try clear hb); (try clear hb2); (try clear hk); (try clear hi)) | (go_at_call 10; (with_reducible refine (wait_Reach.calls _ _ l0 a2 a3 true _ ?side1 ?side2 A23.out).mono ?_); (case side1 => repeat (first | exact (Kd.C_below HR0.out HB.out) | (with_reducible refine Kd.C_alloc ?_ _) | (with_reducible refine Kd.C_drewN ?_ _) | (with_reducible refine Kd.C_drew ?_))); (case side2 => exact HC0.out); rintro e w33 ⟨rfl, hb⟩; have n0_ := Aside0.mk (below_step (by repeat (first | (with_reducible first | exact HB.out | apply below_alloc | apply pw_below_drewN | apply below_drew1) | exact HB.out)) hb); clear HB; have HB := n0_; clear n0_; (try clear hb); (try clear hb2); (try clear hk); (try clear hi)) | (go_at_call 10; (with_reducible refine (wait_Reach.calls _ _ l0 a1 a3 false _ ?side1 ?side2 A25.out).mono ?_); (case side1 => repeat (first | exact (Kd.C_below HR0.out HB.out) | (with_reducible refine Kd.C_alloc ?_ _) | (with_reducible refine Kd.C_drewN ?_ _) | (with_reducible refine Kd.C_drew ?_))); (case side2 => exact HC0.out); rintro e w34 ⟨rfl, hb⟩; have n0_ := Aside0.mk (below_step (by repeat (first | (with_reducible first | exact HB.out | apply below_alloc | apply pw_below_drewN | apply below_drew1) | exact HB.out)) hb); clear HB; have HB := n0_; clear n0_; (try clear hb); (try clear hb2); (try clear hk); (try clear hi)))
                    go_ret
                    exact ⟨by first | rfl | (simp [errW_none, errW_some] <;> rfl) | (simp [*, errW_none, errW_some] <;> rfl), by repeat (first | (with_reducible first | exact HB.out | apply below_alloc | apply pw_below_drewN | apply below_drew1) | exact HB.out)⟩
                · replace c24 := Bool.eq_false_iff.mpr c24
                  subst c24
                  have H1 : ((wait_Reach.f l0 a1 a2).bind fun t144 => (some (t144 == x11_2))) = some r := by rw [if_neg (show ¬ (false = true) by decide)] at H; exact H
                  clear H
                  have H := H1
                  clear H1
                  replace H := Option.bind_eq_some_iff.mp H
                  obtain ⟨t144, A350, H⟩ := H
                  replace H : (some (t144 == x11_2)) = some r := H
                  have A35 := Aside0.mk A350
                  clear A350
                  obtain rfl := Option.some.inj H
                  go_wp2_with (first | ((with_reducible refine gate_callee (f := 10) rfl ?_); refine goesL_ (some 79) rfl rfl Try.func10 (by kernel_rfl) rfl #[.slice A0 l0.length c0, .int .i64 a1, .int .i64 a2] rfl (by (try simp only [List.map_toArray, List.map_cons, List.map_nil]); first | done | rfl | (simp only [List.length_drop, List.length_take]; rfl)) ?_; (with_reducible refine (wait_Reach.calls _ _ l0 a1 a2 true _ ?side1 ?side2 A21.out).mono ?_); (case side1 => repeat (first | exact (Kd.C_below HR0.out HB.out) | (with_reducible refine Kd.C_alloc ?_ _) | (with_reducible refine Kd.C_drewN ?_ _) | (with_reducible refine Kd.C_drew ?_))); (case side2 => exact HC0.out); rintro e w36 ⟨rfl, hb⟩; refine ⟨_, rfl, ?_⟩; have n0_ := Aside0.mk (below_step (by repeat (first | (with_reducible first | exact HB.out | apply below_alloc | apply pw_below_drewN | apply below_drew1) | exact HB.out)) hb); clear HB; have HB := n0_; clear n0_; (try clear hb); (try clear hb2); (try clear hk); (try clear hi)) | (go_at_call 10; (with_reducible refine (wait_Reach.calls _ _ l0 a2 a3 false _ ?side1 ?side2 A23.out).mono ?_); (case side1 => repeat (first | exact (Kd.C_below HR0.out HB.out) | (with_reducible refine Kd.C_alloc ?_ _) | (with_reducible refine Kd.C_drewN ?_ _) | (with_reducible refine Kd.C_drew ?_))); (case side2 => exact HC0.out); rintro e w37 ⟨rfl, hb⟩; have n0_ := Aside0.mk (below_step (by repeat (first | (with_reducible first | exact HB.out | apply below_alloc | apply pw_below_drewN | apply below_drew1) | exact HB.out)) hb); clear HB; have HB := n0_; clear n0_; (try clear hb); (try clear hb2); (try clear hk); (try clear hi)) | (go_at_call 10; (with_reducible refine (wait_Reach.calls _ _ l0 a1 a2 t144 _ ?side1 ?side2 A35.out).mono ?_); (case side1 => repeat (first | exact (Kd.C_below HR0.out HB.out) | (with_reducible refine Kd.C_alloc ?_ _) | (with_reducible refine Kd.C_drewN ?_ _) | (with_reducible refine Kd.C_drew ?_))); (case side2 => exact HC0.out); rintro e w38 ⟨rfl, hb⟩; have n0_ := Aside0.mk (below_step (by repeat (first | (with_reducible first | exact HB.out | apply below_alloc | apply pw_below_drewN | apply below_drew1) | exact HB.out)) hb); clear HB; have HB := n0_; clear n0_; (try clear hb); (try clear hb2); (try clear hk); (try clear hi)))
                  go_ret
                  exact ⟨by first | rfl | (simp [errW_none, errW_some] <;> rfl) | (simp [*, errW_none, errW_some] <;> rfl), by repeat (first | (with_reducible first | exact HB.out | apply below_alloc | apply pw_below_drewN | apply below_drew1) | exact HB.out)⟩
              · replace c22 := Bool.eq_false_iff.mpr c22
                subst c22
                have H1 : ((wait_Reach.f l0 a1 a2).bind fun t145 => (some (t145 == x11_2))) = some r := by rw [if_neg (show ¬ (false = true) by decide)] at H; exact H
                clear H
                have H := H1
                clear H1
                replace H := Option.bind_eq_some_iff.mp H
                obtain ⟨t145, A390, H⟩ := H
                replace H : (some (t145 == x11_2)) = some r := H
                have A39 := Aside0.mk A390
                clear A390
                obtain rfl := Option.some.inj H
                go_wp2_with (first | ((with_reducible refine gate_callee (f := 10) rfl ?_); refine goesL_ (some 79) rfl rfl Try.func10 (by kernel_rfl) rfl #[.slice A0 l0.length c0, .int .i64 a1, .int .i64 a2] rfl (by (try simp only [List.map_toArray, List.map_cons, List.map_nil]); first | done | rfl | (simp only [List.length_drop, List.length_take]; rfl)) ?_; (with_reducible refine (wait_Reach.calls _ _ l0 a1 a2 false _ ?side1 ?side2 A21.out).mono ?_); (case side1 => repeat (first | exact (Kd.C_below HR0.out HB.out) | (with_reducible refine Kd.C_alloc ?_ _) | (with_reducible refine Kd.C_drewN ?_ _) | (with_reducible refine Kd.C_drew ?_))); (case side2 => exact HC0.out); rintro e w40 ⟨rfl, hb⟩; refine ⟨_, rfl, ?_⟩; have n0_ := Aside0.mk (below_step (by repeat (first | (with_reducible first | exact HB.out | apply below_alloc | apply pw_below_drewN | apply below_drew1) | exact HB.out)) hb); clear HB; have HB := n0_; clear n0_; (try clear hb); (try clear hb2); (try clear hk); (try clear hi)) | (go_at_call 10; (with_reducible refine (wait_Reach.calls _ _ l0 a1 a2 t145 _ ?side1 ?side2 A39.out).mono ?_); (case side1 => repeat (first | exact (Kd.C_below HR0.out HB.out) | (with_reducible refine Kd.C_alloc ?_ _) | (with_reducible refine Kd.C_drewN ?_ _) | (with_reducible refine Kd.C_drew ?_))); (case side2 => exact HC0.out); rintro e w41 ⟨rfl, hb⟩; have n0_ := Aside0.mk (below_step (by repeat (first | (with_reducible first | exact HB.out | apply below_alloc | apply pw_below_drewN | apply below_drew1) | exact HB.out)) hb); clear HB; have HB := n0_; clear n0_; (try clear hb); (try clear hb2); (try clear hk); (try clear hi)))
                go_ret
                exact ⟨by first | rfl | (simp [errW_none, errW_some] <;> rfl) | (simp [*, errW_none, errW_some] <;> rfl), by repeat (first | (with_reducible first | exact HB.out | apply below_alloc | apply pw_below_drewN | apply below_drew1) | exact HB.out)⟩

end Go.Proofs.Ytdpdghahmapgkaa.Print
