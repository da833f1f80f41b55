-- Written by a program of this session (myprint.py over the kit's print.py) out of the translation. Not trusted: Lean checks it.
import Derived.Test.YtckmagmfanemiaaPrint0
import Derived.Test.YtckmagmfanemiaaPrint1
import Derived.Test.YtckmagmfanemiaaPrint2
import Derived.Test.YtckmagmfanemiaaPrint3
import Derived.Test.YtckmagmfanemiaaPrint4
namespace Go.Proofs.Ytckmagmfanemiaa.Print
open Go.RowKit Go.Proofs.YtckmagmfanemiaaW.PrintWords Go.Proofs.YtckmagmfanemiaaW.PrintLast Go.Proofs.YtckmagmfanemiaaW.PrintMore
attribute [local go_sem] max2_int min2_int max_two min_two max_three min_three max_four min_four   -- for this text's walks alone
set_option linter.unusedVariables false
set_option linter.unusedSimpArgs false

/-! ### bobbinlaw02_FrameTorn: function 9 -/
mutual
def bobbinlaw02_FrameTorn.j0 : Nat → Int → List Int → Int → List Int → Int → Bool → Bool → Option (Bool)
  | 0, _, _, _, _, _, _, _ => none
  | k + 1, x0, x1, x2, x3, x4, x11, x64 => if x64 = true then (some x11) else ((frame_Seal.f x0 x1).bind fun bt283 => ((frame_Seal.f x2 x3).bind fun bt287 => ((frame_Part.f bt283.1 bt287.1 x4).bind fun bt291 => ((frame_Open.f bt291.1).bind fun bt295 => (if bt283.2 = 0 then (if bt287.2 = 0 then (bobbinlaw02_FrameTorn.j1 k x0 x2 bt283.1 bt287.1 bt291.1 bt295.1 bt295.2.1 bt295.2.2 (bt291.2 != 0)) else (bobbinlaw02_FrameTorn.j1 k x0 x2 bt283.1 bt287.1 bt291.1 bt295.1 bt295.2.1 bt295.2.2 true)) else (bobbinlaw02_FrameTorn.j1 k x0 x2 bt283.1 bt287.1 bt291.1 bt295.1 bt295.2.1 bt295.2.2 true))))))
def bobbinlaw02_FrameTorn.j1 : Nat → Int → Int → List Int → List Int → List Int → List Int → Int → Int → Bool → Option (Bool)
  | 0, _, _, _, _, _, _, _, _, _ => none
  | k + 1, x0, x2, x12, x14, x16, x18, x19, x20, x100 => if x100 = true then (some false) else (if x20 = 0 then ((bobbinref01_Same.f k x16 x12).bind fun t300 => ((bobbinref01_Same.f k x16 x14).bind fun t301 => (if t300 = true then (if x19 = x0 then (some true) else (if t301 = true then (some (x19 == x2)) else (some false))) else (if t301 = true then (some (x19 == x2)) else (some false))))) else (if x20 = 20 then (if x19 = 0 then (some ((x18.length : Int) == 0)) else (some false)) else (some false)))
end
theorem bobbinlaw02_FrameTorn.j0_eq : ∀ (k : Nat) x0 x1 x2 x3 x4 x11 x64, bobbinlaw02_FrameTorn.j0 (k + 1) x0 x1 x2 x3 x4 x11 x64 = (if x64 = true then (some x11) else ((frame_Seal.f x0 x1).bind fun bt283 => ((frame_Seal.f x2 x3).bind fun bt287 => ((frame_Part.f bt283.1 bt287.1 x4).bind fun bt291 => ((frame_Open.f bt291.1).bind fun bt295 => (if bt283.2 = 0 then (if bt287.2 = 0 then (bobbinlaw02_FrameTorn.j1 k x0 x2 bt283.1 bt287.1 bt291.1 bt295.1 bt295.2.1 bt295.2.2 (bt291.2 != 0)) else (bobbinlaw02_FrameTorn.j1 k x0 x2 bt283.1 bt287.1 bt291.1 bt295.1 bt295.2.1 bt295.2.2 true)) else (bobbinlaw02_FrameTorn.j1 k x0 x2 bt283.1 bt287.1 bt291.1 bt295.1 bt295.2.1 bt295.2.2 true))))))) := fun _ _ _ _ _ _ _ _ => rfl
theorem bobbinlaw02_FrameTorn.j1_eq : ∀ (k : Nat) x0 x2 x12 x14 x16 x18 x19 x20 x100, bobbinlaw02_FrameTorn.j1 (k + 1) x0 x2 x12 x14 x16 x18 x19 x20 x100 = (if x100 = true then (some false) else (if x20 = 0 then ((bobbinref01_Same.f k x16 x12).bind fun t300 => ((bobbinref01_Same.f k x16 x14).bind fun t301 => (if t300 = true then (if x19 = x0 then (some true) else (if t301 = true then (some (x19 == x2)) else (some false))) else (if t301 = true then (some (x19 == x2)) else (some false))))) else (if x20 = 20 then (if x19 = 0 then (some ((x18.length : Int) == 0)) else (some false)) else (some false)))) := fun _ _ _ _ _ _ _ _ _ _ => rfl
def bobbinlaw02_FrameTorn.f (k : Nat) (a0 : Int) (l1 : List Int) (a2 : Int) (l3 : List Int) (a4 : Int) : Option (Bool) := (bobbinlaw02_awake.f).bind fun t282 => (if t282 = true then (if (l1.length : Int) > 248 then (bobbinlaw02_FrameTorn.j0 k a0 l1 a2 l3 a4 t282 true) else (if (l3.length : Int) > 248 then (bobbinlaw02_FrameTorn.j0 k a0 l1 a2 l3 a4 t282 true) else (if a0 < 0 then (bobbinlaw02_FrameTorn.j0 k a0 l1 a2 l3 a4 t282 true) else (if a2 < 0 then (bobbinlaw02_FrameTorn.j0 k a0 l1 a2 l3 a4 t282 true) else (if a0 > 4294967295 then (bobbinlaw02_FrameTorn.j0 k a0 l1 a2 l3 a4 t282 true) else (if a2 > 4294967295 then (bobbinlaw02_FrameTorn.j0 k a0 l1 a2 l3 a4 t282 true) else (if a0 = a2 then (bobbinlaw02_FrameTorn.j0 k a0 l1 a2 l3 a4 t282 true) else (if a4 < 0 then (bobbinlaw02_FrameTorn.j0 k a0 l1 a2 l3 a4 t282 true) else (bobbinlaw02_FrameTorn.j0 k a0 l1 a2 l3 a4 t282 (decide (a4 > 256))))))))))) else (bobbinlaw02_FrameTorn.j0 k a0 l1 a2 l3 a4 t282 true))
theorem bobbinlaw02_FrameTorn.mono_l : ∀ k, (∀ y0 y1 y2 y3 y4 y5 y6, LeO (bobbinlaw02_FrameTorn.j0 k y0 y1 y2 y3 y4 y5 y6) (bobbinlaw02_FrameTorn.j0 (k + 1) y0 y1 y2 y3 y4 y5 y6)) ∧ (∀ y0 y1 y2 y3 y4 y5 y6 y7 y8, LeO (bobbinlaw02_FrameTorn.j1 k y0 y1 y2 y3 y4 y5 y6 y7 y8) (bobbinlaw02_FrameTorn.j1 (k + 1) y0 y1 y2 y3 y4 y5 y6 y7 y8))
  | 0 => ⟨fun _ _ _ _ _ _ _ r h => by first | (cases h; done) | simp [bobbinlaw02_FrameTorn.j0] at h, fun _ _ _ _ _ _ _ _ _ r h => by first | (cases h; done) | simp [bobbinlaw02_FrameTorn.j1] at h⟩
  | k + 1 => by
    obtain ⟨ih0, ih1⟩ := bobbinlaw02_FrameTorn.mono_l k
    refine ⟨?_, ?_⟩
    · intro y0 y1 y2 y3 y4 y5 y6
      unfold bobbinlaw02_FrameTorn.j0
      repeat' first
      | (with_reducible exact ih0 _ _ _ _ _ _ _)
      | (with_reducible exact ih1 _ _ _ _ _ _ _ _ _)
      | (with_reducible exact bobbinref01_Same.mono _ _ _)
      | (with_reducible exact LeO.refl _)
      | (with_reducible exact LeO.none _)
      | (with_reducible refine LeO.ite ?_ ?_)
      | (with_reducible refine LeO.bind ?_ (fun _ => ?_))
      | exact ih0 _ _ _ _ _ _ _
      | exact ih1 _ _ _ _ _ _ _ _ _
      | exact bobbinref01_Same.mono _ _ _
      | exact LeO.none _
      | refine LeO.ite ?_ ?_
      | refine LeO.bind ?_ (fun _ => ?_)
    · intro y0 y1 y2 y3 y4 y5 y6 y7 y8
      unfold bobbinlaw02_FrameTorn.j1
      repeat' first
      | (with_reducible exact ih0 _ _ _ _ _ _ _)
      | (with_reducible exact ih1 _ _ _ _ _ _ _ _ _)
      | (with_reducible exact bobbinref01_Same.mono _ _ _)
      | (with_reducible exact LeO.refl _)
      | (with_reducible exact LeO.none _)
      | (with_reducible refine LeO.ite ?_ ?_)
      | (with_reducible refine LeO.bind ?_ (fun _ => ?_))
      | exact ih0 _ _ _ _ _ _ _
      | exact ih1 _ _ _ _ _ _ _ _ _
      | exact bobbinref01_Same.mono _ _ _
      | exact LeO.none _
      | refine LeO.ite ?_ ?_
      | refine LeO.bind ?_ (fun _ => ?_)
theorem bobbinlaw02_FrameTorn.mono : ∀ a0 a1 a2 a3 a4 k, LeO (bobbinlaw02_FrameTorn.f k a0 a1 a2 a3 a4) (bobbinlaw02_FrameTorn.f (k + 1) a0 a1 a2 a3 a4) := by
  intro a0 a1 a2 a3 a4 k
  obtain ⟨ih0, ih1⟩ := bobbinlaw02_FrameTorn.mono_l k
  unfold bobbinlaw02_FrameTorn.f
  repeat' first
      | (with_reducible exact ih0 _ _ _ _ _ _ _)
      | (with_reducible exact ih1 _ _ _ _ _ _ _ _ _)
      | (with_reducible exact bobbinref01_Same.mono _ _ _)
      | (with_reducible exact LeO.refl _)
      | (with_reducible exact LeO.none _)
      | (with_reducible refine LeO.ite ?_ ?_)
      | (with_reducible refine LeO.bind ?_ (fun _ => ?_))
      | exact ih0 _ _ _ _ _ _ _
      | exact ih1 _ _ _ _ _ _ _ _ _
      | exact bobbinref01_Same.mono _ _ _
      | exact LeO.none _
      | refine LeO.ite ?_ ?_
      | refine LeO.bind ?_ (fun _ => ?_)
set_option maxHeartbeats 8000000 in
set_option maxRecDepth 100000 in
theorem bobbinlaw02_FrameTorn.calls (k : Nat) (a0 : Int) (A1 : Option Addr) (c1 : Nat) (l1 : List Int) (a2 : Int) (A3 : Option Addr) (c3 : Nat) (l3 : List Int) (a4 : Int) (r : Bool) (w : World) (hr1 : Kd.C (Kd.int .u8) w A1 l1.length l1) (hc1 : l1.length ≤ c1) (hr3 : Kd.C (Kd.int .u8) w A3 l3.length l3) (hc3 : l3.length ≤ c3) (h : bobbinlaw02_FrameTorn.f k a0 l1 a2 l3 a4 = some r) :
    Calls Try.prog 9 #[.int .i64 a0, .slice A1 l1.length c1, .int .i64 a2, .slice A3 l3.length c3, .int .i64 a4] w fun e w' => e = .returned (.bool r) ∧ Below w.heap.size w w' := by
  have HR1 := Aside0.mk hr1
  have HC1 := Aside0.mk hc1
  clear hr1 hc1
  have HR3 := Aside0.mk hr3
  have HC3 := Aside0.mk hc3
  clear hr3 hc3
  have HB := Aside0.mk (Below.refl w.heap.size w)
  have H : ((bobbinlaw02_awake.f).bind fun t282 => (if t282 = true then (if (l1.length : Int) > 248 then (bobbinlaw02_FrameTorn.j0 k a0 l1 a2 l3 a4 t282 true) else (if (l3.length : Int) > 248 then (bobbinlaw02_FrameTorn.j0 k a0 l1 a2 l3 a4 t282 true) else (if a0 < 0 then (bobbinlaw02_FrameTorn.j0 k a0 l1 a2 l3 a4 t282 true) else (if a2 < 0 then (bobbinlaw02_FrameTorn.j0 k a0 l1 a2 l3 a4 t282 true) else (if a0 > 4294967295 then (bobbinlaw02_FrameTorn.j0 k a0 l1 a2 l3 a4 t282 true) else (if a2 > 4294967295 then (bobbinlaw02_FrameTorn.j0 k a0 l1 a2 l3 a4 t282 true) else (if a0 = a2 then (bobbinlaw02_FrameTorn.j0 k a0 l1 a2 l3 a4 t282 true) else (if a4 < 0 then (bobbinlaw02_FrameTorn.j0 k a0 l1 a2 l3 a4 t282 true) else (bobbinlaw02_FrameTorn.j0 k a0 l1 a2 l3 a4 t282 (decide (a4 > 256))))))))))) else (bobbinlaw02_FrameTorn.j0 k a0 l1 a2 l3 a4 t282 true))) = some r := h
  clear h
  replace H := Option.bind_eq_some_iff.mp H
  obtain ⟨t282, A60, H⟩ := H
  replace H : (if t282 = true then (if (l1.length : Int) > 248 then (bobbinlaw02_FrameTorn.j0 k a0 l1 a2 l3 a4 t282 true) else (if (l3.length : Int) > 248 then (bobbinlaw02_FrameTorn.j0 k a0 l1 a2 l3 a4 t282 true) else (if a0 < 0 then (bobbinlaw02_FrameTorn.j0 k a0 l1 a2 l3 a4 t282 true) else (if a2 < 0 then (bobbinlaw02_FrameTorn.j0 k a0 l1 a2 l3 a4 t282 true) else (if a0 > 4294967295 then (bobbinlaw02_FrameTorn.j0 k a0 l1 a2 l3 a4 t282 true) else (if a2 > 4294967295 then (bobbinlaw02_FrameTorn.j0 k a0 l1 a2 l3 a4 t282 true) else (if a0 = a2 then (bobbinlaw02_FrameTorn.j0 k a0 l1 a2 l3 a4 t282 true) else (if a4 < 0 then (bobbinlaw02_FrameTorn.j0 k a0 l1 a2 l3 a4 t282 true) else (bobbinlaw02_FrameTorn.j0 k a0 l1 a2 l3 a4 t282 (decide (a4 > 256))))))))))) else (bobbinlaw02_FrameTorn.j0 k a0 l1 a2 l3 a4 t282 true)) = some r := H
  have A6 := Aside0.mk A60
  clear A60
  have HC7 := Aside0.mk H
  clear H
  go_enter Try.func9, Try.ntmps9
  go_upto_region 2 with (first | ((with_reducible refine gate_callee (f := 10) rfl ?_); refine goesL_ (some 23) rfl rfl Try.func10 (by kernel_rfl) rfl #[] rfl (by (try simp only [List.map_toArray, List.map_cons, List.map_nil]); first | done | rfl | (simp only [List.length_drop, List.length_take]; rfl)) ?_; (with_reducible refine (bobbinlaw02_awake.calls  t282 _ A6.out).mono ?_); rintro e w8 ⟨rfl, hb⟩; refine ⟨_, rfl, ?_⟩; have n0_ := Aside0.mk (below_step (by repeat (first | (with_reducible first | exact HB.out | apply below_alloc | apply pw_below_drewN | apply below_drew1) | exact HB.out)) hb); clear HB; have HB := n0_; clear n0_; (try clear hb); (try clear hb2); (try clear hk); (try clear hi)))
  (try simp only [Act.put, List.setIfInBounds_toArray, List.set_cons_zero, List.set_cons_succ])
  go_cut [64] (fun v64 wc => ∃ (kq : Nat) (x64_6 : Bool), v64 = .bool x64_6 ∧ Aside0 (bobbinlaw02_FrameTorn.j0 kq a0 l1 a2 l3 a4 t282 x64_6 = some r) ∧ Aside0 (kq ≤ k) ∧ Aside0 (Below w.heap.size w wc))
  case first =>
    have H := HC7.out
    clear HC7
    by_cases c9 : t282 = true
    · subst c9
      have H1 : (if (l1.length : Int) > 248 then (bobbinlaw02_FrameTorn.j0 k a0 l1 a2 l3 a4 true true) else (if (l3.length : Int) > 248 then (bobbinlaw02_FrameTorn.j0 k a0 l1 a2 l3 a4 true true) else (if a0 < 0 then (bobbinlaw02_FrameTorn.j0 k a0 l1 a2 l3 a4 true true) else (if a2 < 0 then (bobbinlaw02_FrameTorn.j0 k a0 l1 a2 l3 a4 true true) else (if a0 > 4294967295 then (bobbinlaw02_FrameTorn.j0 k a0 l1 a2 l3 a4 true true) else (if a2 > 4294967295 then (bobbinlaw02_FrameTorn.j0 k a0 l1 a2 l3 a4 true true) else (if a0 = a2 then (bobbinlaw02_FrameTorn.j0 k a0 l1 a2 l3 a4 true true) else (if a4 < 0 then (bobbinlaw02_FrameTorn.j0 k a0 l1 a2 l3 a4 true true) else (bobbinlaw02_FrameTorn.j0 k a0 l1 a2 l3 a4 true (decide (a4 > 256))))))))))) = some r := by rw [if_pos rfl] at H; exact H
      clear H
      have H := H1
      clear H1
      by_cases c10 : (l1.length : Int) > 248
      · rw [if_pos c10] at H
        have c10b0 : decide (248 < (l1.length : Int)) = true := decide_eq_true c10
        have c10b1 : decide (248 < l1.length) = true := decide_eq_true (by omega)
        clear c10
        (first | rw [c10b0] | (simp only [i64_w, i32_w]; rw [c10b0]) | skip)
        have H' := Aside0.mk H
        clear H
        go_wp2
        go_meet
        case rel => exact ⟨_, (true), (by first | rfl | (simp; done) | (simp [*]; done)), H', ⟨by first | omega | exact Nat.le_refl _⟩, ⟨by repeat (first | (with_reducible first | exact HB.out | apply below_alloc | apply pw_below_drewN | apply below_drew1) | exact HB.out)⟩⟩
      · rw [if_neg c10] at H
        have c10b0 : decide (248 < (l1.length : Int)) = false := decide_eq_false c10
        have c10b1 : decide (248 < l1.length) = false := decide_eq_false (by omega)
        clear c10
        (first | rw [c10b0] | (simp only [i64_w, i32_w]; rw [c10b0]) | skip)
        by_cases c11 : (l3.length : Int) > 248
        · rw [if_pos c11] at H
          have c11b0 : decide (248 < (l3.length : Int)) = true := decide_eq_true c11
          have c11b1 : decide (248 < l3.length) = true := decide_eq_true (by omega)
          clear c11
          have H' := Aside0.mk H
          clear H
          go_wp2
          go_meet
          case rel => exact ⟨_, (true), (by first | rfl | (simp; done) | (simp [*]; done)), H', ⟨by first | omega | exact Nat.le_refl _⟩, ⟨by repeat (first | (with_reducible first | exact HB.out | apply below_alloc | apply pw_below_drewN | apply below_drew1) | exact HB.out)⟩⟩
        · rw [if_neg c11] at H
          have c11b0 : decide (248 < (l3.length : Int)) = false := decide_eq_false c11
          have c11b1 : decide (248 < l3.length) = false := decide_eq_false (by omega)
          clear c11
          by_cases c12 : a0 < 0
          · rw [if_pos c12] at H
            have c12b0 : decide (a0 < 0) = true := decide_eq_true c12
            clear c12
            have H' := Aside0.mk H
            clear H
            go_wp2
            go_meet
            case rel => exact ⟨_, (true), (by first | rfl | (simp; done) | (simp [*]; done)), H', ⟨by first | omega | exact Nat.le_refl _⟩, ⟨by repeat (first | (with_reducible first | exact HB.out | apply below_alloc | apply pw_below_drewN | apply below_drew1) | exact HB.out)⟩⟩
          · rw [if_neg c12] at H
            have c12b0 : decide (a0 < 0) = false := decide_eq_false c12
            clear c12
            by_cases c13 : a2 < 0
            · rw [if_pos c13] at H
              have c13b0 : decide (a2 < 0) = true := decide_eq_true c13
              clear c13
              have H' := Aside0.mk H
              clear H
              go_wp2
              go_meet
              case rel => exact ⟨_, (true), (by first | rfl | (simp; done) | (simp [*]; done)), H', ⟨by first | omega | exact Nat.le_refl _⟩, ⟨by repeat (first | (with_reducible first | exact HB.out | apply below_alloc | apply pw_below_drewN | apply below_drew1) | exact HB.out)⟩⟩
            · rw [if_neg c13] at H
              have c13b0 : decide (a2 < 0) = false := decide_eq_false c13
              clear c13
              by_cases c14 : a0 > 4294967295
              · rw [if_pos c14] at H
                have c14b0 : decide (4294967295 < a0) = true := decide_eq_true c14
                clear c14
                have H' := Aside0.mk H
                clear H
                go_wp2
                go_meet
                case rel => exact ⟨_, (true), (by first | rfl | (simp; done) | (simp [*]; done)), H', ⟨by first | omega | exact Nat.le_refl _⟩, ⟨by repeat (first | (with_reducible first | exact HB.out | apply below_alloc | apply pw_below_drewN | apply below_drew1) | exact HB.out)⟩⟩
              · rw [if_neg c14] at H
                have c14b0 : decide (4294967295 < a0) = false := decide_eq_false c14
                clear c14
                by_cases c15 : a2 > 4294967295
                · rw [if_pos c15] at H
                  have c15b0 : decide (4294967295 < a2) = true := decide_eq_true c15
                  clear c15
                  have H' := Aside0.mk H
                  clear H
                  go_wp2
                  go_meet
                  case rel => exact ⟨_, (true), (by first | rfl | (simp; done) | (simp [*]; done)), H', ⟨by first | omega | exact Nat.le_refl _⟩, ⟨by repeat (first | (with_reducible first | exact HB.out | apply below_alloc | apply pw_below_drewN | apply below_drew1) | exact HB.out)⟩⟩
                · rw [if_neg c15] at H
                  have c15b0 : decide (4294967295 < a2) = false := decide_eq_false c15
                  clear c15
                  by_cases c16 : a0 = a2
                  · rw [if_pos c16] at H
                    have c16b0 : (a0 == a2) = true := beq_iff_eq.mpr c16
                    have c16b1 : (a0 != a2) = false := bne_eq_false_iff_eq.mpr c16
                    clear c16
                    have H' := Aside0.mk H
                    clear H
                    go_wp2
                    go_meet
                    case rel => exact ⟨_, (true), (by first | rfl | (simp; done) | (simp [*]; done)), H', ⟨by first | omega | exact Nat.le_refl _⟩, ⟨by repeat (first | (with_reducible first | exact HB.out | apply below_alloc | apply pw_below_drewN | apply below_drew1) | exact HB.out)⟩⟩
                  · rw [if_neg c16] at H
                    have c16b0 : (a0 == a2) = false := beq_eq_false_iff_ne.mpr c16
                    have c16b1 : (a0 != a2) = true := bne_iff_ne.mpr c16
                    by_cases c17 : a4 < 0
                    · rw [if_pos c17] at H
                      have c17b0 : decide (a4 < 0) = true := decide_eq_true c17
                      clear c17
                      have H' := Aside0.mk H
                      clear H
                      go_wp2
                      go_meet
                      case rel => exact ⟨_, (true), (by first | rfl | (simp; done) | (simp [*]; done)), H', ⟨by first | omega | exact Nat.le_refl _⟩, ⟨by repeat (first | (with_reducible first | exact HB.out | apply below_alloc | apply pw_below_drewN | apply below_drew1) | exact HB.out)⟩⟩
                    · rw [if_neg c17] at H
                      have c17b0 : decide (a4 < 0) = false := decide_eq_false c17
                      clear c17
                      have H' := Aside0.mk H
                      clear H
                      go_wp2
                      go_meet
                      case rel => exact ⟨_, (decide (a4 > 256)), (by first | rfl | (simp; done) | (simp [*]; done)), H', ⟨by first | omega | exact Nat.le_refl _⟩, ⟨by repeat (first | (with_reducible first | exact HB.out | apply below_alloc | apply pw_below_drewN | apply below_drew1) | exact HB.out)⟩⟩
    · replace c9 := Bool.eq_false_iff.mpr c9
      subst c9
      have H1 : (bobbinlaw02_FrameTorn.j0 k a0 l1 a2 l3 a4 false true) = some r := by rw [if_neg (show ¬ (false = true) by decide)] at H; exact H
      clear H
      have H := H1
      clear H1
      have H' := Aside0.mk H
      clear H
      go_wp2
      go_meet
      case rel => exact ⟨_, (true), (by first | rfl | (simp; done) | (simp [*]; done)), H', ⟨by first | omega | exact Nat.le_refl _⟩, ⟨by repeat (first | (with_reducible first | exact HB.out | apply below_alloc | apply pw_below_drewN | apply below_drew1) | exact HB.out)⟩⟩
  case rest =>
    clear HC7
    try clear c1
    try clear p2
    try clear c3
    try clear c9
    try clear c10
    try clear c10b0
    try clear c10b1
    try clear c11
    try clear c11b0
    try clear c11b1
    try clear c12
    try clear c12b0
    try clear c13
    try clear c13b0
    try clear c14
    try clear c14b0
    try clear c15
    try clear c15b0
    try clear c16
    try clear c16b0
    try clear c16b1
    try clear c17
    try clear c17b0
    obtain ⟨kq, x64_6, rfl, HA, HJ6, HB⟩ := hcut
    cases kq with
    | zero => exact absurd HA.out (by first | (intro h_; cases h_; done) | simp [bobbinlaw02_FrameTorn.j0])
    | succ kj6 =>
      have H := HA.out
      clear HA
      rw [bobbinlaw02_FrameTorn.j0_eq] at H
      by_cases c18 : x64_6 = true
      · subst c18
        have H1 : (some t282) = some r := by rw [if_pos rfl] at H; exact H
        clear H
        have H := H1
        clear H1
        obtain rfl := Option.some.inj H
        go_wp2
        go_ret
        exact ⟨by first | rfl | (simp [errW_none, errW_some] <;> rfl) | (simp [*, errW_none, errW_some] <;> rfl), by repeat (first | (with_reducible first | exact HB.out | apply below_alloc | apply pw_below_drewN | apply below_drew1) | exact HB.out)⟩
      · replace c18 := Bool.eq_false_iff.mpr c18
        subst c18
        have H1 : ((frame_Seal.f a0 l1).bind fun bt283 => ((frame_Seal.f a2 l3).bind fun bt287 => ((frame_Part.f bt283.1 bt287.1 a4).bind fun bt291 => ((frame_Open.f bt291.1).bind fun bt295 => (if bt283.2 = 0 then (if bt287.2 = 0 then (bobbinlaw02_FrameTorn.j1 kj6 a0 a2 bt283.1 bt287.1 bt291.1 bt295.1 bt295.2.1 bt295.2.2 (bt291.2 != 0)) else (bobbinlaw02_FrameTorn.j1 kj6 a0 a2 bt283.1 bt287.1 bt291.1 bt295.1 bt295.2.1 bt295.2.2 true)) else (bobbinlaw02_FrameTorn.j1 kj6 a0 a2 bt283.1 bt287.1 bt291.1 bt295.1 bt295.2.1 bt295.2.2 true)))))) = some r := by rw [if_neg (show ¬ (false = true) by decide)] at H; exact H
        clear H
        have H := H1
        clear H1
        replace H := Option.bind_eq_some_iff.mp H
        obtain ⟨⟨t283, t286⟩, A190, H⟩ := H
        replace H : ((frame_Seal.f a2 l3).bind fun bt287 => ((frame_Part.f t283 bt287.1 a4).bind fun bt291 => ((frame_Open.f bt291.1).bind fun bt295 => (if t286 = 0 then (if bt287.2 = 0 then (bobbinlaw02_FrameTorn.j1 kj6 a0 a2 t283 bt287.1 bt291.1 bt295.1 bt295.2.1 bt295.2.2 (bt291.2 != 0)) else (bobbinlaw02_FrameTorn.j1 kj6 a0 a2 t283 bt287.1 bt291.1 bt295.1 bt295.2.1 bt295.2.2 true)) else (bobbinlaw02_FrameTorn.j1 kj6 a0 a2 t283 bt287.1 bt291.1 bt295.1 bt295.2.1 bt295.2.2 true))))) = some r := H
        have A19 := Aside0.mk A190
        clear A190
        replace H := Option.bind_eq_some_iff.mp H
        obtain ⟨⟨t287, t290⟩, A200, H⟩ := H
        replace H : ((frame_Part.f t283 t287 a4).bind fun bt291 => ((frame_Open.f bt291.1).bind fun bt295 => (if t286 = 0 then (if t290 = 0 then (bobbinlaw02_FrameTorn.j1 kj6 a0 a2 t283 t287 bt291.1 bt295.1 bt295.2.1 bt295.2.2 (bt291.2 != 0)) else (bobbinlaw02_FrameTorn.j1 kj6 a0 a2 t283 t287 bt291.1 bt295.1 bt295.2.1 bt295.2.2 true)) else (bobbinlaw02_FrameTorn.j1 kj6 a0 a2 t283 t287 bt291.1 bt295.1 bt295.2.1 bt295.2.2 true)))) = some r := H
        have A20 := Aside0.mk A200
        clear A200
        replace H := Option.bind_eq_some_iff.mp H
        obtain ⟨⟨t291, t294⟩, A210, H⟩ := H
        replace H : ((frame_Open.f t291).bind fun bt295 => (if t286 = 0 then (if t290 = 0 then (bobbinlaw02_FrameTorn.j1 kj6 a0 a2 t283 t287 t291 bt295.1 bt295.2.1 bt295.2.2 (t294 != 0)) else (bobbinlaw02_FrameTorn.j1 kj6 a0 a2 t283 t287 t291 bt295.1 bt295.2.1 bt295.2.2 true)) else (bobbinlaw02_FrameTorn.j1 kj6 a0 a2 t283 t287 t291 bt295.1 bt295.2.1 bt295.2.2 true))) = some r := H
        have A21 := Aside0.mk A210
        clear A210
        replace H := Option.bind_eq_some_iff.mp H
        obtain ⟨⟨t295, t296, t297⟩, A220, H⟩ := H
        replace H : (if t286 = 0 then (if t290 = 0 then (bobbinlaw02_FrameTorn.j1 kj6 a0 a2 t283 t287 t291 t295 t296 t297 (t294 != 0)) else (bobbinlaw02_FrameTorn.j1 kj6 a0 a2 t283 t287 t291 t295 t296 t297 true)) else (bobbinlaw02_FrameTorn.j1 kj6 a0 a2 t283 t287 t291 t295 t296 t297 true)) = some r := H
        have A22 := Aside0.mk A220
        clear A220
        have HC23 := Aside0.mk H
        clear H
        go_upto_region 8 with (first | ((with_reducible refine gate_callee (f := 11) rfl ?_); refine goesL_ (some 69) rfl rfl Try.func11 (by kernel_rfl) rfl #[.int .i64 a0, .slice A1 l1.length c1] rfl (by (try simp only [List.map_toArray, List.map_cons, List.map_nil]); first | done | rfl | (simp only [List.length_drop, List.length_take]; rfl)) ?_; (with_reducible refine (frame_Seal.calls a0 _ _ l1 t283 t286 _ ?side1 ?side2 A19.out).mono ?_); (case side1 => repeat (first | exact (Kd.C_below HR1.out HB.out) | (with_reducible refine Kd.C_alloc ?_ _) | (with_reducible refine Kd.C_drewN ?_ _) | (with_reducible refine Kd.C_drew ?_))); (case side2 => exact HC1.out); rintro e w24 ⟨v284, rfl, ho0, hb⟩; refine ⟨_, rfl, ?_⟩; have n0_ := Aside0.mk (Kd.V_lower (Kd.V_mono (ok' := fun k_ => True) ho0 (fun k_ hk_ => trivial)) (below_size (by repeat (first | (with_reducible first | exact HB.out | apply below_alloc | apply pw_below_drewN | apply below_drew1) | exact HB.out)))); have n1_ := Aside0.mk (below_step (by repeat (first | (with_reducible first | exact HB.out | apply below_alloc | apply pw_below_drewN | apply below_drew1) | exact HB.out)) hb); clear HB; have HO285 := n0_; have HB := n1_; clear n0_ n1_; (try clear hb); (try clear hb2); (try clear hk); (try clear hi); (try clear ho0)) | ((with_reducible refine gate_callee (f := 11) rfl ?_); refine goesL_ (some 75) rfl rfl Try.func11 (by kernel_rfl) rfl #[.int .i64 a2, .slice A3 l3.length c3] rfl (by (try simp only [List.map_toArray, List.map_cons, List.map_nil]); first | done | rfl | (simp only [List.length_drop, List.length_take]; rfl)) ?_; (with_reducible refine (frame_Seal.calls a2 _ _ l3 t287 t290 _ ?side1 ?side2 A20.out).mono ?_); (case side1 => repeat (first | exact (Kd.C_below HR3.out HB.out) | (with_reducible refine Kd.C_alloc ?_ _) | (with_reducible refine Kd.C_drewN ?_ _) | (with_reducible refine Kd.C_drew ?_))); (case side2 => exact HC3.out); rintro e w25 ⟨v288, rfl, ho0, hb⟩; refine ⟨_, rfl, ?_⟩; have n0_ := Aside0.mk (Kd.V_below (by (with_reducible repeat (first | apply Kd.V_alloc | apply Kd.V_drewN | apply Kd.V_drew)); exact HO285.out) hb); have n1_ := Aside0.mk (Kd.V_lower (Kd.V_mono (ok' := fun k_ => True) ho0 (fun k_ hk_ => trivial)) (below_size (by repeat (first | (with_reducible first | exact HB.out | apply below_alloc | apply pw_below_drewN | apply below_drew1) | exact HB.out)))); have n2_ := Aside0.mk (below_step (by repeat (first | (with_reducible first | exact HB.out | apply below_alloc | apply pw_below_drewN | apply below_drew1) | exact HB.out)) hb); clear HO285; clear HB; have HO285 := n0_; have HO289 := n1_; have HB := n2_; clear n0_ n1_ n2_; (try clear hb); (try clear hb2); (try clear hk); (try clear hi); (try clear ho0); obtain ⟨Ao26, co26, eo26⟩ := Kd.V_slice HO285.out; subst eo26; obtain ⟨Ao27, co27, eo27⟩ := Kd.V_slice HO289.out; subst eo27) | ((with_reducible refine gate_callee (f := 15) rfl ?_); refine goesL_ (some 82) rfl rfl Try.func15 (by kernel_rfl) rfl #[.slice Ao26 t283.length co26, .slice Ao27 t287.length co27, .int .i64 a4] rfl (by (try simp only [List.map_toArray, List.map_cons, List.map_nil]); first | done | rfl | (simp only [List.length_drop, List.length_take]; rfl)) ?_; (with_reducible refine (frame_Part.calls (fun k_ => True) _ _ t283 (fun k_ => True) _ _ t287 a4 t291 t294 _ ?side1 ?side2 A21.out).mono ?_); (case side1 => exact HO285.out); (case side2 => exact HO289.out); rintro e w28 ⟨v292, rfl, ho0, hb⟩; refine ⟨_, rfl, ?_⟩; have n0_ := Aside0.mk (Kd.V_elder' (by (with_reducible repeat (first | apply Kd.V_alloc | apply Kd.V_drewN | apply Kd.V_drew)); exact HO285.out) (Kd.R_base ho0) hb); have n1_ := Aside0.mk (Kd.V_elder' (by (with_reducible repeat (first | apply Kd.V_alloc | apply Kd.V_drewN | apply Kd.V_drew)); exact HO289.out) (Kd.R_base ho0) hb); have n2_ := Aside0.mk (Kd.R_lower (Kd.R_mono (ok' := fun k_ => True) ho0 (fun _ hk_ => trivial)) (below_size (by repeat (first | (with_reducible first | exact HB.out | apply below_alloc | apply pw_below_drewN | apply below_drew1) | exact HB.out)))); have n3_ := Aside0.mk (below_step (by repeat (first | (with_reducible first | exact HB.out | apply below_alloc | apply pw_below_drewN | apply below_drew1) | exact HB.out)) hb); clear HO285; clear HO289; clear HB; have HO285 := n0_; have HO289 := n1_; have HO293 := n2_; have HB := n3_; clear n0_ n1_ n2_ n3_; (try clear hb); (try clear hb2); (try clear hk); (try clear hi); (try clear ho0); obtain ⟨Ao29, co29, eo29⟩ := Kd.R_slice HO293.out; subst eo29) | ((with_reducible refine gate_callee (f := 14) rfl ?_); refine goesL_ (some 87) rfl rfl Try.func14 (by kernel_rfl) rfl #[.slice Ao29 t291.length co29] rfl (by (try simp only [List.map_toArray, List.map_cons, List.map_nil]); first | done | rfl | (simp only [List.length_drop, List.length_take]; rfl)) ?_; (with_reducible refine (frame_Open.calls _ _ t291 t295 t296 t297 _ ?side1 ?side2 A22.out).mono ?_); (case side1 => repeat (first | exact (Kd.R_reads' HO293.out).2.2 | (with_reducible refine Kd.C_alloc ?_ _) | (with_reducible refine Kd.C_drewN ?_ _) | (with_reducible refine Kd.C_drew ?_))); (case side2 => exact (Kd.R_reads' HO293.out).2.1); rintro e w30 ⟨v298, rfl, ho0, hb⟩; refine ⟨_, rfl, ?_⟩; have n0_ := Aside0.mk (Kd.V_elder' (by (with_reducible repeat (first | apply Kd.V_alloc | apply Kd.V_drewN | apply Kd.V_drew)); exact HO285.out) (Kd.R_base ho0) hb); have n1_ := Aside0.mk (Kd.V_elder' (by (with_reducible repeat (first | apply Kd.V_alloc | apply Kd.V_drewN | apply Kd.V_drew)); exact HO289.out) (Kd.R_base ho0) hb); have n2_ := Aside0.mk (Kd.R_elder' (by (with_reducible repeat (first | apply Kd.R_alloc | apply Kd.R_drewN | apply Kd.R_drew)); exact HO293.out) (Kd.R_base ho0) hb); have n3_ := Aside0.mk (Kd.R_lower (Kd.R_new' ho0 (Kd.R_lt (by (with_reducible repeat (first | apply Kd.R_alloc | apply Kd.R_drewN | apply Kd.R_drew)); exact HO293.out))) (below_size (by repeat (first | (with_reducible first | exact HB.out | apply below_alloc | apply pw_below_drewN | apply below_drew1) | exact HB.out)))); have n4_ := Aside0.mk (below_step (by repeat (first | (with_reducible first | exact HB.out | apply below_alloc | apply pw_below_drewN | apply below_drew1) | exact HB.out)) hb); clear HO285; clear HO289; clear HO293; clear HB; have HO285 := n0_; have HO289 := n1_; have HO293 := n2_; have HO299 := n3_; have HB := n4_; clear n0_ n1_ n2_ n3_ n4_; (try clear hb); (try clear hb2); (try clear hk); (try clear hi); (try clear ho0)))
        (try simp only [Act.put, List.setIfInBounds_toArray, List.set_cons_zero, List.set_cons_succ])
        go_cut [100] (fun v100 wc => ∃ (kq : Nat) (x100_22 : Bool), v100 = .bool x100_22 ∧ Aside0 (bobbinlaw02_FrameTorn.j1 kq a0 a2 t283 t287 t291 t295 t296 t297 x100_22 = some r) ∧ Aside0 (kq ≤ kj6) ∧ Aside0 (Kd.V (Kd.int .u8) 5 wc w.heap.size (fun k_ => some k_ ≠ ((.slice Ao29 t291.length co29) : Value).ownBlock ∧ some k_ ≠ (v298 : Value).ownBlock) (.slice Ao26 t283.length co26) t283) ∧ Aside0 (Kd.V (Kd.int .u8) 5 wc w.heap.size (fun k_ => some k_ ≠ ((.slice Ao29 t291.length co29) : Value).ownBlock ∧ some k_ ≠ (v298 : Value).ownBlock) (.slice Ao27 t287.length co27) t287) ∧ Aside0 (Kd.R (Kd.int .u8) 5 wc w.heap.size (fun k_ => some k_ ≠ (v298 : Value).ownBlock) (.slice Ao29 t291.length co29) t291) ∧ Aside0 (Kd.R (Kd.int .u8) 5 wc w.heap.size (fun k_ => some k_ ≠ ((.slice Ao29 t291.length co29) : Value).ownBlock) v298 t295) ∧ Aside0 (Below w.heap.size w wc))
        case first =>
          have H := HC23.out
          clear HC23
          by_cases c31 : t286 = 0
          · rw [if_pos c31] at H
            have c31b0 : (t286 == 0) = true := beq_iff_eq.mpr c31
            have c31b1 : (t286 != 0) = false := bne_eq_false_iff_eq.mpr c31
            clear c31
            (first | rw [c31b0] | (simp only [i64_w, i32_w]; rw [c31b0]) | skip)
            by_cases c32 : t290 = 0
            · rw [if_pos c32] at H
              have c32b0 : (t290 == 0) = true := beq_iff_eq.mpr c32
              have c32b1 : (t290 != 0) = false := bne_eq_false_iff_eq.mpr c32
              clear c32
              have H' := Aside0.mk H
              clear H
              go_wp2
              go_meet
              case rel => exact ⟨_, ((t294 != 0)), (by first | rfl | (simp; done) | (simp [*]; done)), H', ⟨by have := HJ6.out; first | omega | exact Nat.le_refl _⟩, ⟨by (with_reducible repeat (first | apply Kd.V_alloc | apply Kd.V_drewN | apply Kd.V_drew)); exact Kd.V_mono HO285.out (fun _ hk => ⟨hk.1.2, hk.2⟩)⟩, ⟨by (with_reducible repeat (first | apply Kd.V_alloc | apply Kd.V_drewN | apply Kd.V_drew)); exact Kd.V_mono HO289.out (fun _ hk => ⟨hk.1.2, hk.2⟩)⟩, ⟨by (with_reducible repeat (first | apply Kd.R_alloc | apply Kd.R_drewN | apply Kd.R_drew)); exact Kd.R_mono HO293.out (fun _ hk => hk.2)⟩, ⟨by (with_reducible repeat (first | apply Kd.R_alloc | apply Kd.R_drewN | apply Kd.R_drew)); exact Kd.R_mono HO299.out (fun _ hk => hk.2)⟩, ⟨by repeat (first | (with_reducible first | exact HB.out | apply below_alloc | apply pw_below_drewN | apply below_drew1) | exact HB.out)⟩⟩
            · rw [if_neg c32] at H
              have c32b0 : (t290 == 0) = false := beq_eq_false_iff_ne.mpr c32
              have c32b1 : (t290 != 0) = true := bne_iff_ne.mpr c32
              have H' := Aside0.mk H
              clear H
              go_wp2
              go_meet
              case rel => exact ⟨_, (true), (by first | rfl | (simp; done) | (simp [*]; done)), H', ⟨by have := HJ6.out; first | omega | exact Nat.le_refl _⟩, ⟨by (with_reducible repeat (first | apply Kd.V_alloc | apply Kd.V_drewN | apply Kd.V_drew)); exact Kd.V_mono HO285.out (fun _ hk => ⟨hk.1.2, hk.2⟩)⟩, ⟨by (with_reducible repeat (first | apply Kd.V_alloc | apply Kd.V_drewN | apply Kd.V_drew)); exact Kd.V_mono HO289.out (fun _ hk => ⟨hk.1.2, hk.2⟩)⟩, ⟨by (with_reducible repeat (first | apply Kd.R_alloc | apply Kd.R_drewN | apply Kd.R_drew)); exact Kd.R_mono HO293.out (fun _ hk => hk.2)⟩, ⟨by (with_reducible repeat (first | apply Kd.R_alloc | apply Kd.R_drewN | apply Kd.R_drew)); exact Kd.R_mono HO299.out (fun _ hk => hk.2)⟩, ⟨by repeat (first | (with_reducible first | exact HB.out | apply below_alloc | apply pw_below_drewN | apply below_drew1) | exact HB.out)⟩⟩
          · rw [if_neg c31] at H
            have c31b0 : (t286 == 0) = false := beq_eq_false_iff_ne.mpr c31
            have c31b1 : (t286 != 0) = true := bne_iff_ne.mpr c31
            (first | rw [c31b0] | (simp only [i64_w, i32_w]; rw [c31b0]) | skip)
            have H' := Aside0.mk H
            clear H
            go_wp2
            go_meet
            case rel => exact ⟨_, (true), (by first | rfl | (simp; done) | (simp [*]; done)), H', ⟨by have := HJ6.out; first | omega | exact Nat.le_refl _⟩, ⟨by (with_reducible repeat (first | apply Kd.V_alloc | apply Kd.V_drewN | apply Kd.V_drew)); exact Kd.V_mono HO285.out (fun _ hk => ⟨hk.1.2, hk.2⟩)⟩, ⟨by (with_reducible repeat (first | apply Kd.V_alloc | apply Kd.V_drewN | apply Kd.V_drew)); exact Kd.V_mono HO289.out (fun _ hk => ⟨hk.1.2, hk.2⟩)⟩, ⟨by (with_reducible repeat (first | apply Kd.R_alloc | apply Kd.R_drewN | apply Kd.R_drew)); exact Kd.R_mono HO293.out (fun _ hk => hk.2)⟩, ⟨by (with_reducible repeat (first | apply Kd.R_alloc | apply Kd.R_drewN | apply Kd.R_drew)); exact Kd.R_mono HO299.out (fun _ hk => hk.2)⟩, ⟨by repeat (first | (with_reducible first | exact HB.out | apply below_alloc | apply pw_below_drewN | apply below_drew1) | exact HB.out)⟩⟩
        case rest =>
          clear HC23
          try clear c1
          try clear p2
          try clear c3
          try clear c9
          try clear c10
          try clear c10b0
          try clear c10b1
          try clear c11
          try clear c11b0
          try clear c11b1
          try clear c12
          try clear c12b0
          try clear c13
          try clear c13b0
          try clear c14
          try clear c14b0
          try clear c15
          try clear c15b0
          try clear c16
          try clear c16b0
          try clear c16b1
          try clear c17
          try clear c17b0
          try clear c18
          try clear c31
          try clear c31b0
          try clear c31b1
          try clear c32
          try clear c32b0
          try clear c32b1
          try clear p2
          obtain ⟨kq, x100_22, rfl, HA, HJ22, HO_12, HO_14, HO_16, HO_18, HB⟩ := hcut
          cases kq with
          | zero => exact absurd HA.out (by first | (intro h_; cases h_; done) | simp [bobbinlaw02_FrameTorn.j1])
          | succ kj22 =>
            have H := HA.out
            clear HA
            rw [bobbinlaw02_FrameTorn.j1_eq] at H
            by_cases c33 : x100_22 = true
            · subst c33
              have H1 : (some false) = some r := by rw [if_pos rfl] at H; exact H
              clear H
              have H := H1
              clear H1
              obtain rfl := Option.some.inj H
              go_wp2
              go_ret
              exact ⟨by first | rfl | (simp [errW_none, errW_some] <;> rfl) | (simp [*, errW_none, errW_some] <;> rfl), by repeat (first | (with_reducible first | exact HB.out | apply below_alloc | apply pw_below_drewN | apply below_drew1) | exact HB.out)⟩
            · replace c33 := Bool.eq_false_iff.mpr c33
              subst c33
              have H1 : (if t297 = 0 then ((bobbinref01_Same.f kj22 t291 t283).bind fun t300 => ((bobbinref01_Same.f kj22 t291 t287).bind fun t301 => (if t300 = true then (if t296 = a0 then (some true) else (if t301 = true then (some (t296 == a2)) else (some false))) else (if t301 = true then (some (t296 == a2)) else (some false))))) else (if t297 = 20 then (if t296 = 0 then (some ((t295.length : Int) == 0)) else (some false)) else (some false))) = some r := by rw [if_neg (show ¬ (false = true) by decide)] at H; exact H
              clear H
              have H := H1
              clear H1
              by_cases c34 : t297 = 0
              · rw [if_pos c34] at H
                have c34b0 : (t297 == 0) = true := beq_iff_eq.mpr c34
                have c34b1 : (t297 != 0) = false := bne_eq_false_iff_eq.mpr c34
                clear c34
                replace H := Option.bind_eq_some_iff.mp H
                obtain ⟨t300, A350, H⟩ := H
                replace H : ((bobbinref01_Same.f kj22 t291 t287).bind fun t301 => (if t300 = true then (if t296 = a0 then (some true) else (if t301 = true then (some (t296 == a2)) else (some false))) else (if t301 = true then (some (t296 == a2)) else (some false)))) = some r := H
                have A35 := Aside0.mk A350
                clear A350
                replace H := Option.bind_eq_some_iff.mp H
                obtain ⟨t301, A360, H⟩ := H
                replace H : (if t300 = true then (if t296 = a0 then (some true) else (if t301 = true then (some (t296 == a2)) else (some false))) else (if t301 = true then (some (t296 == a2)) else (some false))) = some r := H
                have A36 := Aside0.mk A360
                clear A360
                by_cases c37 : t300 = true
                · subst c37
                  have H1 : (if t296 = a0 then (some true) else (if t301 = true then (some (t296 == a2)) else (some false))) = some r := by rw [if_pos rfl] at H; exact H
                  clear H
                  have H := H1
                  clear H1
                  by_cases c38 : t296 = a0
                  · rw [if_pos c38] at H
                    have c38b0 : (t296 == a0) = true := beq_iff_eq.mpr c38
                    have c38b1 : (t296 != a0) = false := bne_eq_false_iff_eq.mpr c38
                    clear c38
                    obtain rfl := Option.some.inj H
                    go_wp2_with (first | ((with_reducible refine gate_callee (f := 13) rfl ?_); refine goesL_ (some 116) rfl rfl Try.func13 (by kernel_rfl) rfl #[.slice Ao29 t291.length co29, .slice Ao26 t283.length co26] rfl (by (try simp only [List.map_toArray, List.map_cons, List.map_nil]); first | done | rfl | (simp only [List.length_drop, List.length_take]; rfl)) ?_; (with_reducible refine (bobbinref01_Same.calls kj22 _ _ t291 _ _ t283 true _ ?side1 ?side2 ?side3 ?side4 A35.out).mono ?_); (case side1 => repeat (first | exact (Kd.R_reads' HO_16.out).2.2 | (with_reducible refine Kd.C_alloc ?_ _) | (with_reducible refine Kd.C_drewN ?_ _) | (with_reducible refine Kd.C_drew ?_))); (case side2 => exact (Kd.R_reads' HO_16.out).2.1); (case side3 => repeat (first | exact (Kd.V_reads' HO_12.out).2.2 | (with_reducible refine Kd.C_alloc ?_ _) | (with_reducible refine Kd.C_drewN ?_ _) | (with_reducible refine Kd.C_drew ?_))); (case side4 => exact (Kd.V_reads' HO_12.out).2.1); rintro e w' ⟨rfl, ⟨nd, rfl⟩⟩; refine ⟨_, rfl, ?_⟩) | ((with_reducible refine gate_callee (f := 13) rfl ?_); refine goesL_ (some 119) rfl rfl Try.func13 (by kernel_rfl) rfl #[.slice Ao29 t291.length co29, .slice Ao27 t287.length co27] rfl (by (try simp only [List.map_toArray, List.map_cons, List.map_nil]); first | done | rfl | (simp only [List.length_drop, List.length_take]; rfl)) ?_; (with_reducible refine (bobbinref01_Same.calls kj22 _ _ t291 _ _ t287 t301 _ ?side1 ?side2 ?side3 ?side4 A36.out).mono ?_); (case side1 => repeat (first | exact (Kd.R_reads' HO_16.out).2.2 | (with_reducible refine Kd.C_alloc ?_ _) | (with_reducible refine Kd.C_drewN ?_ _) | (with_reducible refine Kd.C_drew ?_))); (case side2 => exact (Kd.R_reads' HO_16.out).2.1); (case side3 => repeat (first | exact (Kd.V_reads' HO_14.out).2.2 | (with_reducible refine Kd.C_alloc ?_ _) | (with_reducible refine Kd.C_drewN ?_ _) | (with_reducible refine Kd.C_drew ?_))); (case side4 => exact (Kd.V_reads' HO_14.out).2.1); rintro e w' ⟨rfl, ⟨nd, rfl⟩⟩; refine ⟨_, rfl, ?_⟩))
                    go_ret
                    exact ⟨by first | rfl | (simp [errW_none, errW_some] <;> rfl) | (simp [*, errW_none, errW_some] <;> rfl), by repeat (first | (with_reducible first | exact HB.out | apply below_alloc | apply pw_below_drewN | apply below_drew1) | exact HB.out)⟩
                  · rw [if_neg c38] at H
                    have c38b0 : (t296 == a0) = false := beq_eq_false_iff_ne.mpr c38
                    have c38b1 : (t296 != a0) = true := bne_iff_ne.mpr c38
                    by_cases c39 : t301 = true
                    · subst c39
                      have H1 : (some (t296 == a2)) = some r := by rw [if_pos rfl] at H; exact H
                      clear H
                      have H := H1
                      clear H1
                      obtain rfl := Option.some.inj H
                      go_wp2_with (first | ((with_reducible refine gate_callee (f := 13) rfl ?_); refine goesL_ (some 116) rfl rfl Try.func13 (by kernel_rfl) rfl #[.slice Ao29 t291.length co29, .slice Ao26 t283.length co26] rfl (by (try simp only [List.map_toArray, List.map_cons, List.map_nil]); first | done | rfl | (simp only [List.length_drop, List.length_take]; rfl)) ?_; (with_reducible refine (bobbinref01_Same.calls kj22 _ _ t291 _ _ t283 true _ ?side1 ?side2 ?side3 ?side4 A35.out).mono ?_); (case side1 => repeat (first | exact (Kd.R_reads' HO_16.out).2.2 | (with_reducible refine Kd.C_alloc ?_ _) | (with_reducible refine Kd.C_drewN ?_ _) | (with_reducible refine Kd.C_drew ?_))); (case side2 => exact (Kd.R_reads' HO_16.out).2.1); (case side3 => repeat (first | exact (Kd.V_reads' HO_12.out).2.2 | (with_reducible refine Kd.C_alloc ?_ _) | (with_reducible refine Kd.C_drewN ?_ _) | (with_reducible refine Kd.C_drew ?_))); (case side4 => exact (Kd.V_reads' HO_12.out).2.1); rintro e w' ⟨rfl, ⟨nd, rfl⟩⟩; refine ⟨_, rfl, ?_⟩) | ((with_reducible refine gate_callee (f := 13) rfl ?_); refine goesL_ (some 119) rfl rfl Try.func13 (by kernel_rfl) rfl #[.slice Ao29 t291.length co29, .slice Ao27 t287.length co27] rfl (by (try simp only [List.map_toArray, List.map_cons, List.map_nil]); first | done | rfl | (simp only [List.length_drop, List.length_take]; rfl)) ?_; (with_reducible refine (bobbinref01_Same.calls kj22 _ _ t291 _ _ t287 true _ ?side1 ?side2 ?side3 ?side4 A36.out).mono ?_); (case side1 => repeat (first | exact (Kd.R_reads' HO_16.out).2.2 | (with_reducible refine Kd.C_alloc ?_ _) | (with_reducible refine Kd.C_drewN ?_ _) | (with_reducible refine Kd.C_drew ?_))); (case side2 => exact (Kd.R_reads' HO_16.out).2.1); (case side3 => repeat (first | exact (Kd.V_reads' HO_14.out).2.2 | (with_reducible refine Kd.C_alloc ?_ _) | (with_reducible refine Kd.C_drewN ?_ _) | (with_reducible refine Kd.C_drew ?_))); (case side4 => exact (Kd.V_reads' HO_14.out).2.1); rintro e w' ⟨rfl, ⟨nd, rfl⟩⟩; refine ⟨_, rfl, ?_⟩))
                      go_ret
                      exact ⟨by first | rfl | (simp [errW_none, errW_some] <;> rfl) | (simp [*, errW_none, errW_some] <;> rfl), by repeat (first | (with_reducible first | exact HB.out | apply below_alloc | apply pw_below_drewN | apply below_drew1) | exact HB.out)⟩
                    · replace c39 := Bool.eq_false_iff.mpr c39
                      subst c39
                      have H1 : (some false) = some r := by rw [if_neg (show ¬ (false = true) by decide)] at H; exact H
                      clear H
                      have H := H1
                      clear H1
                      obtain rfl := Option.some.inj H
                      go_wp2_with (first | ((with_reducible refine gate_callee (f := 13) rfl ?_); refine goesL_ (some 116) rfl rfl Try.func13 (by kernel_rfl) rfl #[.slice Ao29 t291.length co29, .slice Ao26 t283.length co26] rfl (by (try simp only [List.map_toArray, List.map_cons, List.map_nil]); first | done | rfl | (simp only [List.length_drop, List.length_take]; rfl)) ?_; (with_reducible refine (bobbinref01_Same.calls kj22 _ _ t291 _ _ t283 true _ ?side1 ?side2 ?side3 ?side4 A35.out).mono ?_); (case side1 => repeat (first | exact (Kd.R_reads' HO_16.out).2.2 | (with_reducible refine Kd.C_alloc ?_ _) | (with_reducible refine Kd.C_drewN ?_ _) | (with_reducible refine Kd.C_drew ?_))); (case side2 => exact (Kd.R_reads' HO_16.out).2.1); (case side3 => repeat (first | exact (Kd.V_reads' HO_12.out).2.2 | (with_reducible refine Kd.C_alloc ?_ _) | (with_reducible refine Kd.C_drewN ?_ _) | (with_reducible refine Kd.C_drew ?_))); (case side4 => exact (Kd.V_reads' HO_12.out).2.1); rintro e w' ⟨rfl, ⟨nd, rfl⟩⟩; refine ⟨_, rfl, ?_⟩) | ((with_reducible refine gate_callee (f := 13) rfl ?_); refine goesL_ (some 119) rfl rfl Try.func13 (by kernel_rfl) rfl #[.slice Ao29 t291.length co29, .slice Ao27 t287.length co27] rfl (by (try simp only [List.map_toArray, List.map_cons, List.map_nil]); first | done | rfl | (simp only [List.length_drop, List.length_take]; rfl)) ?_; (with_reducible refine (bobbinref01_Same.calls kj22 _ _ t291 _ _ t287 false _ ?side1 ?side2 ?side3 ?side4 A36.out).mono ?_); (case side1 => repeat (first | exact (Kd.R_reads' HO_16.out).2.2 | (with_reducible refine Kd.C_alloc ?_ _) | (with_reducible refine Kd.C_drewN ?_ _) | (with_reducible refine Kd.C_drew ?_))); (case side2 => exact (Kd.R_reads' HO_16.out).2.1); (case side3 => repeat (first | exact (Kd.V_reads' HO_14.out).2.2 | (with_reducible refine Kd.C_alloc ?_ _) | (with_reducible refine Kd.C_drewN ?_ _) | (with_reducible refine Kd.C_drew ?_))); (case side4 => exact (Kd.V_reads' HO_14.out).2.1); rintro e w' ⟨rfl, ⟨nd, rfl⟩⟩; refine ⟨_, rfl, ?_⟩))
                      go_ret
                      exact ⟨by first | rfl | (simp [errW_none, errW_some] <;> rfl) | (simp [*, errW_none, errW_some] <;> rfl), by repeat (first | (with_reducible first | exact HB.out | apply below_alloc | apply pw_below_drewN | apply below_drew1) | exact HB.out)⟩
                · replace c37 := Bool.eq_false_iff.mpr c37
                  subst c37
                  have H1 : (if t301 = true then (some (t296 == a2)) else (some false)) = some r := by rw [if_neg (show ¬ (false = true) by decide)] at H; exact H
                  clear H
                  have H := H1
                  clear H1
                  by_cases c40 : t301 = true
                  · subst c40
                    have H1 : (some (t296 == a2)) = some r := by rw [if_pos rfl] at H; exact H
                    clear H
                    have H := H1
                    clear H1
                    obtain rfl := Option.some.inj H
                    go_wp2_with (first | ((with_reducible refine gate_callee (f := 13) rfl ?_); refine goesL_ (some 116) rfl rfl Try.func13 (by kernel_rfl) rfl #[.slice Ao29 t291.length co29, .slice Ao26 t283.length co26] rfl (by (try simp only [List.map_toArray, List.map_cons, List.map_nil]); first | done | rfl | (simp only [List.length_drop, List.length_take]; rfl)) ?_; (with_reducible refine (bobbinref01_Same.calls kj22 _ _ t291 _ _ t283 false _ ?side1 ?side2 ?side3 ?side4 A35.out).mono ?_); (case side1 => repeat (first | exact (Kd.R_reads' HO_16.out).2.2 | (with_reducible refine Kd.C_alloc ?_ _) | (with_reducible refine Kd.C_drewN ?_ _) | (with_reducible refine Kd.C_drew ?_))); (case side2 => exact (Kd.R_reads' HO_16.out).2.1); (case side3 => repeat (first | exact (Kd.V_reads' HO_12.out).2.2 | (with_reducible refine Kd.C_alloc ?_ _) | (with_reducible refine Kd.C_drewN ?_ _) | (with_reducible refine Kd.C_drew ?_))); (case side4 => exact (Kd.V_reads' HO_12.out).2.1); rintro e w' ⟨rfl, ⟨nd, rfl⟩⟩; refine ⟨_, rfl, ?_⟩) | ((with_reducible refine gate_callee (f := 13) rfl ?_); refine goesL_ (some 119) rfl rfl Try.func13 (by kernel_rfl) rfl #[.slice Ao29 t291.length co29, .slice Ao27 t287.length co27] rfl (by (try simp only [List.map_toArray, List.map_cons, List.map_nil]); first | done | rfl | (simp only [List.length_drop, List.length_take]; rfl)) ?_; (with_reducible refine (bobbinref01_Same.calls kj22 _ _ t291 _ _ t287 true _ ?side1 ?side2 ?side3 ?side4 A36.out).mono ?_); (case side1 => repeat (first | exact (Kd.R_reads' HO_16.out).2.2 | (with_reducible refine Kd.C_alloc ?_ _) | (with_reducible refine Kd.C_drewN ?_ _) | (with_reducible refine Kd.C_drew ?_))); (case side2 => exact (Kd.R_reads' HO_16.out).2.1); (case side3 => repeat (first | exact (Kd.V_reads' HO_14.out).2.2 | (with_reducible refine Kd.C_alloc ?_ _) | (with_reducible refine Kd.C_drewN ?_ _) | (with_reducible refine Kd.C_drew ?_))); (case side4 => exact (Kd.V_reads' HO_14.out).2.1); rintro e w' ⟨rfl, ⟨nd, rfl⟩⟩; refine ⟨_, rfl, ?_⟩))
                    go_ret
                    exact ⟨by first | rfl | (simp [errW_none, errW_some] <;> rfl) | (simp [*, errW_none, errW_some] <;> rfl), by repeat (first | (with_reducible first | exact HB.out | apply below_alloc | apply pw_below_drewN | apply below_drew1) | exact HB.out)⟩
                  · replace c40 := Bool.eq_false_iff.mpr c40
                    subst c40
                    have H1 : (some false) = some r := by rw [if_neg (show ¬ (false = true) by decide)] at H; exact H
                    clear H
                    have H := H1
                    clear H1
                    obtain rfl := Option.some.inj H
                    go_wp2_with (first | ((with_reducible refine gate_callee (f := 13) rfl ?_); refine goesL_ (some 116) rfl rfl Try.func13 (by kernel_rfl) rfl #[.slice Ao29 t291.length co29, .slice Ao26 t283.length co26] rfl (by (try simp only [List.map_toArray, List.map_cons, List.map_nil]); first | done | rfl | (simp only [List.length_drop, List.length_take]; rfl)) ?_; (with_reducible refine (bobbinref01_Same.calls kj22 _ _ t291 _ _ t283 false _ ?side1 ?side2 ?side3 ?side4 A35.out).mono ?_); (case side1 => repeat (first | exact (Kd.R_reads' HO_16.out).2.2 | (with_reducible refine Kd.C_alloc ?_ _) | (with_reducible refine Kd.C_drewN ?_ _) | (with_reducible refine Kd.C_drew ?_))); (case side2 => exact (Kd.R_reads' HO_16.out).2.1); (case side3 => repeat (first | exact (Kd.V_reads' HO_12.out).2.2 | (with_reducible refine Kd.C_alloc ?_ _) | (with_reducible refine Kd.C_drewN ?_ _) | (with_reducible refine Kd.C_drew ?_))); (case side4 => exact (Kd.V_reads' HO_12.out).2.1); rintro e w' ⟨rfl, ⟨nd, rfl⟩⟩; refine ⟨_, rfl, ?_⟩) | ((with_reducible refine gate_callee (f := 13) rfl ?_); refine goesL_ (some 119) rfl rfl Try.func13 (by kernel_rfl) rfl #[.slice Ao29 t291.length co29, .slice Ao27 t287.length co27] rfl (by (try simp only [List.map_toArray, List.map_cons, List.map_nil]); first | done | rfl | (simp only [List.length_drop, List.length_take]; rfl)) ?_; (with_reducible refine (bobbinref01_Same.calls kj22 _ _ t291 _ _ t287 false _ ?side1 ?side2 ?side3 ?side4 A36.out).mono ?_); (case side1 => repeat (first | exact (Kd.R_reads' HO_16.out).2.2 | (with_reducible refine Kd.C_alloc ?_ _) | (with_reducible refine Kd.C_drewN ?_ _) | (with_reducible refine Kd.C_drew ?_))); (case side2 => exact (Kd.R_reads' HO_16.out).2.1); (case side3 => repeat (first | exact (Kd.V_reads' HO_14.out).2.2 | (with_reducible refine Kd.C_alloc ?_ _) | (with_reducible refine Kd.C_drewN ?_ _) | (with_reducible refine Kd.C_drew ?_))); (case side4 => exact (Kd.V_reads' HO_14.out).2.1); rintro e w' ⟨rfl, ⟨nd, rfl⟩⟩; refine ⟨_, rfl, ?_⟩))
                    go_ret
                    exact ⟨by first | rfl | (simp [errW_none, errW_some] <;> rfl) | (simp [*, errW_none, errW_some] <;> rfl), by repeat (first | (with_reducible first | exact HB.out | apply below_alloc | apply pw_below_drewN | apply below_drew1) | exact HB.out)⟩
              · rw [if_neg c34] at H
                have c34b0 : (t297 == 0) = false := beq_eq_false_iff_ne.mpr c34
                have c34b1 : (t297 != 0) = true := bne_iff_ne.mpr c34
                by_cases c41 : t297 = 20
                · rw [if_pos c41] at H
                  have c41b0 : (t297 == 20) = true := beq_iff_eq.mpr c41
                  have c41b1 : (t297 != 20) = false := bne_eq_false_iff_eq.mpr c41
                  clear c41
                  by_cases c42 : t296 = 0
                  · rw [if_pos c42] at H
                    have c42b0 : (t296 == 0) = true := beq_iff_eq.mpr c42
                    have c42b1 : (t296 != 0) = false := bne_eq_false_iff_eq.mpr c42
                    clear c42
                    obtain rfl := Option.some.inj H
                    obtain ⟨Ao43, co43, eo43⟩ := Kd.R_slice HO_18.out
                    subst eo43
                    go_wp2
                    go_ret
                    exact ⟨by first | rfl | (simp [errW_none, errW_some] <;> rfl) | (simp [*, errW_none, errW_some] <;> rfl), by repeat (first | (with_reducible first | exact HB.out | apply below_alloc | apply pw_below_drewN | apply below_drew1) | exact HB.out)⟩
                  · rw [if_neg c42] at H
                    have c42b0 : (t296 == 0) = false := beq_eq_false_iff_ne.mpr c42
                    have c42b1 : (t296 != 0) = true := bne_iff_ne.mpr c42
                    obtain rfl := Option.some.inj H
                    go_wp2
                    go_ret
                    exact ⟨by first | rfl | (simp [errW_none, errW_some] <;> rfl) | (simp [*, errW_none, errW_some] <;> rfl), by repeat (first | (with_reducible first | exact HB.out | apply below_alloc | apply pw_below_drewN | apply below_drew1) | exact HB.out)⟩
                · rw [if_neg c41] at H
                  have c41b0 : (t297 == 20) = false := beq_eq_false_iff_ne.mpr c41
                  have c41b1 : (t297 != 20) = true := bne_iff_ne.mpr c41
                  obtain rfl := Option.some.inj H
                  go_wp2
                  go_ret
                  exact ⟨by first | rfl | (simp [errW_none, errW_some] <;> rfl) | (simp [*, errW_none, errW_some] <;> rfl), by repeat (first | (with_reducible first | exact HB.out | apply below_alloc | apply pw_below_drewN | apply below_drew1) | exact HB.out)⟩

/-- THE ONE PURE STATEMENT of bobbinlaw02_FrameTorn: yours. -/
def bobbinlaw02_FrameTorn.Pure : Prop := ∀ (a0 : Int) (l1 : List Int) (a2 : Int) (l3 : List Int) (a4 : Int), (Lit.int .i64 a0).wf = true → l1.length ≤ maxLen → l1.length * 1 ≤ 140737488351232 → (∀ x ∈ l1, (Lit.int .u8 x).wf = true) → (Lit.int .i64 a2).wf = true → l3.length ≤ maxLen → l3.length * 1 ≤ 140737488351232 → (∀ x ∈ l3, (Lit.int .u8 x).wf = true) → (Lit.int .i64 a4).wf = true → ∃ k, bobbinlaw02_FrameTorn.f k a0 l1 a2 l3 a4 = some true
theorem bobbinlaw02_FrameTorn.walk (P : bobbinlaw02_FrameTorn.Pure) (a0 : Int) (a1 : Option Addr) (len1 cap1 : Nat) (z1 : List Int) (a2 : Int) (a3 : Option Addr) (len3 cap3 : Nat) (z3 : List Int) (a4 : Int) (w : World) (w0 : (Lit.int .i64 a0).wf = true) (w1 : (a1 = none ∧ len1 = 0 ∧ cap1 = 0 ∧ z1 = []) ∨ ∃ x, a1 = some x ∧ len1 ≤ cap1 ∧ cap1 ≤ maxLen ∧ z1.length = cap1 ∧ (∀ i, i < z1.length → w.cell? (x.add i) = some (.int .u8 (z1.getD i 0))) ∧ ∀ n ∈ z1, (Lit.int .u8 n).wf = true) (y1 : len1 * 1 ≤ 140737488351232) (w2 : (Lit.int .i64 a2).wf = true) (w3 : (a3 = none ∧ len3 = 0 ∧ cap3 = 0 ∧ z3 = []) ∨ ∃ x, a3 = some x ∧ len3 ≤ cap3 ∧ cap3 ≤ maxLen ∧ z3.length = cap3 ∧ (∀ i, i < z3.length → w.cell? (x.add i) = some (.int .u8 (z3.getD i 0))) ∧ ∀ n ∈ z3, (Lit.int .u8 n).wf = true) (y3 : len3 * 1 ≤ 140737488351232) (w4 : (Lit.int .i64 a4).wf = true) :
    Calls Try.prog 9 #[.int .i64 a0, .slice a1 len1 cap1, .int .i64 a2, .slice a3 len3 cap3, .int .i64 a4] w fun e w' => e = .returned (.bool true) ∧ Below w.heap.size w w' := by
  obtain ⟨l1, rfl, hr1, hm1, hw1, hc1⟩ := ReadsInt.ofRowC w1
  obtain ⟨l3, rfl, hr3, hm3, hw3, hc3⟩ := ReadsInt.ofRowC w3
  obtain ⟨k, h⟩ := P a0 l1 a2 l3 a4 w0 hm1 y1 hw1 w2 hm3 y3 hw3 w4
  refine (bobbinlaw02_FrameTorn.calls k a0 _ _ l1 a2 _ _ l3 a4 true w (Kd.C_of_reads (d := (0 : Int)) (h1 := fun _ => rfl) hr1) hc1 (Kd.C_of_reads (d := (0 : Int)) (h1 := fun _ => rfl) hr3) hc3 h).mono ?_
  rintro e w' ⟨rfl, hd⟩
  exact ⟨rfl, hd⟩

end Go.Proofs.Ytckmagmfanemiaa.Print
