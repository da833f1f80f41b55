-- Written by a program of this session (myprint.py over the kit's print.py) out of the translation. Not trusted: Lean checks it.
import Derived.Test.YtfaflgdhffkaiaaPrint0
import Derived.Test.YtfaflgdhffkaiaaPrint2
namespace Go.Proofs.Ytfaflgdhffkaiaa.Print
open Go.RowKit Go.Proofs.YtfaflgdhffkaiaaW.PrintWords Go.Proofs.YtfaflgdhffkaiaaW.PrintLast Go.Proofs.YtfaflgdhffkaiaaW.PrintMore
attribute [local go_sem] max2_int min2_int max_two min_two max_three min_three max_four min_four   -- for this text's walks alone
set_option linter.unusedVariables false
set_option linter.unusedSimpArgs false

/-! ### bobbinref01_Get: function 45 -/
mutual
def bobbinref01_Get.j0 : Nat → List Int → Int → Bool → Option (Int × List Int × Int)
  | 0, _, _, _ => none
  | k + 1, x0, x1, x18 => if x18 = true then (some (0, x0, 1)) else (if (x0.length : Int) < x1 then (some (0, x0, 6)) else (bobbinref01_Get.l0 k x0 x1 0 0))
def bobbinref01_Get.l0 : Nat → List Int → Int → Int → Int → Option (Int × List Int × Int)
  | 0, _, _, _, _ => none
  | k + 1, x0, x1, x7, x8 => if x8 < x1 then (if 0 ≤ x8 then (if x8 < (x0.length : Int) then ((bobbinref01_power.f k x8).bind fun t158 => (bobbinref01_Get.l0 k x0 x1 (wrap64 (x7 + (wrap64 ((wrap64 (rd x0 x8)) * t158)))) (wrap64 (x8 + 1)))) else (none)) else (none)) else (if 0 ≤ x1 then (if x1 ≤ (x0.length : Int) then (some (x7, (x0.drop (x1 : Int).toNat), 0)) else (none)) else (none))
end
theorem bobbinref01_Get.j0_eq : ∀ (k : Nat) x0 x1 x18, bobbinref01_Get.j0 (k + 1) x0 x1 x18 = (if x18 = true then (some (0, x0, 1)) else (if (x0.length : Int) < x1 then (some (0, x0, 6)) else (bobbinref01_Get.l0 k x0 x1 0 0))) := fun _ _ _ _ => rfl
theorem bobbinref01_Get.l0_eq : ∀ (k : Nat) x0 x1 x7 x8, bobbinref01_Get.l0 (k + 1) x0 x1 x7 x8 = (if x8 < x1 then (if 0 ≤ x8 then (if x8 < (x0.length : Int) then ((bobbinref01_power.f k x8).bind fun t158 => (bobbinref01_Get.l0 k x0 x1 (wrap64 (x7 + (wrap64 ((wrap64 (rd x0 x8)) * t158)))) (wrap64 (x8 + 1)))) else (none)) else (none)) else (if 0 ≤ x1 then (if x1 ≤ (x0.length : Int) then (some (x7, (x0.drop (x1 : Int).toNat), 0)) else (none)) else (none))) := fun _ _ _ _ _ => rfl
def bobbinref01_Get.f (k : Nat) (l0 : List Int) (a1 : Int) : Option (Int × List Int × Int) := if a1 = 1 then (bobbinref01_Get.j0 k l0 a1 false) else (if a1 = 2 then (bobbinref01_Get.j0 k l0 a1 false) else (bobbinref01_Get.j0 k l0 a1 (a1 != 4)))
theorem bobbinref01_Get.mono_l : ∀ k, (∀ y0 y1 y2, LeO (bobbinref01_Get.j0 k y0 y1 y2) (bobbinref01_Get.j0 (k + 1) y0 y1 y2)) ∧ (∀ y0 y1 y2 y3, LeO (bobbinref01_Get.l0 k y0 y1 y2 y3) (bobbinref01_Get.l0 (k + 1) y0 y1 y2 y3))
  | 0 => ⟨fun _ _ _ r h => by first | (cases h; done) | simp [bobbinref01_Get.j0] at h, fun _ _ _ _ r h => by first | (cases h; done) | simp [bobbinref01_Get.l0] at h⟩
  | k + 1 => by
    obtain ⟨ih0, ih1⟩ := bobbinref01_Get.mono_l k
    refine ⟨?_, ?_⟩
    · intro y0 y1 y2
      unfold bobbinref01_Get.j0
      repeat' first
      | (with_reducible exact ih0 _ _ _)
      | (with_reducible exact ih1 _ _ _ _)
      | (with_reducible exact bobbinref01_power.mono _ _)
      | (with_reducible exact LeO.refl _)
      | (with_reducible exact LeO.none _)
      | (with_reducible refine LeO.ite ?_ ?_)
      | (with_reducible refine LeO.bind ?_ (fun _ => ?_))
      | exact ih0 _ _ _
      | exact ih1 _ _ _ _
      | exact bobbinref01_power.mono _ _
      | exact LeO.none _
      | refine LeO.ite ?_ ?_
      | refine LeO.bind ?_ (fun _ => ?_)
    · intro y0 y1 y2 y3
      unfold bobbinref01_Get.l0
      repeat' first
      | (with_reducible exact ih0 _ _ _)
      | (with_reducible exact ih1 _ _ _ _)
      | (with_reducible exact bobbinref01_power.mono _ _)
      | (with_reducible exact LeO.refl _)
      | (with_reducible exact LeO.none _)
      | (with_reducible refine LeO.ite ?_ ?_)
      | (with_reducible refine LeO.bind ?_ (fun _ => ?_))
      | exact ih0 _ _ _
      | exact ih1 _ _ _ _
      | exact bobbinref01_power.mono _ _
      | exact LeO.none _
      | refine LeO.ite ?_ ?_
      | refine LeO.bind ?_ (fun _ => ?_)
theorem bobbinref01_Get.mono : ∀ a0 a1 k, LeO (bobbinref01_Get.f k a0 a1) (bobbinref01_Get.f (k + 1) a0 a1) := by
  intro a0 a1 k
  obtain ⟨ih0, ih1⟩ := bobbinref01_Get.mono_l k
  unfold bobbinref01_Get.f
  repeat' first
      | (with_reducible exact ih0 _ _ _)
      | (with_reducible exact ih1 _ _ _ _)
      | (with_reducible exact bobbinref01_power.mono _ _)
      | (with_reducible exact LeO.refl _)
      | (with_reducible exact LeO.none _)
      | (with_reducible refine LeO.ite ?_ ?_)
      | (with_reducible refine LeO.bind ?_ (fun _ => ?_))
      | exact ih0 _ _ _
      | exact ih1 _ _ _ _
      | exact bobbinref01_power.mono _ _
      | exact LeO.none _
      | refine LeO.ite ?_ ?_
      | refine LeO.bind ?_ (fun _ => ?_)
set_option maxHeartbeats 8000000 in
set_option maxRecDepth 100000 in
theorem bobbinref01_Get.calls (k : Nat) (P0_ : Nat → Prop) (A0 : Option Addr) (c0 : Nat) (l0 : List Int) (a1 : Int) (r1 : Int) (r2 : List Int) (r3 : Int) (w : World) (hs0 : Kd.V (Kd.int .u8) 5 w w.heap.size (fun k_ => P0_ k_) (.slice A0 l0.length c0) l0) (h : bobbinref01_Get.f k l0 a1 = some (r1, r2, r3)) :
    Calls Try.prog 45 #[.slice A0 l0.length c0, .int .i64 a1] w fun e w' => ∃ v1_ : Value, e = .returned (.tuple #[.int .i64 r1, v1_, .int .i64 r3]) ∧ Kd.V (Kd.int .u8) 5 w' w.heap.size (fun k_ => (P0_ k_ ∨ w.heap.size ≤ k_)) v1_ r2 ∧ Below w.heap.size w w' := by
  have HO0 := Aside0.mk (show Kd.V (Kd.int .u8) 5 w w.heap.size (fun k_ => (P0_ k_ ∨ w.heap.size ≤ k_)) (.slice A0 l0.length c0) l0 from Kd.V_mono hs0 (fun k_ hk => .inl hk))
  have HB := Aside0.mk (Below.refl w.heap.size w)
  have H : (if a1 = 1 then (bobbinref01_Get.j0 k l0 a1 false) else (if a1 = 2 then (bobbinref01_Get.j0 k l0 a1 false) else (bobbinref01_Get.j0 k l0 a1 (a1 != 4)))) = some (r1, r2, r3) := h
  clear h
  have HC3 := Aside0.mk H
  clear H
  go_enter Try.func45, Try.ntmps45
  go_upto_region 1 with (fail)
  repeat (go_quiet (fail); go_upto_region 1 with (fail))
  go_cut [18] (fun v18 wc => ∃ (kq : Nat) (x18_2 : Bool), v18 = .bool x18_2 ∧ Aside0 (bobbinref01_Get.j0 kq l0 a1 x18_2 = some (r1, r2, r3)) ∧ Aside0 (kq ≤ k) ∧ Aside0 (Kd.V (Kd.int .u8) 5 wc w.heap.size (fun k_ => (P0_ k_ ∨ w.heap.size ≤ k_)) (.slice A0 l0.length c0) l0) ∧ Aside0 (Below w.heap.size w wc))
  case first =>
    have H := HC3.out
    clear HC3
    by_cases c4 : a1 = 1
    · rw [if_pos c4] at H
      have c4b0 : (a1 == 1) = true := beq_iff_eq.mpr c4
      have c4b1 : (a1 != 1) = false := bne_eq_false_iff_eq.mpr c4
      clear c4
      (first | rw [c4b0] | (simp only [i64_w, i32_w]; rw [c4b0]) | skip)
      have H' := Aside0.mk H
      clear H
      go_wp2
      repeat (go_quiet (fail); try go_wp2)
      go_meet
      case rel => exact ⟨_, (false), (by first | rfl | (simp; done) | (simp [*]; done)), H', ⟨by first | omega | exact Nat.le_refl _⟩, ⟨by (with_reducible repeat (first | apply Kd.V_alloc | apply Kd.V_drewN | apply Kd.V_drew)); exact HO0.out⟩, ⟨by repeat (first | (with_reducible first | exact HB.out | apply below_alloc | apply pw_below_drewN | apply below_drew1) | exact HB.out)⟩⟩
    · rw [if_neg c4] at H
      have c4b0 : (a1 == 1) = false := beq_eq_false_iff_ne.mpr c4
      have c4b1 : (a1 != 1) = true := bne_iff_ne.mpr c4
      (first | rw [c4b0] | (simp only [i64_w, i32_w]; rw [c4b0]) | skip)
      by_cases c5 : a1 = 2
      · rw [if_pos c5] at H
        have c5b0 : (a1 == 2) = true := beq_iff_eq.mpr c5
        have c5b1 : (a1 != 2) = false := bne_eq_false_iff_eq.mpr c5
        clear c5
        have H' := Aside0.mk H
        clear H
        go_wp2
        repeat (go_quiet (fail); try go_wp2)
        go_meet
        case rel => exact ⟨_, (false), (by first | rfl | (simp; done) | (simp [*]; done)), H', ⟨by first | omega | exact Nat.le_refl _⟩, ⟨by (with_reducible repeat (first | apply Kd.V_alloc | apply Kd.V_drewN | apply Kd.V_drew)); exact HO0.out⟩, ⟨by repeat (first | (with_reducible first | exact HB.out | apply below_alloc | apply pw_below_drewN | apply below_drew1) | exact HB.out)⟩⟩
      · rw [if_neg c5] at H
        have c5b0 : (a1 == 2) = false := beq_eq_false_iff_ne.mpr c5
        have c5b1 : (a1 != 2) = true := bne_iff_ne.mpr c5
        have H' := Aside0.mk H
        clear H
        go_wp2
        repeat (go_quiet (fail); try go_wp2)
        go_meet
        case rel => exact ⟨_, ((a1 != 4)), (by first | rfl | (simp; done) | (simp [*]; done)), H', ⟨by first | omega | exact Nat.le_refl _⟩, ⟨by (with_reducible repeat (first | apply Kd.V_alloc | apply Kd.V_drewN | apply Kd.V_drew)); exact HO0.out⟩, ⟨by repeat (first | (with_reducible first | exact HB.out | apply below_alloc | apply pw_below_drewN | apply below_drew1) | exact HB.out)⟩⟩
  case rest =>
    clear HC3
    try clear p2
    try clear c4
    try clear c4b0
    try clear c4b1
    try clear c5
    try clear c5b0
    try clear c5b1
    obtain ⟨kq, x18_2, rfl, HA, HJ2, HO_0, HB⟩ := hcut
    cases kq with
    | zero => exact absurd HA.out (by first | (intro h_; cases h_; done) | simp [bobbinref01_Get.j0])
    | succ kj2 =>
      have H := HA.out
      clear HA
      rw [bobbinref01_Get.j0_eq] at H
      by_cases c6 : x18_2 = true
      · subst c6
        have H1 : (some (0, l0, 1)) = some (r1, r2, r3) := by rw [if_pos rfl] at H; exact H
        clear H
        have H := H1
        clear H1
        simp only [Option.some.injEq, Prod.mk.injEq] at H
        obtain ⟨rfl, rfl, rfl⟩ := H
        go_wp2
        repeat (go_quiet (fail); try go_wp2)
        go_ret3
        exact ⟨_, by first | rfl | (simp [errW_none, errW_some] <;> rfl) | (simp [*, errW_none, errW_some] <;> rfl), by (with_reducible repeat (first | apply Kd.V_alloc | apply Kd.V_drewN | apply Kd.V_drew)); exact HO_0.out, by repeat (first | (with_reducible first | exact HB.out | apply below_alloc | apply pw_below_drewN | apply below_drew1) | exact HB.out)⟩
      · replace c6 := Bool.eq_false_iff.mpr c6
        subst c6
        have H1 : (if (l0.length : Int) < a1 then (some (0, l0, 6)) else (bobbinref01_Get.l0 kj2 l0 a1 0 0)) = some (r1, r2, r3) := by rw [if_neg (show ¬ (false = true) by decide)] at H; exact H
        clear H
        have H := H1
        clear H1
        by_cases c7 : (l0.length : Int) < a1
        · rw [if_pos c7] at H
          have c7b0 : decide ((l0.length : Int) < a1) = true := decide_eq_true c7
          clear c7
          simp only [Option.some.injEq, Prod.mk.injEq] at H
          obtain ⟨rfl, rfl, rfl⟩ := H
          go_wp2
          repeat (go_quiet (fail); try go_wp2)
          go_ret3
          exact ⟨_, by first | rfl | (simp [errW_none, errW_some] <;> rfl) | (simp [*, errW_none, errW_some] <;> rfl), by (with_reducible repeat (first | apply Kd.V_alloc | apply Kd.V_drewN | apply Kd.V_drew)); exact HO_0.out, by repeat (first | (with_reducible first | exact HB.out | apply below_alloc | apply pw_below_drewN | apply below_drew1) | exact HB.out)⟩
        · rw [if_neg c7] at H
          have c7b0 : decide ((l0.length : Int) < a1) = false := decide_eq_false c7
          clear c7
          have H' := Aside0.mk H
          clear H
          go_wp2
          repeat (go_quiet (fail); try go_wp2)
          go_loopg [7, 8] kj2 (fun kq v7 v8 w' => ∃ (x7_2 : Int) (x8_2 : Int), v7 = .int .i64 x7_2 ∧ v8 = .int .i64 x8_2 ∧ Aside0 (bobbinref01_Get.l0 kq l0 a1 x7_2 x8_2 = some (r1, r2, r3)) ∧ Aside0 (kq ≤ kj2) ∧ Aside0 (Kd.V (Kd.int .u8) 5 w' w.heap.size (fun k_ => (P0_ k_ ∨ w.heap.size ≤ k_)) (.slice A0 l0.length c0) l0) ∧ Aside0 (Below w.heap.size w w'))
          case atStart => exact ⟨(0), (0), (by first | rfl | (simp; done) | (simp [*]; done)), (by first | rfl | (simp; done) | (simp [*]; done)), H', ⟨Nat.le_refl _⟩, ⟨by (with_reducible repeat (first | apply Kd.V_alloc | apply Kd.V_drewN | apply Kd.V_drew)); exact HO_0.out⟩, ⟨by repeat (first | (with_reducible first | exact HB.out | apply below_alloc | apply pw_below_drewN | apply below_drew1) | exact HB.out)⟩⟩
          case round =>
            clear H'
            try clear p2
            try clear c4
            try clear c4b0
            try clear c4b1
            try clear c5
            try clear c5b0
            try clear c5b1
            try clear c6
            try clear c7
            try clear c7b0
            try clear p2
            obtain ⟨x7_2, x8_2, rfl, rfl, HA, HK2, HO_0, HB⟩ := hrel
            cases gk with
            | zero => exact absurd HA.out (by first | (intro h_; cases h_; done) | simp [bobbinref01_Get.l0])
            | succ k2 =>
              have H := HA.out
              clear HA
              rw [bobbinref01_Get.l0_eq] at H
              by_cases c8 : x8_2 < a1
              · rw [if_pos c8] at H
                have c8b0 : decide (x8_2 < a1) = true := decide_eq_true c8
                clear c8
                by_cases c9 : 0 ≤ x8_2
                · rw [if_pos c9] at H
                  have c9b0 : decide (0 ≤ x8_2) = true := decide_eq_true c9
                  clear c9
                  by_cases c10 : x8_2 < (l0.length : Int)
                  · rw [if_pos c10] at H
                    have c10b0 : decide (x8_2 < (l0.length : Int)) = true := decide_eq_true c10
                    clear c10
                    replace H := Option.bind_eq_some_iff.mp H
                    obtain ⟨t158, A110, H⟩ := H
                    replace H : (bobbinref01_Get.l0 k2 l0 a1 (wrap64 (x7_2 + (wrap64 ((wrap64 (rd l0 x8_2)) * t158)))) (wrap64 (x8_2 + 1))) = some (r1, r2, r3) := H
                    have A11 := Aside0.mk A110
                    clear A110
                    have H' := Aside0.mk H
                    clear H
                    have p157 : 0 ≤ (x8_2 : Int) := of_decide_eq_true (by first | (with_reducible assumption) | assumption)
                    have q157 : x8_2 < (l0.length : Int) := of_decide_eq_true (by first | (with_reducible assumption) | assumption)
                    obtain ⟨ad157, e157, hx157_0⟩ := Kd.at_int (Kd.V_reads' HO_0.out).2.2 x8_2 p157 q157
                    cases e157
                    replace p157 := eq_true p157
                    replace q157 := eq_true q157
                    go_wp2_with (first | (go_at_call 50; (with_reducible refine (bobbinref01_power.calls k2 x8_2 t158 _ A11.out).mono ?_); rintro e w' ⟨rfl, ⟨nd, rfl⟩⟩; (try first | exact ⟨rfl, _, World.drewN_drewN _ _ _⟩ | exact ⟨rfl, _, Eq.trans (World.drewN_drewN _ _ _) (congrArg (World.drewN _) (Nat.add_assoc _ _ _))⟩)))
                    repeat (go_quiet (first | (go_at_call 50; (with_reducible refine (bobbinref01_power.calls k2 x8_2 t158 _ A11.out).mono ?_); rintro e w' ⟨rfl, ⟨nd, rfl⟩⟩; (try first | exact ⟨rfl, _, World.drewN_drewN _ _ _⟩ | exact ⟨rfl, _, Eq.trans (World.drewN_drewN _ _ _) (congrArg (World.drewN _) (Nat.add_assoc _ _ _))⟩))); try go_wp2_with (first | (go_at_call 50; (with_reducible refine (bobbinref01_power.calls k2 x8_2 t158 _ A11.out).mono ?_); rintro e w' ⟨rfl, ⟨nd, rfl⟩⟩; (try first | exact ⟨rfl, _, World.drewN_drewN _ _ _⟩ | exact ⟨rfl, _, Eq.trans (World.drewN_drewN _ _ _) (congrArg (World.drewN _) (Nat.add_assoc _ _ _))⟩))))
                    go_roundg k2
                    case measure => have := HJ2.out; have := HK2.out; omega
                    case rel => exact ⟨(wrap64 (x7_2 + (wrap64 ((wrap64 (rd l0 x8_2)) * t158)))), (wrap64 (x8_2 + 1)), (by first | rfl | (simp; done) | (simp [*]; done)), (by first | rfl | (simp; done) | (simp [*]; done)), H', ⟨by have := HJ2.out; have := HK2.out; omega⟩, ⟨by (with_reducible repeat (first | apply Kd.V_alloc | apply Kd.V_drewN | apply Kd.V_drew)); exact HO_0.out⟩, ⟨by repeat (first | (with_reducible first | exact HB.out | apply below_alloc | apply pw_below_drewN | apply below_drew1) | exact HB.out)⟩⟩
                  · rw [if_neg c10] at H
                    exact absurd H (by simp)
                · rw [if_neg c9] at H
                  exact absurd H (by simp)
              · rw [if_neg c8] at H
                have c8b0 : decide (x8_2 < a1) = false := decide_eq_false c8
                clear c8
                by_cases c12 : 0 ≤ a1
                · rw [if_pos c12] at H
                  have c12b0 := eq_true c12
                  have c12b1 : decide (0 ≤ a1) = true := decide_eq_true c12
                  clear c12
                  by_cases c13 : a1 ≤ (l0.length : Int)
                  · rw [if_pos c13] at H
                    have c13b0 := eq_true c13
                    have c13b1 : decide (a1 ≤ (l0.length : Int)) = true := decide_eq_true c13
                    clear c13
                    obtain ⟨y159, hy159⟩ : ∃ y_ : List Int, y_ = (l0.drop (a1 : Int).toNat) := ⟨_, rfl⟩
                    replace H : (some (x7_2, y159, 0)) = some (r1, r2, r3) := by first | (rw [hy159]; with_reducible exact H) | (have H2_ := (Option.bind_some _ _).symm.trans H; rw [hy159]; with_reducible exact H2_) | (have H2_ := (Option.bind_some _ _).symm.trans H; with_reducible exact H2_) | with_reducible exact H | (rw [hy159]; exact H) | exact H
                    have Ny159 := Aside0.mk hy159
                    clear hy159
                    simp only [Option.some.injEq, Prod.mk.injEq] at H
                    obtain ⟨rfl, rfl, rfl⟩ := H
                    have q14 : (a1 : Int) ≤ ((l0.length : Int) : Int) := of_decide_eq_true (by first | (with_reducible assumption) | assumption)
                    obtain ⟨i014, hi014, _, hsz14, _⟩ := info_parts info5
                    have hroom14 : l0.length ≤ c0 := (Kd.V_reads' HO_0.out).2.1
                    have hC14 : Kd.F (Kd.int .u8) _ _ A0 l0.length l0 := (Kd.V_at (base := w.heap.size) HO_0.out).2.2
                    have q014 : (0 : Int) ≤ (a1 : Int) := of_decide_eq_true (by first | (with_reducible assumption) | assumption)
                    have hcut14 := cut_from (P := Try.prog) 22 5 .i64 Try.underlying22 hi014 1 hsz14 A0 l0.length c0 a1 q014 q14
                    have hr14 := Kd.F_cut (m := (a1 : Int).toNat) (c := c0) hC14 (by omega) hroom14
                    obtain ⟨A14, hA14⟩ : ∃ A1, A1 = (if c0 = (a1 : Int).toNat then A0 else (A0 : Option Addr).map (·.add ((a1 : Int).toNat * 1))) := ⟨_, rfl⟩
                    obtain ⟨c14, hc14⟩ : ∃ c1, c1 = c0 - (a1 : Int).toNat := ⟨_, rfl⟩
                    have hy14 : y159.length = l0.length - (a1 : Int).toNat := (by rw [Ny159.out, List.length_drop] <;> omega)
                    rw [show (l0).drop (a1 : Int).toNat = y159 from Ny159.out.symm] at hr14
                    replace hr14 : Kd.F (Kd.int .u8) _ _ A14 y159.length y159 := (by rw [hA14]; exact hr14)
                    rw [← hy14, ← hA14, ← hc14] at hcut14
                    have HO163 := Aside0.mk (show Kd.V (Kd.int .u8) 5 _ w.heap.size _ (.slice A14 y159.length c14) y159 from Kd.V_mk (by rw [hy14, hc14]; exact Nat.sub_le_sub_right hroom14 _) hr14)
                    have HC163 := Aside0.mk (show y159.length ≤ c14 from by rw [hy14, hc14]; exact Nat.sub_le_sub_right hroom14 _)
                    clear hr14 hC14 hroom14 hi014 hsz14 hc14
                    have KY14 := Aside0.mk hy14
                    have KA14 := Aside0.mk hA14
                    clear hy14 hA14
                    replace q14 := eq_true q14
                    go_wp2
                    repeat (go_quiet (fail); try go_wp2)
                    go_ret3
                    exact ⟨_, by first | rfl | (simp [errW_none, errW_some] <;> rfl) | (simp [*, errW_none, errW_some] <;> rfl), by (with_reducible repeat (first | apply Kd.V_alloc | apply Kd.V_drewN | apply Kd.V_drew)); exact HO163.out, by repeat (first | (with_reducible first | exact HB.out | apply below_alloc | apply pw_below_drewN | apply below_drew1) | exact HB.out)⟩
                  · rw [if_neg c13] at H
                    exact absurd H (by simp)
                · rw [if_neg c12] at H
                  exact absurd H (by simp)

/-! ### bobbinref02_Open: function 44 -/
def bobbinref02_Open.f (k : Nat) (l0 : List Int) : Option (List Int × Int × Int) :=
  if l0.length ≠ 256 then some ([], 0, 1) else (bobbinref01_Get.f k l0 4).bind fun t => (bobbinref01_Get.f k (l0.drop 252) 4).bind fun u =>
    if t.1 = u.1 then some ((l0.drop 4).take 248, t.1, 0) else some ([], 0, 20)
theorem bobbinref02_Open.mono : ∀ a0 k, LeO (bobbinref02_Open.f k a0) (bobbinref02_Open.f (k + 1) a0) := by
  intro a0 k
  unfold bobbinref02_Open.f
  repeat' first
      | (with_reducible exact bobbinref01_Get.mono _ _ _)
      | (with_reducible exact LeO.refl _)
      | (with_reducible exact LeO.none _)
      | (with_reducible refine LeO.ite ?_ ?_)
      | (with_reducible refine LeO.bind ?_ (fun _ => ?_))
theorem bobbinref02_Open.get_n (n k : Nat) (P0_ : Nat → Prop) (A0 : Option Addr) (c0 : Nat) (l0 : List Int) (a1 r1 : Int) (r2 : List Int) (r3 : Int) (w : World) (hn : l0.length = n)
    (hs0 : Kd.V (Kd.int .u8) 5 w w.heap.size (fun k_ => P0_ k_) (.slice A0 n c0) l0) (h : bobbinref01_Get.f k l0 a1 = some (r1, r2, r3)) :
    Calls Try.prog 45 #[.slice A0 n c0, .int .i64 a1] w fun e w' => ∃ v1_ : Value, e = .returned (.tuple #[.int .i64 r1, v1_, .int .i64 r3]) ∧ Below w.heap.size w w' := by
  subst hn
  exact (bobbinref01_Get.calls k P0_ A0 c0 l0 a1 r1 r2 r3 w hs0 h).mono fun e w' ⟨v, he, _, hb⟩ => ⟨v, he, hb⟩
theorem bobbinref02_Open.V_n (n : Nat) (A0 : Option Addr) (c0 : Nat) (l0 : List Int) (w : World) (hn : l0.length = n) (hc : n ≤ c0) (h : Kd.C (Kd.int .u8) w A0 n l0) : Kd.V (Kd.int .u8) 5 w w.heap.size (fun k_ => k_ < w.heap.size) (.slice A0 n c0) l0 := by
  subst hn
  exact Kd.V_mk hc (Kd.C_F (Kd.heap_int .u8) h)
set_option maxHeartbeats 1000000 in
set_option maxRecDepth 100000 in
theorem bobbinref02_Open.calls (k : Nat) (A0 : Option Addr) (c0 : Nat) (l0 : List Int) (r1 : List Int) (r2 : Int) (r3 : Int) (w : World) (hr0 : Kd.C (Kd.int .u8) w A0 l0.length l0) (hc0 : l0.length ≤ c0) (h : bobbinref02_Open.f k l0 = some (r1, r2, r3)) :
    Calls Try.prog 44 #[.slice A0 l0.length c0] w fun e w' => ∃ v0_ : Value, e = .returned (.tuple #[v0_, .int .i64 r2, .int .i64 r3]) ∧ Kd.R (Kd.int .u8) 5 w' w.heap.size (fun _ => True) v0_ r1 ∧ Below w.heap.size w w' := by
  have HR := Aside0.mk hr0
  clear hr0
  unfold bobbinref02_Open.f at h
  by_cases h1 : l0.length ≠ 256
  · rw [if_pos h1] at h
    simp only [Option.some.injEq, Prod.mk.injEq] at h
    obtain ⟨rfl, rfl, rfl⟩ := h
    have e1 : ((l0.length : Int) != 256) = true := by rw [bne_iff_ne]; omega
    have e2 : (l0.length != 256) = true := by rw [bne_iff_ne]; omega
    clear h1
    go_enter Try.func44, Try.ntmps44
    go_wp2_with fail
    go_ret3
    exact ⟨_, rfl, Kd.R_nil _ _ _ _ _, Below.refl _ _⟩
  rw [if_neg h1] at h
  have hl : l0.length = 256 := by omega
  rw [hl] at hc0
  have HR2 := Aside0.mk (show Kd.C (Kd.int .u8) w A0 256 l0 by rw [← hl]; exact HR.out)
  rw [hl]
  replace hl := Aside0.mk hl
  clear h1 HR
  obtain ⟨ad, rfl, -⟩ := C_cells' HR2.out (by omega)
  replace h := Option.bind_eq_some_iff.mp h
  obtain ⟨⟨t1, t2, t3⟩, H1, h⟩ := h
  replace h := Option.bind_eq_some_iff.mp h
  obtain ⟨⟨u1, u2, u3⟩, H2, h⟩ := h
  replace H1 := Aside0.mk H1
  replace H2 := Aside0.mk H2
  have hD := Aside0.mk (C_part HR2.out 252 4 (by omega) rfl)
  have hM := Aside0.mk (C_part HR2.out 4 248 (by omega) rfl)
  have e4 : ad.add 4 = ⟨ad.block, ad.off + 4, none⟩ := by simp [Addr.add]
  have e5 : ad.add 252 = ⟨ad.block, ad.off + 252, none⟩ := by simp [Addr.add]
  rw [e4] at hM
  rw [e5, show (l0.drop 252).take 4 = l0.drop 252 from List.take_of_length_le (by rw [List.length_drop, hl.out]; omega)] at hD
  have hD2 := Aside0.mk (show (l0.drop 252).length = 4 by rw [List.length_drop, hl.out])
  have hc5 : (252 : Int) ≤ (c0 : Int) := by omega
  clear e4 e5
  by_cases he : t1 = u1
  · rw [if_pos he] at h
    simp only [Option.some.injEq, Prod.mk.injEq] at h
    obtain ⟨rfl, rfl, rfl⟩ := h
    subst he
    go_enter Try.func44, Try.ntmps44
    go_wp2_with fail
    refine (bobbinref02_Open.get_n 256 k _ _ _ l0 4 t1 t2 t3 _ hl.out (bobbinref02_Open.V_n 256 _ c0 l0 _ hl.out (by omega) HR2.out) H1.out).mono ?_
    rintro e w1 ⟨v1, rfl, hb1⟩
    replace hb1 := Aside0.mk hb1
    go_wp2_with fail
    refine (bobbinref02_Open.get_n 4 k _ _ _ (l0.drop 252) 4 t1 u2 u3 _ hD2.out (bobbinref02_Open.V_n 4 _ _ _ _ hD2.out (by omega) (Kd.C_below hD.out hb1.out)) H2.out).mono ?_
    rintro e w2 ⟨v2, rfl, hb2⟩
    replace hb2 := Aside0.mk (below_then hb1.out hb1.out.size hb2)
    have hL := Aside0.mk (show ((l0.drop 4).take 248).length = 248 by rw [List.length_take, List.length_drop, hl.out]; rfl)
    go_wp2_with ((with_reducible refine gate_builtin (b := .append) (xs := #[.const (.slice none 0 0), .tmp 31]) rfl ?_); at_builtin; refine Kd.R_append_rows (Kd.int .u8) (w0 := w) w.heap.size rfl (.const (.slice none 0 0)) (.tmp 31) 22 5 (.int .u8 0) 1 rfl Try.underlying22 info5 rfl (by decide) (by omega) _ [] ((l0.drop 4).take 248) (some ⟨ad.block, ad.off + 4, none⟩) 248 (c0 - 4) (fun _ => True) (fun _ => False) rfl rfl ?aO ?aR (fun _ _ h => h) (fun _ h => h.elim) ?aF ?aB ?aS ?aL ?_; (case aF => exact (fun _ _ => trivial)); (case aB => exact hb2.out); (case aS => exact hb2.out.size); (case aL => simp); (case aR => exact Kd.C_below hM.out hb2.out); (case aO => exact Kd.R_nil _ _ _ _ _); intro v w3 ho hb hg hat)
    go_ret3
    exact ⟨_, rfl, ho, hb⟩
  · rw [if_neg he] at h
    simp only [Option.some.injEq, Prod.mk.injEq] at h
    obtain ⟨rfl, rfl, rfl⟩ := h
    have he1 : (t1 != u1) = true := bne_iff_ne.mpr he
    clear he
    go_enter Try.func44, Try.ntmps44
    go_wp2_with fail
    refine (bobbinref02_Open.get_n 256 k _ _ _ l0 4 t1 t2 t3 _ hl.out (bobbinref02_Open.V_n 256 _ c0 l0 _ hl.out (by omega) HR2.out) H1.out).mono ?_
    rintro e w1 ⟨v1, rfl, hb1⟩
    replace hb1 := Aside0.mk hb1
    go_wp2_with fail
    refine (bobbinref02_Open.get_n 4 k _ _ _ (l0.drop 252) 4 u1 u2 u3 _ hD2.out (bobbinref02_Open.V_n 4 _ _ _ _ hD2.out (by omega) (Kd.C_below hD.out hb1.out)) H2.out).mono ?_
    rintro e w2 ⟨v2, rfl, hb2⟩
    replace hb2 := Aside0.mk (below_then hb1.out hb1.out.size hb2)
    go_wp2_with fail
    go_ret3
    exact ⟨_, rfl, Kd.R_nil _ _ _ _ _, hb2.out⟩

-- NOT PRINTED: function 30 (bobbinref09_Told)

-- NOT PRINTED: function 13 (bobbinref09_Read)

-- NOT PRINTED: function 3 (bobbinlaw09_MasterReads)

-- NOT PRINTED: function 4 (bobbinlaw09_MasterLast)

-- NOT PRINTED: function 5 (bobbinlaw09_MasterGreater)

-- NOT PRINTED: function 6 (bobbinlaw09_MasterOdd)

-- NOT PRINTED: function 17 (disk_Disk_Arm)

-- NOT PRINTED: function 35 (disk_Disk_kept)

-- NOT PRINTED: function 53 (slices_Grow_byte_byte)

/-! ### slices_Concat_byte_byte: function 49 -/
set_option maxHeartbeats 1000000 in
set_option maxRecDepth 100000 in
/-- slices.Grow of nil. -/
theorem slices_Concat_byte_byte.grow (n : Nat) (w : World) (hn : n ≤ 140737488355328) :
    Calls Try.prog 53 #[.slice none 0 0, .int .i64 n] w fun e w' => ∃ v0_ : Value, e = .returned v0_ ∧ Kd.R (Kd.int .u8) 5 w' w.heap.size (fun _ => True) v0_ [] ∧ Below w.heap.size w w' := by
  by_cases h0 : n = 0
  · subst h0
    go_enter Try.func53, Try.ntmps53
    go_wp2_with fail
    go_ret
    exact ⟨_, rfl, Kd.R_nil _ _ _ _ _, Below.refl _ _⟩
  · have e0 : decide ((n : Int) < 0) = false := decide_eq_false (by omega)
    have e1 : decide (0 < (n : Int)) = true := decide_eq_true (by omega)
    have e2 : decide (0 < n) = true := decide_eq_true (by omega)
    clear h0
    go_enter Try.func53, Try.ntmps53
    go_wp2_with (at_builtin; refine Kd.R_append_zeros (Kd.int .u8) (w0 := w) w.heap.size rfl (.tmp 20) (.tmp 21) 22 3 5 (.int .u8 0) 1 rfl Try.underlying22 Try.underlying3 info5 rfl (by decide) (by omega) (.slice none 0 0) [] 0 (n : Int) (fun _ => True) rfl rfl rfl ?aF ?aO (by omega) ?aB ?aS ?aL ?_; (case aF => exact (fun _ _ => trivial)); (case aO => exact Kd.R_nil _ _ _ _ _); (case aB => exact Below.refl _ _); (case aS => simp); (case aL => simp; omega); intro v1 w1 ho hb hg hat; obtain ⟨Av, cv, ev⟩ := Kd.R_slice ho; subst ev)
    go_ret
    exact ⟨_, rfl, by simpa using Kd.R_take (m := 0) ho (by simp), hb⟩
def slices_Concat_byte_byte.pre (l0 : List (List Int)) (k : Nat) : List Int := (l0.take k).flatten
theorem slices_Concat_byte_byte.pre_succ (l0 : List (List Int)) (k : Nat) (h : k < l0.length) : slices_Concat_byte_byte.pre l0 (k + 1) = slices_Concat_byte_byte.pre l0 k ++ l0.getD k [] := take_flat l0 k h
theorem slices_Concat_byte_byte.pre_le (l0 : List (List Int)) (k : Nat) : (slices_Concat_byte_byte.pre l0 k).length ≤ l0.flatten.length := take_flat_le l0 k
theorem slices_Concat_byte_byte.pre_all (l0 : List (List Int)) : slices_Concat_byte_byte.pre l0 l0.length = l0.flatten := by unfold slices_Concat_byte_byte.pre; rw [List.take_length]
theorem slices_Concat_byte_byte.pre_le' (l0 : List (List Int)) (k : Nat) : (slices_Concat_byte_byte.pre l0 k).length ≤ (slices_Concat_byte_byte.pre l0 l0.length).length := by rw [slices_Concat_byte_byte.pre_all]; exact slices_Concat_byte_byte.pre_le l0 k
theorem slices_Concat_byte_byte.pre_zero (l0 : List (List Int)) : slices_Concat_byte_byte.pre l0 0 = [] := by simp [slices_Concat_byte_byte.pre]
def slices_Concat_byte_byte.f (l0 : List (List Int)) : Option (List Int) := if l0.flatten.length < 140737488355328 then some l0.flatten else none
set_option maxHeartbeats 1000000 in
set_option maxRecDepth 100000 in
theorem slices_Concat_byte_byte.calls (A0 : Option Addr) (c0 : Nat) (l0 : List (List Int)) (r : List Int) (w : World) (hr0 : Kd.C (Kd.slice 5 (Kd.int .u8)) w A0 l0.length l0) (hc0 : l0.length ≤ c0) (h : slices_Concat_byte_byte.f l0 = some r) :
    Calls Try.prog 49 #[.slice A0 l0.length c0] w fun e w' => ∃ v0_ : Value, e = .returned v0_ ∧ Kd.R (Kd.int .u8) 5 w' w.heap.size (fun _ => True) v0_ r ∧ Below w.heap.size w w' := by
  have HR := Aside0.mk hr0
  have hm0 : l0.length ≤ 9223372036854775807 := hr0.2.1
  clear hr0
  unfold slices_Concat_byte_byte.f at h
  split at h
  · rename_i hm
    obtain rfl := Option.some.inj h
    clear h
    have HM := Aside0.mk hm
    have HE := Aside0.mk (slices_Concat_byte_byte.pre_all l0)
    clear hm
    generalize l0.flatten = r at *
    go_enter Try.func49, Try.ntmps49
    go_wp2_with fail
    go_loop [3, 5, 11] (fun v3 v5 v11 => ∃ k : Nat, k ≤ l0.length ∧ v11 = .int .i64 k ∧ v3 = .int .i64 (slices_Concat_byte_byte.pre l0 k).length) (fun _ _ v11 => l0.length - (intOf v11).toNat)
    case atStart => exact ⟨0, Nat.zero_le _, rfl, by rw [slices_Concat_byte_byte.pre_zero]; rfl⟩
    case round =>
      obtain ⟨k, hk, rfl, rfl⟩ := hrel
      have hle : (slices_Concat_byte_byte.pre l0 k).length < 140737488355328 := by have h0 := slices_Concat_byte_byte.pre_le' l0 k; rw [HE.out] at h0; have := HM.out; omega
      by_cases hlt : k < l0.length
      · obtain ⟨ad, Ai, ci, rfl, hcell, hci, hC⟩ := C_rows_at HR.out k hlt
        have hf := congrArg List.length (slices_Concat_byte_byte.pre_succ l0 k hlt)
        rw [List.length_append] at hf
        have hle2 := slices_Concat_byte_byte.pre_le' l0 (k + 1)
        rw [HE.out, hf] at hle2
        have hm2 := HM.out
        generalize l0.getD k [] = x at *
        have hz : (slices_Concat_byte_byte.pre l0 k).length + x.length < 140737488355328 := by omega
        have HF := Aside0.mk hf
        have HC := Aside0.mk hC
        clear hf hC hle2 hm2
        go_wp2_with fail
        go_round
        case rel => exact ⟨k + 1, by omega, by go_num, by rw [HF.out]; go_num⟩
        case measure => simp [intOf]; omega
      · obtain rfl : k = l0.length := by omega
        go_wp2_with (go_at_call 53; refine (slices_Concat_byte_byte.grow _ _ (by omega)).mono ?_; rintro e w1 ⟨v1, rfl, ho, hb⟩)
        go_loopw [6, 8, 27] (fun v6 v8 v27 wr => ∃ k : Nat, k ≤ l0.length ∧ v27 = .int .i64 k ∧ Aside0 (Kd.R (Kd.int .u8) 5 wr w.heap.size (fun _ => True) v6 (slices_Concat_byte_byte.pre l0 k)) ∧ Aside0 (Below w.heap.size w wr)) (fun _ _ v27 _ => l0.length - (intOf v27).toNat)
        case atStart => exact ⟨0, Nat.zero_le _, rfl, ⟨by rw [slices_Concat_byte_byte.pre_zero]; exact ho⟩, ⟨hb⟩⟩
        case round =>
          clear ho hb
          obtain ⟨k, hk, rfl, HO, HB⟩ := hrel
          by_cases hlt : k < l0.length
          · obtain ⟨ad, Ai, ci, rfl, hcell, hci, hC⟩ := C_rows_at (Kd.C_below HR.out HB.out) k hlt
            have hf := slices_Concat_byte_byte.pre_succ l0 k hlt
            have hle2 := slices_Concat_byte_byte.pre_le' l0 (k + 1)
            rw [HE.out, hf, List.length_append] at hle2
            have hm2 := HM.out
            generalize l0.getD k [] = x at *
            have hz : (slices_Concat_byte_byte.pre l0 k).length + x.length < 140737488355328 := by omega
            have HF := Aside0.mk hf
            have HC := Aside0.mk hC
            clear hf hC hle2 hm2
            obtain ⟨A6, c6, e6⟩ := Kd.R_slice HO.out
            subst e6
            go_wp2_with ((with_reducible refine gate_builtin (b := .append) (xs := #[.tmp 31, .tmp 32]) rfl ?_); at_builtin; refine Kd.R_append_rows (Kd.int .u8) (w0 := w) w.heap.size rfl (.tmp 31) (.tmp 32) 22 5 (.int .u8 0) 1 rfl Try.underlying22 info5 rfl (by decide) (by omega) _ (slices_Concat_byte_byte.pre l0 k) x _ _ _ (fun _ => True) (fun _ => False) rfl rfl ?aO ?aR (fun _ _ h => h) (fun _ h => h.elim) ?aF ?aB ?aS ?aL ?_; (case aF => exact (fun _ _ => trivial)); (case aB => exact HB.out); (case aS => exact HB.out.size); (case aL => omega); (case aR => exact HC.out); (case aO => exact HO.out); intro v w2 ho hb hg hat; rw [← HF.out] at ho; have HO2 := Aside0.mk ho; have HB2 := Aside0.mk hb; clear ho hb hg hat)
            go_roundw
            case rel => exact ⟨k + 1, by omega, by go_num, HO2, HB2⟩
            case measure => simp [intOf]; omega
          · obtain rfl : k = l0.length := by omega
            go_wp2_with fail
            go_ret
            exact ⟨_, rfl, by rw [← HE.out]; exact HO.out, HB.out⟩
  · exact absurd h (by simp)

/-! ### frame_Part: function 36 -/
def frame_Part.f (l0 : List Int) (l1 : List Int) (a2 : Int) : Option (List Int × Int) := if (l0.length : Int) = 256 then (if (l1.length : Int) = 256 then (if a2 < 0 then (some (([] : List Int), 1)) else (if a2 > 256 then (some (([] : List Int), 1)) else (if 0 ≤ a2 then (if a2 ≤ (l1.length : Int) then (if a2 ≤ (l0.length : Int) then ((slices_Concat_byte_byte.f (([(l1.take (a2 : Int).toNat), (l0.drop (a2 : Int).toNat)] : List (List Int)))).bind fun t226 => (some (t226, 0))) else (none)) else (none)) else (none)))) else (some (([] : List Int), 1))) else (some (([] : List Int), 1))
def frame_Part.T3 : Bool × List (List Nat × List Nat) := (true, [([], []), ([], []), ([0, 1], [0, 1]), ([], []), ([], []), ([3, 4], [3, 4]), ([2, 5], [2, 5]), ([6], [6]), ([7, 7, 0, 1, 2, 3, 4, 5, 6, 7], [7]), ([8, 0, 1, 2, 3, 4, 5, 6, 7, 8], [])])
def frame_Part.B3 : List Nat := [0, 0, 3, 0, 0, 24, 63, 127, 255, 511]
theorem frame_Part.tab3 : rtab .any (opsOf Try.f36 3) = frame_Part.T3 := by kernel_rfl
theorem frame_Part.bits3 : waitsOk frame_Part.T3.2 frame_Part.B3 = true := by kernel_rfl
set_option maxHeartbeats 8000000 in
set_option maxRecDepth 100000 in
theorem frame_Part.calls (P0_ : Nat → Prop) (A0 : Option Addr) (c0 : Nat) (l0 : List Int) (P1_ : Nat → Prop) (A1 : Option Addr) (c1 : Nat) (l1 : List Int) (a2 : Int) (r1 : List Int) (r2 : Int) (w : World) (hs0 : Kd.V (Kd.int .u8) 5 w w.heap.size (fun k_ => P0_ k_) (.slice A0 l0.length c0) l0) (hs1 : Kd.V (Kd.int .u8) 5 w w.heap.size (fun k_ => P1_ k_) (.slice A1 l1.length c1) l1) (h : frame_Part.f l0 l1 a2 = some (r1, r2)) :
    Calls Try.prog 36 #[.slice A0 l0.length c0, .slice A1 l1.length c1, .int .i64 a2] w fun e w' => ∃ v0_ : Value, e = .returned (.tuple #[v0_, .int .i64 r2]) ∧ Kd.R (Kd.int .u8) 5 w' w.heap.size (fun k_ => (w.heap.size ≤ k_)) v0_ r1 ∧ Below w.heap.size w w' := by
  have HO0 := Aside0.mk (show Kd.V (Kd.int .u8) 5 w w.heap.size (fun k_ => ((P0_ k_ ∨ P1_ k_) ∨ w.heap.size ≤ k_)) (.slice A0 l0.length c0) l0 from Kd.V_mono hs0 (fun k_ hk => .inl (.inl hk)))
  have HO1 := Aside0.mk (show Kd.V (Kd.int .u8) 5 w w.heap.size (fun k_ => ((P0_ k_ ∨ P1_ k_) ∨ w.heap.size ≤ k_)) (.slice A1 l1.length c1) l1 from Kd.V_mono hs1 (fun k_ hk => .inl (.inr hk)))
  have HB := Aside0.mk (Below.refl w.heap.size w)
  have H : (if (l0.length : Int) = 256 then (if (l1.length : Int) = 256 then (if a2 < 0 then (some (([] : List Int), 1)) else (if a2 > 256 then (some (([] : List Int), 1)) else (if 0 ≤ a2 then (if a2 ≤ (l1.length : Int) then (if a2 ≤ (l0.length : Int) then ((slices_Concat_byte_byte.f (([(l1.take (a2 : Int).toNat), (l0.drop (a2 : Int).toNat)] : List (List Int)))).bind fun t226 => (some (t226, 0))) else (none)) else (none)) else (none)))) else (some (([] : List Int), 1))) else (some (([] : List Int), 1))) = some (r1, r2) := h
  clear h
  by_cases c4 : (l0.length : Int) = 256
  · rw [if_pos c4] at H
    have c4b0 : ((l0.length : Int) == 256) = true := beq_iff_eq.mpr c4
    have c4b1 : ((l0.length : Int) != 256) = false := bne_eq_false_iff_eq.mpr c4
    clear c4
    by_cases c5 : (l1.length : Int) = 256
    · rw [if_pos c5] at H
      have c5b0 : ((l1.length : Int) == 256) = true := beq_iff_eq.mpr c5
      have c5b1 : ((l1.length : Int) != 256) = false := bne_eq_false_iff_eq.mpr c5
      clear c5
      by_cases c6 : a2 < 0
      · rw [if_pos c6] at H
        have c6b0 : decide (a2 < 0) = true := decide_eq_true c6
        clear c6
        simp only [Option.some.injEq, Prod.mk.injEq] at H
        obtain ⟨rfl, rfl⟩ := H
        go_enter Try.func36, Try.ntmps36
        go_wp2
        go_ret2
        exact ⟨_, by first | rfl | (simp [errW_none, errW_some] <;> rfl) | (simp [*, errW_none, errW_some] <;> rfl), by first | exact Kd.R_nil _ _ _ _ _ | exact Kd.N_nil _ _ _ _ _ | exact Kd.V_nil _ _ _ _ _ | exact Kd.Q_nil _ _ _ _ _ | exact Kd.S_nil _ _ _ _ _, by repeat (first | (with_reducible first | exact HB.out | apply below_alloc | apply pw_below_drewN | apply below_drew1) | exact HB.out)⟩
      · rw [if_neg c6] at H
        have c6b0 : decide (a2 < 0) = false := decide_eq_false c6
        clear c6
        by_cases c7 : a2 > 256
        · rw [if_pos c7] at H
          have c7b0 : decide (256 < a2) = true := decide_eq_true c7
          clear c7
          simp only [Option.some.injEq, Prod.mk.injEq] at H
          obtain ⟨rfl, rfl⟩ := H
          go_enter Try.func36, Try.ntmps36
          go_wp2
          go_ret2
          exact ⟨_, by first | rfl | (simp [errW_none, errW_some] <;> rfl) | (simp [*, errW_none, errW_some] <;> rfl), by first | exact Kd.R_nil _ _ _ _ _ | exact Kd.N_nil _ _ _ _ _ | exact Kd.V_nil _ _ _ _ _ | exact Kd.Q_nil _ _ _ _ _ | exact Kd.S_nil _ _ _ _ _, by repeat (first | (with_reducible first | exact HB.out | apply below_alloc | apply pw_below_drewN | apply below_drew1) | exact HB.out)⟩
        · rw [if_neg c7] at H
          have c7b0 : decide (256 < a2) = false := decide_eq_false c7
          clear c7
          by_cases c8 : 0 ≤ a2
          · rw [if_pos c8] at H
            have c8b0 := eq_true c8
            have c8b1 : decide (0 ≤ a2) = true := decide_eq_true c8
            clear c8
            by_cases c9 : a2 ≤ (l1.length : Int)
            · rw [if_pos c9] at H
              have c9b0 := eq_true c9
              have c9b1 : decide (a2 ≤ (l1.length : Int)) = true := decide_eq_true c9
              clear c9
              obtain ⟨y213, hy213⟩ : ∃ y_ : List Int, y_ = (l1.take (a2 : Int).toNat) := ⟨_, rfl⟩
              replace H : (if a2 ≤ (l0.length : Int) then ((slices_Concat_byte_byte.f (([y213, (l0.drop (a2 : Int).toNat)] : List (List Int)))).bind fun t226 => (some (t226, 0))) else (none)) = some (r1, r2) := by first | (rw [hy213]; with_reducible exact H) | (have H2_ := (Option.bind_some _ _).symm.trans H; rw [hy213]; with_reducible exact H2_) | (have H2_ := (Option.bind_some _ _).symm.trans H; with_reducible exact H2_) | with_reducible exact H | (rw [hy213]; exact H) | exact H
              have Ny213 := Aside0.mk hy213
              clear hy213
              have c10b0 := eq_true (of_decide_eq_true (by first | (with_reducible assumption) | assumption) : 0 ≤ a2)
              by_cases c11 : a2 ≤ (l0.length : Int)
              · rw [if_pos c11] at H
                have c11b0 := eq_true c11
                have c11b1 : decide (a2 ≤ (l0.length : Int)) = true := decide_eq_true c11
                clear c11
                obtain ⟨y218, hy218⟩ : ∃ y_ : List Int, y_ = (l0.drop (a2 : Int).toNat) := ⟨_, rfl⟩
                replace H : ((slices_Concat_byte_byte.f (([y213, y218] : List (List Int)))).bind fun t226 => (some (t226, 0))) = some (r1, r2) := by first | (rw [hy218]; with_reducible exact H) | (have H2_ := (Option.bind_some _ _).symm.trans H; rw [hy218]; with_reducible exact H2_) | (have H2_ := (Option.bind_some _ _).symm.trans H; with_reducible exact H2_) | with_reducible exact H | (rw [hy218]; exact H) | exact H
                have Ny218 := Aside0.mk hy218
                clear hy218
                obtain ⟨y223, hy223⟩ : ∃ y_ : List (List Int), y_ = (([y213, y218] : List (List Int))) := ⟨_, rfl⟩
                replace H : ((slices_Concat_byte_byte.f y223).bind fun t226 => (some (t226, 0))) = some (r1, r2) := by first | (rw [hy223]; with_reducible exact H) | (have H2_ := (Option.bind_some _ _).symm.trans H; rw [hy223]; with_reducible exact H2_) | (have H2_ := (Option.bind_some _ _).symm.trans H; with_reducible exact H2_) | with_reducible exact H | (rw [hy223]; exact H) | exact H
                have Ny223 := Aside0.mk hy223
                clear hy223
                replace H := Option.bind_eq_some_iff.mp H
                obtain ⟨t226, A120, H⟩ := H
                replace H : (some (t226, 0)) = some (r1, r2) := H
                have A12 := Aside0.mk A120
                clear A120
                simp only [Option.some.injEq, Prod.mk.injEq] at H
                obtain ⟨rfl, rfl⟩ := H
                go_enter Try.func36, Try.ntmps36
                try go_wp2
                have n0_ := Aside0.mk (Kd.V_drew HO0.out)
                have n1_ := Aside0.mk (Kd.V_drew HO1.out)
                have n2_ := Aside0.mk (below_drew1 HB.out)
                clear HO0
                clear HO1
                clear HB
                have HO0 := n0_
                have HO1 := n1_
                have HB := n2_
                clear n0_ n1_ n2_
                have q14 : (a2 : Int) ≤ ((l1.length : Int) : Int) := of_decide_eq_true (by first | (with_reducible assumption) | assumption)
                obtain ⟨i014, hi014, _, hsz14, _⟩ := info_parts info5
                have hroom14 : l1.length ≤ c1 := (Kd.V_reads' HO1.out).2.1
                have hC14 : Kd.F (Kd.int .u8) _ _ A1 l1.length l1 := (Kd.V_at (base := w.heap.size) HO1.out).2.2
                have hcut14 := cut_to (P := Try.prog) 22 5 .i64 Try.underlying22 hi014 A1 l1.length c1 a2 (of_decide_eq_true (by first | (with_reducible assumption) | assumption)) q14 hroom14
                have hr14 := Kd.F_take (m := (a2 : Int).toNat) hC14 (by omega)
                have hy14 : y213.length = (a2 : Int).toNat := (by rw [Ny213.out, List.length_take]; omega)
                rw [← Ny213.out] at hr14
                rw [← hy14] at hcut14
                have HO217 := Aside0.mk (show Kd.V (Kd.int .u8) 5 _ w.heap.size _ (.slice A1 y213.length c1) y213 from Kd.V_mk (by omega) hr14)
                have HC217 := Aside0.mk (show y213.length ≤ c1 from by omega)
                clear hr14 hC14 hroom14 hi014 hsz14
                have KY14 := Aside0.mk hy14
                clear hy14
                replace q14 := eq_true q14
                have q15 : (a2 : Int) ≤ ((l0.length : Int) : Int) := of_decide_eq_true (by first | (with_reducible assumption) | assumption)
                obtain ⟨i015, hi015, _, hsz15, _⟩ := info_parts info5
                have hroom15 : l0.length ≤ c0 := (Kd.V_reads' HO0.out).2.1
                have hC15 : Kd.F (Kd.int .u8) _ _ A0 l0.length l0 := (Kd.V_at (base := w.heap.size) HO0.out).2.2
                have q015 : (0 : Int) ≤ (a2 : Int) := of_decide_eq_true (by first | (with_reducible assumption) | assumption)
                have hcut15 := cut_from (P := Try.prog) 22 5 .i64 Try.underlying22 hi015 1 hsz15 A0 l0.length c0 a2 q015 q15
                have hr15 := Kd.F_cut (m := (a2 : Int).toNat) (c := c0) hC15 (by omega) hroom15
                obtain ⟨A15, hA15⟩ : ∃ A1, A1 = (if c0 = (a2 : Int).toNat then A0 else (A0 : Option Addr).map (·.add ((a2 : Int).toNat * 1))) := ⟨_, rfl⟩
                obtain ⟨c15, hc15⟩ : ∃ c1, c1 = c0 - (a2 : Int).toNat := ⟨_, rfl⟩
                have hy15 : y218.length = l0.length - (a2 : Int).toNat := (by rw [Ny218.out, List.length_drop] <;> omega)
                rw [show (l0).drop (a2 : Int).toNat = y218 from Ny218.out.symm] at hr15
                replace hr15 : Kd.F (Kd.int .u8) _ _ A15 y218.length y218 := (by rw [hA15]; exact hr15)
                rw [← hy15, ← hA15, ← hc15] at hcut15
                have HO222 := Aside0.mk (show Kd.V (Kd.int .u8) 5 _ w.heap.size _ (.slice A15 y218.length c15) y218 from Kd.V_mk (by rw [hy15, hc15]; exact Nat.sub_le_sub_right hroom15 _) hr15)
                have HC222 := Aside0.mk (show y218.length ≤ c15 from by rw [hy15, hc15]; exact Nat.sub_le_sub_right hroom15 _)
                clear hr15 hC15 hroom15 hi015 hsz15 hc15
                have KY15 := Aside0.mk hy15
                have KA15 := Aside0.mk hA15
                clear hy15 hA15
                replace q15 := eq_true q15
                refine start_ (n := 10) (S := fun w' => True) (ds := []) #[false, false, false, false, false, false, false, false, false, false] (by kernel_rfl) rfl rfl trivial (fun hHeld => ?_); refine with_tabW frame_Part.tab3 frame_Part.bits3 (fun HT_ HW_ => ?_)
                generalize w.drew = w13 at HO0 HO1 HB HO217 HO222 hHeld ⊢
                refine pure_ (i := 0) (N := some 24) (v := ?_) (a' := ?_) #[true, false, false, false, false, false, false, false, false, false] rfl rfl (any_of HT_.out (by kernel_rfl)) (fun _ _ _ h => h) (Or.inl ⟨by rfl, ?_⟩) ?_ ?_
                rotate_left
                · intro w'
                  go_simp
                  with_reducible rfl
                rotate_left
                · simp only [Act.put, List.setIfInBounds_toArray, List.set_cons_zero, List.set_cons_succ, i64_w, i32_w]
                  rfl
                refine pure_ (i := 1) (N := some 25) (v := ?_) (a' := ?_) #[true, true, false, false, false, false, false, false, false, false] rfl rfl (any_of HT_.out (by kernel_rfl)) (fun _ _ _ h => h) (Or.inl ⟨by rfl, ?_⟩) ?_ ?_
                rotate_left
                · intro w'
                  go_simp
                  with_reducible rfl
                rotate_left
                · simp only [Act.put, List.setIfInBounds_toArray, List.set_cons_zero, List.set_cons_succ, i64_w, i32_w]
                  rfl
                refine pure_ (i := 2) (N := some 26) (v := ?_) (a' := ?_) #[true, true, true, false, false, false, false, false, false, false] rfl rfl (any_of HT_.out (by kernel_rfl)) (fun _ _ _ h => h) (Or.inl ⟨by rfl, ?_⟩) ?_ ?_
                rotate_left
                · intro w'
                  go_simp
                  with_reducible rfl
                rotate_left
                · simp only [Act.put, List.setIfInBounds_toArray, List.set_cons_zero, List.set_cons_succ, i64_w, i32_w]
                  rfl
                refine pure_ (i := 3) (N := some 27) (v := ?_) (a' := ?_) #[true, true, true, true, false, false, false, false, false, false] rfl rfl (any_of HT_.out (by kernel_rfl)) (fun _ _ _ h => h) (Or.inl ⟨by rfl, ?_⟩) ?_ ?_
                rotate_left
                · intro w'
                  go_simp
                  with_reducible rfl
                rotate_left
                · simp only [Act.put, List.setIfInBounds_toArray, List.set_cons_zero, List.set_cons_succ, i64_w, i32_w]
                  rfl
                refine pure_ (i := 4) (N := some 28) (v := ?_) (a' := ?_) #[true, true, true, true, true, false, false, false, false, false] rfl rfl (any_of HT_.out (by kernel_rfl)) (fun _ _ _ h => h) (Or.inl ⟨by rfl, ?_⟩) ?_ ?_
                rotate_left
                · intro w'
                  go_simp
                  with_reducible rfl
                rotate_left
                · simp only [Act.put, List.setIfInBounds_toArray, List.set_cons_zero, List.set_cons_succ, i64_w, i32_w]
                  rfl
                refine pure_ (i := 5) (N := some 29) (v := ?_) (a' := ?_) #[true, true, true, true, true, true, false, false, false, false] rfl rfl (any_of HT_.out (by kernel_rfl)) (fun _ _ _ h => h) (Or.inl ⟨by rfl, ?_⟩) ?_ ?_
                rotate_left
                · intro w'
                  go_simp
                  with_reducible rfl
                rotate_left
                · simp only [Act.put, List.setIfInBounds_toArray, List.set_cons_zero, List.set_cons_succ, i64_w, i32_w]
                  rfl
                refine one_ (i := 6) (N := some 30) #[true, true, true, true, true, true, true, false, false, false] rfl rfl (one_of HT_.out (by kernel_rfl)) (by decide) (fun K hK => ?_)
                refine Kd.N_lit_step (Kd.slice 5 (Kd.int .u8)) _ 22 ?hg (N' := 30) ?hd (xs := ([y213, y218] : List (List Int))) (inner := [.slice A1 y213.length c1, .slice A15 y218.length c15]) (ok := (fun k_ => ((P0_ k_ ∨ P1_ k_) ∨ w.heap.size ≤ k_))) (okp := (fun k_ => ((P0_ k_ ∨ P1_ k_) ∨ w.heap.size ≤ k_))) ?hr ?hp (fun _ hk => hk) ((show ∀ k_, w13.heap.size ≤ k_ → (fun k_ => ((P0_ k_ ∨ P1_ k_) ∨ w.heap.size ≤ k_)) k_ from fun k_ hk => (.inr (Nat.le_trans (below_size (by repeat (first | (with_reducible first | exact HB.out | apply below_alloc | apply pw_below_drewN | apply below_drew1) | exact HB.out))) hk))) _ (Nat.le_refl _)) (Below.refl _ _) (Nat.le_refl _) (by simp) ?_; (case hd => rfl); (case hg => rfl); (case hr => first | (go_simp; done) | (go_simp; rfl)); (case hp => exact (Reps.one (show Kd.FK (Kd.slice 5 (Kd.int .u8)) _ _ y213 [.slice A1 y213.length c1] from (Kd.FK_slice_mk (Kd.V_reads' (Kd.V_mono (ok' := (fun k_ => ((P0_ k_ ∨ P1_ k_) ∨ w.heap.size ≤ k_))) (HO217.out) (fun k_ hk => hk))).2.1 (Kd.V_F (Kd.V_mono (ok' := (fun k_ => ((P0_ k_ ∨ P1_ k_) ∨ w.heap.size ≤ k_))) (HO217.out) (fun k_ hk => hk))))) (Reps.one (show Kd.FK (Kd.slice 5 (Kd.int .u8)) _ _ y218 [.slice A15 y218.length c15] from (Kd.FK_slice_mk (Kd.V_reads' (Kd.V_mono (ok' := (fun k_ => ((P0_ k_ ∨ P1_ k_) ∨ w.heap.size ≤ k_))) (HO222.out) (fun k_ hk => hk))).2.1 (Kd.V_F (Kd.V_mono (ok' := (fun k_ => ((P0_ k_ ∨ P1_ k_) ∨ w.heap.size ≤ k_))) (HO222.out) (fun k_ hk => hk))))) (Reps.none _ _))))
                intro v224 w16 ho17 hb hg_ hnew_
                clear hg_ hnew_
                (first | rw [← Ny223.out] at ho17 | (simp only [Int.reduceToNat] at ho17; rw [← Ny223.out] at ho17))
                have n0_ := Aside0.mk (Kd.V_elder' (by (with_reducible repeat (first | apply Kd.V_alloc | apply Kd.V_drewN | apply Kd.V_drew)); exact HO0.out) (Kd.N_base ho17) hb)
                have n1_ := Aside0.mk (Kd.V_elder' (by (with_reducible repeat (first | apply Kd.V_alloc | apply Kd.V_drewN | apply Kd.V_drew)); exact HO1.out) (Kd.N_base ho17) hb)
                have n2_ := Aside0.mk (Kd.V_elder' (by (with_reducible repeat (first | apply Kd.V_alloc | apply Kd.V_drewN | apply Kd.V_drew)); exact HO217.out) (Kd.N_base ho17) hb)
                have n3_ := Aside0.mk (Kd.V_elder' (by (with_reducible repeat (first | apply Kd.V_alloc | apply Kd.V_drewN | apply Kd.V_drew)); exact HO222.out) (Kd.N_base ho17) hb)
                have n4_ := Aside0.mk (Kd.N_lower ho17 (below_size (by repeat (first | (with_reducible first | exact HB.out | apply below_alloc | apply pw_below_drewN | apply below_drew1) | exact HB.out))))
                have n5_ := Aside0.mk (below_step (by repeat (first | (with_reducible first | exact HB.out | apply below_alloc | apply pw_below_drewN | apply below_drew1) | exact HB.out)) hb)
                clear HO0
                clear HO1
                clear HO217
                clear HO222
                clear HB
                have HO0 := n0_
                have HO1 := n1_
                have HO217 := n2_
                have HO222 := n3_
                have HO225 := n4_
                have HB := n5_
                clear n0_ n1_ n2_ n3_ n4_ n5_
                clear hb ho17
                obtain ⟨Ao18, co18, eo18⟩ := Kd.N_slice HO225.out
                (first | subst eo18 | (injection eo18 with f1_ f2_ f3_; have f4_ := f1_.symm; have f5_ := f3_.symm; clear f1_ f2_ f3_; subst f4_; subst f5_))
                refine hK.out _ _ trivial (fun hHeld => ?_)
                clear hK K
                refine norm_ (a' := ?_) ?_ ?_
                rotate_left
                · show Act.put _ (some 30) _ = _
                  simp only [Act.put, List.setIfInBounds_toArray, List.set_cons_zero, List.set_cons_succ, i64_w, i32_w]
                  rfl
                refine one_ (i := 7) (N := some 31) #[true, true, true, true, true, true, true, true, false, false] rfl rfl (one_of HT_.out (by kernel_rfl)) (by decide) (fun K hK => ?_)
                refine goes_ Try.func49 (by kernel_rfl) rfl #[.slice Ao18 y223.length co18] (by rfl) rfl rfl (by (try simp only [List.map_toArray, List.map_cons, List.map_nil]); first | done | rfl | (simp only [List.length_drop, List.length_take]; rfl)) ?_
                with_reducible refine (slices_Concat_byte_byte.calls _ _ y223 t226 _ ?side1 ?side2 A12.out).mono ?_
                (case side1 => repeat (first | exact (Kd.N_reads' HO225.out).2.2 | (with_reducible refine Kd.C_alloc ?_ _) | (with_reducible refine Kd.C_drewN ?_ _) | (with_reducible refine Kd.C_drew ?_)))
                (case side2 => exact (Kd.N_reads' HO225.out).2.1)
                rintro e w19 ⟨v227, rfl, ho0, hb⟩
                refine ⟨_, rfl, ?_⟩
                have n0_ := Aside0.mk (Kd.V_elder' (by (with_reducible repeat (first | apply Kd.V_alloc | apply Kd.V_drewN | apply Kd.V_drew)); exact HO0.out) (Kd.R_base ho0) hb)
                have n1_ := Aside0.mk (Kd.V_elder' (by (with_reducible repeat (first | apply Kd.V_alloc | apply Kd.V_drewN | apply Kd.V_drew)); exact HO1.out) (Kd.R_base ho0) hb)
                have n2_ := Aside0.mk (Kd.V_elder' (by (with_reducible repeat (first | apply Kd.V_alloc | apply Kd.V_drewN | apply Kd.V_drew)); exact HO217.out) (Kd.R_base ho0) hb)
                have n3_ := Aside0.mk (Kd.V_elder' (by (with_reducible repeat (first | apply Kd.V_alloc | apply Kd.V_drewN | apply Kd.V_drew)); exact HO222.out) (Kd.R_base ho0) hb)
                have n4_ := Aside0.mk (Kd.N_elder' (by (with_reducible repeat (first | apply Kd.N_alloc | apply Kd.N_drewN | apply Kd.N_drew)); exact HO225.out) (Kd.R_base ho0) hb)
                have n5_ := Aside0.mk (Kd.R_lower (Kd.R_newM (M := fun k_ => (w.heap.size ≤ k_)) ho0 (below_size (by repeat (first | (with_reducible first | exact HB.out | apply below_alloc | apply pw_below_drewN | apply below_drew1) | exact HB.out))) (fun k_ h_ => h_)) (below_size (by repeat (first | (with_reducible first | exact HB.out | apply below_alloc | apply pw_below_drewN | apply below_drew1) | exact HB.out))))
                have n6_ := Aside0.mk (below_step (by repeat (first | (with_reducible first | exact HB.out | apply below_alloc | apply pw_below_drewN | apply below_drew1) | exact HB.out)) hb)
                clear HO0
                clear HO1
                clear HO217
                clear HO222
                clear HO225
                clear HB
                have HO0 := n0_
                have HO1 := n1_
                have HO217 := n2_
                have HO222 := n3_
                have HO225 := n4_
                have HO228 := n5_
                have HB := n6_
                clear n0_ n1_ n2_ n3_ n4_ n5_ n6_
                (try clear hb)
                (try clear hb2)
                (try clear hk)
                (try clear hi)
                (try clear ho0)
                refine hK.out _ _ trivial (fun hHeld => ?_)
                clear hK K
                refine norm_ (a' := ?_) ?_ ?_
                rotate_left
                · show Act.put _ (some 31) _ = _
                  simp only [Act.put, List.setIfInBounds_toArray, List.set_cons_zero, List.set_cons_succ, i64_w, i32_w]
                  rfl
                refine pure_ (i := 8) (N := some 6) (v := ?_) (a' := ?_) #[true, true, true, true, true, true, true, true, true, false] rfl rfl (any_of HT_.out (by kernel_rfl)) (fun _ _ _ h => h) (Or.inl ⟨by rfl, ?_⟩) ?_ ?_
                rotate_left
                · intro w'
                  go_simp
                  with_reducible rfl
                rotate_left
                · simp only [Act.put, List.setIfInBounds_toArray, List.set_cons_zero, List.set_cons_succ, i64_w, i32_w]
                  rfl
                refine pure_ (i := 9) (N := some 7) (v := ?_) (a' := ?_) #[true, true, true, true, true, true, true, true, true, true] rfl rfl (any_of HT_.out (by kernel_rfl)) (fun _ _ _ h => h) (Or.inl ⟨by rfl, ?_⟩) ?_ ?_
                rotate_left
                · intro w'
                  go_simp
                  with_reducible rfl
                rotate_left
                · simp only [Act.put, List.setIfInBounds_toArray, List.set_cons_zero, List.set_cons_succ, i64_w, i32_w]
                  rfl
                refine done_ (done_of HT_.out (by kernel_rfl)) ?_
                try go_wp2
                go_ret2
                exact ⟨_, by first | rfl | (simp [errW_none, errW_some] <;> rfl) | (simp [*, errW_none, errW_some] <;> rfl), by (with_reducible repeat (first | apply Kd.R_alloc | apply Kd.R_drewN | apply Kd.R_drew)); exact Kd.R_mono HO228.out (fun _ hk => hk.1), by repeat (first | (with_reducible first | exact HB.out | apply below_alloc | apply pw_below_drewN | apply below_drew1) | exact HB.out)⟩
              · rw [if_neg c11] at H
                exact absurd H (by simp)
            · rw [if_neg c9] at H
              exact absurd H (by simp)
          · rw [if_neg c8] at H
            exact absurd H (by simp)
    · rw [if_neg c5] at H
      have c5b0 : ((l1.length : Int) == 256) = false := beq_eq_false_iff_ne.mpr c5
      have c5b1 : ((l1.length : Int) != 256) = true := bne_iff_ne.mpr c5
      simp only [Option.some.injEq, Prod.mk.injEq] at H
      obtain ⟨rfl, rfl⟩ := H
      go_enter Try.func36, Try.ntmps36
      go_wp2
      go_ret2
      exact ⟨_, by first | rfl | (simp [errW_none, errW_some] <;> rfl) | (simp [*, errW_none, errW_some] <;> rfl), by first | exact Kd.R_nil _ _ _ _ _ | exact Kd.N_nil _ _ _ _ _ | exact Kd.V_nil _ _ _ _ _ | exact Kd.Q_nil _ _ _ _ _ | exact Kd.S_nil _ _ _ _ _, by repeat (first | (with_reducible first | exact HB.out | apply below_alloc | apply pw_below_drewN | apply below_drew1) | exact HB.out)⟩
  · rw [if_neg c4] at H
    have c4b0 : ((l0.length : Int) == 256) = false := beq_eq_false_iff_ne.mpr c4
    have c4b1 : ((l0.length : Int) != 256) = true := bne_iff_ne.mpr c4
    simp only [Option.some.injEq, Prod.mk.injEq] at H
    obtain ⟨rfl, rfl⟩ := H
    go_enter Try.func36, Try.ntmps36
    go_wp2
    go_ret2
    exact ⟨_, by first | rfl | (simp [errW_none, errW_some] <;> rfl) | (simp [*, errW_none, errW_some] <;> rfl), by first | exact Kd.R_nil _ _ _ _ _ | exact Kd.N_nil _ _ _ _ _ | exact Kd.V_nil _ _ _ _ _ | exact Kd.Q_nil _ _ _ _ _ | exact Kd.S_nil _ _ _ _ _, by repeat (first | (with_reducible first | exact HB.out | apply below_alloc | apply pw_below_drewN | apply below_drew1) | exact HB.out)⟩

-- NOT PRINTED: function 18 (disk_Disk_Crash)

-- NOT PRINTED: function 7 (bobbinlaw09_MasterEither)

-- NOT PRINTED: function 20 (disk_Disk_Waits)

-- NOT PRINTED: function 8 (bobbinlaw09_MasterWrites)

end Go.Proofs.Ytfaflgdhffkaiaa.Print
