-- Written by a program of this session (myprint.py over the kit's print.py) out of the translation. Not trusted: Lean checks it.
import Derived.Test.YtoklljioloekmaaPrint0
import Derived.Test.YtoklljioloekmaaPrint2
import Derived.Test.YtoklljioloekmaaPrint3
namespace Go.Proofs.Ytoklljioloekmaa.Print
open Go.RowKit Go.Proofs.YtoklljioloekmaaW.PrintWords Go.Proofs.YtoklljioloekmaaW.PrintLast Go.Proofs.YtoklljioloekmaaW.PrintMore
attribute [local go_sem] max2_int min2_int max_two min_two max_three min_three max_four min_four   -- for this text's walks alone
set_option linter.unusedVariables false
set_option linter.unusedSimpArgs false

/-! ### bobbinlaw16_ClockRound: function 5 -/
mutual
def bobbinlaw16_ClockRound.j0 : Nat → Int → Int → Bool → Bool → Option (Bool)
  | 0, _, _, _, _ => none
  | k + 1, x0, x1, x5, x33 => if x33 = true then (some x5) else (bobbinlaw16_ClockRound.l0 k x0 x1 0 0 ([] : List (S32)))
def bobbinlaw16_ClockRound.l0 : Nat → Int → Int → Int → Int → List (S32) → Option (Bool)
  | 0, _, _, _, _, _ => none
  | k + 1, x0, x1, x7, x162000, x162001 => if x7 < x0 then ((clock_Admit.f k x162000 x162001 x0 (wrap64 (x1 + x7))).bind fun bt162 => (if bt162.2.2.2 = 0 then (if bt162.2.2.1 = (-1) then (bobbinlaw16_ClockRound.l0 k x0 x1 (wrap64 (x7 + 1)) bt162.1 bt162.2.1) else (some false)) else (some false))) else (bobbinlaw16_ClockRound.l1 k x0 x1 0 x162000 x162001)
def bobbinlaw16_ClockRound.l1 : Nat → Int → Int → Int → Int → List (S32) → Option (Bool)
  | 0, _, _, _, _, _ => none
  | k + 1, x0, x1, x11, x162000, x162001 => if x11 < x0 then ((clock_Has.f k x162000 x162001 (wrap64 (x1 + x11))).bind fun t169 => (if t169 = true then (bobbinlaw16_ClockRound.l1 k x0 x1 (wrap64 (x11 + 1)) x162000 x162001) else (some false))) else ((clock_Admit.f k x162000 x162001 x0 (wrap64 (x1 + x0))).bind fun bt170 => (if bt170.2.2.2 = 0 then (some (bt170.2.2.1 == x1)) else (some false)))
end
theorem bobbinlaw16_ClockRound.j0_eq : ∀ (k : Nat) x0 x1 x5 x33, bobbinlaw16_ClockRound.j0 (k + 1) x0 x1 x5 x33 = (if x33 = true then (some x5) else (bobbinlaw16_ClockRound.l0 k x0 x1 0 0 ([] : List (S32)))) := fun _ _ _ _ _ => rfl
theorem bobbinlaw16_ClockRound.l0_eq : ∀ (k : Nat) x0 x1 x7 x162000 x162001, bobbinlaw16_ClockRound.l0 (k + 1) x0 x1 x7 x162000 x162001 = (if x7 < x0 then ((clock_Admit.f k x162000 x162001 x0 (wrap64 (x1 + x7))).bind fun bt162 => (if bt162.2.2.2 = 0 then (if bt162.2.2.1 = (-1) then (bobbinlaw16_ClockRound.l0 k x0 x1 (wrap64 (x7 + 1)) bt162.1 bt162.2.1) else (some false)) else (some false))) else (bobbinlaw16_ClockRound.l1 k x0 x1 0 x162000 x162001)) := fun _ _ _ _ _ _ => rfl
theorem bobbinlaw16_ClockRound.l1_eq : ∀ (k : Nat) x0 x1 x11 x162000 x162001, bobbinlaw16_ClockRound.l1 (k + 1) x0 x1 x11 x162000 x162001 = (if x11 < x0 then ((clock_Has.f k x162000 x162001 (wrap64 (x1 + x11))).bind fun t169 => (if t169 = true then (bobbinlaw16_ClockRound.l1 k x0 x1 (wrap64 (x11 + 1)) x162000 x162001) else (some false))) else ((clock_Admit.f k x162000 x162001 x0 (wrap64 (x1 + x0))).bind fun bt170 => (if bt170.2.2.2 = 0 then (some (bt170.2.2.1 == x1)) else (some false)))) := fun _ _ _ _ _ _ => rfl
def bobbinlaw16_ClockRound.f (k : Nat) (a0 : Int) (a1 : Int) : Option (Bool) := (bobbinlaw16_awake.f k).bind fun t160 => (if t160 = true then (if a0 < 1 then (bobbinlaw16_ClockRound.j0 k a0 a1 t160 true) else (if a0 > 16 then (bobbinlaw16_ClockRound.j0 k a0 a1 t160 true) else (if a1 < 0 then (bobbinlaw16_ClockRound.j0 k a0 a1 t160 true) else (bobbinlaw16_ClockRound.j0 k a0 a1 t160 (decide (a1 > 200)))))) else (bobbinlaw16_ClockRound.j0 k a0 a1 t160 true))
theorem bobbinlaw16_ClockRound.mono_l : ∀ k, (∀ y0 y1 y2 y3, LeO (bobbinlaw16_ClockRound.j0 k y0 y1 y2 y3) (bobbinlaw16_ClockRound.j0 (k + 1) y0 y1 y2 y3)) ∧ (∀ y0 y1 y2 y3 y4, LeO (bobbinlaw16_ClockRound.l0 k y0 y1 y2 y3 y4) (bobbinlaw16_ClockRound.l0 (k + 1) y0 y1 y2 y3 y4)) ∧ (∀ y0 y1 y2 y3 y4, LeO (bobbinlaw16_ClockRound.l1 k y0 y1 y2 y3 y4) (bobbinlaw16_ClockRound.l1 (k + 1) y0 y1 y2 y3 y4))
  | 0 => ⟨fun _ _ _ _ r h => by first | (cases h; done) | simp [bobbinlaw16_ClockRound.j0] at h, fun _ _ _ _ _ r h => by first | (cases h; done) | simp [bobbinlaw16_ClockRound.l0] at h, fun _ _ _ _ _ r h => by first | (cases h; done) | simp [bobbinlaw16_ClockRound.l1] at h⟩
  | k + 1 => by
    obtain ⟨ih0, ih1, ih2⟩ := bobbinlaw16_ClockRound.mono_l k
    refine ⟨?_, ?_, ?_⟩
    · intro y0 y1 y2 y3
      unfold bobbinlaw16_ClockRound.j0
      repeat' first
      | (with_reducible exact ih0 _ _ _ _)
      | (with_reducible exact ih1 _ _ _ _ _)
      | (with_reducible exact ih2 _ _ _ _ _)
      | (with_reducible exact bobbinlaw16_awake.mono _)
      | (with_reducible exact clock_Admit.mono _ _ _ _ _)
      | (with_reducible exact clock_Has.mono _ _ _ _)
      | (with_reducible exact LeO.refl _)
      | (with_reducible exact LeO.none _)
      | (with_reducible refine LeO.ite ?_ ?_)
      | (with_reducible refine LeO.bind ?_ (fun _ => ?_))
      | exact ih0 _ _ _ _
      | exact ih1 _ _ _ _ _
      | exact ih2 _ _ _ _ _
      | exact bobbinlaw16_awake.mono _
      | exact clock_Admit.mono _ _ _ _ _
      | exact clock_Has.mono _ _ _ _
      | exact LeO.none _
      | refine LeO.ite ?_ ?_
      | refine LeO.bind ?_ (fun _ => ?_)
    · intro y0 y1 y2 y3 y4
      unfold bobbinlaw16_ClockRound.l0
      repeat' first
      | (with_reducible exact ih0 _ _ _ _)
      | (with_reducible exact ih1 _ _ _ _ _)
      | (with_reducible exact ih2 _ _ _ _ _)
      | (with_reducible exact bobbinlaw16_awake.mono _)
      | (with_reducible exact clock_Admit.mono _ _ _ _ _)
      | (with_reducible exact clock_Has.mono _ _ _ _)
      | (with_reducible exact LeO.refl _)
      | (with_reducible exact LeO.none _)
      | (with_reducible refine LeO.ite ?_ ?_)
      | (with_reducible refine LeO.bind ?_ (fun _ => ?_))
      | exact ih0 _ _ _ _
      | exact ih1 _ _ _ _ _
      | exact ih2 _ _ _ _ _
      | exact bobbinlaw16_awake.mono _
      | exact clock_Admit.mono _ _ _ _ _
      | exact clock_Has.mono _ _ _ _
      | exact LeO.none _
      | refine LeO.ite ?_ ?_
      | refine LeO.bind ?_ (fun _ => ?_)
    · intro y0 y1 y2 y3 y4
      unfold bobbinlaw16_ClockRound.l1
      repeat' first
      | (with_reducible exact ih0 _ _ _ _)
      | (with_reducible exact ih1 _ _ _ _ _)
      | (with_reducible exact ih2 _ _ _ _ _)
      | (with_reducible exact bobbinlaw16_awake.mono _)
      | (with_reducible exact clock_Admit.mono _ _ _ _ _)
      | (with_reducible exact clock_Has.mono _ _ _ _)
      | (with_reducible exact LeO.refl _)
      | (with_reducible exact LeO.none _)
      | (with_reducible refine LeO.ite ?_ ?_)
      | (with_reducible refine LeO.bind ?_ (fun _ => ?_))
      | exact ih0 _ _ _ _
      | exact ih1 _ _ _ _ _
      | exact ih2 _ _ _ _ _
      | exact bobbinlaw16_awake.mono _
      | exact clock_Admit.mono _ _ _ _ _
      | exact clock_Has.mono _ _ _ _
      | exact LeO.none _
      | refine LeO.ite ?_ ?_
      | refine LeO.bind ?_ (fun _ => ?_)
theorem bobbinlaw16_ClockRound.mono : ∀ a0 a1 k, LeO (bobbinlaw16_ClockRound.f k a0 a1) (bobbinlaw16_ClockRound.f (k + 1) a0 a1) := by
  intro a0 a1 k
  obtain ⟨ih0, ih1, ih2⟩ := bobbinlaw16_ClockRound.mono_l k
  unfold bobbinlaw16_ClockRound.f
  repeat' first
      | (with_reducible exact ih0 _ _ _ _)
      | (with_reducible exact ih1 _ _ _ _ _)
      | (with_reducible exact ih2 _ _ _ _ _)
      | (with_reducible exact bobbinlaw16_awake.mono _)
      | (with_reducible exact clock_Admit.mono _ _ _ _ _)
      | (with_reducible exact clock_Has.mono _ _ _ _)
      | (with_reducible exact LeO.refl _)
      | (with_reducible exact LeO.none _)
      | (with_reducible refine LeO.ite ?_ ?_)
      | (with_reducible refine LeO.bind ?_ (fun _ => ?_))
      | exact ih0 _ _ _ _
      | exact ih1 _ _ _ _ _
      | exact ih2 _ _ _ _ _
      | exact bobbinlaw16_awake.mono _
      | exact clock_Admit.mono _ _ _ _ _
      | exact clock_Has.mono _ _ _ _
      | exact LeO.none _
      | refine LeO.ite ?_ ?_
      | refine LeO.bind ?_ (fun _ => ?_)
set_option maxHeartbeats 8000000 in
set_option maxRecDepth 100000 in
theorem bobbinlaw16_ClockRound.calls (k : Nat) (a0 : Int) (a1 : Int) (r : Bool) (w : World) (h : bobbinlaw16_ClockRound.f k a0 a1 = some r) :
    Calls Try.prog 5 #[.int .i64 a0, .int .i64 a1] w fun e w' => e = .returned (.bool r) ∧ Below w.heap.size w w' := by
  have hu24 := Try.underlying24
  have HB := Aside0.mk (Below.refl w.heap.size w)
  have H : ((bobbinlaw16_awake.f k).bind fun t160 => (if t160 = true then (if a0 < 1 then (bobbinlaw16_ClockRound.j0 k a0 a1 t160 true) else (if a0 > 16 then (bobbinlaw16_ClockRound.j0 k a0 a1 t160 true) else (if a1 < 0 then (bobbinlaw16_ClockRound.j0 k a0 a1 t160 true) else (bobbinlaw16_ClockRound.j0 k a0 a1 t160 (decide (a1 > 200)))))) else (bobbinlaw16_ClockRound.j0 k a0 a1 t160 true))) = some r := h
  clear h
  replace H := Option.bind_eq_some_iff.mp H
  obtain ⟨t160, A30, H⟩ := H
  replace H : (if t160 = true then (if a0 < 1 then (bobbinlaw16_ClockRound.j0 k a0 a1 t160 true) else (if a0 > 16 then (bobbinlaw16_ClockRound.j0 k a0 a1 t160 true) else (if a1 < 0 then (bobbinlaw16_ClockRound.j0 k a0 a1 t160 true) else (bobbinlaw16_ClockRound.j0 k a0 a1 t160 (decide (a1 > 200)))))) else (bobbinlaw16_ClockRound.j0 k a0 a1 t160 true)) = some r := H
  have A3 := Aside0.mk A30
  clear A30
  have HC4 := Aside0.mk H
  clear H
  go_enter Try.func5, Try.ntmps5
  go_upto_region 2 with (first | ((with_reducible refine gate_callee (f := 8) rfl ?_); refine goesL_ (some 15) rfl rfl Try.func8 (by kernel_rfl) rfl #[] rfl (by (try simp only [List.map_toArray, List.map_cons, List.map_nil]); first | done | rfl | (simp only [List.length_drop, List.length_take]; rfl)) ?_; (with_reducible refine (bobbinlaw16_awake.calls k  t160 _ A3.out).mono ?_); rintro e w5 ⟨rfl, hb⟩; refine ⟨_, rfl, ?_⟩; have n0_ := Aside0.mk (below_step (by repeat (first | (with_reducible first | exact HB.out | apply below_alloc | apply pw_below_drewN | apply below_drew1) | exact HB.out)) hb); clear HB; have HB := n0_; clear n0_; (try clear hb); (try clear hb2); (try clear hk); (try clear hi)))
  (try simp only [Act.put, List.setIfInBounds_toArray, List.set_cons_zero, List.set_cons_succ])
  go_cut [33] (fun v33 wc => ∃ (kq : Nat) (x33_3 : Bool), v33 = .bool x33_3 ∧ Aside0 (bobbinlaw16_ClockRound.j0 kq a0 a1 t160 x33_3 = some r) ∧ Aside0 (kq ≤ k) ∧ Aside0 (Below w.heap.size w wc))
  case first =>
    have H := HC4.out
    clear HC4
    by_cases c6 : t160 = true
    · subst c6
      have H1 : (if a0 < 1 then (bobbinlaw16_ClockRound.j0 k a0 a1 true true) else (if a0 > 16 then (bobbinlaw16_ClockRound.j0 k a0 a1 true true) else (if a1 < 0 then (bobbinlaw16_ClockRound.j0 k a0 a1 true true) else (bobbinlaw16_ClockRound.j0 k a0 a1 true (decide (a1 > 200)))))) = some r := by rw [if_pos rfl] at H; exact H
      clear H
      have H := H1
      clear H1
      by_cases c7 : a0 < 1
      · rw [if_pos c7] at H
        have c7b0 : decide (a0 < 1) = true := decide_eq_true c7
        clear c7
        (first | rw [c7b0] | (simp only [i64_w, i32_w]; rw [c7b0]) | skip)
        have H' := Aside0.mk H
        clear H
        go_wp2
        go_meet
        case rel => exact ⟨_, (true), (by first | rfl | (simp; done) | (simp [*]; done)), H', ⟨by first | omega | exact Nat.le_refl _⟩, ⟨by repeat (first | (with_reducible first | exact HB.out | apply below_alloc | apply pw_below_drewN | apply below_drew1) | exact HB.out)⟩⟩
      · rw [if_neg c7] at H
        have c7b0 : decide (a0 < 1) = false := decide_eq_false c7
        clear c7
        (first | rw [c7b0] | (simp only [i64_w, i32_w]; rw [c7b0]) | skip)
        by_cases c8 : a0 > 16
        · rw [if_pos c8] at H
          have c8b0 : decide (16 < a0) = true := decide_eq_true c8
          clear c8
          have H' := Aside0.mk H
          clear H
          go_wp2
          go_meet
          case rel => exact ⟨_, (true), (by first | rfl | (simp; done) | (simp [*]; done)), H', ⟨by first | omega | exact Nat.le_refl _⟩, ⟨by repeat (first | (with_reducible first | exact HB.out | apply below_alloc | apply pw_below_drewN | apply below_drew1) | exact HB.out)⟩⟩
        · rw [if_neg c8] at H
          have c8b0 : decide (16 < a0) = false := decide_eq_false c8
          clear c8
          by_cases c9 : a1 < 0
          · rw [if_pos c9] at H
            have c9b0 : decide (a1 < 0) = true := decide_eq_true c9
            clear c9
            have H' := Aside0.mk H
            clear H
            go_wp2
            go_meet
            case rel => exact ⟨_, (true), (by first | rfl | (simp; done) | (simp [*]; done)), H', ⟨by first | omega | exact Nat.le_refl _⟩, ⟨by repeat (first | (with_reducible first | exact HB.out | apply below_alloc | apply pw_below_drewN | apply below_drew1) | exact HB.out)⟩⟩
          · rw [if_neg c9] at H
            have c9b0 : decide (a1 < 0) = false := decide_eq_false c9
            clear c9
            have H' := Aside0.mk H
            clear H
            go_wp2
            go_meet
            case rel => exact ⟨_, (decide (a1 > 200)), (by first | rfl | (simp; done) | (simp [*]; done)), H', ⟨by first | omega | exact Nat.le_refl _⟩, ⟨by repeat (first | (with_reducible first | exact HB.out | apply below_alloc | apply pw_below_drewN | apply below_drew1) | exact HB.out)⟩⟩
    · replace c6 := Bool.eq_false_iff.mpr c6
      subst c6
      have H1 : (bobbinlaw16_ClockRound.j0 k a0 a1 false true) = some r := by rw [if_neg (show ¬ (false = true) by decide)] at H; exact H
      clear H
      have H := H1
      clear H1
      have H' := Aside0.mk H
      clear H
      go_wp2
      go_meet
      case rel => exact ⟨_, (true), (by first | rfl | (simp; done) | (simp [*]; done)), H', ⟨by first | omega | exact Nat.le_refl _⟩, ⟨by repeat (first | (with_reducible first | exact HB.out | apply below_alloc | apply pw_below_drewN | apply below_drew1) | exact HB.out)⟩⟩
  case rest =>
    clear HC4
    try clear p2
    try clear c5
    try clear c6
    try clear c7
    try clear c7b0
    try clear c8
    try clear c8b0
    try clear c9
    try clear c9b0
    obtain ⟨kq, x33_3, rfl, HA, HJ3, HB⟩ := hcut
    cases kq with
    | zero => exact absurd HA.out (by first | (intro h_; cases h_; done) | simp [bobbinlaw16_ClockRound.j0])
    | succ kj3 =>
      have H := HA.out
      clear HA
      rw [bobbinlaw16_ClockRound.j0_eq] at H
      by_cases c10 : x33_3 = true
      · subst c10
        have H1 : (some t160) = some r := by rw [if_pos rfl] at H; exact H
        clear H
        have H := H1
        clear H1
        obtain rfl := Option.some.inj H
        go_wp2
        go_ret
        exact ⟨by first | rfl | (simp [errW_none, errW_some] <;> rfl) | (simp [*, errW_none, errW_some] <;> rfl), by repeat (first | (with_reducible first | exact HB.out | apply below_alloc | apply pw_below_drewN | apply below_drew1) | exact HB.out)⟩
      · replace c10 := Bool.eq_false_iff.mpr c10
        subst c10
        have H1 : (bobbinlaw16_ClockRound.l0 kj3 a0 a1 0 0 ([] : List (S32))) = some r := by rw [if_neg (show ¬ (false = true) by decide)] at H; exact H
        clear H
        have H := H1
        clear H1
        have H' := Aside0.mk H
        clear H
        go_wp2_with (first | ((with_reducible refine gate_dst (N := 6) rfl ?_); refine box_event ?hg (N := 6) ?hd (cs := #[.int .i64 0, .slice none 0 0]) (t := 24) ?hr ?_; (case hd => rfl); (case hg => rfl); (case hr => first | (go_simp; done) | (go_simp; rfl)); intro gb161 hg w11 hbox hb; have n0_ := Aside0.mk (below_step (by repeat (first | (with_reducible first | exact HB.out | apply below_alloc | apply pw_below_drewN | apply below_drew1) | exact HB.out)) hb); have n1_ := Aside0.mk (hbox); have n2_ := Aside0.mk ((by rw [hg]; exact (below_size (by repeat (first | (with_reducible first | exact HB.out | apply below_alloc | apply pw_below_drewN | apply below_drew1) | exact HB.out))) : w.heap.size ≤ gb161)); have n3_ := Aside0.mk ((by rw [hg]; exact (below_size (by repeat (first | (with_reducible first | exact HB.out | apply below_alloc | apply pw_below_drewN | apply below_drew1) | exact HB.out))) : w.heap.size ≤ gb161)); clear HB; have HB := n0_; have BK161 := n1_; have GW161 := n2_; have GE161 := n3_; clear n0_ n1_ n2_ n3_; clear hb hbox hg; have hcz12_0 : w11.cell? ⟨gb161, 0, none⟩ = some (.int .i64 0) := (blk_cell BK161.out 0).trans rfl; have hcz12_1 : w11.cell? ⟨gb161, 1, none⟩ = some (.slice none 0 0) := (blk_cell BK161.out 1).trans rfl; have hfz12_0 := blk_frozen BK161.out 0; have hfz12_1 := blk_frozen BK161.out 1))
        go_loopg [7] kj3 (fun kq v7 w' => ∃ (x7_2 : Int) (x162000_2 : Int) (x162001_2 : List (S32)) (u162001 : Value), v7 = .int .i64 x7_2 ∧ Aside0 (bobbinlaw16_ClockRound.l0 kq a0 a1 x7_2 x162000_2 x162001_2 = some r) ∧ Aside0 (kq ≤ kj3) ∧ Aside0 (Kd.R k32 32 w' w.heap.size (fun _ => True) u162001 x162001_2) ∧ Aside0 (w'.heap[gb161]? = some (.cells #[.int .i64 x162000_2, u162001] 24 (0, 0))) ∧ Aside0 (Below w.heap.size w w'))
        case atStart => exact ⟨(0), (0), (([] : List (S32))), (.slice none 0 0), (by first | rfl | (simp; done) | (simp [*]; done)), H', ⟨Nat.le_refl _⟩, ⟨by first | exact Kd.R_nil _ _ _ _ _ | exact Kd.N_nil _ _ _ _ _ | exact Kd.V_nil _ _ _ _ _ | exact Kd.Q_nil _ _ _ _ _ | exact Kd.S_nil _ _ _ _ _⟩, ⟨by (with_reducible repeat (first | refine blk_drewN ?_ _ | refine blk_drew ?_ | refine blk_alloc ?_ _)); refine blk_put (cs := #[.int .i64 0, .slice none 0 0]) ?_ 1 _ rfl; (with_reducible repeat (first | refine blk_drewN ?_ _ | refine blk_drew ?_ | refine blk_alloc ?_ _)); refine blk_put (cs := #[.int .i64 0, .slice none 0 0]) ?_ 0 _ rfl; (with_reducible repeat (first | refine blk_drewN ?_ _ | refine blk_drew ?_ | refine blk_alloc ?_ _)); exact BK161.out⟩, ⟨by repeat (first | (with_reducible first | exact HB.out | apply below_alloc | apply pw_below_drewN | apply below_drew1 | refine below_set ?_ GE161.out) | exact HB.out)⟩⟩
        case round =>
          clear H'
          try clear c1
          try clear p2
          try clear c5
          try clear c6
          try clear c7
          try clear c7b0
          try clear c8
          try clear c8b0
          try clear c9
          try clear c9b0
          try clear c10
          try clear hcz12_0
          try clear hcz12_1
          try clear hfz12_0
          try clear hfz12_1
          try clear p2
          obtain ⟨x7_2, x162000_2, x162001_2, u162001, rfl, HA, HK2, HO_162001, BK161, HB⟩ := hrel
          cases gk with
          | zero => exact absurd HA.out (by first | (intro h_; cases h_; done) | simp [bobbinlaw16_ClockRound.l0])
          | succ k2 =>
            have H := HA.out
            clear HA
            rw [bobbinlaw16_ClockRound.l0_eq] at H
            by_cases c13 : x7_2 < a0
            · rw [if_pos c13] at H
              have c13b0 : decide (x7_2 < a0) = true := decide_eq_true c13
              clear c13
              replace H := Option.bind_eq_some_iff.mp H
              obtain ⟨⟨t162, t163, t166, t167⟩, A140, H⟩ := H
              replace H : (if t167 = 0 then (if t166 = (-1) then (bobbinlaw16_ClockRound.l0 k2 a0 a1 (wrap64 (x7_2 + 1)) t162 t163) else (some false)) else (some false)) = some r := H
              have A14 := Aside0.mk A140
              clear A140
              by_cases c15 : t167 = 0
              · rw [if_pos c15] at H
                have c15b0 : (t167 == 0) = true := beq_iff_eq.mpr c15
                have c15b1 : (t167 != 0) = false := bne_eq_false_iff_eq.mpr c15
                clear c15
                by_cases c16 : t166 = (-1)
                · rw [if_pos c16] at H
                  have c16b0 : (t166 == (-1)) = true := beq_iff_eq.mpr c16
                  have c16b1 : (t166 != (-1)) = false := bne_eq_false_iff_eq.mpr c16
                  clear c16
                  have H' := Aside0.mk H
                  clear H
                  have hcz17_0 : wr.cell? ⟨gb161, 0, none⟩ = some (.int .i64 x162000_2) := (blk_cell BK161.out 0).trans rfl
                  have hcz17_1 : wr.cell? ⟨gb161, 1, none⟩ = some (u162001) := (blk_cell BK161.out 1).trans rfl
                  have hfz17_0 := blk_frozen BK161.out 0
                  have hfz17_1 := blk_frozen BK161.out 1
                  obtain ⟨Ao18, co18, eo18⟩ := Kd.R_slice HO_162001.out
                  subst eo18
                  go_wp2_with (first | ((with_reducible refine gate_callee (f := 11) rfl ?_); refine goesL_ (some 47) rfl rfl Try.func11 (by kernel_rfl) rfl #[.agg #[.int .i64 x162000_2, .slice Ao18 x162001_2.length co18], .int .i64 a0, .int .i64 (wrap64 (a1 + x7_2))] rfl (by (try simp only [List.map_toArray, List.map_cons, List.map_nil]); first | done | rfl | (simp only [List.length_drop, List.length_take]; rfl)) ?_; (with_reducible refine (clock_Admit.calls k2 x162000_2 _ _ x162001_2 a0 (wrap64 (a1 + x7_2)) t162 t163 t166 t167 _ ?side1 ?side2 A14.out).mono ?_); (case side1 => repeat (first | exact (Kd.R_reads' HO_162001.out).2.2 | (with_reducible refine Kd.C_alloc ?_ _) | (with_reducible refine Kd.C_drewN ?_ _) | (with_reducible refine Kd.C_drew ?_))); (case side2 => exact (Kd.R_reads' HO_162001.out).2.1); rintro e w19 ⟨v164, rfl, ho0, hb⟩; refine ⟨_, rfl, ?_⟩; have n0_ := Aside0.mk (Kd.R_elder' (by (with_reducible repeat (first | apply Kd.R_alloc | apply Kd.R_drewN | apply Kd.R_drew)); exact HO_162001.out) (Kd.R_base ho0) hb); have n1_ := Aside0.mk (Kd.R_lower (Kd.R_new' ho0 (Kd.R_lt (by (with_reducible repeat (first | apply Kd.R_alloc | apply Kd.R_drewN | apply Kd.R_drew)); exact HO_162001.out))) (below_size (by repeat (first | (with_reducible first | exact HB.out | apply below_alloc | apply pw_below_drewN | apply below_drew1 | refine below_set ?_ GE161.out) | exact HB.out)))); have n2_ := Aside0.mk (blk_below (g := gb161) (o := .cells #[.int .i64 x162000_2, .slice Ao18 x162001_2.length co18] 24 (0, 0)) (by (with_reducible repeat (first | refine blk_drewN ?_ _ | refine blk_drew ?_ | refine blk_alloc ?_ _)); exact BK161.out) hb); have n3_ := Aside0.mk (below_step (by repeat (first | (with_reducible first | exact HB.out | apply below_alloc | apply pw_below_drewN | apply below_drew1 | refine below_set ?_ GE161.out) | exact HB.out)) hb); clear HO_162001; clear BK161; clear HB; have HO_162001 := n0_; have HO165 := n1_; have BK161 := n2_; have HB := n3_; clear n0_ n1_ n2_ n3_; (try clear hb); (try clear hb2); (try clear hk); (try clear hi); (try clear ho0)) | ((with_reducible refine gate_dst (N := 8) rfl ?_); refine box_event ?hg (N := 8) ?hd (cs := #[.int .i64 0, .slice none 0 0]) (t := 24) ?hr ?_; (case hd => rfl); (case hg => rfl); (case hr => first | (go_simp; done) | (go_simp; rfl)); intro gb168 hg w20 hbox hb; have n0_ := Aside0.mk (Kd.R_below (by (with_reducible repeat (first | apply Kd.R_alloc | apply Kd.R_drewN | apply Kd.R_drew)); exact HO_162001.out) hb); have n1_ := Aside0.mk (Kd.R_below (by (with_reducible repeat (first | apply Kd.R_alloc | apply Kd.R_drewN | apply Kd.R_drew)); exact HO165.out) hb); have n2_ := Aside0.mk (blk_below (g := gb161) (o := .cells #[.int .i64 x162000_2, .slice Ao18 x162001_2.length co18] 24 (0, 0)) (by (with_reducible repeat (first | refine blk_drewN ?_ _ | refine blk_drew ?_ | refine blk_alloc ?_ _)); exact BK161.out) hb); have n3_ := Aside0.mk (below_step (by repeat (first | (with_reducible first | exact HB.out | apply below_alloc | apply pw_below_drewN | apply below_drew1 | refine below_set ?_ GE161.out) | exact HB.out)) hb); have n4_ := Aside0.mk (hbox); have n5_ := Aside0.mk ((by rw [hg]; exact (below_size (by repeat (first | (with_reducible first | exact HB.out | apply below_alloc | apply pw_below_drewN | apply below_drew1 | refine below_set ?_ GE161.out) | exact HB.out))) : w.heap.size ≤ gb168)); have n6_ := Aside0.mk ((by rw [hg]; exact (below_size (by repeat (first | (with_reducible first | exact HB.out | apply below_alloc | apply pw_below_drewN | apply below_drew1 | refine below_set ?_ GE161.out) | exact HB.out))) : w.heap.size ≤ gb168)); have n7_ := Aside0.mk ((by rw [hg]; exact Nat.ne_of_lt (blk_lt (g := gb161) (o := .cells #[.int .i64 x162000_2, .slice Ao18 x162001_2.length co18] 24 (0, 0)) (by (with_reducible repeat (first | refine blk_drewN ?_ _ | refine blk_drew ?_ | refine blk_alloc ?_ _)); exact BK161.out)) : gb161 ≠ gb168)); have n8_ := Aside0.mk ((by rw [hg]; exact Nat.ne_of_gt (blk_lt (g := gb161) (o := .cells #[.int .i64 x162000_2, .slice Ao18 x162001_2.length co18] 24 (0, 0)) (by (with_reducible repeat (first | refine blk_drewN ?_ _ | refine blk_drew ?_ | refine blk_alloc ?_ _)); exact BK161.out)) : gb168 ≠ gb161)); clear HO_162001; clear HO165; clear BK161; clear HB; have HO_162001 := n0_; have HO165 := n1_; have BK161 := n2_; have HB := n3_; have BK168 := n4_; have GW168 := n5_; have GE168 := n6_; have NB161_168 := n7_; have NB168_161 := n8_; clear n0_ n1_ n2_ n3_ n4_ n5_ n6_ n7_ n8_; clear hb hbox hg; have hnb21 := NB168_161.out; have hnc21 := NB161_168.out; have hcz22_0 : w20.cell? ⟨gb168, 0, none⟩ = some (.int .i64 0) := (blk_cell BK168.out 0).trans rfl; have hcz22_1 : w20.cell? ⟨gb168, 1, none⟩ = some (.slice none 0 0) := (blk_cell BK168.out 1).trans rfl; have hfz22_0 := blk_frozen BK168.out 0; have hfz22_1 := blk_frozen BK168.out 1; obtain ⟨Ao23, co23, eo23⟩ := Kd.R_slice HO165.out; subst eo23; have hcz24_0 : w20.cell? ⟨gb161, 0, none⟩ = some (.int .i64 x162000_2) := (blk_cell BK161.out 0).trans rfl; have hcz24_1 : w20.cell? ⟨gb161, 1, none⟩ = some (.slice Ao18 x162001_2.length co18) := (blk_cell BK161.out 1).trans rfl; have hfz24_0 := blk_frozen BK161.out 0; have hfz24_1 := blk_frozen BK161.out 1))
                  go_roundg k2
                  case measure => have := HJ3.out; have := HK2.out; omega
                  case rel => exact ⟨(wrap64 (x7_2 + 1)), (t162), (t163), (.slice Ao23 t163.length co23), (by first | rfl | (simp; done) | (simp [*]; done)), H', ⟨by have := HJ3.out; have := HK2.out; omega⟩, ⟨by (with_reducible repeat (first | apply Kd.R_alloc | apply Kd.R_drewN | apply Kd.R_drew)); exact Kd.R_mono (Kd.R_far (p := ⟨gb161, 1, none⟩) (Kd.R_far (p := ⟨gb161, 0, none⟩) (Kd.R_far (p := ⟨gb168, 1, none⟩) (Kd.R_far (p := ⟨gb168, 0, none⟩) (Kd.R_types (Kd.R_types HO165.out BK168.out (by decide)) BK161.out (by decide)) (fun _ hk => hk.1.2) (.int .i64 t162)) (fun _ hk => hk.1.2) (.slice Ao23 t163.length co23)) (fun _ hk => hk.2) (.int .i64 t162)) (fun _ hk => hk.2) (.slice Ao23 t163.length co23)) (fun _ hk => trivial)⟩, ⟨by (with_reducible repeat (first | refine blk_drewN ?_ _ | refine blk_drew ?_ | refine blk_alloc ?_ _)); refine blk_put (cs := #[.int .i64 t162, .slice Ao18 x162001_2.length co18]) ?_ 1 _ rfl; (with_reducible repeat (first | refine blk_drewN ?_ _ | refine blk_drew ?_ | refine blk_alloc ?_ _)); refine blk_put (cs := #[.int .i64 x162000_2, .slice Ao18 x162001_2.length co18]) ?_ 0 _ rfl; (with_reducible repeat (first | refine blk_drewN ?_ _ | refine blk_drew ?_ | refine blk_alloc ?_ _)); refine blk_far ?_ NB161_168.out _; (with_reducible repeat (first | refine blk_drewN ?_ _ | refine blk_drew ?_ | refine blk_alloc ?_ _)); refine blk_far ?_ NB161_168.out _; (with_reducible repeat (first | refine blk_drewN ?_ _ | refine blk_drew ?_ | refine blk_alloc ?_ _)); exact BK161.out⟩, ⟨by repeat (first | (with_reducible first | exact HB.out | apply below_alloc | apply pw_below_drewN | apply below_drew1 | refine below_set ?_ GE161.out | refine below_set ?_ GE168.out) | exact HB.out)⟩⟩
                · rw [if_neg c16] at H
                  have c16b0 : (t166 == (-1)) = false := beq_eq_false_iff_ne.mpr c16
                  have c16b1 : (t166 != (-1)) = true := bne_iff_ne.mpr c16
                  obtain rfl := Option.some.inj H
                  have hcz25_0 : wr.cell? ⟨gb161, 0, none⟩ = some (.int .i64 x162000_2) := (blk_cell BK161.out 0).trans rfl
                  have hcz25_1 : wr.cell? ⟨gb161, 1, none⟩ = some (u162001) := (blk_cell BK161.out 1).trans rfl
                  have hfz25_0 := blk_frozen BK161.out 0
                  have hfz25_1 := blk_frozen BK161.out 1
                  obtain ⟨Ao26, co26, eo26⟩ := Kd.R_slice HO_162001.out
                  subst eo26
                  go_wp2_with (first | ((with_reducible refine gate_callee (f := 11) rfl ?_); refine goesL_ (some 47) rfl rfl Try.func11 (by kernel_rfl) rfl #[.agg #[.int .i64 x162000_2, .slice Ao26 x162001_2.length co26], .int .i64 a0, .int .i64 (wrap64 (a1 + x7_2))] rfl (by (try simp only [List.map_toArray, List.map_cons, List.map_nil]); first | done | rfl | (simp only [List.length_drop, List.length_take]; rfl)) ?_; (with_reducible refine (clock_Admit.calls k2 x162000_2 _ _ x162001_2 a0 (wrap64 (a1 + x7_2)) t162 t163 t166 t167 _ ?side1 ?side2 A14.out).mono ?_); (case side1 => repeat (first | exact (Kd.R_reads' HO_162001.out).2.2 | (with_reducible refine Kd.C_alloc ?_ _) | (with_reducible refine Kd.C_drewN ?_ _) | (with_reducible refine Kd.C_drew ?_))); (case side2 => exact (Kd.R_reads' HO_162001.out).2.1); rintro e w27 ⟨v164, rfl, ho0, hb⟩; refine ⟨_, rfl, ?_⟩; have n0_ := Aside0.mk (Kd.R_elder' (by (with_reducible repeat (first | apply Kd.R_alloc | apply Kd.R_drewN | apply Kd.R_drew)); exact HO_162001.out) (Kd.R_base ho0) hb); have n1_ := Aside0.mk (Kd.R_lower (Kd.R_new' ho0 (Kd.R_lt (by (with_reducible repeat (first | apply Kd.R_alloc | apply Kd.R_drewN | apply Kd.R_drew)); exact HO_162001.out))) (below_size (by repeat (first | (with_reducible first | exact HB.out | apply below_alloc | apply pw_below_drewN | apply below_drew1 | refine below_set ?_ GE161.out) | exact HB.out)))); have n2_ := Aside0.mk (blk_below (g := gb161) (o := .cells #[.int .i64 x162000_2, .slice Ao26 x162001_2.length co26] 24 (0, 0)) (by (with_reducible repeat (first | refine blk_drewN ?_ _ | refine blk_drew ?_ | refine blk_alloc ?_ _)); exact BK161.out) hb); have n3_ := Aside0.mk (below_step (by repeat (first | (with_reducible first | exact HB.out | apply below_alloc | apply pw_below_drewN | apply below_drew1 | refine below_set ?_ GE161.out) | exact HB.out)) hb); clear HO_162001; clear BK161; clear HB; have HO_162001 := n0_; have HO165 := n1_; have BK161 := n2_; have HB := n3_; clear n0_ n1_ n2_ n3_; (try clear hb); (try clear hb2); (try clear hk); (try clear hi); (try clear ho0)) | ((with_reducible refine gate_dst (N := 8) rfl ?_); refine box_event ?hg (N := 8) ?hd (cs := #[.int .i64 0, .slice none 0 0]) (t := 24) ?hr ?_; (case hd => rfl); (case hg => rfl); (case hr => first | (go_simp; done) | (go_simp; rfl)); intro gb168 hg w28 hbox hb; have n0_ := Aside0.mk (Kd.R_below (by (with_reducible repeat (first | apply Kd.R_alloc | apply Kd.R_drewN | apply Kd.R_drew)); exact HO_162001.out) hb); have n1_ := Aside0.mk (Kd.R_below (by (with_reducible repeat (first | apply Kd.R_alloc | apply Kd.R_drewN | apply Kd.R_drew)); exact HO165.out) hb); have n2_ := Aside0.mk (blk_below (g := gb161) (o := .cells #[.int .i64 x162000_2, .slice Ao26 x162001_2.length co26] 24 (0, 0)) (by (with_reducible repeat (first | refine blk_drewN ?_ _ | refine blk_drew ?_ | refine blk_alloc ?_ _)); exact BK161.out) hb); have n3_ := Aside0.mk (below_step (by repeat (first | (with_reducible first | exact HB.out | apply below_alloc | apply pw_below_drewN | apply below_drew1 | refine below_set ?_ GE161.out) | exact HB.out)) hb); have n4_ := Aside0.mk (hbox); have n5_ := Aside0.mk ((by rw [hg]; exact (below_size (by repeat (first | (with_reducible first | exact HB.out | apply below_alloc | apply pw_below_drewN | apply below_drew1 | refine below_set ?_ GE161.out) | exact HB.out))) : w.heap.size ≤ gb168)); have n6_ := Aside0.mk ((by rw [hg]; exact (below_size (by repeat (first | (with_reducible first | exact HB.out | apply below_alloc | apply pw_below_drewN | apply below_drew1 | refine below_set ?_ GE161.out) | exact HB.out))) : w.heap.size ≤ gb168)); have n7_ := Aside0.mk ((by rw [hg]; exact Nat.ne_of_lt (blk_lt (g := gb161) (o := .cells #[.int .i64 x162000_2, .slice Ao26 x162001_2.length co26] 24 (0, 0)) (by (with_reducible repeat (first | refine blk_drewN ?_ _ | refine blk_drew ?_ | refine blk_alloc ?_ _)); exact BK161.out)) : gb161 ≠ gb168)); have n8_ := Aside0.mk ((by rw [hg]; exact Nat.ne_of_gt (blk_lt (g := gb161) (o := .cells #[.int .i64 x162000_2, .slice Ao26 x162001_2.length co26] 24 (0, 0)) (by (with_reducible repeat (first | refine blk_drewN ?_ _ | refine blk_drew ?_ | refine blk_alloc ?_ _)); exact BK161.out)) : gb168 ≠ gb161)); clear HO_162001; clear HO165; clear BK161; clear HB; have HO_162001 := n0_; have HO165 := n1_; have BK161 := n2_; have HB := n3_; have BK168 := n4_; have GW168 := n5_; have GE168 := n6_; have NB161_168 := n7_; have NB168_161 := n8_; clear n0_ n1_ n2_ n3_ n4_ n5_ n6_ n7_ n8_; clear hb hbox hg; have hnb29 := NB168_161.out; have hnc29 := NB161_168.out; have hcz30_0 : w28.cell? ⟨gb168, 0, none⟩ = some (.int .i64 0) := (blk_cell BK168.out 0).trans rfl; have hcz30_1 : w28.cell? ⟨gb168, 1, none⟩ = some (.slice none 0 0) := (blk_cell BK168.out 1).trans rfl; have hfz30_0 := blk_frozen BK168.out 0; have hfz30_1 := blk_frozen BK168.out 1; obtain ⟨Ao31, co31, eo31⟩ := Kd.R_slice HO165.out; subst eo31))
                  go_ret
                  exact ⟨by first | rfl | (simp [errW_none, errW_some] <;> rfl) | (simp [*, errW_none, errW_some] <;> rfl), by repeat (first | (with_reducible first | exact HB.out | apply below_alloc | apply pw_below_drewN | apply below_drew1 | refine below_set ?_ GE161.out | refine below_set ?_ GE168.out) | exact HB.out)⟩
              · rw [if_neg c15] at H
                have c15b0 : (t167 == 0) = false := beq_eq_false_iff_ne.mpr c15
                have c15b1 : (t167 != 0) = true := bne_iff_ne.mpr c15
                obtain rfl := Option.some.inj H
                have hcz32_0 : wr.cell? ⟨gb161, 0, none⟩ = some (.int .i64 x162000_2) := (blk_cell BK161.out 0).trans rfl
                have hcz32_1 : wr.cell? ⟨gb161, 1, none⟩ = some (u162001) := (blk_cell BK161.out 1).trans rfl
                have hfz32_0 := blk_frozen BK161.out 0
                have hfz32_1 := blk_frozen BK161.out 1
                obtain ⟨Ao33, co33, eo33⟩ := Kd.R_slice HO_162001.out
                subst eo33
                go_wp2_with (first | ((with_reducible refine gate_callee (f := 11) rfl ?_); refine goesL_ (some 47) rfl rfl Try.func11 (by kernel_rfl) rfl #[.agg #[.int .i64 x162000_2, .slice Ao33 x162001_2.length co33], .int .i64 a0, .int .i64 (wrap64 (a1 + x7_2))] rfl (by (try simp only [List.map_toArray, List.map_cons, List.map_nil]); first | done | rfl | (simp only [List.length_drop, List.length_take]; rfl)) ?_; (with_reducible refine (clock_Admit.calls k2 x162000_2 _ _ x162001_2 a0 (wrap64 (a1 + x7_2)) t162 t163 t166 t167 _ ?side1 ?side2 A14.out).mono ?_); (case side1 => repeat (first | exact (Kd.R_reads' HO_162001.out).2.2 | (with_reducible refine Kd.C_alloc ?_ _) | (with_reducible refine Kd.C_drewN ?_ _) | (with_reducible refine Kd.C_drew ?_))); (case side2 => exact (Kd.R_reads' HO_162001.out).2.1); rintro e w34 ⟨v164, rfl, ho0, hb⟩; refine ⟨_, rfl, ?_⟩; have n0_ := Aside0.mk (Kd.R_elder' (by (with_reducible repeat (first | apply Kd.R_alloc | apply Kd.R_drewN | apply Kd.R_drew)); exact HO_162001.out) (Kd.R_base ho0) hb); have n1_ := Aside0.mk (Kd.R_lower (Kd.R_new' ho0 (Kd.R_lt (by (with_reducible repeat (first | apply Kd.R_alloc | apply Kd.R_drewN | apply Kd.R_drew)); exact HO_162001.out))) (below_size (by repeat (first | (with_reducible first | exact HB.out | apply below_alloc | apply pw_below_drewN | apply below_drew1 | refine below_set ?_ GE161.out) | exact HB.out)))); have n2_ := Aside0.mk (blk_below (g := gb161) (o := .cells #[.int .i64 x162000_2, .slice Ao33 x162001_2.length co33] 24 (0, 0)) (by (with_reducible repeat (first | refine blk_drewN ?_ _ | refine blk_drew ?_ | refine blk_alloc ?_ _)); exact BK161.out) hb); have n3_ := Aside0.mk (below_step (by repeat (first | (with_reducible first | exact HB.out | apply below_alloc | apply pw_below_drewN | apply below_drew1 | refine below_set ?_ GE161.out) | exact HB.out)) hb); clear HO_162001; clear BK161; clear HB; have HO_162001 := n0_; have HO165 := n1_; have BK161 := n2_; have HB := n3_; clear n0_ n1_ n2_ n3_; (try clear hb); (try clear hb2); (try clear hk); (try clear hi); (try clear ho0)) | ((with_reducible refine gate_dst (N := 8) rfl ?_); refine box_event ?hg (N := 8) ?hd (cs := #[.int .i64 0, .slice none 0 0]) (t := 24) ?hr ?_; (case hd => rfl); (case hg => rfl); (case hr => first | (go_simp; done) | (go_simp; rfl)); intro gb168 hg w35 hbox hb; have n0_ := Aside0.mk (Kd.R_below (by (with_reducible repeat (first | apply Kd.R_alloc | apply Kd.R_drewN | apply Kd.R_drew)); exact HO_162001.out) hb); have n1_ := Aside0.mk (Kd.R_below (by (with_reducible repeat (first | apply Kd.R_alloc | apply Kd.R_drewN | apply Kd.R_drew)); exact HO165.out) hb); have n2_ := Aside0.mk (blk_below (g := gb161) (o := .cells #[.int .i64 x162000_2, .slice Ao33 x162001_2.length co33] 24 (0, 0)) (by (with_reducible repeat (first | refine blk_drewN ?_ _ | refine blk_drew ?_ | refine blk_alloc ?_ _)); exact BK161.out) hb); have n3_ := Aside0.mk (below_step (by repeat (first | (with_reducible first | exact HB.out | apply below_alloc | apply pw_below_drewN | apply below_drew1 | refine below_set ?_ GE161.out) | exact HB.out)) hb); have n4_ := Aside0.mk (hbox); have n5_ := Aside0.mk ((by rw [hg]; exact (below_size (by repeat (first | (with_reducible first | exact HB.out | apply below_alloc | apply pw_below_drewN | apply below_drew1 | refine below_set ?_ GE161.out) | exact HB.out))) : w.heap.size ≤ gb168)); have n6_ := Aside0.mk ((by rw [hg]; exact (below_size (by repeat (first | (with_reducible first | exact HB.out | apply below_alloc | apply pw_below_drewN | apply below_drew1 | refine below_set ?_ GE161.out) | exact HB.out))) : w.heap.size ≤ gb168)); have n7_ := Aside0.mk ((by rw [hg]; exact Nat.ne_of_lt (blk_lt (g := gb161) (o := .cells #[.int .i64 x162000_2, .slice Ao33 x162001_2.length co33] 24 (0, 0)) (by (with_reducible repeat (first | refine blk_drewN ?_ _ | refine blk_drew ?_ | refine blk_alloc ?_ _)); exact BK161.out)) : gb161 ≠ gb168)); have n8_ := Aside0.mk ((by rw [hg]; exact Nat.ne_of_gt (blk_lt (g := gb161) (o := .cells #[.int .i64 x162000_2, .slice Ao33 x162001_2.length co33] 24 (0, 0)) (by (with_reducible repeat (first | refine blk_drewN ?_ _ | refine blk_drew ?_ | refine blk_alloc ?_ _)); exact BK161.out)) : gb168 ≠ gb161)); clear HO_162001; clear HO165; clear BK161; clear HB; have HO_162001 := n0_; have HO165 := n1_; have BK161 := n2_; have HB := n3_; have BK168 := n4_; have GW168 := n5_; have GE168 := n6_; have NB161_168 := n7_; have NB168_161 := n8_; clear n0_ n1_ n2_ n3_ n4_ n5_ n6_ n7_ n8_; clear hb hbox hg; have hnb36 := NB168_161.out; have hnc36 := NB161_168.out; have hcz37_0 : w35.cell? ⟨gb168, 0, none⟩ = some (.int .i64 0) := (blk_cell BK168.out 0).trans rfl; have hcz37_1 : w35.cell? ⟨gb168, 1, none⟩ = some (.slice none 0 0) := (blk_cell BK168.out 1).trans rfl; have hfz37_0 := blk_frozen BK168.out 0; have hfz37_1 := blk_frozen BK168.out 1; obtain ⟨Ao38, co38, eo38⟩ := Kd.R_slice HO165.out; subst eo38))
                go_ret
                exact ⟨by first | rfl | (simp [errW_none, errW_some] <;> rfl) | (simp [*, errW_none, errW_some] <;> rfl), by repeat (first | (with_reducible first | exact HB.out | apply below_alloc | apply pw_below_drewN | apply below_drew1 | refine below_set ?_ GE161.out | refine below_set ?_ GE168.out) | exact HB.out)⟩
            · rw [if_neg c13] at H
              have c13b0 : decide (x7_2 < a0) = false := decide_eq_false c13
              clear c13
              have H' := Aside0.mk H
              clear H
              go_wp2
              go_loopg [11] k2 (fun kq v11 w' => ∃ (x11_3 : Int), v11 = .int .i64 x11_3 ∧ Aside0 (bobbinlaw16_ClockRound.l1 kq a0 a1 x11_3 x162000_2 x162001_2 = some r) ∧ Aside0 (kq ≤ k2) ∧ Aside0 (Kd.R k32 32 w' w.heap.size (fun _ => True) u162001 x162001_2) ∧ Aside0 (w'.heap[gb161]? = some (.cells #[.int .i64 x162000_2, u162001] 24 (0, 0))) ∧ Aside0 (Below w.heap.size w w'))
              case atStart => exact ⟨(0), (by first | rfl | (simp; done) | (simp [*]; done)), H', ⟨Nat.le_refl _⟩, ⟨by (with_reducible repeat (first | apply Kd.R_alloc | apply Kd.R_drewN | apply Kd.R_drew)); exact HO_162001.out⟩, ⟨by (with_reducible repeat (first | refine blk_drewN ?_ _ | refine blk_drew ?_ | refine blk_alloc ?_ _)); exact BK161.out⟩, ⟨by repeat (first | (with_reducible first | exact HB.out | apply below_alloc | apply pw_below_drewN | apply below_drew1 | refine below_set ?_ GE161.out) | exact HB.out)⟩⟩
              case round =>
                clear H'
                try clear c1
                try clear c2
                try clear p2
                try clear c3
                try clear c5
                try clear c6
                try clear p6
                try clear c7
                try clear c7b0
                try clear c8
                try clear c8b0
                try clear c9
                try clear c9b0
                try clear c10
                try clear c11
                try clear c13
                try clear c13b0
                try clear c15
                try clear c15b0
                try clear c15b1
                try clear c16
                try clear c16b0
                try clear c16b1
                try clear c21
                try clear c29
                try clear c36
                try clear hcz12_0
                try clear hcz12_1
                try clear hcz17_0
                try clear hcz17_1
                try clear hcz22_0
                try clear hcz22_1
                try clear hcz24_0
                try clear hcz24_1
                try clear hcz25_0
                try clear hcz25_1
                try clear hcz30_0
                try clear hcz30_1
                try clear hcz32_0
                try clear hcz32_1
                try clear hcz37_0
                try clear hcz37_1
                try clear hfz12_0
                try clear hfz12_1
                try clear hfz17_0
                try clear hfz17_1
                try clear hfz22_0
                try clear hfz22_1
                try clear hfz24_0
                try clear hfz24_1
                try clear hfz25_0
                try clear hfz25_1
                try clear hfz30_0
                try clear hfz30_1
                try clear hfz32_0
                try clear hfz32_1
                try clear hfz37_0
                try clear hfz37_1
                try clear p2
                obtain ⟨x11_3, rfl, HA, HK3, HO_162001, BK161, HB⟩ := hrel
                cases gk with
                | zero => exact absurd HA.out (by first | (intro h_; cases h_; done) | simp [bobbinlaw16_ClockRound.l1])
                | succ k3 =>
                  have H := HA.out
                  clear HA
                  rw [bobbinlaw16_ClockRound.l1_eq] at H
                  by_cases c39 : x11_3 < a0
                  · rw [if_pos c39] at H
                    have c39b0 : decide (x11_3 < a0) = true := decide_eq_true c39
                    clear c39
                    replace H := Option.bind_eq_some_iff.mp H
                    obtain ⟨t169, A400, H⟩ := H
                    replace H : (if t169 = true then (bobbinlaw16_ClockRound.l1 k3 a0 a1 (wrap64 (x11_3 + 1)) x162000_2 x162001_2) else (some false)) = some r := H
                    have A40 := Aside0.mk A400
                    clear A400
                    by_cases c41 : t169 = true
                    · subst c41
                      have H1 : (bobbinlaw16_ClockRound.l1 k3 a0 a1 (wrap64 (x11_3 + 1)) x162000_2 x162001_2) = some r := by rw [if_pos rfl] at H; exact H
                      clear H
                      have H := H1
                      clear H1
                      have H' := Aside0.mk H
                      clear H
                      have hcz42_0 : wr.cell? ⟨gb161, 0, none⟩ = some (.int .i64 x162000_2) := (blk_cell BK161.out 0).trans rfl
                      have hcz42_1 : wr.cell? ⟨gb161, 1, none⟩ = some (u162001) := (blk_cell BK161.out 1).trans rfl
                      have hfz42_0 := blk_frozen BK161.out 0
                      have hfz42_1 := blk_frozen BK161.out 1
                      obtain ⟨Ao43, co43, eo43⟩ := Kd.R_slice HO_162001.out
                      subst eo43
                      go_wp2_with (first | ((with_reducible refine gate_callee (f := 12) rfl ?_); refine goesL_ (some 67) rfl rfl Try.func12 (by kernel_rfl) rfl #[.agg #[.int .i64 x162000_2, .slice Ao43 x162001_2.length co43], .int .i64 (wrap64 (a1 + x11_3))] rfl (by (try simp only [List.map_toArray, List.map_cons, List.map_nil]); first | done | rfl | (simp only [List.length_drop, List.length_take]; rfl)) ?_; (with_reducible refine (clock_Has.calls k3 x162000_2 _ _ x162001_2 (wrap64 (a1 + x11_3)) true _ ?side1 ?side2 A40.out).mono ?_); (case side1 => repeat (first | exact (Kd.R_reads' HO_162001.out).2.2 | (with_reducible refine Kd.C_alloc ?_ _) | (with_reducible refine Kd.C_drewN ?_ _) | (with_reducible refine Kd.C_drew ?_))); (case side2 => exact (Kd.R_reads' HO_162001.out).2.1); rintro e w44 ⟨rfl, hb⟩; refine ⟨_, rfl, ?_⟩; have n0_ := Aside0.mk (Kd.R_below (by (with_reducible repeat (first | apply Kd.R_alloc | apply Kd.R_drewN | apply Kd.R_drew)); exact HO_162001.out) hb); have n1_ := Aside0.mk (blk_below (g := gb161) (o := .cells #[.int .i64 x162000_2, .slice Ao43 x162001_2.length co43] 24 (0, 0)) (by (with_reducible repeat (first | refine blk_drewN ?_ _ | refine blk_drew ?_ | refine blk_alloc ?_ _)); exact BK161.out) hb); have n2_ := Aside0.mk (below_step (by repeat (first | (with_reducible first | exact HB.out | apply below_alloc | apply pw_below_drewN | apply below_drew1 | refine below_set ?_ GE161.out) | exact HB.out)) hb); clear HO_162001; clear BK161; clear HB; have HO_162001 := n0_; have BK161 := n1_; have HB := n2_; clear n0_ n1_ n2_; (try clear hb); (try clear hb2); (try clear hk); (try clear hi)))
                      go_roundg k3
                      case measure => have := HJ3.out; have := HK2.out; have := HK3.out; omega
                      case rel => exact ⟨(wrap64 (x11_3 + 1)), (by first | rfl | (simp; done) | (simp [*]; done)), H', ⟨by have := HJ3.out; have := HK2.out; have := HK3.out; omega⟩, ⟨by (with_reducible repeat (first | apply Kd.R_alloc | apply Kd.R_drewN | apply Kd.R_drew)); exact HO_162001.out⟩, ⟨by (with_reducible repeat (first | refine blk_drewN ?_ _ | refine blk_drew ?_ | refine blk_alloc ?_ _)); exact BK161.out⟩, ⟨by repeat (first | (with_reducible first | exact HB.out | apply below_alloc | apply pw_below_drewN | apply below_drew1 | refine below_set ?_ GE161.out) | exact HB.out)⟩⟩
                    · replace c41 := Bool.eq_false_iff.mpr c41
                      subst c41
                      have H1 : (some false) = some r := by rw [if_neg (show ¬ (false = true) by decide)] at H; exact H
                      clear H
                      have H := H1
                      clear H1
                      obtain rfl := Option.some.inj H
                      have hcz45_0 : wr.cell? ⟨gb161, 0, none⟩ = some (.int .i64 x162000_2) := (blk_cell BK161.out 0).trans rfl
                      have hcz45_1 : wr.cell? ⟨gb161, 1, none⟩ = some (u162001) := (blk_cell BK161.out 1).trans rfl
                      have hfz45_0 := blk_frozen BK161.out 0
                      have hfz45_1 := blk_frozen BK161.out 1
                      obtain ⟨Ao46, co46, eo46⟩ := Kd.R_slice HO_162001.out
                      subst eo46
                      go_wp2_with (first | ((with_reducible refine gate_callee (f := 12) rfl ?_); refine goesL_ (some 67) rfl rfl Try.func12 (by kernel_rfl) rfl #[.agg #[.int .i64 x162000_2, .slice Ao46 x162001_2.length co46], .int .i64 (wrap64 (a1 + x11_3))] rfl (by (try simp only [List.map_toArray, List.map_cons, List.map_nil]); first | done | rfl | (simp only [List.length_drop, List.length_take]; rfl)) ?_; (with_reducible refine (clock_Has.calls k3 x162000_2 _ _ x162001_2 (wrap64 (a1 + x11_3)) false _ ?side1 ?side2 A40.out).mono ?_); (case side1 => repeat (first | exact (Kd.R_reads' HO_162001.out).2.2 | (with_reducible refine Kd.C_alloc ?_ _) | (with_reducible refine Kd.C_drewN ?_ _) | (with_reducible refine Kd.C_drew ?_))); (case side2 => exact (Kd.R_reads' HO_162001.out).2.1); rintro e w47 ⟨rfl, hb⟩; refine ⟨_, rfl, ?_⟩; have n0_ := Aside0.mk (Kd.R_below (by (with_reducible repeat (first | apply Kd.R_alloc | apply Kd.R_drewN | apply Kd.R_drew)); exact HO_162001.out) hb); have n1_ := Aside0.mk (blk_below (g := gb161) (o := .cells #[.int .i64 x162000_2, .slice Ao46 x162001_2.length co46] 24 (0, 0)) (by (with_reducible repeat (first | refine blk_drewN ?_ _ | refine blk_drew ?_ | refine blk_alloc ?_ _)); exact BK161.out) hb); have n2_ := Aside0.mk (below_step (by repeat (first | (with_reducible first | exact HB.out | apply below_alloc | apply pw_below_drewN | apply below_drew1 | refine below_set ?_ GE161.out) | exact HB.out)) hb); clear HO_162001; clear BK161; clear HB; have HO_162001 := n0_; have BK161 := n1_; have HB := n2_; clear n0_ n1_ n2_; (try clear hb); (try clear hb2); (try clear hk); (try clear hi)))
                      go_ret
                      exact ⟨by first | rfl | (simp [errW_none, errW_some] <;> rfl) | (simp [*, errW_none, errW_some] <;> rfl), by repeat (first | (with_reducible first | exact HB.out | apply below_alloc | apply pw_below_drewN | apply below_drew1 | refine below_set ?_ GE161.out) | exact HB.out)⟩
                  · rw [if_neg c39] at H
                    have c39b0 : decide (x11_3 < a0) = false := decide_eq_false c39
                    clear c39
                    replace H := Option.bind_eq_some_iff.mp H
                    obtain ⟨⟨t170, t171, t174, t175⟩, A480, H⟩ := H
                    replace H : (if t175 = 0 then (some (t174 == a1)) else (some false)) = some r := H
                    have A48 := Aside0.mk A480
                    clear A480
                    by_cases c49 : t175 = 0
                    · rw [if_pos c49] at H
                      have c49b0 : (t175 == 0) = true := beq_iff_eq.mpr c49
                      have c49b1 : (t175 != 0) = false := bne_eq_false_iff_eq.mpr c49
                      clear c49
                      obtain rfl := Option.some.inj H
                      have hcz50_0 : wr.cell? ⟨gb161, 0, none⟩ = some (.int .i64 x162000_2) := (blk_cell BK161.out 0).trans rfl
                      have hcz50_1 : wr.cell? ⟨gb161, 1, none⟩ = some (u162001) := (blk_cell BK161.out 1).trans rfl
                      have hfz50_0 := blk_frozen BK161.out 0
                      have hfz50_1 := blk_frozen BK161.out 1
                      obtain ⟨Ao51, co51, eo51⟩ := Kd.R_slice HO_162001.out
                      subst eo51
                      go_wp2_with (first | ((with_reducible refine gate_callee (f := 11) rfl ?_); refine goesL_ (some 75) rfl rfl Try.func11 (by kernel_rfl) rfl #[.agg #[.int .i64 x162000_2, .slice Ao51 x162001_2.length co51], .int .i64 a0, .int .i64 (wrap64 (a1 + a0))] rfl (by (try simp only [List.map_toArray, List.map_cons, List.map_nil]); first | done | rfl | (simp only [List.length_drop, List.length_take]; rfl)) ?_; (with_reducible refine (clock_Admit.calls k3 x162000_2 _ _ x162001_2 a0 (wrap64 (a1 + a0)) t170 t171 t174 t175 _ ?side1 ?side2 A48.out).mono ?_); (case side1 => repeat (first | exact (Kd.R_reads' HO_162001.out).2.2 | (with_reducible refine Kd.C_alloc ?_ _) | (with_reducible refine Kd.C_drewN ?_ _) | (with_reducible refine Kd.C_drew ?_))); (case side2 => exact (Kd.R_reads' HO_162001.out).2.1); rintro e w52 ⟨v172, rfl, ho0, hb⟩; refine ⟨_, rfl, ?_⟩; have n0_ := Aside0.mk (Kd.R_elder' (by (with_reducible repeat (first | apply Kd.R_alloc | apply Kd.R_drewN | apply Kd.R_drew)); exact HO_162001.out) (Kd.R_base ho0) hb); have n1_ := Aside0.mk (Kd.R_lower (Kd.R_new' ho0 (Kd.R_lt (by (with_reducible repeat (first | apply Kd.R_alloc | apply Kd.R_drewN | apply Kd.R_drew)); exact HO_162001.out))) (below_size (by repeat (first | (with_reducible first | exact HB.out | apply below_alloc | apply pw_below_drewN | apply below_drew1 | refine below_set ?_ GE161.out) | exact HB.out)))); have n2_ := Aside0.mk (blk_below (g := gb161) (o := .cells #[.int .i64 x162000_2, .slice Ao51 x162001_2.length co51] 24 (0, 0)) (by (with_reducible repeat (first | refine blk_drewN ?_ _ | refine blk_drew ?_ | refine blk_alloc ?_ _)); exact BK161.out) hb); have n3_ := Aside0.mk (below_step (by repeat (first | (with_reducible first | exact HB.out | apply below_alloc | apply pw_below_drewN | apply below_drew1 | refine below_set ?_ GE161.out) | exact HB.out)) hb); clear HO_162001; clear BK161; clear HB; have HO_162001 := n0_; have HO173 := n1_; have BK161 := n2_; have HB := n3_; clear n0_ n1_ n2_ n3_; (try clear hb); (try clear hb2); (try clear hk); (try clear hi); (try clear ho0)) | ((with_reducible refine gate_dst (N := 12) rfl ?_); refine box_event ?hg (N := 12) ?hd (cs := #[.int .i64 0, .slice none 0 0]) (t := 24) ?hr ?_; (case hd => rfl); (case hg => rfl); (case hr => first | (go_simp; done) | (go_simp; rfl)); intro gb176 hg w53 hbox hb; have n0_ := Aside0.mk (Kd.R_below (by (with_reducible repeat (first | apply Kd.R_alloc | apply Kd.R_drewN | apply Kd.R_drew)); exact HO_162001.out) hb); have n1_ := Aside0.mk (Kd.R_below (by (with_reducible repeat (first | apply Kd.R_alloc | apply Kd.R_drewN | apply Kd.R_drew)); exact HO173.out) hb); have n2_ := Aside0.mk (blk_below (g := gb161) (o := .cells #[.int .i64 x162000_2, .slice Ao51 x162001_2.length co51] 24 (0, 0)) (by (with_reducible repeat (first | refine blk_drewN ?_ _ | refine blk_drew ?_ | refine blk_alloc ?_ _)); exact BK161.out) hb); have n3_ := Aside0.mk (below_step (by repeat (first | (with_reducible first | exact HB.out | apply below_alloc | apply pw_below_drewN | apply below_drew1 | refine below_set ?_ GE161.out) | exact HB.out)) hb); have n4_ := Aside0.mk (hbox); have n5_ := Aside0.mk ((by rw [hg]; exact (below_size (by repeat (first | (with_reducible first | exact HB.out | apply below_alloc | apply pw_below_drewN | apply below_drew1 | refine below_set ?_ GE161.out) | exact HB.out))) : w.heap.size ≤ gb176)); have n6_ := Aside0.mk ((by rw [hg]; exact (below_size (by repeat (first | (with_reducible first | exact HB.out | apply below_alloc | apply pw_below_drewN | apply below_drew1 | refine below_set ?_ GE161.out) | exact HB.out))) : w.heap.size ≤ gb176)); have n7_ := Aside0.mk ((by rw [hg]; exact Nat.ne_of_lt (blk_lt (g := gb161) (o := .cells #[.int .i64 x162000_2, .slice Ao51 x162001_2.length co51] 24 (0, 0)) (by (with_reducible repeat (first | refine blk_drewN ?_ _ | refine blk_drew ?_ | refine blk_alloc ?_ _)); exact BK161.out)) : gb161 ≠ gb176)); have n8_ := Aside0.mk ((by rw [hg]; exact Nat.ne_of_gt (blk_lt (g := gb161) (o := .cells #[.int .i64 x162000_2, .slice Ao51 x162001_2.length co51] 24 (0, 0)) (by (with_reducible repeat (first | refine blk_drewN ?_ _ | refine blk_drew ?_ | refine blk_alloc ?_ _)); exact BK161.out)) : gb176 ≠ gb161)); clear HO_162001; clear HO173; clear BK161; clear HB; have HO_162001 := n0_; have HO173 := n1_; have BK161 := n2_; have HB := n3_; have BK176 := n4_; have GW176 := n5_; have GE176 := n6_; have NB161_176 := n7_; have NB176_161 := n8_; clear n0_ n1_ n2_ n3_ n4_ n5_ n6_ n7_ n8_; clear hb hbox hg; have hnb54 := NB176_161.out; have hnc54 := NB161_176.out; have hcz55_0 : w53.cell? ⟨gb176, 0, none⟩ = some (.int .i64 0) := (blk_cell BK176.out 0).trans rfl; have hcz55_1 : w53.cell? ⟨gb176, 1, none⟩ = some (.slice none 0 0) := (blk_cell BK176.out 1).trans rfl; have hfz55_0 := blk_frozen BK176.out 0; have hfz55_1 := blk_frozen BK176.out 1; obtain ⟨Ao56, co56, eo56⟩ := Kd.R_slice HO173.out; subst eo56))
                      go_ret
                      exact ⟨by first | rfl | (simp [errW_none, errW_some] <;> rfl) | (simp [*, errW_none, errW_some] <;> rfl), by repeat (first | (with_reducible first | exact HB.out | apply below_alloc | apply pw_below_drewN | apply below_drew1 | refine below_set ?_ GE161.out | refine below_set ?_ GE176.out) | exact HB.out)⟩
                    · rw [if_neg c49] at H
                      have c49b0 : (t175 == 0) = false := beq_eq_false_iff_ne.mpr c49
                      have c49b1 : (t175 != 0) = true := bne_iff_ne.mpr c49
                      obtain rfl := Option.some.inj H
                      have hcz57_0 : wr.cell? ⟨gb161, 0, none⟩ = some (.int .i64 x162000_2) := (blk_cell BK161.out 0).trans rfl
                      have hcz57_1 : wr.cell? ⟨gb161, 1, none⟩ = some (u162001) := (blk_cell BK161.out 1).trans rfl
                      have hfz57_0 := blk_frozen BK161.out 0
                      have hfz57_1 := blk_frozen BK161.out 1
                      obtain ⟨Ao58, co58, eo58⟩ := Kd.R_slice HO_162001.out
                      subst eo58
                      go_wp2_with (first | ((with_reducible refine gate_callee (f := 11) rfl ?_); refine goesL_ (some 75) rfl rfl Try.func11 (by kernel_rfl) rfl #[.agg #[.int .i64 x162000_2, .slice Ao58 x162001_2.length co58], .int .i64 a0, .int .i64 (wrap64 (a1 + a0))] rfl (by (try simp only [List.map_toArray, List.map_cons, List.map_nil]); first | done | rfl | (simp only [List.length_drop, List.length_take]; rfl)) ?_; (with_reducible refine (clock_Admit.calls k3 x162000_2 _ _ x162001_2 a0 (wrap64 (a1 + a0)) t170 t171 t174 t175 _ ?side1 ?side2 A48.out).mono ?_); (case side1 => repeat (first | exact (Kd.R_reads' HO_162001.out).2.2 | (with_reducible refine Kd.C_alloc ?_ _) | (with_reducible refine Kd.C_drewN ?_ _) | (with_reducible refine Kd.C_drew ?_))); (case side2 => exact (Kd.R_reads' HO_162001.out).2.1); rintro e w59 ⟨v172, rfl, ho0, hb⟩; refine ⟨_, rfl, ?_⟩; have n0_ := Aside0.mk (Kd.R_elder' (by (with_reducible repeat (first | apply Kd.R_alloc | apply Kd.R_drewN | apply Kd.R_drew)); exact HO_162001.out) (Kd.R_base ho0) hb); have n1_ := Aside0.mk (Kd.R_lower (Kd.R_new' ho0 (Kd.R_lt (by (with_reducible repeat (first | apply Kd.R_alloc | apply Kd.R_drewN | apply Kd.R_drew)); exact HO_162001.out))) (below_size (by repeat (first | (with_reducible first | exact HB.out | apply below_alloc | apply pw_below_drewN | apply below_drew1 | refine below_set ?_ GE161.out) | exact HB.out)))); have n2_ := Aside0.mk (blk_below (g := gb161) (o := .cells #[.int .i64 x162000_2, .slice Ao58 x162001_2.length co58] 24 (0, 0)) (by (with_reducible repeat (first | refine blk_drewN ?_ _ | refine blk_drew ?_ | refine blk_alloc ?_ _)); exact BK161.out) hb); have n3_ := Aside0.mk (below_step (by repeat (first | (with_reducible first | exact HB.out | apply below_alloc | apply pw_below_drewN | apply below_drew1 | refine below_set ?_ GE161.out) | exact HB.out)) hb); clear HO_162001; clear BK161; clear HB; have HO_162001 := n0_; have HO173 := n1_; have BK161 := n2_; have HB := n3_; clear n0_ n1_ n2_ n3_; (try clear hb); (try clear hb2); (try clear hk); (try clear hi); (try clear ho0)) | ((with_reducible refine gate_dst (N := 12) rfl ?_); refine box_event ?hg (N := 12) ?hd (cs := #[.int .i64 0, .slice none 0 0]) (t := 24) ?hr ?_; (case hd => rfl); (case hg => rfl); (case hr => first | (go_simp; done) | (go_simp; rfl)); intro gb176 hg w60 hbox hb; have n0_ := Aside0.mk (Kd.R_below (by (with_reducible repeat (first | apply Kd.R_alloc | apply Kd.R_drewN | apply Kd.R_drew)); exact HO_162001.out) hb); have n1_ := Aside0.mk (Kd.R_below (by (with_reducible repeat (first | apply Kd.R_alloc | apply Kd.R_drewN | apply Kd.R_drew)); exact HO173.out) hb); have n2_ := Aside0.mk (blk_below (g := gb161) (o := .cells #[.int .i64 x162000_2, .slice Ao58 x162001_2.length co58] 24 (0, 0)) (by (with_reducible repeat (first | refine blk_drewN ?_ _ | refine blk_drew ?_ | refine blk_alloc ?_ _)); exact BK161.out) hb); have n3_ := Aside0.mk (below_step (by repeat (first | (with_reducible first | exact HB.out | apply below_alloc | apply pw_below_drewN | apply below_drew1 | refine below_set ?_ GE161.out) | exact HB.out)) hb); have n4_ := Aside0.mk (hbox); have n5_ := Aside0.mk ((by rw [hg]; exact (below_size (by repeat (first | (with_reducible first | exact HB.out | apply below_alloc | apply pw_below_drewN | apply below_drew1 | refine below_set ?_ GE161.out) | exact HB.out))) : w.heap.size ≤ gb176)); have n6_ := Aside0.mk ((by rw [hg]; exact (below_size (by repeat (first | (with_reducible first | exact HB.out | apply below_alloc | apply pw_below_drewN | apply below_drew1 | refine below_set ?_ GE161.out) | exact HB.out))) : w.heap.size ≤ gb176)); have n7_ := Aside0.mk ((by rw [hg]; exact Nat.ne_of_lt (blk_lt (g := gb161) (o := .cells #[.int .i64 x162000_2, .slice Ao58 x162001_2.length co58] 24 (0, 0)) (by (with_reducible repeat (first | refine blk_drewN ?_ _ | refine blk_drew ?_ | refine blk_alloc ?_ _)); exact BK161.out)) : gb161 ≠ gb176)); have n8_ := Aside0.mk ((by rw [hg]; exact Nat.ne_of_gt (blk_lt (g := gb161) (o := .cells #[.int .i64 x162000_2, .slice Ao58 x162001_2.length co58] 24 (0, 0)) (by (with_reducible repeat (first | refine blk_drewN ?_ _ | refine blk_drew ?_ | refine blk_alloc ?_ _)); exact BK161.out)) : gb176 ≠ gb161)); clear HO_162001; clear HO173; clear BK161; clear HB; have HO_162001 := n0_; have HO173 := n1_; have BK161 := n2_; have HB := n3_; have BK176 := n4_; have GW176 := n5_; have GE176 := n6_; have NB161_176 := n7_; have NB176_161 := n8_; clear n0_ n1_ n2_ n3_ n4_ n5_ n6_ n7_ n8_; clear hb hbox hg; have hnb61 := NB176_161.out; have hnc61 := NB161_176.out; have hcz62_0 : w60.cell? ⟨gb176, 0, none⟩ = some (.int .i64 0) := (blk_cell BK176.out 0).trans rfl; have hcz62_1 : w60.cell? ⟨gb176, 1, none⟩ = some (.slice none 0 0) := (blk_cell BK176.out 1).trans rfl; have hfz62_0 := blk_frozen BK176.out 0; have hfz62_1 := blk_frozen BK176.out 1; obtain ⟨Ao63, co63, eo63⟩ := Kd.R_slice HO173.out; subst eo63))
                      go_ret
                      exact ⟨by first | rfl | (simp [errW_none, errW_some] <;> rfl) | (simp [*, errW_none, errW_some] <;> rfl), by repeat (first | (with_reducible first | exact HB.out | apply below_alloc | apply pw_below_drewN | apply below_drew1 | refine below_set ?_ GE161.out | refine below_set ?_ GE176.out) | exact HB.out)⟩

/-- THE ONE PURE STATEMENT of bobbinlaw16_ClockRound: yours. -/
def bobbinlaw16_ClockRound.Pure : Prop := ∀ (a0 : Int) (a1 : Int), (Lit.int .i64 a0).wf = true → (Lit.int .i64 a1).wf = true → ∃ k, bobbinlaw16_ClockRound.f k a0 a1 = some true
theorem bobbinlaw16_ClockRound.walk (P : bobbinlaw16_ClockRound.Pure) (a0 : Int) (a1 : Int) (w : World) (w0 : (Lit.int .i64 a0).wf = true) (w1 : (Lit.int .i64 a1).wf = true) :
    Calls Try.prog 5 #[.int .i64 a0, .int .i64 a1] w fun e w' => e = .returned (.bool true) ∧ Below w.heap.size w w' := by
  obtain ⟨k, h⟩ := P a0 a1 w0 w1
  refine (bobbinlaw16_ClockRound.calls k a0 a1 true w h).mono ?_
  rintro e w' ⟨rfl, hd⟩
  exact ⟨rfl, hd⟩

-- NOT PRINTED: function 24 (clock_with)

/-! ### clock_Touch: function 13 -/
def clock_Touch.turn (x : S32) : S32 := { x with f1 := true }
def clock_Touch.f (k : Nat) (a0_0 : Int) (l0_1 : List S32) (a1 : Int) : Option (Int × List S32 × Int) :=
  (clock_May.f k a0_0 l0_1).bind fun ok => if ok = true then (if clock_at.idx l0_1 a1 < 0 then some (0, [], 3) else
    if l0_1.length < 8796093022208 then some (a0_0, l0_1.set (clock_at.idx l0_1 a1).toNat (clock_Touch.turn (l0_1.getD (clock_at.idx l0_1 a1).toNat z32)), 0) else none) else some (0, [], 1)
theorem clock_Touch.mono : ∀ a0 a1 a2 k, LeO (clock_Touch.f k a0 a1 a2) (clock_Touch.f (k + 1) a0 a1 a2) := by
  intro a0 a1 a2 k
  unfold clock_Touch.f
  repeat' first
      | (with_reducible exact clock_May.mono _ _ _)
      | (with_reducible exact LeO.refl _)
      | (with_reducible exact LeO.none _)
      | (with_reducible refine LeO.ite ?_ ?_)
      | (with_reducible refine LeO.bind ?_ (fun _ => ?_))
set_option maxHeartbeats 1000000 in
set_option maxRecDepth 100000 in
theorem clock_Touch.clo (g o : Nat) (b0 : Bool) (W : World) (h : W.cell? ⟨g, o + 1, none⟩ = some (.bool b0)) (hf : W.frozen? ⟨g, o + 1, none⟩ = false) :
    Calls Try.prog 25 #[.pointer (some ⟨g, o, none⟩)] W fun e w' => e = .returned (.tuple #[]) ∧ W.setCell ⟨g, o + 1, none⟩ (.bool true) = w' := by
  go_enter Try.func25, Try.ntmps25
  go_wp2_with fail
  go_end0
  exact ⟨rfl, rfl⟩
set_option maxHeartbeats 1000000 in
set_option maxRecDepth 100000 in
theorem clock_Touch.with_ (k : Nat) (a0_0 : Int) (A0_1 : Option Addr) (c0_1 : Nat) (l0_1 : List S32) (a1 : Int) (r1 : Int) (r2 : List S32) (r3 : Int) (w : World) (hr0_1 : Kd.C k32 w A0_1 l0_1.length l0_1) (hc0_1 : l0_1.length ≤ c0_1) (h : clock_Touch.f k a0_0 l0_1 a1 = some (r1, r2, r3)) :
    Calls Try.prog 24 #[.agg #[.int .i64 a0_0, .slice A0_1 l0_1.length c0_1], .int .i64 a1, .func (.func 25) #[] #[]] w fun e w' => ∃ v1_ : Value, e = .returned (.tuple #[.agg #[.int .i64 r1, v1_], .int .i64 r3]) ∧ Kd.R k32 32 w' w.heap.size (fun _ => True) v1_ r2 ∧ Below w.heap.size w w' := by
  have HR := Aside0.mk hr0_1
  clear hr0_1
  unfold clock_Touch.f at h
  replace h := Option.bind_eq_some_iff.mp h
  obtain ⟨ok, HM, h⟩ := h
  replace HM := Aside0.mk HM
  have HB0 := fun (o1 o2 : Obj) => below_alloc (below_alloc (Below.refl w.heap.size w) o1) o2
  replace HB0 := Aside0.mk HB0
  by_cases hok : ok = true
  · subst hok
    rw [if_pos rfl] at h
    have hcap : True := trivial
    split at h
    · rename_i hneg
      simp only [Option.some.injEq, Prod.mk.injEq] at h
      obtain ⟨rfl, rfl, rfl⟩ := h
      have hd := decide_eq_true hneg
      clear hneg
      go_enter Try.func24, Try.ntmps24
      go_wp2_with fail
      refine (clock_May.calls k a0_0 A0_1 c0_1 l0_1 true _ (Kd.C_below HR.out (HB0.out _ _)) hc0_1 HM.out).mono ?_
      rintro e w1 ⟨rfl, hb⟩
      have c0w1 : w1.cell? ⟨w.heap.size, 0, none⟩ = some (.int .i64 a0_0) := (hb.cell (by first | omega | (simp; done) | (simp; omega))).trans (by go_simp)
      have c1w1 : w1.cell? ⟨w.heap.size, 1, none⟩ = some (.slice A0_1 l0_1.length c0_1) := (hb.cell (by first | omega | (simp; done) | (simp; omega))).trans (by go_simp)
      have f1w1 : w1.frozen? ⟨w.heap.size, 1, none⟩ = false := (hb.frozen (by first | omega | (simp; done) | (simp; omega))).trans (by go_simp)
      have b0w1 : w1.frozen? ⟨w.heap.size + 1, 0, none⟩ = false := (hb.frozen (by first | omega | (simp; done) | (simp; omega))).trans (by go_simp)
      have b1w1 : w1.frozen? ⟨w.heap.size + 1, 1, none⟩ = false := (hb.frozen (by first | omega | (simp; done) | (simp; omega))).trans (by go_simp)
      have b2w1 : w1.cell? ⟨w.heap.size + 1, 0, none⟩ = some (.int .i64 0) := (hb.cell (by first | omega | (simp; done) | (simp; omega))).trans (by go_simp)
      have b3w1 : w1.cell? ⟨w.heap.size + 1, 1, none⟩ = some (.slice none 0 0) := (hb.cell (by first | omega | (simp; done) | (simp; omega))).trans (by go_simp)
      have hz1 : w.heap.size + 1 < w1.heap.size := by have := hb.size; simp at this; omega
      replace hb := Aside0.mk (below_then (HB0.out _ _) (by simp; omega) hb)
      go_wp2_with fail
      refine (clock_at.calls A0_1 c0_1 l0_1 a1 _ _ (Kd.C_below HR.out hb.out) hc0_1 rfl).mono ?_
      rintro e w2 ⟨rfl, hb2⟩
      have c0w2 : w2.cell? ⟨w.heap.size, 0, none⟩ = some (.int .i64 a0_0) := (hb2.cell (by first | omega | (simp; done) | (simp; omega))).trans c0w1
      have c1w2 : w2.cell? ⟨w.heap.size, 1, none⟩ = some (.slice A0_1 l0_1.length c0_1) := (hb2.cell (by first | omega | (simp; done) | (simp; omega))).trans c1w1
      have f1w2 : w2.frozen? ⟨w.heap.size, 1, none⟩ = false := (hb2.frozen (by first | omega | (simp; done) | (simp; omega))).trans f1w1
      have b0w2 : w2.frozen? ⟨w.heap.size + 1, 0, none⟩ = false := (hb2.frozen (by first | omega | (simp; done) | (simp; omega))).trans b0w1
      have b1w2 : w2.frozen? ⟨w.heap.size + 1, 1, none⟩ = false := (hb2.frozen (by first | omega | (simp; done) | (simp; omega))).trans b1w1
      have b2w2 : w2.cell? ⟨w.heap.size + 1, 0, none⟩ = some (.int .i64 0) := (hb2.cell (by first | omega | (simp; done) | (simp; omega))).trans b2w1
      have b3w2 : w2.cell? ⟨w.heap.size + 1, 1, none⟩ = some (.slice none 0 0) := (hb2.cell (by first | omega | (simp; done) | (simp; omega))).trans b3w1
      clear c0w1 c1w1 f1w1 b0w1 b1w1 b2w1 b3w1
      replace hb2 := Aside0.mk (below_then hb.out hb.out.size hb2)
      go_wp2_with fail
      refine bodyPost_ret (v := .tuple #[.agg #[.int .i64 0, .slice none 0 0], .int .i64 3]) (by simp [results, Try.results24, go_sem, b0w2, b1w2, b2w2, b3w2]) rfl ⟨_, rfl, Kd.R_nil _ _ _ _ _, ?_⟩
      exact below_set (below_set hb2.out (by simp)) (by simp)

    · rename_i hneg
      split at h
      · rename_i hlim
        simp only [Option.some.injEq, Prod.mk.injEq] at h
        obtain ⟨rfl, rfl, rfl⟩ := h
        have hd := decide_eq_false hneg
        go_enter Try.func24, Try.ntmps24
        go_wp2_with fail
        refine (clock_May.calls k a0_0 A0_1 c0_1 l0_1 true _ (Kd.C_below HR.out (HB0.out _ _)) hc0_1 HM.out).mono ?_
        rintro e w1 ⟨rfl, hb⟩
        have c0w1 : w1.cell? ⟨w.heap.size, 0, none⟩ = some (.int .i64 a0_0) := (hb.cell (by first | omega | (simp; done) | (simp; omega))).trans (by go_simp)
        have c1w1 : w1.cell? ⟨w.heap.size, 1, none⟩ = some (.slice A0_1 l0_1.length c0_1) := (hb.cell (by first | omega | (simp; done) | (simp; omega))).trans (by go_simp)
        have f1w1 : w1.frozen? ⟨w.heap.size, 1, none⟩ = false := (hb.frozen (by first | omega | (simp; done) | (simp; omega))).trans (by go_simp)
        have b0w1 : w1.frozen? ⟨w.heap.size + 1, 0, none⟩ = false := (hb.frozen (by first | omega | (simp; done) | (simp; omega))).trans (by go_simp)
        have b1w1 : w1.frozen? ⟨w.heap.size + 1, 1, none⟩ = false := (hb.frozen (by first | omega | (simp; done) | (simp; omega))).trans (by go_simp)
        have b2w1 : w1.cell? ⟨w.heap.size + 1, 0, none⟩ = some (.int .i64 0) := (hb.cell (by first | omega | (simp; done) | (simp; omega))).trans (by go_simp)
        have b3w1 : w1.cell? ⟨w.heap.size + 1, 1, none⟩ = some (.slice none 0 0) := (hb.cell (by first | omega | (simp; done) | (simp; omega))).trans (by go_simp)
        have hz1 : w.heap.size + 1 < w1.heap.size := by have := hb.size; simp at this; omega
        replace hb := Aside0.mk (below_then (HB0.out _ _) (by simp; omega) hb)
        go_wp2_with fail
        refine (clock_at.calls A0_1 c0_1 l0_1 a1 _ _ (Kd.C_below HR.out hb.out) hc0_1 rfl).mono ?_
        rintro e w2 ⟨rfl, hb2⟩
        have c0w2 : w2.cell? ⟨w.heap.size, 0, none⟩ = some (.int .i64 a0_0) := (hb2.cell (by first | omega | (simp; done) | (simp; omega))).trans c0w1
        have c1w2 : w2.cell? ⟨w.heap.size, 1, none⟩ = some (.slice A0_1 l0_1.length c0_1) := (hb2.cell (by first | omega | (simp; done) | (simp; omega))).trans c1w1
        have f1w2 : w2.frozen? ⟨w.heap.size, 1, none⟩ = false := (hb2.frozen (by first | omega | (simp; done) | (simp; omega))).trans f1w1
        have b0w2 : w2.frozen? ⟨w.heap.size + 1, 0, none⟩ = false := (hb2.frozen (by first | omega | (simp; done) | (simp; omega))).trans b0w1
        have b1w2 : w2.frozen? ⟨w.heap.size + 1, 1, none⟩ = false := (hb2.frozen (by first | omega | (simp; done) | (simp; omega))).trans b1w1
        have b2w2 : w2.cell? ⟨w.heap.size + 1, 0, none⟩ = some (.int .i64 0) := (hb2.cell (by first | omega | (simp; done) | (simp; omega))).trans b2w1
        have b3w2 : w2.cell? ⟨w.heap.size + 1, 1, none⟩ = some (.slice none 0 0) := (hb2.cell (by first | omega | (simp; done) | (simp; omega))).trans b3w1
        clear c0w1 c1w1 f1w1 b0w1 b1w1 b2w1 b3w1
        have hz2 : w.heap.size + 1 < w2.heap.size := by have := hb2.size; omega
        replace hb2 := Aside0.mk (below_then hb.out hb.out.size hb2)
        go_wp2_with fail
        refine (api_Frame_23.calls_n l0_1.length _ _ l0_1 _ (Kd.C_below HR.out hb2.out) hc0_1 hlim).mono ?_
        rintro e w3 ⟨v1, rfl, ho, hb3⟩
        have c0w3 : w3.cell? ⟨w.heap.size, 0, none⟩ = some (.int .i64 a0_0) := (hb3.cell (by first | omega | (simp; done) | (simp; omega))).trans c0w2
        have c1w3 : w3.cell? ⟨w.heap.size, 1, none⟩ = some (.slice A0_1 l0_1.length c0_1) := (hb3.cell (by first | omega | (simp; done) | (simp; omega))).trans c1w2
        have f1w3 : w3.frozen? ⟨w.heap.size, 1, none⟩ = false := (hb3.frozen (by first | omega | (simp; done) | (simp; omega))).trans f1w2
        have b0w3 : w3.frozen? ⟨w.heap.size + 1, 0, none⟩ = false := (hb3.frozen (by first | omega | (simp; done) | (simp; omega))).trans b0w2
        have b1w3 : w3.frozen? ⟨w.heap.size + 1, 1, none⟩ = false := (hb3.frozen (by first | omega | (simp; done) | (simp; omega))).trans b1w2
        have b2w3 : w3.cell? ⟨w.heap.size + 1, 0, none⟩ = some (.int .i64 0) := (hb3.cell (by first | omega | (simp; done) | (simp; omega))).trans b2w2
        have b3w3 : w3.cell? ⟨w.heap.size + 1, 1, none⟩ = some (.slice none 0 0) := (hb3.cell (by first | omega | (simp; done) | (simp; omega))).trans b3w2
        clear c0w2 c1w2 f1w2 b0w2 b1w2 b2w2 b3w2
        replace hb3 := Aside0.mk (below_then hb2.out hb2.out.size hb3)
        obtain ⟨i, hi, hil⟩ := clock_at.idx_lt (by omega : 0 ≤ clock_at.idx l0_1 a1)
        have hT := Aside0.mk (show (clock_at.idx l0_1 a1).toNat = i by rw [hi]; rfl)
        rw [hi] at hd ⊢
        clear hneg hi
        obtain ⟨g, cap, rfl, hg1, hg2, cells, HG⟩ := Kd.R_form ho (by omega)
        replace HG := Aside0.mk HG
        obtain ⟨hn, hcc, hC⟩ := Kd.R_reads' ho
        obtain ⟨ad, hA, h0, h1, h2⟩ := clock_at.cells hC i hil
        obtain rfl := Option.some.inj hA
        have e0 : (⟨g, 0, none⟩ : Addr).add (i * 3) = ⟨g, i * 3, none⟩ := add_plain g (i * 3)
        rw [e0] at h0 h1 h2
        replace ho := Aside0.mk ho
        clear hA e0 hC
        go_wp2_with fail
        refine (clock_Touch.clo g (i * 3) _ _ (bb_far h1 (by show g ≠ w.heap.size; omega) _) (bb_ffar (blk_frozen HG.out _) (by show g ≠ w.heap.size; omega) _)).mono ?_
        rintro e w4 ⟨rfl, hw4⟩
        replace hw4 := Aside0.mk hw4
        have d0 : w4.cell? ⟨w.heap.size, 0, none⟩ = some (.int .i64 a0_0) := by rw [← hw4.out]; exact bb_far ((World.cell?_setCell_other _ _ _ _ (by simp)).trans c0w3) (by show w.heap.size ≠ g; omega) _
        have d1 : w4.cell? ⟨w.heap.size, 1, none⟩ = some (.slice (some ⟨g, 0, none⟩) l0_1.length cap) := by rw [← hw4.out]; exact bb_far (World.cell?_setCell_same _ _ _ c1w3) (by show w.heap.size ≠ g; omega) _
        have d2 : w4.cell? ⟨w.heap.size + 1, 0, none⟩ = some (.int .i64 0) := by rw [← hw4.out]; exact bb_far (bb_far b2w3 (by simp) _) (by show w.heap.size + 1 ≠ g; omega) _
        have d3 : w4.cell? ⟨w.heap.size + 1, 1, none⟩ = some (.slice none 0 0) := by rw [← hw4.out]; exact bb_far (bb_far b3w3 (by simp) _) (by show w.heap.size + 1 ≠ g; omega) _
        have d4 : w4.frozen? ⟨w.heap.size + 1, 0, none⟩ = false := by rw [← hw4.out]; exact bb_ffar (bb_ffar b0w3 (by simp) _) (by show w.heap.size + 1 ≠ g; omega) _
        have d5 : w4.frozen? ⟨w.heap.size + 1, 1, none⟩ = false := by rw [← hw4.out]; exact bb_ffar (bb_ffar b1w3 (by simp) _) (by show w.heap.size + 1 ≠ g; omega) _
        have hR4 := Aside0.mk (show Kd.R k32 32 w4 w2.heap.size (fun _ => True) (.slice (some ⟨g, 0, none⟩) l0_1.length cap) (l0_1.set i (clock_Touch.turn (l0_1.getD i z32))) from by
          rw [← hw4.out]
          exact clock_at.setc (R_farB ho.out (by show w.heap.size < w2.heap.size; omega) _) i hil 1 (by decide) _ _ rfl)
        have hB4 := Aside0.mk (show Below w.heap.size w w4 from by
          rw [← hw4.out]
          exact below_set (below_set hb3.out (Nat.le_refl _)) (by show w.heap.size ≤ g; omega))
        clear c0w3 c1w3 f1w3 b0w3 b1w3 b2w3 b3w3 h0 h1 h2 hn hd hcc hw4 HG ho
        go_wp2_with fail
        refine bodyPost_ret (v := .tuple #[.agg #[.int .i64 a0_0, .slice (some ⟨g, 0, none⟩) l0_1.length cap], .int .i64 0]) (by simp [results, Try.results24, go_sem, d2, d3, d4, d5]) rfl ⟨_, rfl, ?_, ?_⟩
        · rw [hT.out]
          exact Kd.R_lower (R_farB (R_farB hR4.out (by show w.heap.size + 1 < w2.heap.size; omega) _) (by show w.heap.size + 1 < w2.heap.size; omega) _) (by omega)
        · exact below_set (below_set hB4.out (by simp)) (by simp)
      · exact absurd h (by simp)
  · rw [if_neg hok] at h
    simp only [Option.some.injEq, Prod.mk.injEq] at h
    obtain ⟨rfl, rfl, rfl⟩ := h
    obtain rfl : ok = false := by simpa using hok
    clear hok
    go_enter Try.func24, Try.ntmps24
    go_wp2_with fail
    refine (clock_May.calls k a0_0 A0_1 c0_1 l0_1 false _ (Kd.C_below HR.out (HB0.out _ _)) hc0_1 HM.out).mono ?_
    rintro e w1 ⟨rfl, hb⟩
    have c0w1 : w1.cell? ⟨w.heap.size, 0, none⟩ = some (.int .i64 a0_0) := (hb.cell (by first | omega | (simp; done) | (simp; omega))).trans (by go_simp)
    have c1w1 : w1.cell? ⟨w.heap.size, 1, none⟩ = some (.slice A0_1 l0_1.length c0_1) := (hb.cell (by first | omega | (simp; done) | (simp; omega))).trans (by go_simp)
    have f1w1 : w1.frozen? ⟨w.heap.size, 1, none⟩ = false := (hb.frozen (by first | omega | (simp; done) | (simp; omega))).trans (by go_simp)
    have b0w1 : w1.frozen? ⟨w.heap.size + 1, 0, none⟩ = false := (hb.frozen (by first | omega | (simp; done) | (simp; omega))).trans (by go_simp)
    have b1w1 : w1.frozen? ⟨w.heap.size + 1, 1, none⟩ = false := (hb.frozen (by first | omega | (simp; done) | (simp; omega))).trans (by go_simp)
    have b2w1 : w1.cell? ⟨w.heap.size + 1, 0, none⟩ = some (.int .i64 0) := (hb.cell (by first | omega | (simp; done) | (simp; omega))).trans (by go_simp)
    have b3w1 : w1.cell? ⟨w.heap.size + 1, 1, none⟩ = some (.slice none 0 0) := (hb.cell (by first | omega | (simp; done) | (simp; omega))).trans (by go_simp)
    have hz1 : w.heap.size + 1 < w1.heap.size := by have := hb.size; simp at this; omega
    replace hb := Aside0.mk (below_then (HB0.out _ _) (by simp; omega) hb)
    go_wp2_with fail
    refine bodyPost_ret (v := .tuple #[.agg #[.int .i64 0, .slice none 0 0], .int .i64 1]) (by simp [results, Try.results24, go_sem, b0w1, b1w1, b2w1, b3w1]) rfl ⟨_, rfl, Kd.R_nil _ _ _ _ _, ?_⟩
    exact below_set (below_set hb.out (by simp)) (by simp)
set_option maxHeartbeats 1000000 in
set_option maxRecDepth 100000 in
theorem clock_Touch.calls (k : Nat) (a0_0 : Int) (A0_1 : Option Addr) (c0_1 : Nat) (l0_1 : List S32) (a1 : Int) (r1 : Int) (r2 : List S32) (r3 : Int) (w : World) (hr0_1 : Kd.C k32 w A0_1 l0_1.length l0_1) (hc0_1 : l0_1.length ≤ c0_1) (h : clock_Touch.f k a0_0 l0_1 a1 = some (r1, r2, r3)) :
    Calls Try.prog 13 #[.agg #[.int .i64 a0_0, .slice A0_1 l0_1.length c0_1], .int .i64 a1] w fun e w' => ∃ v1_ : Value, e = .returned (.tuple #[.agg #[.int .i64 r1, v1_], .int .i64 r3]) ∧ Kd.R k32 32 w' w.heap.size (fun _ => True) v1_ r2 ∧ Below w.heap.size w w' := by
  have HR := Aside0.mk hr0_1
  clear hr0_1
  have HB0 := Aside0.mk (fun (o1 o2 : Obj) => below_alloc (below_alloc (Below.refl w.heap.size w) o1) o2)
  go_enter Try.func13, Try.ntmps13
  go_wp2_with fail
  refine (clock_Touch.with_ k a0_0 A0_1 c0_1 l0_1 a1 r1 r2 r3 _ (Kd.C_below HR.out (HB0.out _ _)) hc0_1 h).mono ?_
  rintro e w1 ⟨v1, rfl, ho, hb⟩
  have b0 : w1.frozen? ⟨w.heap.size + 1, 0, none⟩ = false := (hb.frozen (by first | omega | (simp; done) | (simp; omega))).trans (by go_simp)
  have b1 : w1.frozen? ⟨w.heap.size + 1, 1, none⟩ = false := (hb.frozen (by first | omega | (simp; done) | (simp; omega))).trans (by go_simp)
  have b2 : w1.cell? ⟨w.heap.size + 1, 0, none⟩ = some (.int .i64 0) := (hb.cell (by first | omega | (simp; done) | (simp; omega))).trans (by go_simp)
  have b3 : w1.cell? ⟨w.heap.size + 1, 1, none⟩ = some (.slice none 0 0) := (hb.cell (by first | omega | (simp; done) | (simp; omega))).trans (by go_simp)
  obtain ⟨A1, c1, rfl⟩ := Kd.R_slice ho
  replace ho := Aside0.mk (Kd.R_lower (base' := w.heap.size + 1 + 1) ho (by simp))
  replace hb := Aside0.mk (below_then (HB0.out _ _) (by simp; omega) hb)
  go_wp2_with fail
  refine bodyPost_ret (v := .tuple #[.agg #[.int .i64 r1, .slice A1 r2.length c1], .int .i64 r3]) (by simp [results, Try.results13, go_sem, b0, b1, b2, b3]) rfl ⟨_, rfl, ?_, ?_⟩
  · exact Kd.R_lower (R_farB (R_farB ho.out (by simp) _) (by simp) _) (by omega)
  · exact below_set (below_set hb.out (by omega)) (by omega)

/-! ### bobbinref16_find: function 26 -/
def bobbinref16_find.l0 : Nat → List (S32) → Int → Int → Option (Int)
  | 0, _, _, _ => none
  | k + 1, x0, x1, x5 => if x5 < (x0.length : Int) then (if 0 ≤ x5 then (if ((rd_T32 x0 x5).f0) = x1 then (some x5) else (bobbinref16_find.l0 k x0 x1 (wrap64 (x5 + 1)))) else (none)) else (some (-1))
theorem bobbinref16_find.l0_eq : ∀ (k : Nat) x0 x1 x5, bobbinref16_find.l0 (k + 1) x0 x1 x5 = (if x5 < (x0.length : Int) then (if 0 ≤ x5 then (if ((rd_T32 x0 x5).f0) = x1 then (some x5) else (bobbinref16_find.l0 k x0 x1 (wrap64 (x5 + 1)))) else (none)) else (some (-1))) := fun _ _ _ _ => rfl
def bobbinref16_find.f (k : Nat) (l0 : List (S32)) (a1 : Int) : Option (Int) := bobbinref16_find.l0 k l0 a1 0
theorem bobbinref16_find.mono_l : ∀ k, (∀ y0 y1 y2, LeO (bobbinref16_find.l0 k y0 y1 y2) (bobbinref16_find.l0 (k + 1) y0 y1 y2))
  | 0 => fun _ _ _ r h => by first | (cases h; done) | simp [bobbinref16_find.l0] at h
  | k + 1 => by
    have ih0 := bobbinref16_find.mono_l k
    · intro y0 y1 y2
      unfold bobbinref16_find.l0
      repeat' first
      | (with_reducible exact ih0 _ _ _)
      | (with_reducible exact LeO.refl _)
      | (with_reducible exact LeO.none _)
      | (with_reducible refine LeO.ite ?_ ?_)
      | (with_reducible refine LeO.bind ?_ (fun _ => ?_))
      | exact ih0 _ _ _
      | exact LeO.none _
      | refine LeO.ite ?_ ?_
      | refine LeO.bind ?_ (fun _ => ?_)
theorem bobbinref16_find.mono : ∀ a0 a1 k, LeO (bobbinref16_find.f k a0 a1) (bobbinref16_find.f (k + 1) a0 a1) := by
  intro a0 a1 k
  have ih0 := bobbinref16_find.mono_l k
  unfold bobbinref16_find.f
  repeat' first
      | (with_reducible exact ih0 _ _ _)
      | (with_reducible exact LeO.refl _)
      | (with_reducible exact LeO.none _)
      | (with_reducible refine LeO.ite ?_ ?_)
      | (with_reducible refine LeO.bind ?_ (fun _ => ?_))
      | exact ih0 _ _ _
      | exact LeO.none _
      | refine LeO.ite ?_ ?_
      | refine LeO.bind ?_ (fun _ => ?_)
set_option maxHeartbeats 8000000 in
set_option maxRecDepth 100000 in
theorem bobbinref16_find.calls (k : Nat) (A0 : Option Addr) (c0 : Nat) (l0 : List (S32)) (a1 : Int) (r : Int) (w : World) (hr0 : Kd.C k32 w A0 l0.length l0) (hc0 : l0.length ≤ c0) (h : bobbinref16_find.f k l0 a1 = some r) :
    Calls Try.prog 26 #[.slice A0 l0.length c0, .int .i64 a1] w fun e w' => e = .returned (.int .i64 r) ∧ Drawn0 w w' := by
  have HR0 := Aside0.mk hr0
  have HC0 := Aside0.mk hc0
  clear hr0 hc0
  have H : (bobbinref16_find.l0 k l0 a1 0) = some r := h
  clear h
  have H' := Aside0.mk H
  clear H
  go_enter Try.func26, Try.ntmps26
  go_wp2
  go_loopg [5] k (fun kq v5 w' => ∃ (x5_1 : Int), v5 = .int .i64 x5_1 ∧ Aside0 (bobbinref16_find.l0 kq l0 a1 x5_1 = some r) ∧ Aside0 (kq ≤ k) ∧ Drawn0 w w')
  case atStart => exact ⟨(0), (by first | rfl | (simp; done) | (simp [*]; done)), H', ⟨Nat.le_refl _⟩, by repeat (first | exact Drawn0.refl _ | apply Drawn0.step)⟩
  case round =>
    clear H'
    try clear c2
    try clear p2
    obtain ⟨x5_1, rfl, HA, HK1, ⟨m1, rfl⟩⟩ := hrel
    cases gk with
    | zero => exact absurd HA.out (by first | (intro h_; cases h_; done) | simp [bobbinref16_find.l0])
    | succ k1 =>
      have H := HA.out
      clear HA
      rw [bobbinref16_find.l0_eq] at H
      by_cases c3 : x5_1 < (l0.length : Int)
      · rw [if_pos c3] at H
        have c3b0 : decide (x5_1 < (l0.length : Int)) = true := decide_eq_true c3
        clear c3
        by_cases c4 : 0 ≤ x5_1
        · rw [if_pos c4] at H
          have c4b0 : decide (0 ≤ x5_1) = true := decide_eq_true c4
          clear c4
          by_cases c5 : ((rd_T32 l0 x5_1).f0) = a1
          · rw [if_pos c5] at H
            have c5b0 : (((rd_T32 l0 x5_1).f0) == a1) = true := beq_iff_eq.mpr c5
            have c5b1 : (((rd_T32 l0 x5_1).f0) != a1) = false := bne_eq_false_iff_eq.mpr c5
            clear c5
            obtain rfl := Option.some.inj H
            have p177 : 0 ≤ (x5_1 : Int) := of_decide_eq_true (by first | (with_reducible assumption) | assumption)
            have q177 : x5_1 < (l0.length : Int) := of_decide_eq_true (by first | (with_reducible assumption) | assumption)
            obtain ⟨ad177, e177, hx177_0, hx177_1, hx177_2⟩ := at_T32 HR0.out x5_1 p177 q177
            cases e177
            replace p177 := eq_true p177
            replace q177 := eq_true q177
            go_wp2
            go_ret
            exact ⟨by first | rfl | (simp; done) | (simp [*]; done), by repeat (first | exact Drawn0.refl _ | apply Drawn0.step)⟩
          · rw [if_neg c5] at H
            have c5b0 : (((rd_T32 l0 x5_1).f0) == a1) = false := beq_eq_false_iff_ne.mpr c5
            have c5b1 : (((rd_T32 l0 x5_1).f0) != a1) = true := bne_iff_ne.mpr c5
            have H' := Aside0.mk H
            clear H
            have p177 : 0 ≤ (x5_1 : Int) := of_decide_eq_true (by first | (with_reducible assumption) | assumption)
            have q177 : x5_1 < (l0.length : Int) := of_decide_eq_true (by first | (with_reducible assumption) | assumption)
            obtain ⟨ad177, e177, hx177_0, hx177_1, hx177_2⟩ := at_T32 HR0.out x5_1 p177 q177
            cases e177
            replace p177 := eq_true p177
            replace q177 := eq_true q177
            go_wp2
            go_roundg k1
            case measure => have := HK1.out; omega
            case rel => exact ⟨(wrap64 (x5_1 + 1)), (by first | rfl | (simp; done) | (simp [*]; done)), H', ⟨by have := HK1.out; omega⟩, by repeat (first | exact Drawn0.refl _ | apply Drawn0.step)⟩
        · rw [if_neg c4] at H
          exact absurd H (by simp)
      · rw [if_neg c3] at H
        have c3b0 : decide (x5_1 < (l0.length : Int)) = false := decide_eq_false c3
        clear c3
        obtain rfl := Option.some.inj H
        go_wp2
        go_ret
        exact ⟨by first | rfl | (simp; done) | (simp [*]; done), by repeat (first | exact Drawn0.refl _ | apply Drawn0.step)⟩

end Go.Proofs.Ytoklljioloekmaa.Print
