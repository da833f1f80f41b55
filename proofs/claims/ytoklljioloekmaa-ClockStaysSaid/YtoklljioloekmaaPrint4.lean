-- Written by a program of this session (myprint.py over the kit's print.py) out of the translation. Not trusted: Lean checks it.
import Derived.Test.YtoklljioloekmaaPrint0
import Derived.Test.YtoklljioloekmaaPrint2
import Derived.Test.YtoklljioloekmaaPrint3
namespace Go.Proofs.Ytoklljioloekmaa.Print
open Go.RowKit Go.Proofs.YtoklljioloekmaaW.PrintWords Go.Proofs.YtoklljioloekmaaW.PrintLast Go.Proofs.YtoklljioloekmaaW.PrintMore
attribute [local go_sem] max2_int min2_int max_two min_two max_three min_three max_four min_four   -- for this text's walks alone
set_option linter.unusedVariables false
set_option linter.unusedSimpArgs false

/-! ### bobbinlaw16_ClockStays: function 3 -/
mutual
def bobbinlaw16_ClockStays.j0 : Nat → Int → Int → Bool → Bool → Int → List (S32) → Option (Bool)
  | 0, _, _, _, _, _, _ => none
  | k + 1, x1, x2, x7, x27, x127000, x127001 => if x27 = true then (some x7) else ((clock_Admit.f k x127000 x127001 x1 x2).bind fun bt130 => (if bt130.2.2.2 = 0 then ((clock_May.f k bt130.1 bt130.2.1).bind fun t137 => (if t137 = true then ((clock_Has.f k bt130.1 bt130.2.1 x2).bind fun t138 => (if t138 = true then (if bt130.2.2.1 ≥ 0 then ((clock_Has.f k bt130.1 bt130.2.1 bt130.2.2.1).bind fun t139 => (if t139 = true then (bobbinlaw16_ClockStays.j1 k bt130.2.2.1 true x127000 x127001 bt130.1 bt130.2.1) else ((clock_Has.f k x127000 x127001 bt130.2.2.1).bind fun t140 => (if t140 = true then (bobbinlaw16_ClockStays.j1 k bt130.2.2.1 (decide ((bt130.2.1.length : Int) > x1)) x127000 x127001 bt130.1 bt130.2.1) else (bobbinlaw16_ClockStays.j1 k bt130.2.2.1 true x127000 x127001 bt130.1 bt130.2.1))))) else (bobbinlaw16_ClockStays.j1 k bt130.2.2.1 (decide ((bt130.2.1.length : Int) > x1)) x127000 x127001 bt130.1 bt130.2.1)) else (bobbinlaw16_ClockStays.j1 k bt130.2.2.1 true x127000 x127001 bt130.1 bt130.2.1))) else (bobbinlaw16_ClockStays.j1 k bt130.2.2.1 true x127000 x127001 bt130.1 bt130.2.1))) else (if (bt130.2.1.length : Int) = 0 then (if bt130.1 = 0 then (some (bt130.2.2.1 == 0)) else (some false)) else (some false))))
def bobbinlaw16_ClockStays.j1 : Nat → Int → Bool → Int → List (S32) → Int → List (S32) → Option (Bool)
  | 0, _, _, _, _, _, _ => none
  | k + 1, x10, x82, x127000, x127001, x137000, x137001 => if x82 = true then (some false) else (bobbinlaw16_ClockStays.l0 k x10 0 x127000 x127001 x137000 x137001)
def bobbinlaw16_ClockStays.l0 : Nat → Int → Int → Int → List (S32) → Int → List (S32) → Option (Bool)
  | 0, _, _, _, _, _, _ => none
  | k + 1, x10, x12, x127000, x127001, x137000, x137001 => if x12 < (x127001.length : Int) then (if 0 ≤ x12 then (if ((rd_T32 x127001 x12).f0) = x10 then (if (rd_T32 x127001 x12).f2 = true then (some false) else (bobbinlaw16_ClockStays.l0 k x10 (wrap64 (x12 + 1)) x127000 x127001 x137000 x137001)) else ((clock_Has.f k x137000 x137001 ((rd_T32 x127001 x12).f0)).bind fun t143 => (if t143 = true then (bobbinlaw16_ClockStays.l0 k x10 (wrap64 (x12 + 1)) x127000 x127001 x137000 x137001) else (some false)))) else (none)) else (some true)
end
theorem bobbinlaw16_ClockStays.j0_eq : ∀ (k : Nat) x1 x2 x7 x27 x127000 x127001, bobbinlaw16_ClockStays.j0 (k + 1) x1 x2 x7 x27 x127000 x127001 = (if x27 = true then (some x7) else ((clock_Admit.f k x127000 x127001 x1 x2).bind fun bt130 => (if bt130.2.2.2 = 0 then ((clock_May.f k bt130.1 bt130.2.1).bind fun t137 => (if t137 = true then ((clock_Has.f k bt130.1 bt130.2.1 x2).bind fun t138 => (if t138 = true then (if bt130.2.2.1 ≥ 0 then ((clock_Has.f k bt130.1 bt130.2.1 bt130.2.2.1).bind fun t139 => (if t139 = true then (bobbinlaw16_ClockStays.j1 k bt130.2.2.1 true x127000 x127001 bt130.1 bt130.2.1) else ((clock_Has.f k x127000 x127001 bt130.2.2.1).bind fun t140 => (if t140 = true then (bobbinlaw16_ClockStays.j1 k bt130.2.2.1 (decide ((bt130.2.1.length : Int) > x1)) x127000 x127001 bt130.1 bt130.2.1) else (bobbinlaw16_ClockStays.j1 k bt130.2.2.1 true x127000 x127001 bt130.1 bt130.2.1))))) else (bobbinlaw16_ClockStays.j1 k bt130.2.2.1 (decide ((bt130.2.1.length : Int) > x1)) x127000 x127001 bt130.1 bt130.2.1)) else (bobbinlaw16_ClockStays.j1 k bt130.2.2.1 true x127000 x127001 bt130.1 bt130.2.1))) else (bobbinlaw16_ClockStays.j1 k bt130.2.2.1 true x127000 x127001 bt130.1 bt130.2.1))) else (if (bt130.2.1.length : Int) = 0 then (if bt130.1 = 0 then (some (bt130.2.2.1 == 0)) else (some false)) else (some false))))) := fun _ _ _ _ _ _ _ => rfl
theorem bobbinlaw16_ClockStays.j1_eq : ∀ (k : Nat) x10 x82 x127000 x127001 x137000 x137001, bobbinlaw16_ClockStays.j1 (k + 1) x10 x82 x127000 x127001 x137000 x137001 = (if x82 = true then (some false) else (bobbinlaw16_ClockStays.l0 k x10 0 x127000 x127001 x137000 x137001)) := fun _ _ _ _ _ _ _ => rfl
theorem bobbinlaw16_ClockStays.l0_eq : ∀ (k : Nat) x10 x12 x127000 x127001 x137000 x137001, bobbinlaw16_ClockStays.l0 (k + 1) x10 x12 x127000 x127001 x137000 x137001 = (if x12 < (x127001.length : Int) then (if 0 ≤ x12 then (if ((rd_T32 x127001 x12).f0) = x10 then (if (rd_T32 x127001 x12).f2 = true then (some false) else (bobbinlaw16_ClockStays.l0 k x10 (wrap64 (x12 + 1)) x127000 x127001 x137000 x137001)) else ((clock_Has.f k x137000 x137001 ((rd_T32 x127001 x12).f0)).bind fun t143 => (if t143 = true then (bobbinlaw16_ClockStays.l0 k x10 (wrap64 (x12 + 1)) x127000 x127001 x137000 x137001) else (some false)))) else (none)) else (some true)) := fun _ _ _ _ _ _ _ => rfl
def bobbinlaw16_ClockStays.f (k : Nat) (a0_0 : Int) (l0_1 : List (S32)) (a1 : Int) (a2 : Int) : Option (Bool) := (bobbinlaw16_awake.f k).bind fun t127 => ((bobbinlaw16_light.f a0_0 l0_1).bind fun t128 => (if t127 = true then (if t128 = true then ((clock_May.f k a0_0 l0_1).bind fun t129 => (bobbinlaw16_ClockStays.j0 k a1 a2 t127 (!t129) a0_0 l0_1)) else (bobbinlaw16_ClockStays.j0 k a1 a2 t127 true a0_0 l0_1)) else (bobbinlaw16_ClockStays.j0 k a1 a2 t127 true a0_0 l0_1)))
theorem bobbinlaw16_ClockStays.mono_l : ∀ k, (∀ y0 y1 y2 y3 y4 y5, LeO (bobbinlaw16_ClockStays.j0 k y0 y1 y2 y3 y4 y5) (bobbinlaw16_ClockStays.j0 (k + 1) y0 y1 y2 y3 y4 y5)) ∧ (∀ y0 y1 y2 y3 y4 y5, LeO (bobbinlaw16_ClockStays.j1 k y0 y1 y2 y3 y4 y5) (bobbinlaw16_ClockStays.j1 (k + 1) y0 y1 y2 y3 y4 y5)) ∧ (∀ y0 y1 y2 y3 y4 y5, LeO (bobbinlaw16_ClockStays.l0 k y0 y1 y2 y3 y4 y5) (bobbinlaw16_ClockStays.l0 (k + 1) y0 y1 y2 y3 y4 y5))
  | 0 => ⟨fun _ _ _ _ _ _ r h => by first | (cases h; done) | simp [bobbinlaw16_ClockStays.j0] at h, fun _ _ _ _ _ _ r h => by first | (cases h; done) | simp [bobbinlaw16_ClockStays.j1] at h, fun _ _ _ _ _ _ r h => by first | (cases h; done) | simp [bobbinlaw16_ClockStays.l0] at h⟩
  | k + 1 => by
    obtain ⟨ih0, ih1, ih2⟩ := bobbinlaw16_ClockStays.mono_l k
    refine ⟨?_, ?_, ?_⟩
    · intro y0 y1 y2 y3 y4 y5
      unfold bobbinlaw16_ClockStays.j0
      repeat' first
      | (with_reducible exact ih0 _ _ _ _ _ _)
      | (with_reducible exact ih1 _ _ _ _ _ _)
      | (with_reducible exact ih2 _ _ _ _ _ _)
      | (with_reducible exact bobbinlaw16_awake.mono _)
      | (with_reducible exact clock_Admit.mono _ _ _ _ _)
      | (with_reducible exact clock_Has.mono _ _ _ _)
      | (with_reducible exact clock_May.mono _ _ _)
      | (with_reducible exact LeO.refl _)
      | (with_reducible exact LeO.none _)
      | (with_reducible refine LeO.ite ?_ ?_)
      | (with_reducible refine LeO.bind ?_ (fun _ => ?_))
      | exact ih0 _ _ _ _ _ _
      | exact ih1 _ _ _ _ _ _
      | exact ih2 _ _ _ _ _ _
      | exact bobbinlaw16_awake.mono _
      | exact clock_Admit.mono _ _ _ _ _
      | exact clock_Has.mono _ _ _ _
      | exact clock_May.mono _ _ _
      | exact LeO.none _
      | refine LeO.ite ?_ ?_
      | refine LeO.bind ?_ (fun _ => ?_)
    · intro y0 y1 y2 y3 y4 y5
      unfold bobbinlaw16_ClockStays.j1
      repeat' first
      | (with_reducible exact ih0 _ _ _ _ _ _)
      | (with_reducible exact ih1 _ _ _ _ _ _)
      | (with_reducible exact ih2 _ _ _ _ _ _)
      | (with_reducible exact bobbinlaw16_awake.mono _)
      | (with_reducible exact clock_Admit.mono _ _ _ _ _)
      | (with_reducible exact clock_Has.mono _ _ _ _)
      | (with_reducible exact clock_May.mono _ _ _)
      | (with_reducible exact LeO.refl _)
      | (with_reducible exact LeO.none _)
      | (with_reducible refine LeO.ite ?_ ?_)
      | (with_reducible refine LeO.bind ?_ (fun _ => ?_))
      | exact ih0 _ _ _ _ _ _
      | exact ih1 _ _ _ _ _ _
      | exact ih2 _ _ _ _ _ _
      | exact bobbinlaw16_awake.mono _
      | exact clock_Admit.mono _ _ _ _ _
      | exact clock_Has.mono _ _ _ _
      | exact clock_May.mono _ _ _
      | exact LeO.none _
      | refine LeO.ite ?_ ?_
      | refine LeO.bind ?_ (fun _ => ?_)
    · intro y0 y1 y2 y3 y4 y5
      unfold bobbinlaw16_ClockStays.l0
      repeat' first
      | (with_reducible exact ih0 _ _ _ _ _ _)
      | (with_reducible exact ih1 _ _ _ _ _ _)
      | (with_reducible exact ih2 _ _ _ _ _ _)
      | (with_reducible exact bobbinlaw16_awake.mono _)
      | (with_reducible exact clock_Admit.mono _ _ _ _ _)
      | (with_reducible exact clock_Has.mono _ _ _ _)
      | (with_reducible exact clock_May.mono _ _ _)
      | (with_reducible exact LeO.refl _)
      | (with_reducible exact LeO.none _)
      | (with_reducible refine LeO.ite ?_ ?_)
      | (with_reducible refine LeO.bind ?_ (fun _ => ?_))
      | exact ih0 _ _ _ _ _ _
      | exact ih1 _ _ _ _ _ _
      | exact ih2 _ _ _ _ _ _
      | exact bobbinlaw16_awake.mono _
      | exact clock_Admit.mono _ _ _ _ _
      | exact clock_Has.mono _ _ _ _
      | exact clock_May.mono _ _ _
      | exact LeO.none _
      | refine LeO.ite ?_ ?_
      | refine LeO.bind ?_ (fun _ => ?_)
theorem bobbinlaw16_ClockStays.mono : ∀ a0 a1 a2 a3 k, LeO (bobbinlaw16_ClockStays.f k a0 a1 a2 a3) (bobbinlaw16_ClockStays.f (k + 1) a0 a1 a2 a3) := by
  intro a0 a1 a2 a3 k
  obtain ⟨ih0, ih1, ih2⟩ := bobbinlaw16_ClockStays.mono_l k
  unfold bobbinlaw16_ClockStays.f
  repeat' first
      | (with_reducible exact ih0 _ _ _ _ _ _)
      | (with_reducible exact ih1 _ _ _ _ _ _)
      | (with_reducible exact ih2 _ _ _ _ _ _)
      | (with_reducible exact bobbinlaw16_awake.mono _)
      | (with_reducible exact clock_Admit.mono _ _ _ _ _)
      | (with_reducible exact clock_Has.mono _ _ _ _)
      | (with_reducible exact clock_May.mono _ _ _)
      | (with_reducible exact LeO.refl _)
      | (with_reducible exact LeO.none _)
      | (with_reducible refine LeO.ite ?_ ?_)
      | (with_reducible refine LeO.bind ?_ (fun _ => ?_))
      | exact ih0 _ _ _ _ _ _
      | exact ih1 _ _ _ _ _ _
      | exact ih2 _ _ _ _ _ _
      | exact bobbinlaw16_awake.mono _
      | exact clock_Admit.mono _ _ _ _ _
      | exact clock_Has.mono _ _ _ _
      | exact clock_May.mono _ _ _
      | exact LeO.none _
      | refine LeO.ite ?_ ?_
      | refine LeO.bind ?_ (fun _ => ?_)
set_option maxHeartbeats 8000000 in
set_option maxRecDepth 100000 in
theorem bobbinlaw16_ClockStays.calls (k : Nat) (a0_0 : Int) (A0_1 : Option Addr) (c0_1 : Nat) (l0_1 : List (S32)) (a1 : Int) (a2 : Int) (r : Bool) (w : World) (hr0_1 : Kd.C k32 w A0_1 l0_1.length l0_1) (hc0_1 : l0_1.length ≤ c0_1) (h : bobbinlaw16_ClockStays.f k a0_0 l0_1 a1 a2 = some r) :
    Calls Try.prog 3 #[.agg #[.int .i64 a0_0, .slice A0_1 l0_1.length c0_1], .int .i64 a1, .int .i64 a2] w fun e w' => e = .returned (.bool r) ∧ Below w.heap.size w w' := by
  have hu24 := Try.underlying24
  have hu32 := Try.underlying32
  have HR0_1 := Aside0.mk hr0_1
  have HC0_1 := Aside0.mk hc0_1
  clear hr0_1 hc0_1
  have HB := Aside0.mk (Below.refl w.heap.size w)
  have H : ((bobbinlaw16_awake.f k).bind fun t127 => ((bobbinlaw16_light.f a0_0 l0_1).bind fun t128 => (if t127 = true then (if t128 = true then ((clock_May.f k a0_0 l0_1).bind fun t129 => (bobbinlaw16_ClockStays.j0 k a1 a2 t127 (!t129) a0_0 l0_1)) else (bobbinlaw16_ClockStays.j0 k a1 a2 t127 true a0_0 l0_1)) else (bobbinlaw16_ClockStays.j0 k a1 a2 t127 true a0_0 l0_1)))) = some r := h
  clear h
  replace H := Option.bind_eq_some_iff.mp H
  obtain ⟨t127, A40, H⟩ := H
  replace H : ((bobbinlaw16_light.f a0_0 l0_1).bind fun t128 => (if t127 = true then (if t128 = true then ((clock_May.f k a0_0 l0_1).bind fun t129 => (bobbinlaw16_ClockStays.j0 k a1 a2 t127 (!t129) a0_0 l0_1)) else (bobbinlaw16_ClockStays.j0 k a1 a2 t127 true a0_0 l0_1)) else (bobbinlaw16_ClockStays.j0 k a1 a2 t127 true a0_0 l0_1))) = some r := H
  have A4 := Aside0.mk A40
  clear A40
  replace H := Option.bind_eq_some_iff.mp H
  obtain ⟨t128, A50, H⟩ := H
  replace H : (if t127 = true then (if t128 = true then ((clock_May.f k a0_0 l0_1).bind fun t129 => (bobbinlaw16_ClockStays.j0 k a1 a2 t127 (!t129) a0_0 l0_1)) else (bobbinlaw16_ClockStays.j0 k a1 a2 t127 true a0_0 l0_1)) else (bobbinlaw16_ClockStays.j0 k a1 a2 t127 true a0_0 l0_1)) = some r := H
  have A5 := Aside0.mk A50
  clear A50
  have HC6 := Aside0.mk H
  clear H
  go_enter Try.func3, Try.ntmps3
  go_upto_region 3 with (first | ((with_reducible refine gate_dst (N := 3) rfl ?_); (try (refine gate_guard (by rfl) ?_; dsimp only)); refine box_event ?hg (N := 3) ?hd (cs := #[.int .i64 a0_0, .slice A0_1 l0_1.length c0_1]) (t := 24) ?hr ?_; (case hd => rfl); (case hg => rfl); (case hr => first | (go_simp; done) | (go_simp; rfl)); intro gb126 hg w7 hbox hb; have n0_ := Aside0.mk (below_step (by repeat (first | (with_reducible first | exact HB.out | apply below_alloc | apply pw_below_drewN | apply below_drew1) | exact HB.out)) hb); have n1_ := Aside0.mk (hbox); have n2_ := Aside0.mk ((by rw [hg]; exact (below_size (by repeat (first | (with_reducible first | exact HB.out | apply below_alloc | apply pw_below_drewN | apply below_drew1) | exact HB.out))) : w.heap.size ≤ gb126)); have n3_ := Aside0.mk ((by rw [hg]; exact (below_size (by repeat (first | (with_reducible first | exact HB.out | apply below_alloc | apply pw_below_drewN | apply below_drew1) | exact HB.out))) : w.heap.size ≤ gb126)); clear HB; have HB := n0_; have BK126 := n1_; have GW126 := n2_; have GE126 := n3_; clear n0_ n1_ n2_ n3_; clear hb hbox hg) | ((with_reducible refine gate_callee (f := 8) rfl ?_); refine goesL_ (some 14) rfl rfl Try.func8 (by kernel_rfl) rfl #[] rfl (by (try simp only [List.map_toArray, List.map_cons, List.map_nil]); first | done | rfl | (simp only [List.length_drop, List.length_take]; rfl)) ?_; (with_reducible refine (bobbinlaw16_awake.calls k  t127 _ A4.out).mono ?_); rintro e w8 ⟨rfl, hb⟩; refine ⟨_, rfl, ?_⟩; have n0_ := Aside0.mk (blk_below (g := gb126) (o := .cells #[.int .i64 a0_0, .slice A0_1 l0_1.length c0_1] 24 (0, 0)) (by (with_reducible repeat (first | refine blk_drewN ?_ _ | refine blk_drew ?_ | refine blk_alloc ?_ _)); exact BK126.out) hb); have n1_ := Aside0.mk (below_step (by repeat (first | (with_reducible first | exact HB.out | apply below_alloc | apply pw_below_drewN | apply below_drew1 | refine below_set ?_ GE126.out) | exact HB.out)) hb); clear BK126; clear HB; have BK126 := n0_; have HB := n1_; clear n0_ n1_; (try clear hb); (try clear hb2); (try clear hk); (try clear hi); have hcz9_0 : w8.cell? ⟨gb126, 0, none⟩ = some (.int .i64 a0_0) := (blk_cell BK126.out 0).trans rfl; have hcz9_1 : w8.cell? ⟨gb126, 1, none⟩ = some (.slice A0_1 l0_1.length c0_1) := (blk_cell BK126.out 1).trans rfl; have hfz9_0 := blk_frozen BK126.out 0; have hfz9_1 := blk_frozen BK126.out 1) | ((with_reducible refine gate_callee (f := 9) rfl ?_); refine goesL_ (some 16) rfl rfl Try.func9 (by kernel_rfl) rfl #[.agg #[.int .i64 a0_0, .slice A0_1 l0_1.length c0_1]] rfl (by (try simp only [List.map_toArray, List.map_cons, List.map_nil]); first | done | rfl | (simp only [List.length_drop, List.length_take]; rfl)) ?_; (with_reducible refine (bobbinlaw16_light.calls a0_0 _ _ l0_1 t128 _ ?side1 ?side2 A5.out).mono ?_); (case side1 => repeat (first | exact (Kd.C_below HR0_1.out HB.out) | (with_reducible refine Kd.C_alloc ?_ _) | (with_reducible refine Kd.C_drewN ?_ _) | (with_reducible refine Kd.C_drew ?_))); (case side2 => exact HC0_1.out); rintro e w10 ⟨rfl, hb⟩; refine ⟨_, rfl, ?_⟩; have n0_ := Aside0.mk (blk_below (g := gb126) (o := .cells #[.int .i64 a0_0, .slice A0_1 l0_1.length c0_1] 24 (0, 0)) (by (with_reducible repeat (first | refine blk_drewN ?_ _ | refine blk_drew ?_ | refine blk_alloc ?_ _)); exact BK126.out) hb); have n1_ := Aside0.mk (below_step (by repeat (first | (with_reducible first | exact HB.out | apply below_alloc | apply pw_below_drewN | apply below_drew1 | refine below_set ?_ GE126.out) | exact HB.out)) hb); clear BK126; clear HB; have BK126 := n0_; have HB := n1_; clear n0_ n1_; (try clear hb); (try clear hb2); (try clear hk); (try clear hi)))
  (try simp only [Act.put, List.setIfInBounds_toArray, List.set_cons_zero, List.set_cons_succ])
  go_cut [27] (fun v27 wc => ∃ (kq : Nat) (x27_5 : Bool), v27 = .bool x27_5 ∧ Aside0 (bobbinlaw16_ClockStays.j0 kq a1 a2 t127 x27_5 a0_0 l0_1 = some r) ∧ Aside0 (kq ≤ k) ∧ Aside0 (wc.heap[gb126]? = some (.cells #[.int .i64 a0_0, (.slice A0_1 l0_1.length c0_1)] 24 (0, 0))) ∧ Aside0 (Below w.heap.size w wc))
  case first =>
    have H := HC6.out
    clear HC6
    by_cases c11 : t127 = true
    · subst c11
      have H1 : (if t128 = true then ((clock_May.f k a0_0 l0_1).bind fun t129 => (bobbinlaw16_ClockStays.j0 k a1 a2 true (!t129) a0_0 l0_1)) else (bobbinlaw16_ClockStays.j0 k a1 a2 true true a0_0 l0_1)) = some r := by rw [if_pos rfl] at H; exact H
      clear H
      have H := H1
      clear H1
      by_cases c12 : t128 = true
      · subst c12
        have H1 : ((clock_May.f k a0_0 l0_1).bind fun t129 => (bobbinlaw16_ClockStays.j0 k a1 a2 true (!t129) a0_0 l0_1)) = some r := by rw [if_pos rfl] at H; exact H
        clear H
        have H := H1
        clear H1
        replace H := Option.bind_eq_some_iff.mp H
        obtain ⟨t129, A130, H⟩ := H
        replace H : (bobbinlaw16_ClockStays.j0 k a1 a2 true (!t129) a0_0 l0_1) = some r := H
        have A13 := Aside0.mk A130
        clear A130
        have H' := Aside0.mk H
        clear H
        have hcz14_0 : w10.cell? ⟨gb126, 0, none⟩ = some (.int .i64 a0_0) := (blk_cell BK126.out 0).trans rfl
        have hcz14_1 : w10.cell? ⟨gb126, 1, none⟩ = some (.slice A0_1 l0_1.length c0_1) := (blk_cell BK126.out 1).trans rfl
        have hfz14_0 := blk_frozen BK126.out 0
        have hfz14_1 := blk_frozen BK126.out 1
        go_wp2_with (first | (go_at_call 10; (with_reducible refine (clock_May.calls k a0_0 _ _ l0_1 t129 _ ?side1 ?side2 A13.out).mono ?_); (case side1 => repeat (first | exact (Kd.C_below HR0_1.out HB.out) | (with_reducible refine Kd.C_alloc ?_ _) | (with_reducible refine Kd.C_drewN ?_ _) | (with_reducible refine Kd.C_drew ?_))); (case side2 => exact HC0_1.out); rintro e w15 ⟨rfl, hb⟩; have n0_ := Aside0.mk (blk_below (g := gb126) (o := .cells #[.int .i64 a0_0, .slice A0_1 l0_1.length c0_1] 24 (0, 0)) (by (with_reducible repeat (first | refine blk_drewN ?_ _ | refine blk_drew ?_ | refine blk_alloc ?_ _)); exact BK126.out) hb); have n1_ := Aside0.mk (below_step (by repeat (first | (with_reducible first | exact HB.out | apply below_alloc | apply pw_below_drewN | apply below_drew1 | refine below_set ?_ GE126.out) | exact HB.out)) hb); clear BK126; clear HB; have BK126 := n0_; have HB := n1_; clear n0_ n1_; (try clear hb); (try clear hb2); (try clear hk); (try clear hi)))
        go_meet
        case rel => exact ⟨_, (!t129), (by first | rfl | (simp; done) | (simp [*]; done)), H', ⟨by first | omega | exact Nat.le_refl _⟩, ⟨by (with_reducible repeat (first | refine blk_drewN ?_ _ | refine blk_drew ?_ | refine blk_alloc ?_ _)); exact BK126.out⟩, ⟨by repeat (first | (with_reducible first | exact HB.out | apply below_alloc | apply pw_below_drewN | apply below_drew1 | refine below_set ?_ GE126.out) | exact HB.out)⟩⟩
      · replace c12 := Bool.eq_false_iff.mpr c12
        subst c12
        have H1 : (bobbinlaw16_ClockStays.j0 k a1 a2 true true a0_0 l0_1) = some r := by rw [if_neg (show ¬ (false = true) by decide)] at H; exact H
        clear H
        have H := H1
        clear H1
        have H' := Aside0.mk H
        clear H
        go_wp2
        go_meet
        case rel => exact ⟨_, (true), (by first | rfl | (simp; done) | (simp [*]; done)), H', ⟨by first | omega | exact Nat.le_refl _⟩, ⟨by (with_reducible repeat (first | refine blk_drewN ?_ _ | refine blk_drew ?_ | refine blk_alloc ?_ _)); exact BK126.out⟩, ⟨by repeat (first | (with_reducible first | exact HB.out | apply below_alloc | apply pw_below_drewN | apply below_drew1 | refine below_set ?_ GE126.out) | exact HB.out)⟩⟩
    · replace c11 := Bool.eq_false_iff.mpr c11
      subst c11
      have H1 : (bobbinlaw16_ClockStays.j0 k a1 a2 false true a0_0 l0_1) = some r := by rw [if_neg (show ¬ (false = true) by decide)] at H; exact H
      clear H
      have H := H1
      clear H1
      have H' := Aside0.mk H
      clear H
      go_wp2
      go_meet
      case rel => exact ⟨_, (true), (by first | rfl | (simp; done) | (simp [*]; done)), H', ⟨by first | omega | exact Nat.le_refl _⟩, ⟨by (with_reducible repeat (first | refine blk_drewN ?_ _ | refine blk_drew ?_ | refine blk_alloc ?_ _)); exact BK126.out⟩, ⟨by repeat (first | (with_reducible first | exact HB.out | apply below_alloc | apply pw_below_drewN | apply below_drew1 | refine below_set ?_ GE126.out) | exact HB.out)⟩⟩
  case rest =>
    clear HC6
    try clear c1
    try clear p2
    try clear c3
    try clear c8
    try clear c9
    try clear c11
    try clear c12
    try clear hcz14_0
    try clear hcz14_1
    try clear hcz9_0
    try clear hcz9_1
    try clear hfz14_0
    try clear hfz14_1
    try clear hfz9_0
    try clear hfz9_1
    obtain ⟨kq, x27_5, rfl, HA, HJ5, BK126, HB⟩ := hcut
    cases kq with
    | zero => exact absurd HA.out (by first | (intro h_; cases h_; done) | simp [bobbinlaw16_ClockStays.j0])
    | succ kj5 =>
      have H := HA.out
      clear HA
      rw [bobbinlaw16_ClockStays.j0_eq] at H
      by_cases c16 : x27_5 = true
      · subst c16
        have H1 : (some t127) = some r := by rw [if_pos rfl] at H; exact H
        clear H
        have H := H1
        clear H1
        obtain rfl := Option.some.inj H
        go_wp2
        go_ret
        exact ⟨by first | rfl | (simp [errW_none, errW_some] <;> rfl) | (simp [*, errW_none, errW_some] <;> rfl), by repeat (first | (with_reducible first | exact HB.out | apply below_alloc | apply pw_below_drewN | apply below_drew1 | refine below_set ?_ GE126.out) | exact HB.out)⟩
      · replace c16 := Bool.eq_false_iff.mpr c16
        subst c16
        have H1 : ((clock_Admit.f kj5 a0_0 l0_1 a1 a2).bind fun bt130 => (if bt130.2.2.2 = 0 then ((clock_May.f kj5 bt130.1 bt130.2.1).bind fun t137 => (if t137 = true then ((clock_Has.f kj5 bt130.1 bt130.2.1 a2).bind fun t138 => (if t138 = true then (if bt130.2.2.1 ≥ 0 then ((clock_Has.f kj5 bt130.1 bt130.2.1 bt130.2.2.1).bind fun t139 => (if t139 = true then (bobbinlaw16_ClockStays.j1 kj5 bt130.2.2.1 true a0_0 l0_1 bt130.1 bt130.2.1) else ((clock_Has.f kj5 a0_0 l0_1 bt130.2.2.1).bind fun t140 => (if t140 = true then (bobbinlaw16_ClockStays.j1 kj5 bt130.2.2.1 (decide ((bt130.2.1.length : Int) > a1)) a0_0 l0_1 bt130.1 bt130.2.1) else (bobbinlaw16_ClockStays.j1 kj5 bt130.2.2.1 true a0_0 l0_1 bt130.1 bt130.2.1))))) else (bobbinlaw16_ClockStays.j1 kj5 bt130.2.2.1 (decide ((bt130.2.1.length : Int) > a1)) a0_0 l0_1 bt130.1 bt130.2.1)) else (bobbinlaw16_ClockStays.j1 kj5 bt130.2.2.1 true a0_0 l0_1 bt130.1 bt130.2.1))) else (bobbinlaw16_ClockStays.j1 kj5 bt130.2.2.1 true a0_0 l0_1 bt130.1 bt130.2.1))) else (if (bt130.2.1.length : Int) = 0 then (if bt130.1 = 0 then (some (bt130.2.2.1 == 0)) else (some false)) else (some false)))) = some r := by rw [if_neg (show ¬ (false = true) by decide)] at H; exact H
        clear H
        have H := H1
        clear H1
        replace H := Option.bind_eq_some_iff.mp H
        obtain ⟨⟨t130, t131, t134, t135⟩, A170, H⟩ := H
        replace H : (if t135 = 0 then ((clock_May.f kj5 t130 t131).bind fun t137 => (if t137 = true then ((clock_Has.f kj5 t130 t131 a2).bind fun t138 => (if t138 = true then (if t134 ≥ 0 then ((clock_Has.f kj5 t130 t131 t134).bind fun t139 => (if t139 = true then (bobbinlaw16_ClockStays.j1 kj5 t134 true a0_0 l0_1 t130 t131) else ((clock_Has.f kj5 a0_0 l0_1 t134).bind fun t140 => (if t140 = true then (bobbinlaw16_ClockStays.j1 kj5 t134 (decide ((t131.length : Int) > a1)) a0_0 l0_1 t130 t131) else (bobbinlaw16_ClockStays.j1 kj5 t134 true a0_0 l0_1 t130 t131))))) else (bobbinlaw16_ClockStays.j1 kj5 t134 (decide ((t131.length : Int) > a1)) a0_0 l0_1 t130 t131)) else (bobbinlaw16_ClockStays.j1 kj5 t134 true a0_0 l0_1 t130 t131))) else (bobbinlaw16_ClockStays.j1 kj5 t134 true a0_0 l0_1 t130 t131))) else (if (t131.length : Int) = 0 then (if t130 = 0 then (some (t134 == 0)) else (some false)) else (some false))) = some r := H
        have A17 := Aside0.mk A170
        clear A170
        by_cases c18 : t135 = 0
        · rw [if_pos c18] at H
          have c18b0 : (t135 == 0) = true := beq_iff_eq.mpr c18
          have c18b1 : (t135 != 0) = false := bne_eq_false_iff_eq.mpr c18
          clear c18
          have HC19 := Aside0.mk H
          clear H
          have hcz20_0 : wc.cell? ⟨gb126, 0, none⟩ = some (.int .i64 a0_0) := (blk_cell BK126.out 0).trans rfl
          have hcz20_1 : wc.cell? ⟨gb126, 1, none⟩ = some (.slice A0_1 l0_1.length c0_1) := (blk_cell BK126.out 1).trans rfl
          have hfz20_0 := blk_frozen BK126.out 0
          have hfz20_1 := blk_frozen BK126.out 1
          go_upto_region 8 with (first | ((with_reducible refine gate_callee (f := 11) rfl ?_); refine goesL_ (some 33) rfl rfl Try.func11 (by kernel_rfl) rfl #[.agg #[.int .i64 a0_0, .slice A0_1 l0_1.length c0_1], .int .i64 a1, .int .i64 a2] rfl (by (try simp only [List.map_toArray, List.map_cons, List.map_nil]); first | done | rfl | (simp only [List.length_drop, List.length_take]; rfl)) ?_; (with_reducible refine (clock_Admit.calls kj5 a0_0 _ _ l0_1 a1 a2 t130 t131 t134 t135 _ ?side1 ?side2 A17.out).mono ?_); (case side1 => repeat (first | exact (Kd.C_below HR0_1.out HB.out) | (with_reducible refine Kd.C_alloc ?_ _) | (with_reducible refine Kd.C_drewN ?_ _) | (with_reducible refine Kd.C_drew ?_))); (case side2 => exact HC0_1.out); rintro e w21 ⟨v132, rfl, ho0, hb⟩; refine ⟨_, rfl, ?_⟩; have n0_ := Aside0.mk (Kd.R_lower ho0 (below_size (by repeat (first | (with_reducible first | exact HB.out | apply below_alloc | apply pw_below_drewN | apply below_drew1 | refine below_set ?_ GE126.out) | exact HB.out)))); have n1_ := Aside0.mk (blk_below (g := gb126) (o := .cells #[.int .i64 a0_0, .slice A0_1 l0_1.length c0_1] 24 (0, 0)) (by (with_reducible repeat (first | refine blk_drewN ?_ _ | refine blk_drew ?_ | refine blk_alloc ?_ _)); exact BK126.out) hb); have n2_ := Aside0.mk (below_step (by repeat (first | (with_reducible first | exact HB.out | apply below_alloc | apply pw_below_drewN | apply below_drew1 | refine below_set ?_ GE126.out) | exact HB.out)) hb); clear BK126; clear HB; have HO133 := n0_; have BK126 := n1_; have HB := n2_; clear n0_ n1_ n2_; (try clear hb); (try clear hb2); (try clear hk); (try clear hi); (try clear ho0)) | ((with_reducible refine gate_dst (N := 9) rfl ?_); (try (refine gate_guard (by rfl) ?_; dsimp only)); refine box_event ?hg (N := 9) ?hd (cs := #[.int .i64 0, .slice none 0 0]) (t := 24) ?hr ?_; (case hd => rfl); (case hg => rfl); (case hr => first | (go_simp; done) | (go_simp; rfl)); intro gb136 hg w22 hbox hb; have n0_ := Aside0.mk (Kd.R_below (by (with_reducible repeat (first | apply Kd.R_alloc | apply Kd.R_drewN | apply Kd.R_drew)); exact HO133.out) hb); have n1_ := Aside0.mk (blk_below (g := gb126) (o := .cells #[.int .i64 a0_0, .slice A0_1 l0_1.length c0_1] 24 (0, 0)) (by (with_reducible repeat (first | refine blk_drewN ?_ _ | refine blk_drew ?_ | refine blk_alloc ?_ _)); exact BK126.out) hb); have n2_ := Aside0.mk (below_step (by repeat (first | (with_reducible first | exact HB.out | apply below_alloc | apply pw_below_drewN | apply below_drew1 | refine below_set ?_ GE126.out) | exact HB.out)) hb); have n3_ := Aside0.mk (hbox); have n4_ := Aside0.mk ((by rw [hg]; exact (below_size (by repeat (first | (with_reducible first | exact HB.out | apply below_alloc | apply pw_below_drewN | apply below_drew1 | refine below_set ?_ GE126.out) | exact HB.out))) : w.heap.size ≤ gb136)); have n5_ := Aside0.mk ((by rw [hg]; exact (below_size (by repeat (first | (with_reducible first | exact HB.out | apply below_alloc | apply pw_below_drewN | apply below_drew1 | refine below_set ?_ GE126.out) | exact HB.out))) : w.heap.size ≤ gb136)); have n6_ := Aside0.mk ((by rw [hg]; exact Nat.ne_of_lt (blk_lt (g := gb126) (o := .cells #[.int .i64 a0_0, .slice A0_1 l0_1.length c0_1] 24 (0, 0)) (by (with_reducible repeat (first | refine blk_drewN ?_ _ | refine blk_drew ?_ | refine blk_alloc ?_ _)); exact BK126.out)) : gb126 ≠ gb136)); have n7_ := Aside0.mk ((by rw [hg]; exact Nat.ne_of_gt (blk_lt (g := gb126) (o := .cells #[.int .i64 a0_0, .slice A0_1 l0_1.length c0_1] 24 (0, 0)) (by (with_reducible repeat (first | refine blk_drewN ?_ _ | refine blk_drew ?_ | refine blk_alloc ?_ _)); exact BK126.out)) : gb136 ≠ gb126)); clear HO133; clear BK126; clear HB; have HO133 := n0_; have BK126 := n1_; have HB := n2_; have BK136 := n3_; have GW136 := n4_; have GE136 := n5_; have NB126_136 := n6_; have NB136_126 := n7_; clear n0_ n1_ n2_ n3_ n4_ n5_ n6_ n7_; clear hb hbox hg; have hnb23 := NB136_126.out; have hnc23 := NB126_136.out; have hcz24_0 : w22.cell? ⟨gb136, 0, none⟩ = some (.int .i64 0) := (blk_cell BK136.out 0).trans rfl; have hcz24_1 : w22.cell? ⟨gb136, 1, none⟩ = some (.slice none 0 0) := (blk_cell BK136.out 1).trans rfl; have hfz24_0 := blk_frozen BK136.out 0; have hfz24_1 := blk_frozen BK136.out 1; obtain ⟨Ao25, co25, eo25⟩ := Kd.R_slice HO133.out; subst eo25))
          (try simp only [Act.put, List.setIfInBounds_toArray, List.set_cons_zero, List.set_cons_succ])
          go_cut [82] (fun v82 wc => ∃ (kq : Nat) (x82_18 : Bool), v82 = .bool x82_18 ∧ Aside0 (bobbinlaw16_ClockStays.j1 kq t134 x82_18 a0_0 l0_1 t130 t131 = some r) ∧ Aside0 (kq ≤ kj5) ∧ Aside0 (Kd.R k32 32 wc w.heap.size (fun _ => True) (.slice Ao25 t131.length co25) t131) ∧ Aside0 (wc.heap[gb126]? = some (.cells #[.int .i64 a0_0, (.slice A0_1 l0_1.length c0_1)] 24 (0, 0))) ∧ Aside0 (wc.heap[gb136]? = some (.cells #[.int .i64 t130, (.slice Ao25 t131.length co25)] 24 (0, 0))) ∧ Aside0 (Below w.heap.size w wc))
          case first =>
            have H := HC19.out
            clear HC19
            replace H := Option.bind_eq_some_iff.mp H
            obtain ⟨t137, A260, H⟩ := H
            replace H : (if t137 = true then ((clock_Has.f kj5 t130 t131 a2).bind fun t138 => (if t138 = true then (if t134 ≥ 0 then ((clock_Has.f kj5 t130 t131 t134).bind fun t139 => (if t139 = true then (bobbinlaw16_ClockStays.j1 kj5 t134 true a0_0 l0_1 t130 t131) else ((clock_Has.f kj5 a0_0 l0_1 t134).bind fun t140 => (if t140 = true then (bobbinlaw16_ClockStays.j1 kj5 t134 (decide ((t131.length : Int) > a1)) a0_0 l0_1 t130 t131) else (bobbinlaw16_ClockStays.j1 kj5 t134 true a0_0 l0_1 t130 t131))))) else (bobbinlaw16_ClockStays.j1 kj5 t134 (decide ((t131.length : Int) > a1)) a0_0 l0_1 t130 t131)) else (bobbinlaw16_ClockStays.j1 kj5 t134 true a0_0 l0_1 t130 t131))) else (bobbinlaw16_ClockStays.j1 kj5 t134 true a0_0 l0_1 t130 t131)) = some r := H
            have A26 := Aside0.mk A260
            clear A260
            by_cases c27 : t137 = true
            · subst c27
              have H1 : ((clock_Has.f kj5 t130 t131 a2).bind fun t138 => (if t138 = true then (if t134 ≥ 0 then ((clock_Has.f kj5 t130 t131 t134).bind fun t139 => (if t139 = true then (bobbinlaw16_ClockStays.j1 kj5 t134 true a0_0 l0_1 t130 t131) else ((clock_Has.f kj5 a0_0 l0_1 t134).bind fun t140 => (if t140 = true then (bobbinlaw16_ClockStays.j1 kj5 t134 (decide ((t131.length : Int) > a1)) a0_0 l0_1 t130 t131) else (bobbinlaw16_ClockStays.j1 kj5 t134 true a0_0 l0_1 t130 t131))))) else (bobbinlaw16_ClockStays.j1 kj5 t134 (decide ((t131.length : Int) > a1)) a0_0 l0_1 t130 t131)) else (bobbinlaw16_ClockStays.j1 kj5 t134 true a0_0 l0_1 t130 t131))) = some r := by rw [if_pos rfl] at H; exact H
              clear H
              have H := H1
              clear H1
              replace H := Option.bind_eq_some_iff.mp H
              obtain ⟨t138, A280, H⟩ := H
              replace H : (if t138 = true then (if t134 ≥ 0 then ((clock_Has.f kj5 t130 t131 t134).bind fun t139 => (if t139 = true then (bobbinlaw16_ClockStays.j1 kj5 t134 true a0_0 l0_1 t130 t131) else ((clock_Has.f kj5 a0_0 l0_1 t134).bind fun t140 => (if t140 = true then (bobbinlaw16_ClockStays.j1 kj5 t134 (decide ((t131.length : Int) > a1)) a0_0 l0_1 t130 t131) else (bobbinlaw16_ClockStays.j1 kj5 t134 true a0_0 l0_1 t130 t131))))) else (bobbinlaw16_ClockStays.j1 kj5 t134 (decide ((t131.length : Int) > a1)) a0_0 l0_1 t130 t131)) else (bobbinlaw16_ClockStays.j1 kj5 t134 true a0_0 l0_1 t130 t131)) = some r := H
              have A28 := Aside0.mk A280
              clear A280
              by_cases c29 : t138 = true
              · subst c29
                have H1 : (if t134 ≥ 0 then ((clock_Has.f kj5 t130 t131 t134).bind fun t139 => (if t139 = true then (bobbinlaw16_ClockStays.j1 kj5 t134 true a0_0 l0_1 t130 t131) else ((clock_Has.f kj5 a0_0 l0_1 t134).bind fun t140 => (if t140 = true then (bobbinlaw16_ClockStays.j1 kj5 t134 (decide ((t131.length : Int) > a1)) a0_0 l0_1 t130 t131) else (bobbinlaw16_ClockStays.j1 kj5 t134 true a0_0 l0_1 t130 t131))))) else (bobbinlaw16_ClockStays.j1 kj5 t134 (decide ((t131.length : Int) > a1)) a0_0 l0_1 t130 t131)) = some r := by rw [if_pos rfl] at H; exact H
                clear H
                have H := H1
                clear H1
                by_cases c30 : t134 ≥ 0
                · rw [if_pos c30] at H
                  have c30b0 : decide (0 ≤ t134) = true := decide_eq_true c30
                  clear c30
                  (first | rw [c30b0] | (simp only [i64_w, i32_w]; rw [c30b0]) | skip)
                  replace H := Option.bind_eq_some_iff.mp H
                  obtain ⟨t139, A310, H⟩ := H
                  replace H : (if t139 = true then (bobbinlaw16_ClockStays.j1 kj5 t134 true a0_0 l0_1 t130 t131) else ((clock_Has.f kj5 a0_0 l0_1 t134).bind fun t140 => (if t140 = true then (bobbinlaw16_ClockStays.j1 kj5 t134 (decide ((t131.length : Int) > a1)) a0_0 l0_1 t130 t131) else (bobbinlaw16_ClockStays.j1 kj5 t134 true a0_0 l0_1 t130 t131)))) = some r := H
                  have A31 := Aside0.mk A310
                  clear A310
                  by_cases c32 : t139 = true
                  · subst c32
                    have H1 : (bobbinlaw16_ClockStays.j1 kj5 t134 true a0_0 l0_1 t130 t131) = some r := by rw [if_pos rfl] at H; exact H
                    clear H
                    have H := H1
                    clear H1
                    have H' := Aside0.mk H
                    clear H
                    have hnb33 := NB136_126.out
                    have hnc33 := NB126_136.out
                    have hcz34_0 : w22.cell? ⟨gb136, 0, none⟩ = some (.int .i64 0) := (blk_cell BK136.out 0).trans rfl
                    have hcz34_1 : w22.cell? ⟨gb136, 1, none⟩ = some (.slice none 0 0) := (blk_cell BK136.out 1).trans rfl
                    have hfz34_0 := blk_frozen BK136.out 0
                    have hfz34_1 := blk_frozen BK136.out 1
                    go_wp2_with (first | ((with_reducible refine gate_callee (f := 10) rfl ?_); refine goesL_ (some 53) rfl rfl Try.func10 (by kernel_rfl) rfl #[.agg #[.int .i64 t130, .slice Ao25 t131.length co25]] rfl (by (try simp only [List.map_toArray, List.map_cons, List.map_nil]); first | done | rfl | (simp only [List.length_drop, List.length_take]; rfl)) ?_; (with_reducible refine (clock_May.calls kj5 t130 _ _ t131 true _ ?side1 ?side2 A26.out).mono ?_); (case side1 => refine (Kd.R_reads' (e := 32) (base := w.heap.size) (ok := fun k_ => True) (n := t131.length) (c := co25) ?_).2.2; exact (by (with_reducible repeat (first | apply Kd.R_alloc | apply Kd.R_drewN | apply Kd.R_drew)); exact (Kd.R_mono (Kd.R_far (p := ⟨gb136, 1, none⟩) (Kd.R_far (p := ⟨gb136, 0, none⟩) (Kd.R_types HO133.out BK136.out (by decide)) (fun _ hk => hk.2) (.int .i64 t130)) (fun _ hk => hk.2) (.slice Ao25 t131.length co25)) (fun _ h_ => h_.1)))); (case side2 => exact (Kd.R_reads' HO133.out).2.1); rintro e w35 ⟨rfl, hb⟩; refine ⟨_, rfl, ?_⟩; have n0_ := Aside0.mk (Kd.R_below (by (with_reducible repeat (first | apply Kd.R_alloc | apply Kd.R_drewN | apply Kd.R_drew)); exact (Kd.R_mono (Kd.R_far (p := ⟨gb136, 1, none⟩) (Kd.R_far (p := ⟨gb136, 0, none⟩) (Kd.R_types HO133.out BK136.out (by decide)) (fun _ hk => hk.2) (.int .i64 t130)) (fun _ hk => hk.2) (.slice Ao25 t131.length co25)) (fun _ h_ => h_.1))) hb); have n1_ := Aside0.mk (blk_below (g := gb126) (o := .cells #[.int .i64 a0_0, .slice A0_1 l0_1.length c0_1] 24 (0, 0)) (by (with_reducible repeat (first | refine blk_drewN ?_ _ | refine blk_drew ?_ | refine blk_alloc ?_ _)); refine blk_far ?_ NB126_136.out _; (with_reducible repeat (first | refine blk_drewN ?_ _ | refine blk_drew ?_ | refine blk_alloc ?_ _)); refine blk_far ?_ NB126_136.out _; (with_reducible repeat (first | refine blk_drewN ?_ _ | refine blk_drew ?_ | refine blk_alloc ?_ _)); exact BK126.out) hb); have n2_ := Aside0.mk (blk_below (g := gb136) (o := .cells #[.int .i64 t130, .slice Ao25 t131.length co25] 24 (0, 0)) (by (with_reducible repeat (first | refine blk_drewN ?_ _ | refine blk_drew ?_ | refine blk_alloc ?_ _)); refine blk_put (cs := #[.int .i64 t130, .slice none 0 0]) ?_ 1 _ rfl; (with_reducible repeat (first | refine blk_drewN ?_ _ | refine blk_drew ?_ | refine blk_alloc ?_ _)); refine blk_put (cs := #[.int .i64 0, .slice none 0 0]) ?_ 0 _ rfl; (with_reducible repeat (first | refine blk_drewN ?_ _ | refine blk_drew ?_ | refine blk_alloc ?_ _)); exact BK136.out) hb); have n3_ := Aside0.mk (below_step (by repeat (first | (with_reducible first | exact HB.out | apply below_alloc | apply pw_below_drewN | apply below_drew1 | refine below_set ?_ GE126.out | refine below_set ?_ GE136.out) | exact HB.out)) hb); clear HO133; clear BK126; clear BK136; clear HB; have HO133 := n0_; have BK126 := n1_; have BK136 := n2_; have HB := n3_; clear n0_ n1_ n2_ n3_; (try clear hb); (try clear hb2); (try clear hk); (try clear hi); have hcz36_0 : w35.cell? ⟨gb136, 0, none⟩ = some (.int .i64 t130) := (blk_cell BK136.out 0).trans rfl; have hcz36_1 : w35.cell? ⟨gb136, 1, none⟩ = some (.slice Ao25 t131.length co25) := (blk_cell BK136.out 1).trans rfl; have hfz36_0 := blk_frozen BK136.out 0; have hfz36_1 := blk_frozen BK136.out 1) | (go_at_call 12; (with_reducible refine (clock_Has.calls kj5 t130 _ _ t131 a2 true _ ?side1 ?side2 A28.out).mono ?_); (case side1 => repeat (first | exact (Kd.R_reads' HO133.out).2.2 | (with_reducible refine Kd.C_alloc ?_ _) | (with_reducible refine Kd.C_drewN ?_ _) | (with_reducible refine Kd.C_drew ?_))); (case side2 => exact (Kd.R_reads' HO133.out).2.1); rintro e w37 ⟨rfl, hb⟩; have n0_ := Aside0.mk (Kd.R_below (by (with_reducible repeat (first | apply Kd.R_alloc | apply Kd.R_drewN | apply Kd.R_drew)); exact HO133.out) hb); have n1_ := Aside0.mk (blk_below (g := gb126) (o := .cells #[.int .i64 a0_0, .slice A0_1 l0_1.length c0_1] 24 (0, 0)) (by (with_reducible repeat (first | refine blk_drewN ?_ _ | refine blk_drew ?_ | refine blk_alloc ?_ _)); exact BK126.out) hb); have n2_ := Aside0.mk (blk_below (g := gb136) (o := .cells #[.int .i64 t130, .slice Ao25 t131.length co25] 24 (0, 0)) (by (with_reducible repeat (first | refine blk_drewN ?_ _ | refine blk_drew ?_ | refine blk_alloc ?_ _)); exact BK136.out) hb); have n3_ := Aside0.mk (below_step (by repeat (first | (with_reducible first | exact HB.out | apply below_alloc | apply pw_below_drewN | apply below_drew1 | refine below_set ?_ GE126.out | refine below_set ?_ GE136.out) | exact HB.out)) hb); clear HO133; clear BK126; clear BK136; clear HB; have HO133 := n0_; have BK126 := n1_; have BK136 := n2_; have HB := n3_; clear n0_ n1_ n2_ n3_; (try clear hb); (try clear hb2); (try clear hk); (try clear hi); have hcz38_0 : w37.cell? ⟨gb136, 0, none⟩ = some (.int .i64 t130) := (blk_cell BK136.out 0).trans rfl; have hcz38_1 : w37.cell? ⟨gb136, 1, none⟩ = some (.slice Ao25 t131.length co25) := (blk_cell BK136.out 1).trans rfl; have hfz38_0 := blk_frozen BK136.out 0; have hfz38_1 := blk_frozen BK136.out 1) | (go_at_call 12; (with_reducible refine (clock_Has.calls kj5 t130 _ _ t131 t134 true _ ?side1 ?side2 A31.out).mono ?_); (case side1 => repeat (first | exact (Kd.R_reads' HO133.out).2.2 | (with_reducible refine Kd.C_alloc ?_ _) | (with_reducible refine Kd.C_drewN ?_ _) | (with_reducible refine Kd.C_drew ?_))); (case side2 => exact (Kd.R_reads' HO133.out).2.1); rintro e w39 ⟨rfl, hb⟩; have n0_ := Aside0.mk (Kd.R_below (by (with_reducible repeat (first | apply Kd.R_alloc | apply Kd.R_drewN | apply Kd.R_drew)); exact HO133.out) hb); have n1_ := Aside0.mk (blk_below (g := gb126) (o := .cells #[.int .i64 a0_0, .slice A0_1 l0_1.length c0_1] 24 (0, 0)) (by (with_reducible repeat (first | refine blk_drewN ?_ _ | refine blk_drew ?_ | refine blk_alloc ?_ _)); exact BK126.out) hb); have n2_ := Aside0.mk (blk_below (g := gb136) (o := .cells #[.int .i64 t130, .slice Ao25 t131.length co25] 24 (0, 0)) (by (with_reducible repeat (first | refine blk_drewN ?_ _ | refine blk_drew ?_ | refine blk_alloc ?_ _)); exact BK136.out) hb); have n3_ := Aside0.mk (below_step (by repeat (first | (with_reducible first | exact HB.out | apply below_alloc | apply pw_below_drewN | apply below_drew1 | refine below_set ?_ GE126.out | refine below_set ?_ GE136.out) | exact HB.out)) hb); clear HO133; clear BK126; clear BK136; clear HB; have HO133 := n0_; have BK126 := n1_; have BK136 := n2_; have HB := n3_; clear n0_ n1_ n2_ n3_; (try clear hb); (try clear hb2); (try clear hk); (try clear hi)))
                    go_meet
                    case rel => exact ⟨_, (true), (by first | rfl | (simp; done) | (simp [*]; done)), H', ⟨by have := HJ5.out; first | omega | exact Nat.le_refl _⟩, ⟨by (with_reducible repeat (first | apply Kd.R_alloc | apply Kd.R_drewN | apply Kd.R_drew)); exact HO133.out⟩, ⟨by (with_reducible repeat (first | refine blk_drewN ?_ _ | refine blk_drew ?_ | refine blk_alloc ?_ _)); exact BK126.out⟩, ⟨by (with_reducible repeat (first | refine blk_drewN ?_ _ | refine blk_drew ?_ | refine blk_alloc ?_ _)); exact BK136.out⟩, ⟨by repeat (first | (with_reducible first | exact HB.out | apply below_alloc | apply pw_below_drewN | apply below_drew1 | refine below_set ?_ GE126.out | refine below_set ?_ GE136.out) | exact HB.out)⟩⟩
                  · replace c32 := Bool.eq_false_iff.mpr c32
                    subst c32
                    have H1 : ((clock_Has.f kj5 a0_0 l0_1 t134).bind fun t140 => (if t140 = true then (bobbinlaw16_ClockStays.j1 kj5 t134 (decide ((t131.length : Int) > a1)) a0_0 l0_1 t130 t131) else (bobbinlaw16_ClockStays.j1 kj5 t134 true a0_0 l0_1 t130 t131))) = some r := by rw [if_neg (show ¬ (false = true) by decide)] at H; exact H
                    clear H
                    have H := H1
                    clear H1
                    replace H := Option.bind_eq_some_iff.mp H
                    obtain ⟨t140, A400, H⟩ := H
                    replace H : (if t140 = true then (bobbinlaw16_ClockStays.j1 kj5 t134 (decide ((t131.length : Int) > a1)) a0_0 l0_1 t130 t131) else (bobbinlaw16_ClockStays.j1 kj5 t134 true a0_0 l0_1 t130 t131)) = some r := H
                    have A40 := Aside0.mk A400
                    clear A400
                    by_cases c41 : t140 = true
                    · subst c41
                      have H1 : (bobbinlaw16_ClockStays.j1 kj5 t134 (decide ((t131.length : Int) > a1)) a0_0 l0_1 t130 t131) = some r := by rw [if_pos rfl] at H; exact H
                      clear H
                      have H := H1
                      clear H1
                      have H' := Aside0.mk H
                      clear H
                      have hnb42 := NB136_126.out
                      have hnc42 := NB126_136.out
                      have hcz43_0 : w22.cell? ⟨gb136, 0, none⟩ = some (.int .i64 0) := (blk_cell BK136.out 0).trans rfl
                      have hcz43_1 : w22.cell? ⟨gb136, 1, none⟩ = some (.slice none 0 0) := (blk_cell BK136.out 1).trans rfl
                      have hfz43_0 := blk_frozen BK136.out 0
                      have hfz43_1 := blk_frozen BK136.out 1
                      go_wp2_with (first | ((with_reducible refine gate_callee (f := 10) rfl ?_); refine goesL_ (some 53) rfl rfl Try.func10 (by kernel_rfl) rfl #[.agg #[.int .i64 t130, .slice Ao25 t131.length co25]] rfl (by (try simp only [List.map_toArray, List.map_cons, List.map_nil]); first | done | rfl | (simp only [List.length_drop, List.length_take]; rfl)) ?_; (with_reducible refine (clock_May.calls kj5 t130 _ _ t131 true _ ?side1 ?side2 A26.out).mono ?_); (case side1 => refine (Kd.R_reads' (e := 32) (base := w.heap.size) (ok := fun k_ => True) (n := t131.length) (c := co25) ?_).2.2; exact (by (with_reducible repeat (first | apply Kd.R_alloc | apply Kd.R_drewN | apply Kd.R_drew)); exact (Kd.R_mono (Kd.R_far (p := ⟨gb136, 1, none⟩) (Kd.R_far (p := ⟨gb136, 0, none⟩) (Kd.R_types HO133.out BK136.out (by decide)) (fun _ hk => hk.2) (.int .i64 t130)) (fun _ hk => hk.2) (.slice Ao25 t131.length co25)) (fun _ h_ => h_.1)))); (case side2 => exact (Kd.R_reads' HO133.out).2.1); rintro e w44 ⟨rfl, hb⟩; refine ⟨_, rfl, ?_⟩; have n0_ := Aside0.mk (Kd.R_below (by (with_reducible repeat (first | apply Kd.R_alloc | apply Kd.R_drewN | apply Kd.R_drew)); exact (Kd.R_mono (Kd.R_far (p := ⟨gb136, 1, none⟩) (Kd.R_far (p := ⟨gb136, 0, none⟩) (Kd.R_types HO133.out BK136.out (by decide)) (fun _ hk => hk.2) (.int .i64 t130)) (fun _ hk => hk.2) (.slice Ao25 t131.length co25)) (fun _ h_ => h_.1))) hb); have n1_ := Aside0.mk (blk_below (g := gb126) (o := .cells #[.int .i64 a0_0, .slice A0_1 l0_1.length c0_1] 24 (0, 0)) (by (with_reducible repeat (first | refine blk_drewN ?_ _ | refine blk_drew ?_ | refine blk_alloc ?_ _)); refine blk_far ?_ NB126_136.out _; (with_reducible repeat (first | refine blk_drewN ?_ _ | refine blk_drew ?_ | refine blk_alloc ?_ _)); refine blk_far ?_ NB126_136.out _; (with_reducible repeat (first | refine blk_drewN ?_ _ | refine blk_drew ?_ | refine blk_alloc ?_ _)); exact BK126.out) hb); have n2_ := Aside0.mk (blk_below (g := gb136) (o := .cells #[.int .i64 t130, .slice Ao25 t131.length co25] 24 (0, 0)) (by (with_reducible repeat (first | refine blk_drewN ?_ _ | refine blk_drew ?_ | refine blk_alloc ?_ _)); refine blk_put (cs := #[.int .i64 t130, .slice none 0 0]) ?_ 1 _ rfl; (with_reducible repeat (first | refine blk_drewN ?_ _ | refine blk_drew ?_ | refine blk_alloc ?_ _)); refine blk_put (cs := #[.int .i64 0, .slice none 0 0]) ?_ 0 _ rfl; (with_reducible repeat (first | refine blk_drewN ?_ _ | refine blk_drew ?_ | refine blk_alloc ?_ _)); exact BK136.out) hb); have n3_ := Aside0.mk (below_step (by repeat (first | (with_reducible first | exact HB.out | apply below_alloc | apply pw_below_drewN | apply below_drew1 | refine below_set ?_ GE126.out | refine below_set ?_ GE136.out) | exact HB.out)) hb); clear HO133; clear BK126; clear BK136; clear HB; have HO133 := n0_; have BK126 := n1_; have BK136 := n2_; have HB := n3_; clear n0_ n1_ n2_ n3_; (try clear hb); (try clear hb2); (try clear hk); (try clear hi); have hcz45_0 : w44.cell? ⟨gb136, 0, none⟩ = some (.int .i64 t130) := (blk_cell BK136.out 0).trans rfl; have hcz45_1 : w44.cell? ⟨gb136, 1, none⟩ = some (.slice Ao25 t131.length co25) := (blk_cell BK136.out 1).trans rfl; have hfz45_0 := blk_frozen BK136.out 0; have hfz45_1 := blk_frozen BK136.out 1) | (go_at_call 12; (with_reducible refine (clock_Has.calls kj5 t130 _ _ t131 a2 true _ ?side1 ?side2 A28.out).mono ?_); (case side1 => repeat (first | exact (Kd.R_reads' HO133.out).2.2 | (with_reducible refine Kd.C_alloc ?_ _) | (with_reducible refine Kd.C_drewN ?_ _) | (with_reducible refine Kd.C_drew ?_))); (case side2 => exact (Kd.R_reads' HO133.out).2.1); rintro e w46 ⟨rfl, hb⟩; have n0_ := Aside0.mk (Kd.R_below (by (with_reducible repeat (first | apply Kd.R_alloc | apply Kd.R_drewN | apply Kd.R_drew)); exact HO133.out) hb); have n1_ := Aside0.mk (blk_below (g := gb126) (o := .cells #[.int .i64 a0_0, .slice A0_1 l0_1.length c0_1] 24 (0, 0)) (by (with_reducible repeat (first | refine blk_drewN ?_ _ | refine blk_drew ?_ | refine blk_alloc ?_ _)); exact BK126.out) hb); have n2_ := Aside0.mk (blk_below (g := gb136) (o := .cells #[.int .i64 t130, .slice Ao25 t131.length co25] 24 (0, 0)) (by (with_reducible repeat (first | refine blk_drewN ?_ _ | refine blk_drew ?_ | refine blk_alloc ?_ _)); exact BK136.out) hb); have n3_ := Aside0.mk (below_step (by repeat (first | (with_reducible first | exact HB.out | apply below_alloc | apply pw_below_drewN | apply below_drew1 | refine below_set ?_ GE126.out | refine below_set ?_ GE136.out) | exact HB.out)) hb); clear HO133; clear BK126; clear BK136; clear HB; have HO133 := n0_; have BK126 := n1_; have BK136 := n2_; have HB := n3_; clear n0_ n1_ n2_ n3_; (try clear hb); (try clear hb2); (try clear hk); (try clear hi); have hcz47_0 : w46.cell? ⟨gb136, 0, none⟩ = some (.int .i64 t130) := (blk_cell BK136.out 0).trans rfl; have hcz47_1 : w46.cell? ⟨gb136, 1, none⟩ = some (.slice Ao25 t131.length co25) := (blk_cell BK136.out 1).trans rfl; have hfz47_0 := blk_frozen BK136.out 0; have hfz47_1 := blk_frozen BK136.out 1) | (go_at_call 12; (with_reducible refine (clock_Has.calls kj5 t130 _ _ t131 t134 false _ ?side1 ?side2 A31.out).mono ?_); (case side1 => repeat (first | exact (Kd.R_reads' HO133.out).2.2 | (with_reducible refine Kd.C_alloc ?_ _) | (with_reducible refine Kd.C_drewN ?_ _) | (with_reducible refine Kd.C_drew ?_))); (case side2 => exact (Kd.R_reads' HO133.out).2.1); rintro e w48 ⟨rfl, hb⟩; have n0_ := Aside0.mk (Kd.R_below (by (with_reducible repeat (first | apply Kd.R_alloc | apply Kd.R_drewN | apply Kd.R_drew)); exact HO133.out) hb); have n1_ := Aside0.mk (blk_below (g := gb126) (o := .cells #[.int .i64 a0_0, .slice A0_1 l0_1.length c0_1] 24 (0, 0)) (by (with_reducible repeat (first | refine blk_drewN ?_ _ | refine blk_drew ?_ | refine blk_alloc ?_ _)); exact BK126.out) hb); have n2_ := Aside0.mk (blk_below (g := gb136) (o := .cells #[.int .i64 t130, .slice Ao25 t131.length co25] 24 (0, 0)) (by (with_reducible repeat (first | refine blk_drewN ?_ _ | refine blk_drew ?_ | refine blk_alloc ?_ _)); exact BK136.out) hb); have n3_ := Aside0.mk (below_step (by repeat (first | (with_reducible first | exact HB.out | apply below_alloc | apply pw_below_drewN | apply below_drew1 | refine below_set ?_ GE126.out | refine below_set ?_ GE136.out) | exact HB.out)) hb); clear HO133; clear BK126; clear BK136; clear HB; have HO133 := n0_; have BK126 := n1_; have BK136 := n2_; have HB := n3_; clear n0_ n1_ n2_ n3_; (try clear hb); (try clear hb2); (try clear hk); (try clear hi); have hcz49_0 : w48.cell? ⟨gb126, 0, none⟩ = some (.int .i64 a0_0) := (blk_cell BK126.out 0).trans rfl; have hcz49_1 : w48.cell? ⟨gb126, 1, none⟩ = some (.slice A0_1 l0_1.length c0_1) := (blk_cell BK126.out 1).trans rfl; have hfz49_0 := blk_frozen BK126.out 0; have hfz49_1 := blk_frozen BK126.out 1) | (go_at_call 12; (with_reducible refine (clock_Has.calls kj5 a0_0 _ _ l0_1 t134 true _ ?side1 ?side2 A40.out).mono ?_); (case side1 => repeat (first | exact (Kd.C_below HR0_1.out HB.out) | (with_reducible refine Kd.C_alloc ?_ _) | (with_reducible refine Kd.C_drewN ?_ _) | (with_reducible refine Kd.C_drew ?_))); (case side2 => exact HC0_1.out); rintro e w50 ⟨rfl, hb⟩; have n0_ := Aside0.mk (Kd.R_below (by (with_reducible repeat (first | apply Kd.R_alloc | apply Kd.R_drewN | apply Kd.R_drew)); exact HO133.out) hb); have n1_ := Aside0.mk (blk_below (g := gb126) (o := .cells #[.int .i64 a0_0, .slice A0_1 l0_1.length c0_1] 24 (0, 0)) (by (with_reducible repeat (first | refine blk_drewN ?_ _ | refine blk_drew ?_ | refine blk_alloc ?_ _)); exact BK126.out) hb); have n2_ := Aside0.mk (blk_below (g := gb136) (o := .cells #[.int .i64 t130, .slice Ao25 t131.length co25] 24 (0, 0)) (by (with_reducible repeat (first | refine blk_drewN ?_ _ | refine blk_drew ?_ | refine blk_alloc ?_ _)); exact BK136.out) hb); have n3_ := Aside0.mk (below_step (by repeat (first | (with_reducible first | exact HB.out | apply below_alloc | apply pw_below_drewN | apply below_drew1 | refine below_set ?_ GE126.out | refine below_set ?_ GE136.out) | exact HB.out)) hb); clear HO133; clear BK126; clear BK136; clear HB; have HO133 := n0_; have BK126 := n1_; have BK136 := n2_; have HB := n3_; clear n0_ n1_ n2_ n3_; (try clear hb); (try clear hb2); (try clear hk); (try clear hi); have hcz51_0 : w50.cell? ⟨gb136, 0, none⟩ = some (.int .i64 t130) := (blk_cell BK136.out 0).trans rfl; have hcz51_1 : w50.cell? ⟨gb136, 1, none⟩ = some (.slice Ao25 t131.length co25) := (blk_cell BK136.out 1).trans rfl; have hfz51_0 := blk_frozen BK136.out 0; have hfz51_1 := blk_frozen BK136.out 1))
                      go_meet
                      case rel => exact ⟨_, (decide ((t131.length : Int) > a1)), (by first | rfl | (simp; done) | (simp [*]; done)), H', ⟨by have := HJ5.out; first | omega | exact Nat.le_refl _⟩, ⟨by (with_reducible repeat (first | apply Kd.R_alloc | apply Kd.R_drewN | apply Kd.R_drew)); exact HO133.out⟩, ⟨by (with_reducible repeat (first | refine blk_drewN ?_ _ | refine blk_drew ?_ | refine blk_alloc ?_ _)); exact BK126.out⟩, ⟨by (with_reducible repeat (first | refine blk_drewN ?_ _ | refine blk_drew ?_ | refine blk_alloc ?_ _)); exact BK136.out⟩, ⟨by repeat (first | (with_reducible first | exact HB.out | apply below_alloc | apply pw_below_drewN | apply below_drew1 | refine below_set ?_ GE126.out | refine below_set ?_ GE136.out) | exact HB.out)⟩⟩
                    · replace c41 := Bool.eq_false_iff.mpr c41
                      subst c41
                      have H1 : (bobbinlaw16_ClockStays.j1 kj5 t134 true a0_0 l0_1 t130 t131) = some r := by rw [if_neg (show ¬ (false = true) by decide)] at H; exact H
                      clear H
                      have H := H1
                      clear H1
                      have H' := Aside0.mk H
                      clear H
                      have hnb52 := NB136_126.out
                      have hnc52 := NB126_136.out
                      have hcz53_0 : w22.cell? ⟨gb136, 0, none⟩ = some (.int .i64 0) := (blk_cell BK136.out 0).trans rfl
                      have hcz53_1 : w22.cell? ⟨gb136, 1, none⟩ = some (.slice none 0 0) := (blk_cell BK136.out 1).trans rfl
                      have hfz53_0 := blk_frozen BK136.out 0
                      have hfz53_1 := blk_frozen BK136.out 1
                      go_wp2_with (first | ((with_reducible refine gate_callee (f := 10) rfl ?_); refine goesL_ (some 53) rfl rfl Try.func10 (by kernel_rfl) rfl #[.agg #[.int .i64 t130, .slice Ao25 t131.length co25]] rfl (by (try simp only [List.map_toArray, List.map_cons, List.map_nil]); first | done | rfl | (simp only [List.length_drop, List.length_take]; rfl)) ?_; (with_reducible refine (clock_May.calls kj5 t130 _ _ t131 true _ ?side1 ?side2 A26.out).mono ?_); (case side1 => refine (Kd.R_reads' (e := 32) (base := w.heap.size) (ok := fun k_ => True) (n := t131.length) (c := co25) ?_).2.2; exact (by (with_reducible repeat (first | apply Kd.R_alloc | apply Kd.R_drewN | apply Kd.R_drew)); exact (Kd.R_mono (Kd.R_far (p := ⟨gb136, 1, none⟩) (Kd.R_far (p := ⟨gb136, 0, none⟩) (Kd.R_types HO133.out BK136.out (by decide)) (fun _ hk => hk.2) (.int .i64 t130)) (fun _ hk => hk.2) (.slice Ao25 t131.length co25)) (fun _ h_ => h_.1)))); (case side2 => exact (Kd.R_reads' HO133.out).2.1); rintro e w54 ⟨rfl, hb⟩; refine ⟨_, rfl, ?_⟩; have n0_ := Aside0.mk (Kd.R_below (by (with_reducible repeat (first | apply Kd.R_alloc | apply Kd.R_drewN | apply Kd.R_drew)); exact (Kd.R_mono (Kd.R_far (p := ⟨gb136, 1, none⟩) (Kd.R_far (p := ⟨gb136, 0, none⟩) (Kd.R_types HO133.out BK136.out (by decide)) (fun _ hk => hk.2) (.int .i64 t130)) (fun _ hk => hk.2) (.slice Ao25 t131.length co25)) (fun _ h_ => h_.1))) hb); have n1_ := Aside0.mk (blk_below (g := gb126) (o := .cells #[.int .i64 a0_0, .slice A0_1 l0_1.length c0_1] 24 (0, 0)) (by (with_reducible repeat (first | refine blk_drewN ?_ _ | refine blk_drew ?_ | refine blk_alloc ?_ _)); refine blk_far ?_ NB126_136.out _; (with_reducible repeat (first | refine blk_drewN ?_ _ | refine blk_drew ?_ | refine blk_alloc ?_ _)); refine blk_far ?_ NB126_136.out _; (with_reducible repeat (first | refine blk_drewN ?_ _ | refine blk_drew ?_ | refine blk_alloc ?_ _)); exact BK126.out) hb); have n2_ := Aside0.mk (blk_below (g := gb136) (o := .cells #[.int .i64 t130, .slice Ao25 t131.length co25] 24 (0, 0)) (by (with_reducible repeat (first | refine blk_drewN ?_ _ | refine blk_drew ?_ | refine blk_alloc ?_ _)); refine blk_put (cs := #[.int .i64 t130, .slice none 0 0]) ?_ 1 _ rfl; (with_reducible repeat (first | refine blk_drewN ?_ _ | refine blk_drew ?_ | refine blk_alloc ?_ _)); refine blk_put (cs := #[.int .i64 0, .slice none 0 0]) ?_ 0 _ rfl; (with_reducible repeat (first | refine blk_drewN ?_ _ | refine blk_drew ?_ | refine blk_alloc ?_ _)); exact BK136.out) hb); have n3_ := Aside0.mk (below_step (by repeat (first | (with_reducible first | exact HB.out | apply below_alloc | apply pw_below_drewN | apply below_drew1 | refine below_set ?_ GE126.out | refine below_set ?_ GE136.out) | exact HB.out)) hb); clear HO133; clear BK126; clear BK136; clear HB; have HO133 := n0_; have BK126 := n1_; have BK136 := n2_; have HB := n3_; clear n0_ n1_ n2_ n3_; (try clear hb); (try clear hb2); (try clear hk); (try clear hi); have hcz55_0 : w54.cell? ⟨gb136, 0, none⟩ = some (.int .i64 t130) := (blk_cell BK136.out 0).trans rfl; have hcz55_1 : w54.cell? ⟨gb136, 1, none⟩ = some (.slice Ao25 t131.length co25) := (blk_cell BK136.out 1).trans rfl; have hfz55_0 := blk_frozen BK136.out 0; have hfz55_1 := blk_frozen BK136.out 1) | (go_at_call 12; (with_reducible refine (clock_Has.calls kj5 t130 _ _ t131 a2 true _ ?side1 ?side2 A28.out).mono ?_); (case side1 => repeat (first | exact (Kd.R_reads' HO133.out).2.2 | (with_reducible refine Kd.C_alloc ?_ _) | (with_reducible refine Kd.C_drewN ?_ _) | (with_reducible refine Kd.C_drew ?_))); (case side2 => exact (Kd.R_reads' HO133.out).2.1); rintro e w56 ⟨rfl, hb⟩; have n0_ := Aside0.mk (Kd.R_below (by (with_reducible repeat (first | apply Kd.R_alloc | apply Kd.R_drewN | apply Kd.R_drew)); exact HO133.out) hb); have n1_ := Aside0.mk (blk_below (g := gb126) (o := .cells #[.int .i64 a0_0, .slice A0_1 l0_1.length c0_1] 24 (0, 0)) (by (with_reducible repeat (first | refine blk_drewN ?_ _ | refine blk_drew ?_ | refine blk_alloc ?_ _)); exact BK126.out) hb); have n2_ := Aside0.mk (blk_below (g := gb136) (o := .cells #[.int .i64 t130, .slice Ao25 t131.length co25] 24 (0, 0)) (by (with_reducible repeat (first | refine blk_drewN ?_ _ | refine blk_drew ?_ | refine blk_alloc ?_ _)); exact BK136.out) hb); have n3_ := Aside0.mk (below_step (by repeat (first | (with_reducible first | exact HB.out | apply below_alloc | apply pw_below_drewN | apply below_drew1 | refine below_set ?_ GE126.out | refine below_set ?_ GE136.out) | exact HB.out)) hb); clear HO133; clear BK126; clear BK136; clear HB; have HO133 := n0_; have BK126 := n1_; have BK136 := n2_; have HB := n3_; clear n0_ n1_ n2_ n3_; (try clear hb); (try clear hb2); (try clear hk); (try clear hi); have hcz57_0 : w56.cell? ⟨gb136, 0, none⟩ = some (.int .i64 t130) := (blk_cell BK136.out 0).trans rfl; have hcz57_1 : w56.cell? ⟨gb136, 1, none⟩ = some (.slice Ao25 t131.length co25) := (blk_cell BK136.out 1).trans rfl; have hfz57_0 := blk_frozen BK136.out 0; have hfz57_1 := blk_frozen BK136.out 1) | (go_at_call 12; (with_reducible refine (clock_Has.calls kj5 t130 _ _ t131 t134 false _ ?side1 ?side2 A31.out).mono ?_); (case side1 => repeat (first | exact (Kd.R_reads' HO133.out).2.2 | (with_reducible refine Kd.C_alloc ?_ _) | (with_reducible refine Kd.C_drewN ?_ _) | (with_reducible refine Kd.C_drew ?_))); (case side2 => exact (Kd.R_reads' HO133.out).2.1); rintro e w58 ⟨rfl, hb⟩; have n0_ := Aside0.mk (Kd.R_below (by (with_reducible repeat (first | apply Kd.R_alloc | apply Kd.R_drewN | apply Kd.R_drew)); exact HO133.out) hb); have n1_ := Aside0.mk (blk_below (g := gb126) (o := .cells #[.int .i64 a0_0, .slice A0_1 l0_1.length c0_1] 24 (0, 0)) (by (with_reducible repeat (first | refine blk_drewN ?_ _ | refine blk_drew ?_ | refine blk_alloc ?_ _)); exact BK126.out) hb); have n2_ := Aside0.mk (blk_below (g := gb136) (o := .cells #[.int .i64 t130, .slice Ao25 t131.length co25] 24 (0, 0)) (by (with_reducible repeat (first | refine blk_drewN ?_ _ | refine blk_drew ?_ | refine blk_alloc ?_ _)); exact BK136.out) hb); have n3_ := Aside0.mk (below_step (by repeat (first | (with_reducible first | exact HB.out | apply below_alloc | apply pw_below_drewN | apply below_drew1 | refine below_set ?_ GE126.out | refine below_set ?_ GE136.out) | exact HB.out)) hb); clear HO133; clear BK126; clear BK136; clear HB; have HO133 := n0_; have BK126 := n1_; have BK136 := n2_; have HB := n3_; clear n0_ n1_ n2_ n3_; (try clear hb); (try clear hb2); (try clear hk); (try clear hi); have hcz59_0 : w58.cell? ⟨gb126, 0, none⟩ = some (.int .i64 a0_0) := (blk_cell BK126.out 0).trans rfl; have hcz59_1 : w58.cell? ⟨gb126, 1, none⟩ = some (.slice A0_1 l0_1.length c0_1) := (blk_cell BK126.out 1).trans rfl; have hfz59_0 := blk_frozen BK126.out 0; have hfz59_1 := blk_frozen BK126.out 1) | (go_at_call 12; (with_reducible refine (clock_Has.calls kj5 a0_0 _ _ l0_1 t134 false _ ?side1 ?side2 A40.out).mono ?_); (case side1 => repeat (first | exact (Kd.C_below HR0_1.out HB.out) | (with_reducible refine Kd.C_alloc ?_ _) | (with_reducible refine Kd.C_drewN ?_ _) | (with_reducible refine Kd.C_drew ?_))); (case side2 => exact HC0_1.out); rintro e w60 ⟨rfl, hb⟩; have n0_ := Aside0.mk (Kd.R_below (by (with_reducible repeat (first | apply Kd.R_alloc | apply Kd.R_drewN | apply Kd.R_drew)); exact HO133.out) hb); have n1_ := Aside0.mk (blk_below (g := gb126) (o := .cells #[.int .i64 a0_0, .slice A0_1 l0_1.length c0_1] 24 (0, 0)) (by (with_reducible repeat (first | refine blk_drewN ?_ _ | refine blk_drew ?_ | refine blk_alloc ?_ _)); exact BK126.out) hb); have n2_ := Aside0.mk (blk_below (g := gb136) (o := .cells #[.int .i64 t130, .slice Ao25 t131.length co25] 24 (0, 0)) (by (with_reducible repeat (first | refine blk_drewN ?_ _ | refine blk_drew ?_ | refine blk_alloc ?_ _)); exact BK136.out) hb); have n3_ := Aside0.mk (below_step (by repeat (first | (with_reducible first | exact HB.out | apply below_alloc | apply pw_below_drewN | apply below_drew1 | refine below_set ?_ GE126.out | refine below_set ?_ GE136.out) | exact HB.out)) hb); clear HO133; clear BK126; clear BK136; clear HB; have HO133 := n0_; have BK126 := n1_; have BK136 := n2_; have HB := n3_; clear n0_ n1_ n2_ n3_; (try clear hb); (try clear hb2); (try clear hk); (try clear hi)))
                      go_meet
                      case rel => exact ⟨_, (true), (by first | rfl | (simp; done) | (simp [*]; done)), H', ⟨by have := HJ5.out; first | omega | exact Nat.le_refl _⟩, ⟨by (with_reducible repeat (first | apply Kd.R_alloc | apply Kd.R_drewN | apply Kd.R_drew)); exact HO133.out⟩, ⟨by (with_reducible repeat (first | refine blk_drewN ?_ _ | refine blk_drew ?_ | refine blk_alloc ?_ _)); exact BK126.out⟩, ⟨by (with_reducible repeat (first | refine blk_drewN ?_ _ | refine blk_drew ?_ | refine blk_alloc ?_ _)); exact BK136.out⟩, ⟨by repeat (first | (with_reducible first | exact HB.out | apply below_alloc | apply pw_below_drewN | apply below_drew1 | refine below_set ?_ GE126.out | refine below_set ?_ GE136.out) | exact HB.out)⟩⟩
                · rw [if_neg c30] at H
                  have c30b0 : decide (0 ≤ t134) = false := decide_eq_false c30
                  clear c30
                  (first | rw [c30b0] | (simp only [i64_w, i32_w]; rw [c30b0]) | skip)
                  have H' := Aside0.mk H
                  clear H
                  have hnb61 := NB136_126.out
                  have hnc61 := NB126_136.out
                  have hcz62_0 : w22.cell? ⟨gb136, 0, none⟩ = some (.int .i64 0) := (blk_cell BK136.out 0).trans rfl
                  have hcz62_1 : w22.cell? ⟨gb136, 1, none⟩ = some (.slice none 0 0) := (blk_cell BK136.out 1).trans rfl
                  have hfz62_0 := blk_frozen BK136.out 0
                  have hfz62_1 := blk_frozen BK136.out 1
                  go_wp2_with (first | ((with_reducible refine gate_callee (f := 10) rfl ?_); refine goesL_ (some 53) rfl rfl Try.func10 (by kernel_rfl) rfl #[.agg #[.int .i64 t130, .slice Ao25 t131.length co25]] rfl (by (try simp only [List.map_toArray, List.map_cons, List.map_nil]); first | done | rfl | (simp only [List.length_drop, List.length_take]; rfl)) ?_; (with_reducible refine (clock_May.calls kj5 t130 _ _ t131 true _ ?side1 ?side2 A26.out).mono ?_); (case side1 => refine (Kd.R_reads' (e := 32) (base := w.heap.size) (ok := fun k_ => True) (n := t131.length) (c := co25) ?_).2.2; exact (by (with_reducible repeat (first | apply Kd.R_alloc | apply Kd.R_drewN | apply Kd.R_drew)); exact (Kd.R_mono (Kd.R_far (p := ⟨gb136, 1, none⟩) (Kd.R_far (p := ⟨gb136, 0, none⟩) (Kd.R_types HO133.out BK136.out (by decide)) (fun _ hk => hk.2) (.int .i64 t130)) (fun _ hk => hk.2) (.slice Ao25 t131.length co25)) (fun _ h_ => h_.1)))); (case side2 => exact (Kd.R_reads' HO133.out).2.1); rintro e w63 ⟨rfl, hb⟩; refine ⟨_, rfl, ?_⟩; have n0_ := Aside0.mk (Kd.R_below (by (with_reducible repeat (first | apply Kd.R_alloc | apply Kd.R_drewN | apply Kd.R_drew)); exact (Kd.R_mono (Kd.R_far (p := ⟨gb136, 1, none⟩) (Kd.R_far (p := ⟨gb136, 0, none⟩) (Kd.R_types HO133.out BK136.out (by decide)) (fun _ hk => hk.2) (.int .i64 t130)) (fun _ hk => hk.2) (.slice Ao25 t131.length co25)) (fun _ h_ => h_.1))) hb); have n1_ := Aside0.mk (blk_below (g := gb126) (o := .cells #[.int .i64 a0_0, .slice A0_1 l0_1.length c0_1] 24 (0, 0)) (by (with_reducible repeat (first | refine blk_drewN ?_ _ | refine blk_drew ?_ | refine blk_alloc ?_ _)); refine blk_far ?_ NB126_136.out _; (with_reducible repeat (first | refine blk_drewN ?_ _ | refine blk_drew ?_ | refine blk_alloc ?_ _)); refine blk_far ?_ NB126_136.out _; (with_reducible repeat (first | refine blk_drewN ?_ _ | refine blk_drew ?_ | refine blk_alloc ?_ _)); exact BK126.out) hb); have n2_ := Aside0.mk (blk_below (g := gb136) (o := .cells #[.int .i64 t130, .slice Ao25 t131.length co25] 24 (0, 0)) (by (with_reducible repeat (first | refine blk_drewN ?_ _ | refine blk_drew ?_ | refine blk_alloc ?_ _)); refine blk_put (cs := #[.int .i64 t130, .slice none 0 0]) ?_ 1 _ rfl; (with_reducible repeat (first | refine blk_drewN ?_ _ | refine blk_drew ?_ | refine blk_alloc ?_ _)); refine blk_put (cs := #[.int .i64 0, .slice none 0 0]) ?_ 0 _ rfl; (with_reducible repeat (first | refine blk_drewN ?_ _ | refine blk_drew ?_ | refine blk_alloc ?_ _)); exact BK136.out) hb); have n3_ := Aside0.mk (below_step (by repeat (first | (with_reducible first | exact HB.out | apply below_alloc | apply pw_below_drewN | apply below_drew1 | refine below_set ?_ GE126.out | refine below_set ?_ GE136.out) | exact HB.out)) hb); clear HO133; clear BK126; clear BK136; clear HB; have HO133 := n0_; have BK126 := n1_; have BK136 := n2_; have HB := n3_; clear n0_ n1_ n2_ n3_; (try clear hb); (try clear hb2); (try clear hk); (try clear hi); have hcz64_0 : w63.cell? ⟨gb136, 0, none⟩ = some (.int .i64 t130) := (blk_cell BK136.out 0).trans rfl; have hcz64_1 : w63.cell? ⟨gb136, 1, none⟩ = some (.slice Ao25 t131.length co25) := (blk_cell BK136.out 1).trans rfl; have hfz64_0 := blk_frozen BK136.out 0; have hfz64_1 := blk_frozen BK136.out 1) | (go_at_call 12; (with_reducible refine (clock_Has.calls kj5 t130 _ _ t131 a2 true _ ?side1 ?side2 A28.out).mono ?_); (case side1 => repeat (first | exact (Kd.R_reads' HO133.out).2.2 | (with_reducible refine Kd.C_alloc ?_ _) | (with_reducible refine Kd.C_drewN ?_ _) | (with_reducible refine Kd.C_drew ?_))); (case side2 => exact (Kd.R_reads' HO133.out).2.1); rintro e w65 ⟨rfl, hb⟩; have n0_ := Aside0.mk (Kd.R_below (by (with_reducible repeat (first | apply Kd.R_alloc | apply Kd.R_drewN | apply Kd.R_drew)); exact HO133.out) hb); have n1_ := Aside0.mk (blk_below (g := gb126) (o := .cells #[.int .i64 a0_0, .slice A0_1 l0_1.length c0_1] 24 (0, 0)) (by (with_reducible repeat (first | refine blk_drewN ?_ _ | refine blk_drew ?_ | refine blk_alloc ?_ _)); exact BK126.out) hb); have n2_ := Aside0.mk (blk_below (g := gb136) (o := .cells #[.int .i64 t130, .slice Ao25 t131.length co25] 24 (0, 0)) (by (with_reducible repeat (first | refine blk_drewN ?_ _ | refine blk_drew ?_ | refine blk_alloc ?_ _)); exact BK136.out) hb); have n3_ := Aside0.mk (below_step (by repeat (first | (with_reducible first | exact HB.out | apply below_alloc | apply pw_below_drewN | apply below_drew1 | refine below_set ?_ GE126.out | refine below_set ?_ GE136.out) | exact HB.out)) hb); clear HO133; clear BK126; clear BK136; clear HB; have HO133 := n0_; have BK126 := n1_; have BK136 := n2_; have HB := n3_; clear n0_ n1_ n2_ n3_; (try clear hb); (try clear hb2); (try clear hk); (try clear hi); have hcz66_0 : w65.cell? ⟨gb136, 0, none⟩ = some (.int .i64 t130) := (blk_cell BK136.out 0).trans rfl; have hcz66_1 : w65.cell? ⟨gb136, 1, none⟩ = some (.slice Ao25 t131.length co25) := (blk_cell BK136.out 1).trans rfl; have hfz66_0 := blk_frozen BK136.out 0; have hfz66_1 := blk_frozen BK136.out 1))
                  go_meet
                  case rel => exact ⟨_, (decide ((t131.length : Int) > a1)), (by first | rfl | (simp; done) | (simp [*]; done)), H', ⟨by have := HJ5.out; first | omega | exact Nat.le_refl _⟩, ⟨by (with_reducible repeat (first | apply Kd.R_alloc | apply Kd.R_drewN | apply Kd.R_drew)); exact HO133.out⟩, ⟨by (with_reducible repeat (first | refine blk_drewN ?_ _ | refine blk_drew ?_ | refine blk_alloc ?_ _)); exact BK126.out⟩, ⟨by (with_reducible repeat (first | refine blk_drewN ?_ _ | refine blk_drew ?_ | refine blk_alloc ?_ _)); exact BK136.out⟩, ⟨by repeat (first | (with_reducible first | exact HB.out | apply below_alloc | apply pw_below_drewN | apply below_drew1 | refine below_set ?_ GE126.out | refine below_set ?_ GE136.out) | exact HB.out)⟩⟩
              · replace c29 := Bool.eq_false_iff.mpr c29
                subst c29
                have H1 : (bobbinlaw16_ClockStays.j1 kj5 t134 true a0_0 l0_1 t130 t131) = some r := by rw [if_neg (show ¬ (false = true) by decide)] at H; exact H
                clear H
                have H := H1
                clear H1
                have H' := Aside0.mk H
                clear H
                have hnb67 := NB136_126.out
                have hnc67 := NB126_136.out
                have hcz68_0 : w22.cell? ⟨gb136, 0, none⟩ = some (.int .i64 0) := (blk_cell BK136.out 0).trans rfl
                have hcz68_1 : w22.cell? ⟨gb136, 1, none⟩ = some (.slice none 0 0) := (blk_cell BK136.out 1).trans rfl
                have hfz68_0 := blk_frozen BK136.out 0
                have hfz68_1 := blk_frozen BK136.out 1
                go_wp2_with (first | ((with_reducible refine gate_callee (f := 10) rfl ?_); refine goesL_ (some 53) rfl rfl Try.func10 (by kernel_rfl) rfl #[.agg #[.int .i64 t130, .slice Ao25 t131.length co25]] rfl (by (try simp only [List.map_toArray, List.map_cons, List.map_nil]); first | done | rfl | (simp only [List.length_drop, List.length_take]; rfl)) ?_; (with_reducible refine (clock_May.calls kj5 t130 _ _ t131 true _ ?side1 ?side2 A26.out).mono ?_); (case side1 => refine (Kd.R_reads' (e := 32) (base := w.heap.size) (ok := fun k_ => True) (n := t131.length) (c := co25) ?_).2.2; exact (by (with_reducible repeat (first | apply Kd.R_alloc | apply Kd.R_drewN | apply Kd.R_drew)); exact (Kd.R_mono (Kd.R_far (p := ⟨gb136, 1, none⟩) (Kd.R_far (p := ⟨gb136, 0, none⟩) (Kd.R_types HO133.out BK136.out (by decide)) (fun _ hk => hk.2) (.int .i64 t130)) (fun _ hk => hk.2) (.slice Ao25 t131.length co25)) (fun _ h_ => h_.1)))); (case side2 => exact (Kd.R_reads' HO133.out).2.1); rintro e w69 ⟨rfl, hb⟩; refine ⟨_, rfl, ?_⟩; have n0_ := Aside0.mk (Kd.R_below (by (with_reducible repeat (first | apply Kd.R_alloc | apply Kd.R_drewN | apply Kd.R_drew)); exact (Kd.R_mono (Kd.R_far (p := ⟨gb136, 1, none⟩) (Kd.R_far (p := ⟨gb136, 0, none⟩) (Kd.R_types HO133.out BK136.out (by decide)) (fun _ hk => hk.2) (.int .i64 t130)) (fun _ hk => hk.2) (.slice Ao25 t131.length co25)) (fun _ h_ => h_.1))) hb); have n1_ := Aside0.mk (blk_below (g := gb126) (o := .cells #[.int .i64 a0_0, .slice A0_1 l0_1.length c0_1] 24 (0, 0)) (by (with_reducible repeat (first | refine blk_drewN ?_ _ | refine blk_drew ?_ | refine blk_alloc ?_ _)); refine blk_far ?_ NB126_136.out _; (with_reducible repeat (first | refine blk_drewN ?_ _ | refine blk_drew ?_ | refine blk_alloc ?_ _)); refine blk_far ?_ NB126_136.out _; (with_reducible repeat (first | refine blk_drewN ?_ _ | refine blk_drew ?_ | refine blk_alloc ?_ _)); exact BK126.out) hb); have n2_ := Aside0.mk (blk_below (g := gb136) (o := .cells #[.int .i64 t130, .slice Ao25 t131.length co25] 24 (0, 0)) (by (with_reducible repeat (first | refine blk_drewN ?_ _ | refine blk_drew ?_ | refine blk_alloc ?_ _)); refine blk_put (cs := #[.int .i64 t130, .slice none 0 0]) ?_ 1 _ rfl; (with_reducible repeat (first | refine blk_drewN ?_ _ | refine blk_drew ?_ | refine blk_alloc ?_ _)); refine blk_put (cs := #[.int .i64 0, .slice none 0 0]) ?_ 0 _ rfl; (with_reducible repeat (first | refine blk_drewN ?_ _ | refine blk_drew ?_ | refine blk_alloc ?_ _)); exact BK136.out) hb); have n3_ := Aside0.mk (below_step (by repeat (first | (with_reducible first | exact HB.out | apply below_alloc | apply pw_below_drewN | apply below_drew1 | refine below_set ?_ GE126.out | refine below_set ?_ GE136.out) | exact HB.out)) hb); clear HO133; clear BK126; clear BK136; clear HB; have HO133 := n0_; have BK126 := n1_; have BK136 := n2_; have HB := n3_; clear n0_ n1_ n2_ n3_; (try clear hb); (try clear hb2); (try clear hk); (try clear hi); have hcz70_0 : w69.cell? ⟨gb136, 0, none⟩ = some (.int .i64 t130) := (blk_cell BK136.out 0).trans rfl; have hcz70_1 : w69.cell? ⟨gb136, 1, none⟩ = some (.slice Ao25 t131.length co25) := (blk_cell BK136.out 1).trans rfl; have hfz70_0 := blk_frozen BK136.out 0; have hfz70_1 := blk_frozen BK136.out 1) | (go_at_call 12; (with_reducible refine (clock_Has.calls kj5 t130 _ _ t131 a2 false _ ?side1 ?side2 A28.out).mono ?_); (case side1 => repeat (first | exact (Kd.R_reads' HO133.out).2.2 | (with_reducible refine Kd.C_alloc ?_ _) | (with_reducible refine Kd.C_drewN ?_ _) | (with_reducible refine Kd.C_drew ?_))); (case side2 => exact (Kd.R_reads' HO133.out).2.1); rintro e w71 ⟨rfl, hb⟩; have n0_ := Aside0.mk (Kd.R_below (by (with_reducible repeat (first | apply Kd.R_alloc | apply Kd.R_drewN | apply Kd.R_drew)); exact HO133.out) hb); have n1_ := Aside0.mk (blk_below (g := gb126) (o := .cells #[.int .i64 a0_0, .slice A0_1 l0_1.length c0_1] 24 (0, 0)) (by (with_reducible repeat (first | refine blk_drewN ?_ _ | refine blk_drew ?_ | refine blk_alloc ?_ _)); exact BK126.out) hb); have n2_ := Aside0.mk (blk_below (g := gb136) (o := .cells #[.int .i64 t130, .slice Ao25 t131.length co25] 24 (0, 0)) (by (with_reducible repeat (first | refine blk_drewN ?_ _ | refine blk_drew ?_ | refine blk_alloc ?_ _)); exact BK136.out) hb); have n3_ := Aside0.mk (below_step (by repeat (first | (with_reducible first | exact HB.out | apply below_alloc | apply pw_below_drewN | apply below_drew1 | refine below_set ?_ GE126.out | refine below_set ?_ GE136.out) | exact HB.out)) hb); clear HO133; clear BK126; clear BK136; clear HB; have HO133 := n0_; have BK126 := n1_; have BK136 := n2_; have HB := n3_; clear n0_ n1_ n2_ n3_; (try clear hb); (try clear hb2); (try clear hk); (try clear hi)))
                go_meet
                case rel => exact ⟨_, (true), (by first | rfl | (simp; done) | (simp [*]; done)), H', ⟨by have := HJ5.out; first | omega | exact Nat.le_refl _⟩, ⟨by (with_reducible repeat (first | apply Kd.R_alloc | apply Kd.R_drewN | apply Kd.R_drew)); exact HO133.out⟩, ⟨by (with_reducible repeat (first | refine blk_drewN ?_ _ | refine blk_drew ?_ | refine blk_alloc ?_ _)); exact BK126.out⟩, ⟨by (with_reducible repeat (first | refine blk_drewN ?_ _ | refine blk_drew ?_ | refine blk_alloc ?_ _)); exact BK136.out⟩, ⟨by repeat (first | (with_reducible first | exact HB.out | apply below_alloc | apply pw_below_drewN | apply below_drew1 | refine below_set ?_ GE126.out | refine below_set ?_ GE136.out) | exact HB.out)⟩⟩
            · replace c27 := Bool.eq_false_iff.mpr c27
              subst c27
              have H1 : (bobbinlaw16_ClockStays.j1 kj5 t134 true a0_0 l0_1 t130 t131) = some r := by rw [if_neg (show ¬ (false = true) by decide)] at H; exact H
              clear H
              have H := H1
              clear H1
              have H' := Aside0.mk H
              clear H
              have hnb72 := NB136_126.out
              have hnc72 := NB126_136.out
              have hcz73_0 : w22.cell? ⟨gb136, 0, none⟩ = some (.int .i64 0) := (blk_cell BK136.out 0).trans rfl
              have hcz73_1 : w22.cell? ⟨gb136, 1, none⟩ = some (.slice none 0 0) := (blk_cell BK136.out 1).trans rfl
              have hfz73_0 := blk_frozen BK136.out 0
              have hfz73_1 := blk_frozen BK136.out 1
              go_wp2_with (first | ((with_reducible refine gate_callee (f := 10) rfl ?_); refine goesL_ (some 53) rfl rfl Try.func10 (by kernel_rfl) rfl #[.agg #[.int .i64 t130, .slice Ao25 t131.length co25]] rfl (by (try simp only [List.map_toArray, List.map_cons, List.map_nil]); first | done | rfl | (simp only [List.length_drop, List.length_take]; rfl)) ?_; (with_reducible refine (clock_May.calls kj5 t130 _ _ t131 false _ ?side1 ?side2 A26.out).mono ?_); (case side1 => refine (Kd.R_reads' (e := 32) (base := w.heap.size) (ok := fun k_ => True) (n := t131.length) (c := co25) ?_).2.2; exact (by (with_reducible repeat (first | apply Kd.R_alloc | apply Kd.R_drewN | apply Kd.R_drew)); exact (Kd.R_mono (Kd.R_far (p := ⟨gb136, 1, none⟩) (Kd.R_far (p := ⟨gb136, 0, none⟩) (Kd.R_types HO133.out BK136.out (by decide)) (fun _ hk => hk.2) (.int .i64 t130)) (fun _ hk => hk.2) (.slice Ao25 t131.length co25)) (fun _ h_ => h_.1)))); (case side2 => exact (Kd.R_reads' HO133.out).2.1); rintro e w74 ⟨rfl, hb⟩; refine ⟨_, rfl, ?_⟩; have n0_ := Aside0.mk (Kd.R_below (by (with_reducible repeat (first | apply Kd.R_alloc | apply Kd.R_drewN | apply Kd.R_drew)); exact (Kd.R_mono (Kd.R_far (p := ⟨gb136, 1, none⟩) (Kd.R_far (p := ⟨gb136, 0, none⟩) (Kd.R_types HO133.out BK136.out (by decide)) (fun _ hk => hk.2) (.int .i64 t130)) (fun _ hk => hk.2) (.slice Ao25 t131.length co25)) (fun _ h_ => h_.1))) hb); have n1_ := Aside0.mk (blk_below (g := gb126) (o := .cells #[.int .i64 a0_0, .slice A0_1 l0_1.length c0_1] 24 (0, 0)) (by (with_reducible repeat (first | refine blk_drewN ?_ _ | refine blk_drew ?_ | refine blk_alloc ?_ _)); refine blk_far ?_ NB126_136.out _; (with_reducible repeat (first | refine blk_drewN ?_ _ | refine blk_drew ?_ | refine blk_alloc ?_ _)); refine blk_far ?_ NB126_136.out _; (with_reducible repeat (first | refine blk_drewN ?_ _ | refine blk_drew ?_ | refine blk_alloc ?_ _)); exact BK126.out) hb); have n2_ := Aside0.mk (blk_below (g := gb136) (o := .cells #[.int .i64 t130, .slice Ao25 t131.length co25] 24 (0, 0)) (by (with_reducible repeat (first | refine blk_drewN ?_ _ | refine blk_drew ?_ | refine blk_alloc ?_ _)); refine blk_put (cs := #[.int .i64 t130, .slice none 0 0]) ?_ 1 _ rfl; (with_reducible repeat (first | refine blk_drewN ?_ _ | refine blk_drew ?_ | refine blk_alloc ?_ _)); refine blk_put (cs := #[.int .i64 0, .slice none 0 0]) ?_ 0 _ rfl; (with_reducible repeat (first | refine blk_drewN ?_ _ | refine blk_drew ?_ | refine blk_alloc ?_ _)); exact BK136.out) hb); have n3_ := Aside0.mk (below_step (by repeat (first | (with_reducible first | exact HB.out | apply below_alloc | apply pw_below_drewN | apply below_drew1 | refine below_set ?_ GE126.out | refine below_set ?_ GE136.out) | exact HB.out)) hb); clear HO133; clear BK126; clear BK136; clear HB; have HO133 := n0_; have BK126 := n1_; have BK136 := n2_; have HB := n3_; clear n0_ n1_ n2_ n3_; (try clear hb); (try clear hb2); (try clear hk); (try clear hi)))
              go_meet
              case rel => exact ⟨_, (true), (by first | rfl | (simp; done) | (simp [*]; done)), H', ⟨by have := HJ5.out; first | omega | exact Nat.le_refl _⟩, ⟨by (with_reducible repeat (first | apply Kd.R_alloc | apply Kd.R_drewN | apply Kd.R_drew)); exact HO133.out⟩, ⟨by (with_reducible repeat (first | refine blk_drewN ?_ _ | refine blk_drew ?_ | refine blk_alloc ?_ _)); exact BK126.out⟩, ⟨by (with_reducible repeat (first | refine blk_drewN ?_ _ | refine blk_drew ?_ | refine blk_alloc ?_ _)); exact BK136.out⟩, ⟨by repeat (first | (with_reducible first | exact HB.out | apply below_alloc | apply pw_below_drewN | apply below_drew1 | refine below_set ?_ GE126.out | refine below_set ?_ GE136.out) | exact HB.out)⟩⟩
          case rest =>
            clear HC19
            try clear c1
            try clear c2
            try clear p2
            try clear c3
            try clear c4
            try clear c5
            try clear c6
            try clear c7
            try clear c8
            try clear c9
            try clear c10
            try clear c11
            try clear c12
            try clear c16
            try clear c18
            try clear c18b0
            try clear c18b1
            try clear c23
            try clear c27
            try clear c29
            try clear c30
            try clear c30b0
            try clear c32
            try clear c33
            try clear c41
            try clear c42
            try clear c52
            try clear c61
            try clear c67
            try clear c72
            try clear hcz14_0
            try clear hcz14_1
            try clear hcz20_0
            try clear hcz20_1
            try clear hcz24_0
            try clear hcz24_1
            try clear hcz34_0
            try clear hcz34_1
            try clear hcz36_0
            try clear hcz36_1
            try clear hcz38_0
            try clear hcz38_1
            try clear hcz43_0
            try clear hcz43_1
            try clear hcz45_0
            try clear hcz45_1
            try clear hcz47_0
            try clear hcz47_1
            try clear hcz49_0
            try clear hcz49_1
            try clear hcz51_0
            try clear hcz51_1
            try clear hcz53_0
            try clear hcz53_1
            try clear hcz55_0
            try clear hcz55_1
            try clear hcz57_0
            try clear hcz57_1
            try clear hcz59_0
            try clear hcz59_1
            try clear hcz62_0
            try clear hcz62_1
            try clear hcz64_0
            try clear hcz64_1
            try clear hcz66_0
            try clear hcz66_1
            try clear hcz68_0
            try clear hcz68_1
            try clear hcz70_0
            try clear hcz70_1
            try clear hcz73_0
            try clear hcz73_1
            try clear hcz9_0
            try clear hcz9_1
            try clear hfz14_0
            try clear hfz14_1
            try clear hfz20_0
            try clear hfz20_1
            try clear hfz24_0
            try clear hfz24_1
            try clear hfz34_0
            try clear hfz34_1
            try clear hfz36_0
            try clear hfz36_1
            try clear hfz38_0
            try clear hfz38_1
            try clear hfz43_0
            try clear hfz43_1
            try clear hfz45_0
            try clear hfz45_1
            try clear hfz47_0
            try clear hfz47_1
            try clear hfz49_0
            try clear hfz49_1
            try clear hfz51_0
            try clear hfz51_1
            try clear hfz53_0
            try clear hfz53_1
            try clear hfz55_0
            try clear hfz55_1
            try clear hfz57_0
            try clear hfz57_1
            try clear hfz59_0
            try clear hfz59_1
            try clear hfz62_0
            try clear hfz62_1
            try clear hfz64_0
            try clear hfz64_1
            try clear hfz66_0
            try clear hfz66_1
            try clear hfz68_0
            try clear hfz68_1
            try clear hfz70_0
            try clear hfz70_1
            try clear hfz73_0
            try clear hfz73_1
            try clear hfz9_0
            try clear hfz9_1
            try clear p2
            obtain ⟨kq, x82_18, rfl, HA, HJ18, HO_137001, BK126, BK136, HB⟩ := hcut
            cases kq with
            | zero => exact absurd HA.out (by first | (intro h_; cases h_; done) | simp [bobbinlaw16_ClockStays.j1])
            | succ kj18 =>
              have H := HA.out
              clear HA
              rw [bobbinlaw16_ClockStays.j1_eq] at H
              by_cases c75 : x82_18 = true
              · subst c75
                have H1 : (some false) = some r := by rw [if_pos rfl] at H; exact H
                clear H
                have H := H1
                clear H1
                obtain rfl := Option.some.inj H
                go_wp2
                go_ret
                exact ⟨by first | rfl | (simp [errW_none, errW_some] <;> rfl) | (simp [*, errW_none, errW_some] <;> rfl), by repeat (first | (with_reducible first | exact HB.out | apply below_alloc | apply pw_below_drewN | apply below_drew1 | refine below_set ?_ GE126.out | refine below_set ?_ GE136.out) | exact HB.out)⟩
              · replace c75 := Bool.eq_false_iff.mpr c75
                subst c75
                have H1 : (bobbinlaw16_ClockStays.l0 kj18 t134 0 a0_0 l0_1 t130 t131) = some r := by rw [if_neg (show ¬ (false = true) by decide)] at H; exact H
                clear H
                have H := H1
                clear H1
                have H' := Aside0.mk H
                clear H
                go_wp2
                go_loopg [12] kj18 (fun kq v12 w' => ∃ (x12_3 : Int), v12 = .int .i64 x12_3 ∧ Aside0 (bobbinlaw16_ClockStays.l0 kq t134 x12_3 a0_0 l0_1 t130 t131 = some r) ∧ Aside0 (kq ≤ kj18) ∧ Aside0 (Kd.R k32 32 w' w.heap.size (fun _ => True) (.slice Ao25 t131.length co25) t131) ∧ Aside0 (w'.heap[gb126]? = some (.cells #[.int .i64 a0_0, (.slice A0_1 l0_1.length c0_1)] 24 (0, 0))) ∧ Aside0 (w'.heap[gb136]? = some (.cells #[.int .i64 t130, (.slice Ao25 t131.length co25)] 24 (0, 0))) ∧ Aside0 (Below w.heap.size w w'))
                case atStart => exact ⟨(0), (by first | rfl | (simp; done) | (simp [*]; done)), H', ⟨Nat.le_refl _⟩, ⟨by (with_reducible repeat (first | apply Kd.R_alloc | apply Kd.R_drewN | apply Kd.R_drew)); exact HO_137001.out⟩, ⟨by (with_reducible repeat (first | refine blk_drewN ?_ _ | refine blk_drew ?_ | refine blk_alloc ?_ _)); exact BK126.out⟩, ⟨by (with_reducible repeat (first | refine blk_drewN ?_ _ | refine blk_drew ?_ | refine blk_alloc ?_ _)); exact BK136.out⟩, ⟨by repeat (first | (with_reducible first | exact HB.out | apply below_alloc | apply pw_below_drewN | apply below_drew1 | refine below_set ?_ GE126.out | refine below_set ?_ GE136.out) | exact HB.out)⟩⟩
                case round =>
                  clear H'
                  try clear c1
                  try clear c2
                  try clear p2
                  try clear c3
                  try clear c4
                  try clear c5
                  try clear c6
                  try clear c7
                  try clear c8
                  try clear c9
                  try clear c10
                  try clear c11
                  try clear c12
                  try clear c16
                  try clear c18
                  try clear c18b0
                  try clear c18b1
                  try clear c23
                  try clear c27
                  try clear c29
                  try clear c30
                  try clear c30b0
                  try clear c32
                  try clear c33
                  try clear c41
                  try clear c42
                  try clear c52
                  try clear c61
                  try clear c67
                  try clear c72
                  try clear c75
                  try clear hcz14_0
                  try clear hcz14_1
                  try clear hcz20_0
                  try clear hcz20_1
                  try clear hcz24_0
                  try clear hcz24_1
                  try clear hcz34_0
                  try clear hcz34_1
                  try clear hcz36_0
                  try clear hcz36_1
                  try clear hcz38_0
                  try clear hcz38_1
                  try clear hcz43_0
                  try clear hcz43_1
                  try clear hcz45_0
                  try clear hcz45_1
                  try clear hcz47_0
                  try clear hcz47_1
                  try clear hcz49_0
                  try clear hcz49_1
                  try clear hcz51_0
                  try clear hcz51_1
                  try clear hcz53_0
                  try clear hcz53_1
                  try clear hcz55_0
                  try clear hcz55_1
                  try clear hcz57_0
                  try clear hcz57_1
                  try clear hcz59_0
                  try clear hcz59_1
                  try clear hcz62_0
                  try clear hcz62_1
                  try clear hcz64_0
                  try clear hcz64_1
                  try clear hcz66_0
                  try clear hcz66_1
                  try clear hcz68_0
                  try clear hcz68_1
                  try clear hcz70_0
                  try clear hcz70_1
                  try clear hcz73_0
                  try clear hcz73_1
                  try clear hcz9_0
                  try clear hcz9_1
                  try clear hfz14_0
                  try clear hfz14_1
                  try clear hfz20_0
                  try clear hfz20_1
                  try clear hfz24_0
                  try clear hfz24_1
                  try clear hfz34_0
                  try clear hfz34_1
                  try clear hfz36_0
                  try clear hfz36_1
                  try clear hfz38_0
                  try clear hfz38_1
                  try clear hfz43_0
                  try clear hfz43_1
                  try clear hfz45_0
                  try clear hfz45_1
                  try clear hfz47_0
                  try clear hfz47_1
                  try clear hfz49_0
                  try clear hfz49_1
                  try clear hfz51_0
                  try clear hfz51_1
                  try clear hfz53_0
                  try clear hfz53_1
                  try clear hfz55_0
                  try clear hfz55_1
                  try clear hfz57_0
                  try clear hfz57_1
                  try clear hfz59_0
                  try clear hfz59_1
                  try clear hfz62_0
                  try clear hfz62_1
                  try clear hfz64_0
                  try clear hfz64_1
                  try clear hfz66_0
                  try clear hfz66_1
                  try clear hfz68_0
                  try clear hfz68_1
                  try clear hfz70_0
                  try clear hfz70_1
                  try clear hfz73_0
                  try clear hfz73_1
                  try clear hfz9_0
                  try clear hfz9_1
                  try clear p2
                  obtain ⟨x12_3, rfl, HA, HK3, HO_137001, BK126, BK136, HB⟩ := hrel
                  cases gk with
                  | zero => exact absurd HA.out (by first | (intro h_; cases h_; done) | simp [bobbinlaw16_ClockStays.l0])
                  | succ k3 =>
                    have H := HA.out
                    clear HA
                    rw [bobbinlaw16_ClockStays.l0_eq] at H
                    by_cases c76 : x12_3 < (l0_1.length : Int)
                    · rw [if_pos c76] at H
                      have c76b0 : decide (x12_3 < (l0_1.length : Int)) = true := decide_eq_true c76
                      clear c76
                      by_cases c77 : 0 ≤ x12_3
                      · rw [if_pos c77] at H
                        have c77b0 : decide (0 ≤ x12_3) = true := decide_eq_true c77
                        clear c77
                        by_cases c78 : ((rd_T32 l0_1 x12_3).f0) = t134
                        · rw [if_pos c78] at H
                          have c78b0 : (((rd_T32 l0_1 x12_3).f0) == t134) = true := beq_iff_eq.mpr c78
                          have c78b1 : (((rd_T32 l0_1 x12_3).f0) != t134) = false := bne_eq_false_iff_eq.mpr c78
                          clear c78
                          obtain ⟨bq79, hbq79⟩ : ∃ b_ : Bool, b_ = ((rd_T32 l0_1 x12_3).f2) := ⟨_, rfl⟩
                          replace H : (if bq79 = true then (some false) else (bobbinlaw16_ClockStays.l0 k3 t134 (wrap64 (x12_3 + 1)) a0_0 l0_1 t130 t131)) = some r := by rw [← hbq79] at H; exact H
                          have Nbq79 := Aside0.mk hbq79
                          clear hbq79
                          by_cases c80 : bq79 = true
                          · subst c80
                            have H1 : (some false) = some r := by rw [if_pos rfl] at H; exact H
                            clear H
                            have H := H1
                            clear H1
                            obtain rfl := Option.some.inj H
                            have hnb81 := NB126_136.out
                            have hnc81 := NB136_126.out
                            have hcz82_0 : wr.cell? ⟨gb126, 0, none⟩ = some (.int .i64 a0_0) := (blk_cell BK126.out 0).trans rfl
                            have hcz82_1 : wr.cell? ⟨gb126, 1, none⟩ = some (.slice A0_1 l0_1.length c0_1) := (blk_cell BK126.out 1).trans rfl
                            have hfz82_0 := blk_frozen BK126.out 0
                            have hfz82_1 := blk_frozen BK126.out 1
                            have p141 : 0 ≤ (x12_3 : Int) := of_decide_eq_true (by first | (with_reducible assumption) | assumption)
                            have q141 : x12_3 < (l0_1.length : Int) := of_decide_eq_true (by first | (with_reducible assumption) | assumption)
                            obtain ⟨ad141, e141, hx141_0, hx141_1, hx141_2⟩ := at_T32 HR0_1.out x12_3 p141 q141
                            (try rw [← Nbq79.out] at hx141_1)
                            (try rw [← Nbq79.out] at hx141_2)
                            cases e141
                            replace hx141_0 := (HB.out.cell (World.block_lt_of_cell? w _ hx141_0)).trans hx141_0
                            replace hx141_1 := (HB.out.cell (World.block_lt_of_cell? w _ hx141_1)).trans hx141_1
                            replace hx141_2 := (HB.out.cell (World.block_lt_of_cell? w _ hx141_2)).trans hx141_2
                            replace p141 := eq_true p141
                            replace q141 := eq_true q141
                            go_wp2_with (first | ((with_reducible refine gate_dst (N := 13) rfl ?_); (try (refine gate_guard (by rfl) ?_; dsimp only)); refine box_event ?hg (N := 13) ?hd (cs := #[.int .i64 0, .bool false, .bool false]) (t := 32) ?hr ?_; (case hd => rfl); (case hg => rfl); (case hr => first | (go_simp; done) | (go_simp; rfl)); intro gb142 hg w83 hbox hb; have n0_ := Aside0.mk (Kd.R_below (Kd.R_elderB (by (with_reducible repeat (first | apply Kd.R_alloc | apply Kd.R_drewN | apply Kd.R_drew)); exact HO_137001.out) gb142 (Nat.le_of_eq hg.symm)) hb); have n1_ := Aside0.mk (blk_below (g := gb126) (o := .cells #[.int .i64 a0_0, .slice (some ad141) l0_1.length c0_1] 24 (0, 0)) (by (with_reducible repeat (first | refine blk_drewN ?_ _ | refine blk_drew ?_ | refine blk_alloc ?_ _)); exact BK126.out) hb); have n2_ := Aside0.mk (blk_below (g := gb136) (o := .cells #[.int .i64 t130, .slice Ao25 t131.length co25] 24 (0, 0)) (by (with_reducible repeat (first | refine blk_drewN ?_ _ | refine blk_drew ?_ | refine blk_alloc ?_ _)); exact BK136.out) hb); have n3_ := Aside0.mk (below_step (by repeat (first | (with_reducible first | exact HB.out | apply below_alloc | apply pw_below_drewN | apply below_drew1 | refine below_set ?_ GE126.out | refine below_set ?_ GE136.out) | exact HB.out)) hb); have n4_ := Aside0.mk (hbox); have n5_ := Aside0.mk ((by rw [hg]; exact (below_size (by repeat (first | (with_reducible first | exact HB.out | apply below_alloc | apply pw_below_drewN | apply below_drew1 | refine below_set ?_ GE126.out | refine below_set ?_ GE136.out) | exact HB.out))) : w.heap.size ≤ gb142)); have n6_ := Aside0.mk ((by rw [hg]; exact (below_size (by repeat (first | (with_reducible first | exact HB.out | apply below_alloc | apply pw_below_drewN | apply below_drew1 | refine below_set ?_ GE126.out | refine below_set ?_ GE136.out) | exact HB.out))) : w.heap.size ≤ gb142)); have n7_ := Aside0.mk ((by rw [hg]; exact Nat.ne_of_lt (blk_lt (g := gb126) (o := .cells #[.int .i64 a0_0, .slice (some ad141) l0_1.length c0_1] 24 (0, 0)) (by (with_reducible repeat (first | refine blk_drewN ?_ _ | refine blk_drew ?_ | refine blk_alloc ?_ _)); exact BK126.out)) : gb126 ≠ gb142)); have n8_ := Aside0.mk ((by rw [hg]; exact Nat.ne_of_gt (blk_lt (g := gb126) (o := .cells #[.int .i64 a0_0, .slice (some ad141) l0_1.length c0_1] 24 (0, 0)) (by (with_reducible repeat (first | refine blk_drewN ?_ _ | refine blk_drew ?_ | refine blk_alloc ?_ _)); exact BK126.out)) : gb142 ≠ gb126)); have n9_ := Aside0.mk ((by rw [hg]; exact Nat.ne_of_lt (blk_lt (g := gb136) (o := .cells #[.int .i64 t130, .slice Ao25 t131.length co25] 24 (0, 0)) (by (with_reducible repeat (first | refine blk_drewN ?_ _ | refine blk_drew ?_ | refine blk_alloc ?_ _)); exact BK136.out)) : gb136 ≠ gb142)); have n10_ := Aside0.mk ((by rw [hg]; exact Nat.ne_of_gt (blk_lt (g := gb136) (o := .cells #[.int .i64 t130, .slice Ao25 t131.length co25] 24 (0, 0)) (by (with_reducible repeat (first | refine blk_drewN ?_ _ | refine blk_drew ?_ | refine blk_alloc ?_ _)); exact BK136.out)) : gb142 ≠ gb136)); clear HO_137001; clear BK126; clear BK136; clear HB; have HO_137001 := n0_; have BK126 := n1_; have BK136 := n2_; have HB := n3_; have BK142 := n4_; have GW142 := n5_; have GE142 := n6_; have NB126_142 := n7_; have NB142_126 := n8_; have NB136_142 := n9_; have NB142_136 := n10_; clear n0_ n1_ n2_ n3_ n4_ n5_ n6_ n7_ n8_ n9_ n10_; clear hb hbox hg; have hnb84 := NB142_126.out; have hnc84 := NB126_142.out; have hnb85 := NB142_136.out; have hnc85 := NB136_142.out; have hcz86_0 : w83.cell? ⟨gb142, 0, none⟩ = some (.int .i64 0) := (blk_cell BK142.out 0).trans rfl; have hcz86_1 : w83.cell? ⟨gb142, 1, none⟩ = some (.bool false) := (blk_cell BK142.out 1).trans rfl; have hcz86_2 : w83.cell? ⟨gb142, 2, none⟩ = some (.bool false) := (blk_cell BK142.out 2).trans rfl; have hfz86_0 := blk_frozen BK142.out 0; have hfz86_1 := blk_frozen BK142.out 1; have hfz86_2 := blk_frozen BK142.out 2))
                            go_ret
                            exact ⟨by first | rfl | (simp [errW_none, errW_some] <;> rfl) | (simp [*, errW_none, errW_some] <;> rfl), by repeat (first | (with_reducible first | exact HB.out | apply below_alloc | apply pw_below_drewN | apply below_drew1 | refine below_set ?_ GE126.out | refine below_set ?_ GE136.out | refine below_set ?_ GE142.out) | exact HB.out)⟩
                          · replace c80 := Bool.eq_false_iff.mpr c80
                            subst c80
                            have H1 : (bobbinlaw16_ClockStays.l0 k3 t134 (wrap64 (x12_3 + 1)) a0_0 l0_1 t130 t131) = some r := by rw [if_neg (show ¬ (false = true) by decide)] at H; exact H
                            clear H
                            have H := H1
                            clear H1
                            have H' := Aside0.mk H
                            clear H
                            have hnb87 := NB126_136.out
                            have hnc87 := NB136_126.out
                            have hcz88_0 : wr.cell? ⟨gb126, 0, none⟩ = some (.int .i64 a0_0) := (blk_cell BK126.out 0).trans rfl
                            have hcz88_1 : wr.cell? ⟨gb126, 1, none⟩ = some (.slice A0_1 l0_1.length c0_1) := (blk_cell BK126.out 1).trans rfl
                            have hfz88_0 := blk_frozen BK126.out 0
                            have hfz88_1 := blk_frozen BK126.out 1
                            have p141 : 0 ≤ (x12_3 : Int) := of_decide_eq_true (by first | (with_reducible assumption) | assumption)
                            have q141 : x12_3 < (l0_1.length : Int) := of_decide_eq_true (by first | (with_reducible assumption) | assumption)
                            obtain ⟨ad141, e141, hx141_0, hx141_1, hx141_2⟩ := at_T32 HR0_1.out x12_3 p141 q141
                            (try rw [← Nbq79.out] at hx141_1)
                            (try rw [← Nbq79.out] at hx141_2)
                            cases e141
                            replace hx141_0 := (HB.out.cell (World.block_lt_of_cell? w _ hx141_0)).trans hx141_0
                            replace hx141_1 := (HB.out.cell (World.block_lt_of_cell? w _ hx141_1)).trans hx141_1
                            replace hx141_2 := (HB.out.cell (World.block_lt_of_cell? w _ hx141_2)).trans hx141_2
                            replace p141 := eq_true p141
                            replace q141 := eq_true q141
                            go_wp2_with (first | ((with_reducible refine gate_dst (N := 13) rfl ?_); (try (refine gate_guard (by rfl) ?_; dsimp only)); refine box_event ?hg (N := 13) ?hd (cs := #[.int .i64 0, .bool false, .bool false]) (t := 32) ?hr ?_; (case hd => rfl); (case hg => rfl); (case hr => first | (go_simp; done) | (go_simp; rfl)); intro gb142 hg w89 hbox hb; have n0_ := Aside0.mk (Kd.R_below (Kd.R_elderB (by (with_reducible repeat (first | apply Kd.R_alloc | apply Kd.R_drewN | apply Kd.R_drew)); exact HO_137001.out) gb142 (Nat.le_of_eq hg.symm)) hb); have n1_ := Aside0.mk (blk_below (g := gb126) (o := .cells #[.int .i64 a0_0, .slice (some ad141) l0_1.length c0_1] 24 (0, 0)) (by (with_reducible repeat (first | refine blk_drewN ?_ _ | refine blk_drew ?_ | refine blk_alloc ?_ _)); exact BK126.out) hb); have n2_ := Aside0.mk (blk_below (g := gb136) (o := .cells #[.int .i64 t130, .slice Ao25 t131.length co25] 24 (0, 0)) (by (with_reducible repeat (first | refine blk_drewN ?_ _ | refine blk_drew ?_ | refine blk_alloc ?_ _)); exact BK136.out) hb); have n3_ := Aside0.mk (below_step (by repeat (first | (with_reducible first | exact HB.out | apply below_alloc | apply pw_below_drewN | apply below_drew1 | refine below_set ?_ GE126.out | refine below_set ?_ GE136.out) | exact HB.out)) hb); have n4_ := Aside0.mk (hbox); have n5_ := Aside0.mk ((by rw [hg]; exact (below_size (by repeat (first | (with_reducible first | exact HB.out | apply below_alloc | apply pw_below_drewN | apply below_drew1 | refine below_set ?_ GE126.out | refine below_set ?_ GE136.out) | exact HB.out))) : w.heap.size ≤ gb142)); have n6_ := Aside0.mk ((by rw [hg]; exact (below_size (by repeat (first | (with_reducible first | exact HB.out | apply below_alloc | apply pw_below_drewN | apply below_drew1 | refine below_set ?_ GE126.out | refine below_set ?_ GE136.out) | exact HB.out))) : w.heap.size ≤ gb142)); have n7_ := Aside0.mk ((by rw [hg]; exact Nat.ne_of_lt (blk_lt (g := gb126) (o := .cells #[.int .i64 a0_0, .slice (some ad141) l0_1.length c0_1] 24 (0, 0)) (by (with_reducible repeat (first | refine blk_drewN ?_ _ | refine blk_drew ?_ | refine blk_alloc ?_ _)); exact BK126.out)) : gb126 ≠ gb142)); have n8_ := Aside0.mk ((by rw [hg]; exact Nat.ne_of_gt (blk_lt (g := gb126) (o := .cells #[.int .i64 a0_0, .slice (some ad141) l0_1.length c0_1] 24 (0, 0)) (by (with_reducible repeat (first | refine blk_drewN ?_ _ | refine blk_drew ?_ | refine blk_alloc ?_ _)); exact BK126.out)) : gb142 ≠ gb126)); have n9_ := Aside0.mk ((by rw [hg]; exact Nat.ne_of_lt (blk_lt (g := gb136) (o := .cells #[.int .i64 t130, .slice Ao25 t131.length co25] 24 (0, 0)) (by (with_reducible repeat (first | refine blk_drewN ?_ _ | refine blk_drew ?_ | refine blk_alloc ?_ _)); exact BK136.out)) : gb136 ≠ gb142)); have n10_ := Aside0.mk ((by rw [hg]; exact Nat.ne_of_gt (blk_lt (g := gb136) (o := .cells #[.int .i64 t130, .slice Ao25 t131.length co25] 24 (0, 0)) (by (with_reducible repeat (first | refine blk_drewN ?_ _ | refine blk_drew ?_ | refine blk_alloc ?_ _)); exact BK136.out)) : gb142 ≠ gb136)); clear HO_137001; clear BK126; clear BK136; clear HB; have HO_137001 := n0_; have BK126 := n1_; have BK136 := n2_; have HB := n3_; have BK142 := n4_; have GW142 := n5_; have GE142 := n6_; have NB126_142 := n7_; have NB142_126 := n8_; have NB136_142 := n9_; have NB142_136 := n10_; clear n0_ n1_ n2_ n3_ n4_ n5_ n6_ n7_ n8_ n9_ n10_; clear hb hbox hg; have hnb90 := NB142_126.out; have hnc90 := NB126_142.out; have hnb91 := NB142_136.out; have hnc91 := NB136_142.out; have hcz92_0 : w89.cell? ⟨gb142, 0, none⟩ = some (.int .i64 0) := (blk_cell BK142.out 0).trans rfl; have hcz92_1 : w89.cell? ⟨gb142, 1, none⟩ = some (.bool false) := (blk_cell BK142.out 1).trans rfl; have hcz92_2 : w89.cell? ⟨gb142, 2, none⟩ = some (.bool false) := (blk_cell BK142.out 2).trans rfl; have hfz92_0 := blk_frozen BK142.out 0; have hfz92_1 := blk_frozen BK142.out 1; have hfz92_2 := blk_frozen BK142.out 2))
                            go_roundg k3
                            case measure => have := HJ5.out; have := HJ18.out; have := HK3.out; omega
                            case rel => exact ⟨(wrap64 (x12_3 + 1)), (by first | rfl | (simp; done) | (simp [*]; done)), H', ⟨by have := HJ5.out; have := HJ18.out; have := HK3.out; omega⟩, ⟨by (with_reducible repeat (first | apply Kd.R_alloc | apply Kd.R_drewN | apply Kd.R_drew)); exact Kd.R_mono (Kd.R_far (p := ⟨gb142, 2, none⟩) (Kd.R_far (p := ⟨gb142, 1, none⟩) (Kd.R_far (p := ⟨gb142, 0, none⟩) (Kd.R_mono HO_137001.out (fun k_ hk => (⟨hk, hk.2⟩ : _ ∧ k_ ≠ gb142))) (fun _ hk => hk.2) (.int .i64 ((rd_T32 l0_1 x12_3).f0))) (fun _ hk => hk.2) (.bool ((rd_T32 l0_1 x12_3).f1))) (fun _ hk => hk.2) (.bool false)) (fun _ hk => trivial)⟩, ⟨by (with_reducible repeat (first | refine blk_drewN ?_ _ | refine blk_drew ?_ | refine blk_alloc ?_ _)); refine blk_far ?_ NB126_142.out _; (with_reducible repeat (first | refine blk_drewN ?_ _ | refine blk_drew ?_ | refine blk_alloc ?_ _)); refine blk_far ?_ NB126_142.out _; (with_reducible repeat (first | refine blk_drewN ?_ _ | refine blk_drew ?_ | refine blk_alloc ?_ _)); refine blk_far ?_ NB126_142.out _; (with_reducible repeat (first | refine blk_drewN ?_ _ | refine blk_drew ?_ | refine blk_alloc ?_ _)); exact BK126.out⟩, ⟨by (with_reducible repeat (first | refine blk_drewN ?_ _ | refine blk_drew ?_ | refine blk_alloc ?_ _)); refine blk_far ?_ NB136_142.out _; (with_reducible repeat (first | refine blk_drewN ?_ _ | refine blk_drew ?_ | refine blk_alloc ?_ _)); refine blk_far ?_ NB136_142.out _; (with_reducible repeat (first | refine blk_drewN ?_ _ | refine blk_drew ?_ | refine blk_alloc ?_ _)); refine blk_far ?_ NB136_142.out _; (with_reducible repeat (first | refine blk_drewN ?_ _ | refine blk_drew ?_ | refine blk_alloc ?_ _)); exact BK136.out⟩, ⟨by repeat (first | (with_reducible first | exact HB.out | apply below_alloc | apply pw_below_drewN | apply below_drew1 | refine below_set ?_ GE126.out | refine below_set ?_ GE136.out | refine below_set ?_ GE142.out) | exact HB.out)⟩⟩
                        · rw [if_neg c78] at H
                          have c78b0 : (((rd_T32 l0_1 x12_3).f0) == t134) = false := beq_eq_false_iff_ne.mpr c78
                          have c78b1 : (((rd_T32 l0_1 x12_3).f0) != t134) = true := bne_iff_ne.mpr c78
                          replace H := Option.bind_eq_some_iff.mp H
                          obtain ⟨t143, A930, H⟩ := H
                          replace H : (if t143 = true then (bobbinlaw16_ClockStays.l0 k3 t134 (wrap64 (x12_3 + 1)) a0_0 l0_1 t130 t131) else (some false)) = some r := H
                          have A93 := Aside0.mk A930
                          clear A930
                          by_cases c94 : t143 = true
                          · subst c94
                            have H1 : (bobbinlaw16_ClockStays.l0 k3 t134 (wrap64 (x12_3 + 1)) a0_0 l0_1 t130 t131) = some r := by rw [if_pos rfl] at H; exact H
                            clear H
                            have H := H1
                            clear H1
                            have H' := Aside0.mk H
                            clear H
                            have hnb95 := NB126_136.out
                            have hnc95 := NB136_126.out
                            have hcz96_0 : wr.cell? ⟨gb126, 0, none⟩ = some (.int .i64 a0_0) := (blk_cell BK126.out 0).trans rfl
                            have hcz96_1 : wr.cell? ⟨gb126, 1, none⟩ = some (.slice A0_1 l0_1.length c0_1) := (blk_cell BK126.out 1).trans rfl
                            have hfz96_0 := blk_frozen BK126.out 0
                            have hfz96_1 := blk_frozen BK126.out 1
                            have p141 : 0 ≤ (x12_3 : Int) := of_decide_eq_true (by first | (with_reducible assumption) | assumption)
                            have q141 : x12_3 < (l0_1.length : Int) := of_decide_eq_true (by first | (with_reducible assumption) | assumption)
                            obtain ⟨ad141, e141, hx141_0, hx141_1, hx141_2⟩ := at_T32 HR0_1.out x12_3 p141 q141
                            cases e141
                            replace hx141_0 := (HB.out.cell (World.block_lt_of_cell? w _ hx141_0)).trans hx141_0
                            replace hx141_1 := (HB.out.cell (World.block_lt_of_cell? w _ hx141_1)).trans hx141_1
                            replace hx141_2 := (HB.out.cell (World.block_lt_of_cell? w _ hx141_2)).trans hx141_2
                            replace p141 := eq_true p141
                            replace q141 := eq_true q141
                            go_wp2_with (first | ((with_reducible refine gate_dst (N := 13) rfl ?_); (try (refine gate_guard (by rfl) ?_; dsimp only)); refine box_event ?hg (N := 13) ?hd (cs := #[.int .i64 0, .bool false, .bool false]) (t := 32) ?hr ?_; (case hd => rfl); (case hg => rfl); (case hr => first | (go_simp; done) | (go_simp; rfl)); intro gb142 hg w97 hbox hb; have n0_ := Aside0.mk (Kd.R_below (Kd.R_elderB (by (with_reducible repeat (first | apply Kd.R_alloc | apply Kd.R_drewN | apply Kd.R_drew)); exact HO_137001.out) gb142 (Nat.le_of_eq hg.symm)) hb); have n1_ := Aside0.mk (blk_below (g := gb126) (o := .cells #[.int .i64 a0_0, .slice (some ad141) l0_1.length c0_1] 24 (0, 0)) (by (with_reducible repeat (first | refine blk_drewN ?_ _ | refine blk_drew ?_ | refine blk_alloc ?_ _)); exact BK126.out) hb); have n2_ := Aside0.mk (blk_below (g := gb136) (o := .cells #[.int .i64 t130, .slice Ao25 t131.length co25] 24 (0, 0)) (by (with_reducible repeat (first | refine blk_drewN ?_ _ | refine blk_drew ?_ | refine blk_alloc ?_ _)); exact BK136.out) hb); have n3_ := Aside0.mk (below_step (by repeat (first | (with_reducible first | exact HB.out | apply below_alloc | apply pw_below_drewN | apply below_drew1 | refine below_set ?_ GE126.out | refine below_set ?_ GE136.out) | exact HB.out)) hb); have n4_ := Aside0.mk (hbox); have n5_ := Aside0.mk ((by rw [hg]; exact (below_size (by repeat (first | (with_reducible first | exact HB.out | apply below_alloc | apply pw_below_drewN | apply below_drew1 | refine below_set ?_ GE126.out | refine below_set ?_ GE136.out) | exact HB.out))) : w.heap.size ≤ gb142)); have n6_ := Aside0.mk ((by rw [hg]; exact (below_size (by repeat (first | (with_reducible first | exact HB.out | apply below_alloc | apply pw_below_drewN | apply below_drew1 | refine below_set ?_ GE126.out | refine below_set ?_ GE136.out) | exact HB.out))) : w.heap.size ≤ gb142)); have n7_ := Aside0.mk ((by rw [hg]; exact Nat.ne_of_lt (blk_lt (g := gb126) (o := .cells #[.int .i64 a0_0, .slice (some ad141) l0_1.length c0_1] 24 (0, 0)) (by (with_reducible repeat (first | refine blk_drewN ?_ _ | refine blk_drew ?_ | refine blk_alloc ?_ _)); exact BK126.out)) : gb126 ≠ gb142)); have n8_ := Aside0.mk ((by rw [hg]; exact Nat.ne_of_gt (blk_lt (g := gb126) (o := .cells #[.int .i64 a0_0, .slice (some ad141) l0_1.length c0_1] 24 (0, 0)) (by (with_reducible repeat (first | refine blk_drewN ?_ _ | refine blk_drew ?_ | refine blk_alloc ?_ _)); exact BK126.out)) : gb142 ≠ gb126)); have n9_ := Aside0.mk ((by rw [hg]; exact Nat.ne_of_lt (blk_lt (g := gb136) (o := .cells #[.int .i64 t130, .slice Ao25 t131.length co25] 24 (0, 0)) (by (with_reducible repeat (first | refine blk_drewN ?_ _ | refine blk_drew ?_ | refine blk_alloc ?_ _)); exact BK136.out)) : gb136 ≠ gb142)); have n10_ := Aside0.mk ((by rw [hg]; exact Nat.ne_of_gt (blk_lt (g := gb136) (o := .cells #[.int .i64 t130, .slice Ao25 t131.length co25] 24 (0, 0)) (by (with_reducible repeat (first | refine blk_drewN ?_ _ | refine blk_drew ?_ | refine blk_alloc ?_ _)); exact BK136.out)) : gb142 ≠ gb136)); clear HO_137001; clear BK126; clear BK136; clear HB; have HO_137001 := n0_; have BK126 := n1_; have BK136 := n2_; have HB := n3_; have BK142 := n4_; have GW142 := n5_; have GE142 := n6_; have NB126_142 := n7_; have NB142_126 := n8_; have NB136_142 := n9_; have NB142_136 := n10_; clear n0_ n1_ n2_ n3_ n4_ n5_ n6_ n7_ n8_ n9_ n10_; clear hb hbox hg; have hnb98 := NB142_126.out; have hnc98 := NB126_142.out; have hnb99 := NB142_136.out; have hnc99 := NB136_142.out; have hcz100_0 : w97.cell? ⟨gb142, 0, none⟩ = some (.int .i64 0) := (blk_cell BK142.out 0).trans rfl; have hcz100_1 : w97.cell? ⟨gb142, 1, none⟩ = some (.bool false) := (blk_cell BK142.out 1).trans rfl; have hcz100_2 : w97.cell? ⟨gb142, 2, none⟩ = some (.bool false) := (blk_cell BK142.out 2).trans rfl; have hfz100_0 := blk_frozen BK142.out 0; have hfz100_1 := blk_frozen BK142.out 1; have hfz100_2 := blk_frozen BK142.out 2; have hcz101_0 : w97.cell? ⟨gb136, 0, none⟩ = some (.int .i64 t130) := (blk_cell BK136.out 0).trans rfl; have hcz101_1 : w97.cell? ⟨gb136, 1, none⟩ = some (.slice Ao25 t131.length co25) := (blk_cell BK136.out 1).trans rfl; have hfz101_0 := blk_frozen BK136.out 0; have hfz101_1 := blk_frozen BK136.out 1) | (go_at_call 12; (with_reducible refine (clock_Has.calls k3 t130 _ _ t131 ((rd_T32 l0_1 x12_3).f0) true _ ?side1 ?side2 A93.out).mono ?_); (case side1 => refine (Kd.R_reads' (e := 32) (base := w.heap.size) (ok := fun k_ => (True ∧ k_ ≠ gb142)) (n := t131.length) (c := co25) ?_).2.2; exact (by (with_reducible repeat (first | apply Kd.R_alloc | apply Kd.R_drewN | apply Kd.R_drew)); exact (Kd.R_mono (Kd.R_far (p := ⟨gb142, 2, none⟩) (Kd.R_far (p := ⟨gb142, 1, none⟩) (Kd.R_far (p := ⟨gb142, 0, none⟩) (Kd.R_mono HO_137001.out (fun k_ hk => (⟨hk, hk.2⟩ : _ ∧ k_ ≠ gb142))) (fun _ hk => hk.2) (.int .i64 ((rd_T32 l0_1 x12_3).f0))) (fun _ hk => hk.2) (.bool ((rd_T32 l0_1 x12_3).f1))) (fun _ hk => hk.2) (.bool ((rd_T32 l0_1 x12_3).f2))) (fun _ h_ => h_.1)))); (case side2 => exact (Kd.R_reads' HO_137001.out).2.1); rintro e w102 ⟨rfl, hb⟩; have n0_ := Aside0.mk (Kd.R_below (by (with_reducible repeat (first | apply Kd.R_alloc | apply Kd.R_drewN | apply Kd.R_drew)); exact (Kd.R_mono (Kd.R_far (p := ⟨gb142, 2, none⟩) (Kd.R_far (p := ⟨gb142, 1, none⟩) (Kd.R_far (p := ⟨gb142, 0, none⟩) (Kd.R_mono HO_137001.out (fun k_ hk => (⟨hk, hk.2⟩ : _ ∧ k_ ≠ gb142))) (fun _ hk => hk.2) (.int .i64 ((rd_T32 l0_1 x12_3).f0))) (fun _ hk => hk.2) (.bool ((rd_T32 l0_1 x12_3).f1))) (fun _ hk => hk.2) (.bool ((rd_T32 l0_1 x12_3).f2))) (fun _ h_ => h_.1))) hb); have n1_ := Aside0.mk (blk_below (g := gb126) (o := .cells #[.int .i64 a0_0, .slice (some ad141) l0_1.length c0_1] 24 (0, 0)) (by (with_reducible repeat (first | refine blk_drewN ?_ _ | refine blk_drew ?_ | refine blk_alloc ?_ _)); refine blk_far ?_ NB126_142.out _; (with_reducible repeat (first | refine blk_drewN ?_ _ | refine blk_drew ?_ | refine blk_alloc ?_ _)); refine blk_far ?_ NB126_142.out _; (with_reducible repeat (first | refine blk_drewN ?_ _ | refine blk_drew ?_ | refine blk_alloc ?_ _)); refine blk_far ?_ NB126_142.out _; (with_reducible repeat (first | refine blk_drewN ?_ _ | refine blk_drew ?_ | refine blk_alloc ?_ _)); exact BK126.out) hb); have n2_ := Aside0.mk (blk_below (g := gb136) (o := .cells #[.int .i64 t130, .slice Ao25 t131.length co25] 24 (0, 0)) (by (with_reducible repeat (first | refine blk_drewN ?_ _ | refine blk_drew ?_ | refine blk_alloc ?_ _)); refine blk_far ?_ NB136_142.out _; (with_reducible repeat (first | refine blk_drewN ?_ _ | refine blk_drew ?_ | refine blk_alloc ?_ _)); refine blk_far ?_ NB136_142.out _; (with_reducible repeat (first | refine blk_drewN ?_ _ | refine blk_drew ?_ | refine blk_alloc ?_ _)); refine blk_far ?_ NB136_142.out _; (with_reducible repeat (first | refine blk_drewN ?_ _ | refine blk_drew ?_ | refine blk_alloc ?_ _)); exact BK136.out) hb); have n3_ := Aside0.mk (blk_below (g := gb142) (o := .cells #[.int .i64 ((rd_T32 l0_1 x12_3).f0), .bool ((rd_T32 l0_1 x12_3).f1), .bool ((rd_T32 l0_1 x12_3).f2)] 32 (0, 0)) (by (with_reducible repeat (first | refine blk_drewN ?_ _ | refine blk_drew ?_ | refine blk_alloc ?_ _)); refine blk_put (cs := #[.int .i64 ((rd_T32 l0_1 x12_3).f0), .bool ((rd_T32 l0_1 x12_3).f1), .bool false]) ?_ 2 _ rfl; (with_reducible repeat (first | refine blk_drewN ?_ _ | refine blk_drew ?_ | refine blk_alloc ?_ _)); refine blk_put (cs := #[.int .i64 ((rd_T32 l0_1 x12_3).f0), .bool false, .bool false]) ?_ 1 _ rfl; (with_reducible repeat (first | refine blk_drewN ?_ _ | refine blk_drew ?_ | refine blk_alloc ?_ _)); refine blk_put (cs := #[.int .i64 0, .bool false, .bool false]) ?_ 0 _ rfl; (with_reducible repeat (first | refine blk_drewN ?_ _ | refine blk_drew ?_ | refine blk_alloc ?_ _)); exact BK142.out) hb); have n4_ := Aside0.mk (below_step (by repeat (first | (with_reducible first | exact HB.out | apply below_alloc | apply pw_below_drewN | apply below_drew1 | refine below_set ?_ GE126.out | refine below_set ?_ GE136.out | refine below_set ?_ GE142.out) | exact HB.out)) hb); clear HO_137001; clear BK126; clear BK136; clear BK142; clear HB; have HO_137001 := n0_; have BK126 := n1_; have BK136 := n2_; have BK142 := n3_; have HB := n4_; clear n0_ n1_ n2_ n3_ n4_; (try clear hb); (try clear hb2); (try clear hk); (try clear hi)))
                            go_roundg k3
                            case measure => have := HJ5.out; have := HJ18.out; have := HK3.out; omega
                            case rel => exact ⟨(wrap64 (x12_3 + 1)), (by first | rfl | (simp; done) | (simp [*]; done)), H', ⟨by have := HJ5.out; have := HJ18.out; have := HK3.out; omega⟩, ⟨by (with_reducible repeat (first | apply Kd.R_alloc | apply Kd.R_drewN | apply Kd.R_drew)); exact Kd.R_mono HO_137001.out (fun _ hk => trivial)⟩, ⟨by (with_reducible repeat (first | refine blk_drewN ?_ _ | refine blk_drew ?_ | refine blk_alloc ?_ _)); exact BK126.out⟩, ⟨by (with_reducible repeat (first | refine blk_drewN ?_ _ | refine blk_drew ?_ | refine blk_alloc ?_ _)); exact BK136.out⟩, ⟨by repeat (first | (with_reducible first | exact HB.out | apply below_alloc | apply pw_below_drewN | apply below_drew1 | refine below_set ?_ GE126.out | refine below_set ?_ GE136.out | refine below_set ?_ GE142.out) | exact HB.out)⟩⟩
                          · replace c94 := Bool.eq_false_iff.mpr c94
                            subst c94
                            have H1 : (some false) = some r := by rw [if_neg (show ¬ (false = true) by decide)] at H; exact H
                            clear H
                            have H := H1
                            clear H1
                            obtain rfl := Option.some.inj H
                            have hnb103 := NB126_136.out
                            have hnc103 := NB136_126.out
                            have hcz104_0 : wr.cell? ⟨gb126, 0, none⟩ = some (.int .i64 a0_0) := (blk_cell BK126.out 0).trans rfl
                            have hcz104_1 : wr.cell? ⟨gb126, 1, none⟩ = some (.slice A0_1 l0_1.length c0_1) := (blk_cell BK126.out 1).trans rfl
                            have hfz104_0 := blk_frozen BK126.out 0
                            have hfz104_1 := blk_frozen BK126.out 1
                            have p141 : 0 ≤ (x12_3 : Int) := of_decide_eq_true (by first | (with_reducible assumption) | assumption)
                            have q141 : x12_3 < (l0_1.length : Int) := of_decide_eq_true (by first | (with_reducible assumption) | assumption)
                            obtain ⟨ad141, e141, hx141_0, hx141_1, hx141_2⟩ := at_T32 HR0_1.out x12_3 p141 q141
                            cases e141
                            replace hx141_0 := (HB.out.cell (World.block_lt_of_cell? w _ hx141_0)).trans hx141_0
                            replace hx141_1 := (HB.out.cell (World.block_lt_of_cell? w _ hx141_1)).trans hx141_1
                            replace hx141_2 := (HB.out.cell (World.block_lt_of_cell? w _ hx141_2)).trans hx141_2
                            replace p141 := eq_true p141
                            replace q141 := eq_true q141
                            go_wp2_with (first | ((with_reducible refine gate_dst (N := 13) rfl ?_); (try (refine gate_guard (by rfl) ?_; dsimp only)); refine box_event ?hg (N := 13) ?hd (cs := #[.int .i64 0, .bool false, .bool false]) (t := 32) ?hr ?_; (case hd => rfl); (case hg => rfl); (case hr => first | (go_simp; done) | (go_simp; rfl)); intro gb142 hg w105 hbox hb; have n0_ := Aside0.mk (Kd.R_below (Kd.R_elderB (by (with_reducible repeat (first | apply Kd.R_alloc | apply Kd.R_drewN | apply Kd.R_drew)); exact HO_137001.out) gb142 (Nat.le_of_eq hg.symm)) hb); have n1_ := Aside0.mk (blk_below (g := gb126) (o := .cells #[.int .i64 a0_0, .slice (some ad141) l0_1.length c0_1] 24 (0, 0)) (by (with_reducible repeat (first | refine blk_drewN ?_ _ | refine blk_drew ?_ | refine blk_alloc ?_ _)); exact BK126.out) hb); have n2_ := Aside0.mk (blk_below (g := gb136) (o := .cells #[.int .i64 t130, .slice Ao25 t131.length co25] 24 (0, 0)) (by (with_reducible repeat (first | refine blk_drewN ?_ _ | refine blk_drew ?_ | refine blk_alloc ?_ _)); exact BK136.out) hb); have n3_ := Aside0.mk (below_step (by repeat (first | (with_reducible first | exact HB.out | apply below_alloc | apply pw_below_drewN | apply below_drew1 | refine below_set ?_ GE126.out | refine below_set ?_ GE136.out) | exact HB.out)) hb); have n4_ := Aside0.mk (hbox); have n5_ := Aside0.mk ((by rw [hg]; exact (below_size (by repeat (first | (with_reducible first | exact HB.out | apply below_alloc | apply pw_below_drewN | apply below_drew1 | refine below_set ?_ GE126.out | refine below_set ?_ GE136.out) | exact HB.out))) : w.heap.size ≤ gb142)); have n6_ := Aside0.mk ((by rw [hg]; exact (below_size (by repeat (first | (with_reducible first | exact HB.out | apply below_alloc | apply pw_below_drewN | apply below_drew1 | refine below_set ?_ GE126.out | refine below_set ?_ GE136.out) | exact HB.out))) : w.heap.size ≤ gb142)); have n7_ := Aside0.mk ((by rw [hg]; exact Nat.ne_of_lt (blk_lt (g := gb126) (o := .cells #[.int .i64 a0_0, .slice (some ad141) l0_1.length c0_1] 24 (0, 0)) (by (with_reducible repeat (first | refine blk_drewN ?_ _ | refine blk_drew ?_ | refine blk_alloc ?_ _)); exact BK126.out)) : gb126 ≠ gb142)); have n8_ := Aside0.mk ((by rw [hg]; exact Nat.ne_of_gt (blk_lt (g := gb126) (o := .cells #[.int .i64 a0_0, .slice (some ad141) l0_1.length c0_1] 24 (0, 0)) (by (with_reducible repeat (first | refine blk_drewN ?_ _ | refine blk_drew ?_ | refine blk_alloc ?_ _)); exact BK126.out)) : gb142 ≠ gb126)); have n9_ := Aside0.mk ((by rw [hg]; exact Nat.ne_of_lt (blk_lt (g := gb136) (o := .cells #[.int .i64 t130, .slice Ao25 t131.length co25] 24 (0, 0)) (by (with_reducible repeat (first | refine blk_drewN ?_ _ | refine blk_drew ?_ | refine blk_alloc ?_ _)); exact BK136.out)) : gb136 ≠ gb142)); have n10_ := Aside0.mk ((by rw [hg]; exact Nat.ne_of_gt (blk_lt (g := gb136) (o := .cells #[.int .i64 t130, .slice Ao25 t131.length co25] 24 (0, 0)) (by (with_reducible repeat (first | refine blk_drewN ?_ _ | refine blk_drew ?_ | refine blk_alloc ?_ _)); exact BK136.out)) : gb142 ≠ gb136)); clear HO_137001; clear BK126; clear BK136; clear HB; have HO_137001 := n0_; have BK126 := n1_; have BK136 := n2_; have HB := n3_; have BK142 := n4_; have GW142 := n5_; have GE142 := n6_; have NB126_142 := n7_; have NB142_126 := n8_; have NB136_142 := n9_; have NB142_136 := n10_; clear n0_ n1_ n2_ n3_ n4_ n5_ n6_ n7_ n8_ n9_ n10_; clear hb hbox hg; have hnb106 := NB142_126.out; have hnc106 := NB126_142.out; have hnb107 := NB142_136.out; have hnc107 := NB136_142.out; have hcz108_0 : w105.cell? ⟨gb142, 0, none⟩ = some (.int .i64 0) := (blk_cell BK142.out 0).trans rfl; have hcz108_1 : w105.cell? ⟨gb142, 1, none⟩ = some (.bool false) := (blk_cell BK142.out 1).trans rfl; have hcz108_2 : w105.cell? ⟨gb142, 2, none⟩ = some (.bool false) := (blk_cell BK142.out 2).trans rfl; have hfz108_0 := blk_frozen BK142.out 0; have hfz108_1 := blk_frozen BK142.out 1; have hfz108_2 := blk_frozen BK142.out 2; have hcz109_0 : w105.cell? ⟨gb136, 0, none⟩ = some (.int .i64 t130) := (blk_cell BK136.out 0).trans rfl; have hcz109_1 : w105.cell? ⟨gb136, 1, none⟩ = some (.slice Ao25 t131.length co25) := (blk_cell BK136.out 1).trans rfl; have hfz109_0 := blk_frozen BK136.out 0; have hfz109_1 := blk_frozen BK136.out 1) | (go_at_call 12; (with_reducible refine (clock_Has.calls k3 t130 _ _ t131 ((rd_T32 l0_1 x12_3).f0) false _ ?side1 ?side2 A93.out).mono ?_); (case side1 => refine (Kd.R_reads' (e := 32) (base := w.heap.size) (ok := fun k_ => (True ∧ k_ ≠ gb142)) (n := t131.length) (c := co25) ?_).2.2; exact (by (with_reducible repeat (first | apply Kd.R_alloc | apply Kd.R_drewN | apply Kd.R_drew)); exact (Kd.R_mono (Kd.R_far (p := ⟨gb142, 2, none⟩) (Kd.R_far (p := ⟨gb142, 1, none⟩) (Kd.R_far (p := ⟨gb142, 0, none⟩) (Kd.R_mono HO_137001.out (fun k_ hk => (⟨hk, hk.2⟩ : _ ∧ k_ ≠ gb142))) (fun _ hk => hk.2) (.int .i64 ((rd_T32 l0_1 x12_3).f0))) (fun _ hk => hk.2) (.bool ((rd_T32 l0_1 x12_3).f1))) (fun _ hk => hk.2) (.bool ((rd_T32 l0_1 x12_3).f2))) (fun _ h_ => h_.1)))); (case side2 => exact (Kd.R_reads' HO_137001.out).2.1); rintro e w110 ⟨rfl, hb⟩; have n0_ := Aside0.mk (Kd.R_below (by (with_reducible repeat (first | apply Kd.R_alloc | apply Kd.R_drewN | apply Kd.R_drew)); exact (Kd.R_mono (Kd.R_far (p := ⟨gb142, 2, none⟩) (Kd.R_far (p := ⟨gb142, 1, none⟩) (Kd.R_far (p := ⟨gb142, 0, none⟩) (Kd.R_mono HO_137001.out (fun k_ hk => (⟨hk, hk.2⟩ : _ ∧ k_ ≠ gb142))) (fun _ hk => hk.2) (.int .i64 ((rd_T32 l0_1 x12_3).f0))) (fun _ hk => hk.2) (.bool ((rd_T32 l0_1 x12_3).f1))) (fun _ hk => hk.2) (.bool ((rd_T32 l0_1 x12_3).f2))) (fun _ h_ => h_.1))) hb); have n1_ := Aside0.mk (blk_below (g := gb126) (o := .cells #[.int .i64 a0_0, .slice (some ad141) l0_1.length c0_1] 24 (0, 0)) (by (with_reducible repeat (first | refine blk_drewN ?_ _ | refine blk_drew ?_ | refine blk_alloc ?_ _)); refine blk_far ?_ NB126_142.out _; (with_reducible repeat (first | refine blk_drewN ?_ _ | refine blk_drew ?_ | refine blk_alloc ?_ _)); refine blk_far ?_ NB126_142.out _; (with_reducible repeat (first | refine blk_drewN ?_ _ | refine blk_drew ?_ | refine blk_alloc ?_ _)); refine blk_far ?_ NB126_142.out _; (with_reducible repeat (first | refine blk_drewN ?_ _ | refine blk_drew ?_ | refine blk_alloc ?_ _)); exact BK126.out) hb); have n2_ := Aside0.mk (blk_below (g := gb136) (o := .cells #[.int .i64 t130, .slice Ao25 t131.length co25] 24 (0, 0)) (by (with_reducible repeat (first | refine blk_drewN ?_ _ | refine blk_drew ?_ | refine blk_alloc ?_ _)); refine blk_far ?_ NB136_142.out _; (with_reducible repeat (first | refine blk_drewN ?_ _ | refine blk_drew ?_ | refine blk_alloc ?_ _)); refine blk_far ?_ NB136_142.out _; (with_reducible repeat (first | refine blk_drewN ?_ _ | refine blk_drew ?_ | refine blk_alloc ?_ _)); refine blk_far ?_ NB136_142.out _; (with_reducible repeat (first | refine blk_drewN ?_ _ | refine blk_drew ?_ | refine blk_alloc ?_ _)); exact BK136.out) hb); have n3_ := Aside0.mk (blk_below (g := gb142) (o := .cells #[.int .i64 ((rd_T32 l0_1 x12_3).f0), .bool ((rd_T32 l0_1 x12_3).f1), .bool ((rd_T32 l0_1 x12_3).f2)] 32 (0, 0)) (by (with_reducible repeat (first | refine blk_drewN ?_ _ | refine blk_drew ?_ | refine blk_alloc ?_ _)); refine blk_put (cs := #[.int .i64 ((rd_T32 l0_1 x12_3).f0), .bool ((rd_T32 l0_1 x12_3).f1), .bool false]) ?_ 2 _ rfl; (with_reducible repeat (first | refine blk_drewN ?_ _ | refine blk_drew ?_ | refine blk_alloc ?_ _)); refine blk_put (cs := #[.int .i64 ((rd_T32 l0_1 x12_3).f0), .bool false, .bool false]) ?_ 1 _ rfl; (with_reducible repeat (first | refine blk_drewN ?_ _ | refine blk_drew ?_ | refine blk_alloc ?_ _)); refine blk_put (cs := #[.int .i64 0, .bool false, .bool false]) ?_ 0 _ rfl; (with_reducible repeat (first | refine blk_drewN ?_ _ | refine blk_drew ?_ | refine blk_alloc ?_ _)); exact BK142.out) hb); have n4_ := Aside0.mk (below_step (by repeat (first | (with_reducible first | exact HB.out | apply below_alloc | apply pw_below_drewN | apply below_drew1 | refine below_set ?_ GE126.out | refine below_set ?_ GE136.out | refine below_set ?_ GE142.out) | exact HB.out)) hb); clear HO_137001; clear BK126; clear BK136; clear BK142; clear HB; have HO_137001 := n0_; have BK126 := n1_; have BK136 := n2_; have BK142 := n3_; have HB := n4_; clear n0_ n1_ n2_ n3_ n4_; (try clear hb); (try clear hb2); (try clear hk); (try clear hi)))
                            go_ret
                            exact ⟨by first | rfl | (simp [errW_none, errW_some] <;> rfl) | (simp [*, errW_none, errW_some] <;> rfl), by repeat (first | (with_reducible first | exact HB.out | apply below_alloc | apply pw_below_drewN | apply below_drew1 | refine below_set ?_ GE126.out | refine below_set ?_ GE136.out | refine below_set ?_ GE142.out) | exact HB.out)⟩
                      · rw [if_neg c77] at H
                        exact absurd H (by simp)
                    · rw [if_neg c76] at H
                      have c76b0 : decide (x12_3 < (l0_1.length : Int)) = false := decide_eq_false c76
                      clear c76
                      obtain rfl := Option.some.inj H
                      have hnb111 := NB126_136.out
                      have hnc111 := NB136_126.out
                      have hcz112_0 : wr.cell? ⟨gb126, 0, none⟩ = some (.int .i64 a0_0) := (blk_cell BK126.out 0).trans rfl
                      have hcz112_1 : wr.cell? ⟨gb126, 1, none⟩ = some (.slice A0_1 l0_1.length c0_1) := (blk_cell BK126.out 1).trans rfl
                      have hfz112_0 := blk_frozen BK126.out 0
                      have hfz112_1 := blk_frozen BK126.out 1
                      go_wp2
                      go_ret
                      exact ⟨by first | rfl | (simp [errW_none, errW_some] <;> rfl) | (simp [*, errW_none, errW_some] <;> rfl), by repeat (first | (with_reducible first | exact HB.out | apply below_alloc | apply pw_below_drewN | apply below_drew1 | refine below_set ?_ GE126.out | refine below_set ?_ GE136.out) | exact HB.out)⟩
        · rw [if_neg c18] at H
          have c18b0 : (t135 == 0) = false := beq_eq_false_iff_ne.mpr c18
          have c18b1 : (t135 != 0) = true := bne_iff_ne.mpr c18
          by_cases c113 : (t131.length : Int) = 0
          · rw [if_pos c113] at H
            have c113b0 : ((t131.length : Int) == 0) = true := beq_iff_eq.mpr c113
            have c113b1 : ((t131.length : Int) != 0) = false := bne_eq_false_iff_eq.mpr c113
            clear c113
            by_cases c114 : t130 = 0
            · rw [if_pos c114] at H
              have c114b0 : (t130 == 0) = true := beq_iff_eq.mpr c114
              have c114b1 : (t130 != 0) = false := bne_eq_false_iff_eq.mpr c114
              clear c114
              obtain rfl := Option.some.inj H
              have hcz115_0 : wc.cell? ⟨gb126, 0, none⟩ = some (.int .i64 a0_0) := (blk_cell BK126.out 0).trans rfl
              have hcz115_1 : wc.cell? ⟨gb126, 1, none⟩ = some (.slice A0_1 l0_1.length c0_1) := (blk_cell BK126.out 1).trans rfl
              have hfz115_0 := blk_frozen BK126.out 0
              have hfz115_1 := blk_frozen BK126.out 1
              go_wp2_with (first | ((with_reducible refine gate_callee (f := 11) rfl ?_); refine goesL_ (some 33) rfl rfl Try.func11 (by kernel_rfl) rfl #[.agg #[.int .i64 a0_0, .slice A0_1 l0_1.length c0_1], .int .i64 a1, .int .i64 a2] rfl (by (try simp only [List.map_toArray, List.map_cons, List.map_nil]); first | done | rfl | (simp only [List.length_drop, List.length_take]; rfl)) ?_; (with_reducible refine (clock_Admit.calls kj5 a0_0 _ _ l0_1 a1 a2 t130 t131 t134 t135 _ ?side1 ?side2 A17.out).mono ?_); (case side1 => repeat (first | exact (Kd.C_below HR0_1.out HB.out) | (with_reducible refine Kd.C_alloc ?_ _) | (with_reducible refine Kd.C_drewN ?_ _) | (with_reducible refine Kd.C_drew ?_))); (case side2 => exact HC0_1.out); rintro e w116 ⟨v132, rfl, ho0, hb⟩; refine ⟨_, rfl, ?_⟩; have n0_ := Aside0.mk (Kd.R_lower ho0 (below_size (by repeat (first | (with_reducible first | exact HB.out | apply below_alloc | apply pw_below_drewN | apply below_drew1 | refine below_set ?_ GE126.out) | exact HB.out)))); have n1_ := Aside0.mk (blk_below (g := gb126) (o := .cells #[.int .i64 a0_0, .slice A0_1 l0_1.length c0_1] 24 (0, 0)) (by (with_reducible repeat (first | refine blk_drewN ?_ _ | refine blk_drew ?_ | refine blk_alloc ?_ _)); exact BK126.out) hb); have n2_ := Aside0.mk (below_step (by repeat (first | (with_reducible first | exact HB.out | apply below_alloc | apply pw_below_drewN | apply below_drew1 | refine below_set ?_ GE126.out) | exact HB.out)) hb); clear BK126; clear HB; have HO133 := n0_; have BK126 := n1_; have HB := n2_; clear n0_ n1_ n2_; (try clear hb); (try clear hb2); (try clear hk); (try clear hi); (try clear ho0)) | ((with_reducible refine gate_dst (N := 9) rfl ?_); (try (refine gate_guard (by rfl) ?_; dsimp only)); refine box_event ?hg (N := 9) ?hd (cs := #[.int .i64 0, .slice none 0 0]) (t := 24) ?hr ?_; (case hd => rfl); (case hg => rfl); (case hr => first | (go_simp; done) | (go_simp; rfl)); intro gb136 hg w117 hbox hb; have n0_ := Aside0.mk (Kd.R_below (by (with_reducible repeat (first | apply Kd.R_alloc | apply Kd.R_drewN | apply Kd.R_drew)); exact HO133.out) hb); have n1_ := Aside0.mk (blk_below (g := gb126) (o := .cells #[.int .i64 a0_0, .slice A0_1 l0_1.length c0_1] 24 (0, 0)) (by (with_reducible repeat (first | refine blk_drewN ?_ _ | refine blk_drew ?_ | refine blk_alloc ?_ _)); exact BK126.out) hb); have n2_ := Aside0.mk (below_step (by repeat (first | (with_reducible first | exact HB.out | apply below_alloc | apply pw_below_drewN | apply below_drew1 | refine below_set ?_ GE126.out) | exact HB.out)) hb); have n3_ := Aside0.mk (hbox); have n4_ := Aside0.mk ((by rw [hg]; exact (below_size (by repeat (first | (with_reducible first | exact HB.out | apply below_alloc | apply pw_below_drewN | apply below_drew1 | refine below_set ?_ GE126.out) | exact HB.out))) : w.heap.size ≤ gb136)); have n5_ := Aside0.mk ((by rw [hg]; exact (below_size (by repeat (first | (with_reducible first | exact HB.out | apply below_alloc | apply pw_below_drewN | apply below_drew1 | refine below_set ?_ GE126.out) | exact HB.out))) : w.heap.size ≤ gb136)); have n6_ := Aside0.mk ((by rw [hg]; exact Nat.ne_of_lt (blk_lt (g := gb126) (o := .cells #[.int .i64 a0_0, .slice A0_1 l0_1.length c0_1] 24 (0, 0)) (by (with_reducible repeat (first | refine blk_drewN ?_ _ | refine blk_drew ?_ | refine blk_alloc ?_ _)); exact BK126.out)) : gb126 ≠ gb136)); have n7_ := Aside0.mk ((by rw [hg]; exact Nat.ne_of_gt (blk_lt (g := gb126) (o := .cells #[.int .i64 a0_0, .slice A0_1 l0_1.length c0_1] 24 (0, 0)) (by (with_reducible repeat (first | refine blk_drewN ?_ _ | refine blk_drew ?_ | refine blk_alloc ?_ _)); exact BK126.out)) : gb136 ≠ gb126)); clear HO133; clear BK126; clear HB; have HO133 := n0_; have BK126 := n1_; have HB := n2_; have BK136 := n3_; have GW136 := n4_; have GE136 := n5_; have NB126_136 := n6_; have NB136_126 := n7_; clear n0_ n1_ n2_ n3_ n4_ n5_ n6_ n7_; clear hb hbox hg; have hnb118 := NB136_126.out; have hnc118 := NB126_136.out; have hcz119_0 : w117.cell? ⟨gb136, 0, none⟩ = some (.int .i64 0) := (blk_cell BK136.out 0).trans rfl; have hcz119_1 : w117.cell? ⟨gb136, 1, none⟩ = some (.slice none 0 0) := (blk_cell BK136.out 1).trans rfl; have hfz119_0 := blk_frozen BK136.out 0; have hfz119_1 := blk_frozen BK136.out 1; obtain ⟨Ao120, co120, eo120⟩ := Kd.R_slice HO133.out; subst eo120))
              go_ret
              exact ⟨by first | rfl | (simp [errW_none, errW_some] <;> rfl) | (simp [*, errW_none, errW_some] <;> rfl), by repeat (first | (with_reducible first | exact HB.out | apply below_alloc | apply pw_below_drewN | apply below_drew1 | refine below_set ?_ GE126.out | refine below_set ?_ GE136.out) | exact HB.out)⟩
            · rw [if_neg c114] at H
              have c114b0 : (t130 == 0) = false := beq_eq_false_iff_ne.mpr c114
              have c114b1 : (t130 != 0) = true := bne_iff_ne.mpr c114
              obtain rfl := Option.some.inj H
              have hcz121_0 : wc.cell? ⟨gb126, 0, none⟩ = some (.int .i64 a0_0) := (blk_cell BK126.out 0).trans rfl
              have hcz121_1 : wc.cell? ⟨gb126, 1, none⟩ = some (.slice A0_1 l0_1.length c0_1) := (blk_cell BK126.out 1).trans rfl
              have hfz121_0 := blk_frozen BK126.out 0
              have hfz121_1 := blk_frozen BK126.out 1
              go_wp2_with (first | ((with_reducible refine gate_callee (f := 11) rfl ?_); refine goesL_ (some 33) rfl rfl Try.func11 (by kernel_rfl) rfl #[.agg #[.int .i64 a0_0, .slice A0_1 l0_1.length c0_1], .int .i64 a1, .int .i64 a2] rfl (by (try simp only [List.map_toArray, List.map_cons, List.map_nil]); first | done | rfl | (simp only [List.length_drop, List.length_take]; rfl)) ?_; (with_reducible refine (clock_Admit.calls kj5 a0_0 _ _ l0_1 a1 a2 t130 t131 t134 t135 _ ?side1 ?side2 A17.out).mono ?_); (case side1 => repeat (first | exact (Kd.C_below HR0_1.out HB.out) | (with_reducible refine Kd.C_alloc ?_ _) | (with_reducible refine Kd.C_drewN ?_ _) | (with_reducible refine Kd.C_drew ?_))); (case side2 => exact HC0_1.out); rintro e w122 ⟨v132, rfl, ho0, hb⟩; refine ⟨_, rfl, ?_⟩; have n0_ := Aside0.mk (Kd.R_lower ho0 (below_size (by repeat (first | (with_reducible first | exact HB.out | apply below_alloc | apply pw_below_drewN | apply below_drew1 | refine below_set ?_ GE126.out) | exact HB.out)))); have n1_ := Aside0.mk (blk_below (g := gb126) (o := .cells #[.int .i64 a0_0, .slice A0_1 l0_1.length c0_1] 24 (0, 0)) (by (with_reducible repeat (first | refine blk_drewN ?_ _ | refine blk_drew ?_ | refine blk_alloc ?_ _)); exact BK126.out) hb); have n2_ := Aside0.mk (below_step (by repeat (first | (with_reducible first | exact HB.out | apply below_alloc | apply pw_below_drewN | apply below_drew1 | refine below_set ?_ GE126.out) | exact HB.out)) hb); clear BK126; clear HB; have HO133 := n0_; have BK126 := n1_; have HB := n2_; clear n0_ n1_ n2_; (try clear hb); (try clear hb2); (try clear hk); (try clear hi); (try clear ho0)) | ((with_reducible refine gate_dst (N := 9) rfl ?_); (try (refine gate_guard (by rfl) ?_; dsimp only)); refine box_event ?hg (N := 9) ?hd (cs := #[.int .i64 0, .slice none 0 0]) (t := 24) ?hr ?_; (case hd => rfl); (case hg => rfl); (case hr => first | (go_simp; done) | (go_simp; rfl)); intro gb136 hg w123 hbox hb; have n0_ := Aside0.mk (Kd.R_below (by (with_reducible repeat (first | apply Kd.R_alloc | apply Kd.R_drewN | apply Kd.R_drew)); exact HO133.out) hb); have n1_ := Aside0.mk (blk_below (g := gb126) (o := .cells #[.int .i64 a0_0, .slice A0_1 l0_1.length c0_1] 24 (0, 0)) (by (with_reducible repeat (first | refine blk_drewN ?_ _ | refine blk_drew ?_ | refine blk_alloc ?_ _)); exact BK126.out) hb); have n2_ := Aside0.mk (below_step (by repeat (first | (with_reducible first | exact HB.out | apply below_alloc | apply pw_below_drewN | apply below_drew1 | refine below_set ?_ GE126.out) | exact HB.out)) hb); have n3_ := Aside0.mk (hbox); have n4_ := Aside0.mk ((by rw [hg]; exact (below_size (by repeat (first | (with_reducible first | exact HB.out | apply below_alloc | apply pw_below_drewN | apply below_drew1 | refine below_set ?_ GE126.out) | exact HB.out))) : w.heap.size ≤ gb136)); have n5_ := Aside0.mk ((by rw [hg]; exact (below_size (by repeat (first | (with_reducible first | exact HB.out | apply below_alloc | apply pw_below_drewN | apply below_drew1 | refine below_set ?_ GE126.out) | exact HB.out))) : w.heap.size ≤ gb136)); have n6_ := Aside0.mk ((by rw [hg]; exact Nat.ne_of_lt (blk_lt (g := gb126) (o := .cells #[.int .i64 a0_0, .slice A0_1 l0_1.length c0_1] 24 (0, 0)) (by (with_reducible repeat (first | refine blk_drewN ?_ _ | refine blk_drew ?_ | refine blk_alloc ?_ _)); exact BK126.out)) : gb126 ≠ gb136)); have n7_ := Aside0.mk ((by rw [hg]; exact Nat.ne_of_gt (blk_lt (g := gb126) (o := .cells #[.int .i64 a0_0, .slice A0_1 l0_1.length c0_1] 24 (0, 0)) (by (with_reducible repeat (first | refine blk_drewN ?_ _ | refine blk_drew ?_ | refine blk_alloc ?_ _)); exact BK126.out)) : gb136 ≠ gb126)); clear HO133; clear BK126; clear HB; have HO133 := n0_; have BK126 := n1_; have HB := n2_; have BK136 := n3_; have GW136 := n4_; have GE136 := n5_; have NB126_136 := n6_; have NB136_126 := n7_; clear n0_ n1_ n2_ n3_ n4_ n5_ n6_ n7_; clear hb hbox hg; have hnb124 := NB136_126.out; have hnc124 := NB126_136.out; have hcz125_0 : w123.cell? ⟨gb136, 0, none⟩ = some (.int .i64 0) := (blk_cell BK136.out 0).trans rfl; have hcz125_1 : w123.cell? ⟨gb136, 1, none⟩ = some (.slice none 0 0) := (blk_cell BK136.out 1).trans rfl; have hfz125_0 := blk_frozen BK136.out 0; have hfz125_1 := blk_frozen BK136.out 1; obtain ⟨Ao126, co126, eo126⟩ := Kd.R_slice HO133.out; subst eo126))
              go_ret
              exact ⟨by first | rfl | (simp [errW_none, errW_some] <;> rfl) | (simp [*, errW_none, errW_some] <;> rfl), by repeat (first | (with_reducible first | exact HB.out | apply below_alloc | apply pw_below_drewN | apply below_drew1 | refine below_set ?_ GE126.out | refine below_set ?_ GE136.out) | exact HB.out)⟩
          · rw [if_neg c113] at H
            have c113b0 : ((t131.length : Int) == 0) = false := beq_eq_false_iff_ne.mpr c113
            have c113b1 : ((t131.length : Int) != 0) = true := bne_iff_ne.mpr c113
            have c113b2 : ¬ (t131 = []) := fun h_ => c113 (by rw [h_]; rfl)
            obtain rfl := Option.some.inj H
            have hcz127_0 : wc.cell? ⟨gb126, 0, none⟩ = some (.int .i64 a0_0) := (blk_cell BK126.out 0).trans rfl
            have hcz127_1 : wc.cell? ⟨gb126, 1, none⟩ = some (.slice A0_1 l0_1.length c0_1) := (blk_cell BK126.out 1).trans rfl
            have hfz127_0 := blk_frozen BK126.out 0
            have hfz127_1 := blk_frozen BK126.out 1
            go_wp2_with (first | ((with_reducible refine gate_callee (f := 11) rfl ?_); refine goesL_ (some 33) rfl rfl Try.func11 (by kernel_rfl) rfl #[.agg #[.int .i64 a0_0, .slice A0_1 l0_1.length c0_1], .int .i64 a1, .int .i64 a2] rfl (by (try simp only [List.map_toArray, List.map_cons, List.map_nil]); first | done | rfl | (simp only [List.length_drop, List.length_take]; rfl)) ?_; (with_reducible refine (clock_Admit.calls kj5 a0_0 _ _ l0_1 a1 a2 t130 t131 t134 t135 _ ?side1 ?side2 A17.out).mono ?_); (case side1 => repeat (first | exact (Kd.C_below HR0_1.out HB.out) | (with_reducible refine Kd.C_alloc ?_ _) | (with_reducible refine Kd.C_drewN ?_ _) | (with_reducible refine Kd.C_drew ?_))); (case side2 => exact HC0_1.out); rintro e w128 ⟨v132, rfl, ho0, hb⟩; refine ⟨_, rfl, ?_⟩; have n0_ := Aside0.mk (Kd.R_lower ho0 (below_size (by repeat (first | (with_reducible first | exact HB.out | apply below_alloc | apply pw_below_drewN | apply below_drew1 | refine below_set ?_ GE126.out) | exact HB.out)))); have n1_ := Aside0.mk (blk_below (g := gb126) (o := .cells #[.int .i64 a0_0, .slice A0_1 l0_1.length c0_1] 24 (0, 0)) (by (with_reducible repeat (first | refine blk_drewN ?_ _ | refine blk_drew ?_ | refine blk_alloc ?_ _)); exact BK126.out) hb); have n2_ := Aside0.mk (below_step (by repeat (first | (with_reducible first | exact HB.out | apply below_alloc | apply pw_below_drewN | apply below_drew1 | refine below_set ?_ GE126.out) | exact HB.out)) hb); clear BK126; clear HB; have HO133 := n0_; have BK126 := n1_; have HB := n2_; clear n0_ n1_ n2_; (try clear hb); (try clear hb2); (try clear hk); (try clear hi); (try clear ho0)) | ((with_reducible refine gate_dst (N := 9) rfl ?_); (try (refine gate_guard (by rfl) ?_; dsimp only)); refine box_event ?hg (N := 9) ?hd (cs := #[.int .i64 0, .slice none 0 0]) (t := 24) ?hr ?_; (case hd => rfl); (case hg => rfl); (case hr => first | (go_simp; done) | (go_simp; rfl)); intro gb136 hg w129 hbox hb; have n0_ := Aside0.mk (Kd.R_below (by (with_reducible repeat (first | apply Kd.R_alloc | apply Kd.R_drewN | apply Kd.R_drew)); exact HO133.out) hb); have n1_ := Aside0.mk (blk_below (g := gb126) (o := .cells #[.int .i64 a0_0, .slice A0_1 l0_1.length c0_1] 24 (0, 0)) (by (with_reducible repeat (first | refine blk_drewN ?_ _ | refine blk_drew ?_ | refine blk_alloc ?_ _)); exact BK126.out) hb); have n2_ := Aside0.mk (below_step (by repeat (first | (with_reducible first | exact HB.out | apply below_alloc | apply pw_below_drewN | apply below_drew1 | refine below_set ?_ GE126.out) | exact HB.out)) hb); have n3_ := Aside0.mk (hbox); have n4_ := Aside0.mk ((by rw [hg]; exact (below_size (by repeat (first | (with_reducible first | exact HB.out | apply below_alloc | apply pw_below_drewN | apply below_drew1 | refine below_set ?_ GE126.out) | exact HB.out))) : w.heap.size ≤ gb136)); have n5_ := Aside0.mk ((by rw [hg]; exact (below_size (by repeat (first | (with_reducible first | exact HB.out | apply below_alloc | apply pw_below_drewN | apply below_drew1 | refine below_set ?_ GE126.out) | exact HB.out))) : w.heap.size ≤ gb136)); have n6_ := Aside0.mk ((by rw [hg]; exact Nat.ne_of_lt (blk_lt (g := gb126) (o := .cells #[.int .i64 a0_0, .slice A0_1 l0_1.length c0_1] 24 (0, 0)) (by (with_reducible repeat (first | refine blk_drewN ?_ _ | refine blk_drew ?_ | refine blk_alloc ?_ _)); exact BK126.out)) : gb126 ≠ gb136)); have n7_ := Aside0.mk ((by rw [hg]; exact Nat.ne_of_gt (blk_lt (g := gb126) (o := .cells #[.int .i64 a0_0, .slice A0_1 l0_1.length c0_1] 24 (0, 0)) (by (with_reducible repeat (first | refine blk_drewN ?_ _ | refine blk_drew ?_ | refine blk_alloc ?_ _)); exact BK126.out)) : gb136 ≠ gb126)); clear HO133; clear BK126; clear HB; have HO133 := n0_; have BK126 := n1_; have HB := n2_; have BK136 := n3_; have GW136 := n4_; have GE136 := n5_; have NB126_136 := n6_; have NB136_126 := n7_; clear n0_ n1_ n2_ n3_ n4_ n5_ n6_ n7_; clear hb hbox hg; have hnb130 := NB136_126.out; have hnc130 := NB126_136.out; have hcz131_0 : w129.cell? ⟨gb136, 0, none⟩ = some (.int .i64 0) := (blk_cell BK136.out 0).trans rfl; have hcz131_1 : w129.cell? ⟨gb136, 1, none⟩ = some (.slice none 0 0) := (blk_cell BK136.out 1).trans rfl; have hfz131_0 := blk_frozen BK136.out 0; have hfz131_1 := blk_frozen BK136.out 1; obtain ⟨Ao132, co132, eo132⟩ := Kd.R_slice HO133.out; subst eo132))
            go_ret
            exact ⟨by first | rfl | (simp [errW_none, errW_some] <;> rfl) | (simp [*, errW_none, errW_some] <;> rfl), by repeat (first | (with_reducible first | exact HB.out | apply below_alloc | apply pw_below_drewN | apply below_drew1 | refine below_set ?_ GE126.out | refine below_set ?_ GE136.out) | exact HB.out)⟩

end Go.Proofs.Ytoklljioloekmaa.Print
