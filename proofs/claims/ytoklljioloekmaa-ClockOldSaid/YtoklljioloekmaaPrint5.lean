-- Written by a program of this session (myprint.py over the kit's print.py) out of the translation. Not trusted: Lean checks it.
import Derived.Test.YtoklljioloekmaaPrint0
import Derived.Test.YtoklljioloekmaaPrint2
import Derived.Test.YtoklljioloekmaaPrint3
namespace Go.Proofs.Ytoklljioloekmaa.Print
open Go.RowKit Go.Proofs.YtoklljioloekmaaW.PrintWords Go.Proofs.YtoklljioloekmaaW.PrintLast Go.Proofs.YtoklljioloekmaaW.PrintMore
attribute [local go_sem] max2_int min2_int max_two min_two max_three min_three max_four min_four   -- for this text's walks alone
set_option linter.unusedVariables false
set_option linter.unusedSimpArgs false

/-! ### bobbinlaw16_ClockOld: function 4 -/
mutual
def bobbinlaw16_ClockOld.j0 : Nat → Int → Int → Bool → Bool → Int → List (S32) → Option (Bool)
  | 0, _, _, _, _, _, _ => none
  | k + 1, x1, x2, x7, x28, x145000, x145001 => if x28 = true then (some x7) else (bobbinlaw16_ClockOld.l0 k x1 x2 false 0 x145000 x145001)
def bobbinlaw16_ClockOld.l0 : Nat → Int → Int → Bool → Int → Int → List (S32) → Option (Bool)
  | 0, _, _, _, _, _, _ => none
  | k + 1, x1, x2, x9, x10, x145000, x145001 => if x10 < (x145001.length : Int) then (if x9 = true then (bobbinlaw16_ClockOld.l0 k x1 x2 true (wrap64 (x10 + 1)) x145000 x145001) else (if 0 ≤ x10 then (if ((rd_T32 x145001 x10).f1 = true) then (bobbinlaw16_ClockOld.l0 k x1 x2 false (wrap64 (x10 + 1)) x145000 x145001) else (bobbinlaw16_ClockOld.l0 k x1 x2 (!((rd_T32 x145001 x10).f2)) (wrap64 (x10 + 1)) x145000 x145001)) else (none))) else ((clock_Admit.f k x145000 x145001 x1 x2).bind fun bt150 => (if bt150.2.2.2 = 0 then (if bt150.2.2.1 < 0 then (bobbinlaw16_ClockOld.j2 k bt150.2.2.1 true x145000 x145001) else (bobbinlaw16_ClockOld.j2 k bt150.2.2.1 (!x9) x145000 x145001)) else (bobbinlaw16_ClockOld.j2 k bt150.2.2.1 true x145000 x145001)))
def bobbinlaw16_ClockOld.j2 : Nat → Int → Bool → Int → List (S32) → Option (Bool)
  | 0, _, _, _, _ => none
  | k + 1, x12, x73, x145000, x145001 => if x73 = true then (some true) else (bobbinlaw16_ClockOld.l1 k x12 0 x145000 x145001)
def bobbinlaw16_ClockOld.l1 : Nat → Int → Int → Int → List (S32) → Option (Bool)
  | 0, _, _, _, _ => none
  | k + 1, x12, x14, x145000, x145001 => if x14 < (x145001.length : Int) then (if 0 ≤ x14 then (if ((rd_T32 x145001 x14).f0) = x12 then (if ((rd_T32 x145001 x14).f1 = true) then (some false) else (some (!((rd_T32 x145001 x14).f2)))) else (bobbinlaw16_ClockOld.l1 k x12 (wrap64 (x14 + 1)) x145000 x145001)) else (none)) else (some false)
end
theorem bobbinlaw16_ClockOld.j0_eq : ∀ (k : Nat) x1 x2 x7 x28 x145000 x145001, bobbinlaw16_ClockOld.j0 (k + 1) x1 x2 x7 x28 x145000 x145001 = (if x28 = true then (some x7) else (bobbinlaw16_ClockOld.l0 k x1 x2 false 0 x145000 x145001)) := fun _ _ _ _ _ _ _ => rfl
theorem bobbinlaw16_ClockOld.l0_eq : ∀ (k : Nat) x1 x2 x9 x10 x145000 x145001, bobbinlaw16_ClockOld.l0 (k + 1) x1 x2 x9 x10 x145000 x145001 = (if x10 < (x145001.length : Int) then (if x9 = true then (bobbinlaw16_ClockOld.l0 k x1 x2 true (wrap64 (x10 + 1)) x145000 x145001) else (if 0 ≤ x10 then (if ((rd_T32 x145001 x10).f1 = true) then (bobbinlaw16_ClockOld.l0 k x1 x2 false (wrap64 (x10 + 1)) x145000 x145001) else (bobbinlaw16_ClockOld.l0 k x1 x2 (!((rd_T32 x145001 x10).f2)) (wrap64 (x10 + 1)) x145000 x145001)) else (none))) else ((clock_Admit.f k x145000 x145001 x1 x2).bind fun bt150 => (if bt150.2.2.2 = 0 then (if bt150.2.2.1 < 0 then (bobbinlaw16_ClockOld.j2 k bt150.2.2.1 true x145000 x145001) else (bobbinlaw16_ClockOld.j2 k bt150.2.2.1 (!x9) x145000 x145001)) else (bobbinlaw16_ClockOld.j2 k bt150.2.2.1 true x145000 x145001)))) := fun _ _ _ _ _ _ _ => rfl
theorem bobbinlaw16_ClockOld.j2_eq : ∀ (k : Nat) x12 x73 x145000 x145001, bobbinlaw16_ClockOld.j2 (k + 1) x12 x73 x145000 x145001 = (if x73 = true then (some true) else (bobbinlaw16_ClockOld.l1 k x12 0 x145000 x145001)) := fun _ _ _ _ _ => rfl
theorem bobbinlaw16_ClockOld.l1_eq : ∀ (k : Nat) x12 x14 x145000 x145001, bobbinlaw16_ClockOld.l1 (k + 1) x12 x14 x145000 x145001 = (if x14 < (x145001.length : Int) then (if 0 ≤ x14 then (if ((rd_T32 x145001 x14).f0) = x12 then (if ((rd_T32 x145001 x14).f1 = true) then (some false) else (some (!((rd_T32 x145001 x14).f2)))) else (bobbinlaw16_ClockOld.l1 k x12 (wrap64 (x14 + 1)) x145000 x145001)) else (none)) else (some false)) := fun _ _ _ _ _ => rfl
def bobbinlaw16_ClockOld.f (k : Nat) (a0_0 : Int) (l0_1 : List (S32)) (a1 : Int) (a2 : Int) : Option (Bool) := (bobbinlaw16_awake.f k).bind fun t145 => ((bobbinlaw16_light.f a0_0 l0_1).bind fun t146 => (if t145 = true then (if t146 = true then ((clock_May.f k a0_0 l0_1).bind fun t147 => (bobbinlaw16_ClockOld.j0 k a1 a2 t145 (!t147) a0_0 l0_1)) else (bobbinlaw16_ClockOld.j0 k a1 a2 t145 true a0_0 l0_1)) else (bobbinlaw16_ClockOld.j0 k a1 a2 t145 true a0_0 l0_1)))
theorem bobbinlaw16_ClockOld.mono_l : ∀ k, (∀ y0 y1 y2 y3 y4 y5, LeO (bobbinlaw16_ClockOld.j0 k y0 y1 y2 y3 y4 y5) (bobbinlaw16_ClockOld.j0 (k + 1) y0 y1 y2 y3 y4 y5)) ∧ (∀ y0 y1 y2 y3 y4 y5, LeO (bobbinlaw16_ClockOld.l0 k y0 y1 y2 y3 y4 y5) (bobbinlaw16_ClockOld.l0 (k + 1) y0 y1 y2 y3 y4 y5)) ∧ (∀ y0 y1 y2 y3, LeO (bobbinlaw16_ClockOld.j2 k y0 y1 y2 y3) (bobbinlaw16_ClockOld.j2 (k + 1) y0 y1 y2 y3)) ∧ (∀ y0 y1 y2 y3, LeO (bobbinlaw16_ClockOld.l1 k y0 y1 y2 y3) (bobbinlaw16_ClockOld.l1 (k + 1) y0 y1 y2 y3))
  | 0 => ⟨fun _ _ _ _ _ _ r h => by first | (cases h; done) | simp [bobbinlaw16_ClockOld.j0] at h, fun _ _ _ _ _ _ r h => by first | (cases h; done) | simp [bobbinlaw16_ClockOld.l0] at h, fun _ _ _ _ r h => by first | (cases h; done) | simp [bobbinlaw16_ClockOld.j2] at h, fun _ _ _ _ r h => by first | (cases h; done) | simp [bobbinlaw16_ClockOld.l1] at h⟩
  | k + 1 => by
    obtain ⟨ih0, ih1, ih2, ih3⟩ := bobbinlaw16_ClockOld.mono_l k
    refine ⟨?_, ?_, ?_, ?_⟩
    · intro y0 y1 y2 y3 y4 y5
      unfold bobbinlaw16_ClockOld.j0
      repeat' first
      | (with_reducible exact ih0 _ _ _ _ _ _)
      | (with_reducible exact ih1 _ _ _ _ _ _)
      | (with_reducible exact ih2 _ _ _ _)
      | (with_reducible exact ih3 _ _ _ _)
      | (with_reducible exact bobbinlaw16_awake.mono _)
      | (with_reducible exact clock_Admit.mono _ _ _ _ _)
      | (with_reducible exact clock_May.mono _ _ _)
      | (with_reducible exact LeO.refl _)
      | (with_reducible exact LeO.none _)
      | (with_reducible refine LeO.ite ?_ ?_)
      | (with_reducible refine LeO.bind ?_ (fun _ => ?_))
      | exact ih0 _ _ _ _ _ _
      | exact ih1 _ _ _ _ _ _
      | exact ih2 _ _ _ _
      | exact ih3 _ _ _ _
      | exact bobbinlaw16_awake.mono _
      | exact clock_Admit.mono _ _ _ _ _
      | exact clock_May.mono _ _ _
      | exact LeO.none _
      | refine LeO.ite ?_ ?_
      | refine LeO.bind ?_ (fun _ => ?_)
    · intro y0 y1 y2 y3 y4 y5
      unfold bobbinlaw16_ClockOld.l0
      repeat' first
      | (with_reducible exact ih0 _ _ _ _ _ _)
      | (with_reducible exact ih1 _ _ _ _ _ _)
      | (with_reducible exact ih2 _ _ _ _)
      | (with_reducible exact ih3 _ _ _ _)
      | (with_reducible exact bobbinlaw16_awake.mono _)
      | (with_reducible exact clock_Admit.mono _ _ _ _ _)
      | (with_reducible exact clock_May.mono _ _ _)
      | (with_reducible exact LeO.refl _)
      | (with_reducible exact LeO.none _)
      | (with_reducible refine LeO.ite ?_ ?_)
      | (with_reducible refine LeO.bind ?_ (fun _ => ?_))
      | exact ih0 _ _ _ _ _ _
      | exact ih1 _ _ _ _ _ _
      | exact ih2 _ _ _ _
      | exact ih3 _ _ _ _
      | exact bobbinlaw16_awake.mono _
      | exact clock_Admit.mono _ _ _ _ _
      | exact clock_May.mono _ _ _
      | exact LeO.none _
      | refine LeO.ite ?_ ?_
      | refine LeO.bind ?_ (fun _ => ?_)
    · intro y0 y1 y2 y3
      unfold bobbinlaw16_ClockOld.j2
      repeat' first
      | (with_reducible exact ih0 _ _ _ _ _ _)
      | (with_reducible exact ih1 _ _ _ _ _ _)
      | (with_reducible exact ih2 _ _ _ _)
      | (with_reducible exact ih3 _ _ _ _)
      | (with_reducible exact bobbinlaw16_awake.mono _)
      | (with_reducible exact clock_Admit.mono _ _ _ _ _)
      | (with_reducible exact clock_May.mono _ _ _)
      | (with_reducible exact LeO.refl _)
      | (with_reducible exact LeO.none _)
      | (with_reducible refine LeO.ite ?_ ?_)
      | (with_reducible refine LeO.bind ?_ (fun _ => ?_))
      | exact ih0 _ _ _ _ _ _
      | exact ih1 _ _ _ _ _ _
      | exact ih2 _ _ _ _
      | exact ih3 _ _ _ _
      | exact bobbinlaw16_awake.mono _
      | exact clock_Admit.mono _ _ _ _ _
      | exact clock_May.mono _ _ _
      | exact LeO.none _
      | refine LeO.ite ?_ ?_
      | refine LeO.bind ?_ (fun _ => ?_)
    · intro y0 y1 y2 y3
      unfold bobbinlaw16_ClockOld.l1
      repeat' first
      | (with_reducible exact ih0 _ _ _ _ _ _)
      | (with_reducible exact ih1 _ _ _ _ _ _)
      | (with_reducible exact ih2 _ _ _ _)
      | (with_reducible exact ih3 _ _ _ _)
      | (with_reducible exact bobbinlaw16_awake.mono _)
      | (with_reducible exact clock_Admit.mono _ _ _ _ _)
      | (with_reducible exact clock_May.mono _ _ _)
      | (with_reducible exact LeO.refl _)
      | (with_reducible exact LeO.none _)
      | (with_reducible refine LeO.ite ?_ ?_)
      | (with_reducible refine LeO.bind ?_ (fun _ => ?_))
      | exact ih0 _ _ _ _ _ _
      | exact ih1 _ _ _ _ _ _
      | exact ih2 _ _ _ _
      | exact ih3 _ _ _ _
      | exact bobbinlaw16_awake.mono _
      | exact clock_Admit.mono _ _ _ _ _
      | exact clock_May.mono _ _ _
      | exact LeO.none _
      | refine LeO.ite ?_ ?_
      | refine LeO.bind ?_ (fun _ => ?_)
theorem bobbinlaw16_ClockOld.mono : ∀ a0 a1 a2 a3 k, LeO (bobbinlaw16_ClockOld.f k a0 a1 a2 a3) (bobbinlaw16_ClockOld.f (k + 1) a0 a1 a2 a3) := by
  intro a0 a1 a2 a3 k
  obtain ⟨ih0, ih1, ih2, ih3⟩ := bobbinlaw16_ClockOld.mono_l k
  unfold bobbinlaw16_ClockOld.f
  repeat' first
      | (with_reducible exact ih0 _ _ _ _ _ _)
      | (with_reducible exact ih1 _ _ _ _ _ _)
      | (with_reducible exact ih2 _ _ _ _)
      | (with_reducible exact ih3 _ _ _ _)
      | (with_reducible exact bobbinlaw16_awake.mono _)
      | (with_reducible exact clock_Admit.mono _ _ _ _ _)
      | (with_reducible exact clock_May.mono _ _ _)
      | (with_reducible exact LeO.refl _)
      | (with_reducible exact LeO.none _)
      | (with_reducible refine LeO.ite ?_ ?_)
      | (with_reducible refine LeO.bind ?_ (fun _ => ?_))
      | exact ih0 _ _ _ _ _ _
      | exact ih1 _ _ _ _ _ _
      | exact ih2 _ _ _ _
      | exact ih3 _ _ _ _
      | exact bobbinlaw16_awake.mono _
      | exact clock_Admit.mono _ _ _ _ _
      | exact clock_May.mono _ _ _
      | exact LeO.none _
      | refine LeO.ite ?_ ?_
      | refine LeO.bind ?_ (fun _ => ?_)
set_option maxHeartbeats 8000000 in
set_option maxRecDepth 100000 in
theorem bobbinlaw16_ClockOld.calls (k : Nat) (a0_0 : Int) (A0_1 : Option Addr) (c0_1 : Nat) (l0_1 : List (S32)) (a1 : Int) (a2 : Int) (r : Bool) (w : World) (hr0_1 : Kd.C k32 w A0_1 l0_1.length l0_1) (hc0_1 : l0_1.length ≤ c0_1) (h : bobbinlaw16_ClockOld.f k a0_0 l0_1 a1 a2 = some r) :
    Calls Try.prog 4 #[.agg #[.int .i64 a0_0, .slice A0_1 l0_1.length c0_1], .int .i64 a1, .int .i64 a2] w fun e w' => e = .returned (.bool r) ∧ Below w.heap.size w w' := by
  have hu24 := Try.underlying24
  have HR0_1 := Aside0.mk hr0_1
  have HC0_1 := Aside0.mk hc0_1
  clear hr0_1 hc0_1
  have HB := Aside0.mk (Below.refl w.heap.size w)
  have H : ((bobbinlaw16_awake.f k).bind fun t145 => ((bobbinlaw16_light.f a0_0 l0_1).bind fun t146 => (if t145 = true then (if t146 = true then ((clock_May.f k a0_0 l0_1).bind fun t147 => (bobbinlaw16_ClockOld.j0 k a1 a2 t145 (!t147) a0_0 l0_1)) else (bobbinlaw16_ClockOld.j0 k a1 a2 t145 true a0_0 l0_1)) else (bobbinlaw16_ClockOld.j0 k a1 a2 t145 true a0_0 l0_1)))) = some r := h
  clear h
  replace H := Option.bind_eq_some_iff.mp H
  obtain ⟨t145, A40, H⟩ := H
  replace H : ((bobbinlaw16_light.f a0_0 l0_1).bind fun t146 => (if t145 = true then (if t146 = true then ((clock_May.f k a0_0 l0_1).bind fun t147 => (bobbinlaw16_ClockOld.j0 k a1 a2 t145 (!t147) a0_0 l0_1)) else (bobbinlaw16_ClockOld.j0 k a1 a2 t145 true a0_0 l0_1)) else (bobbinlaw16_ClockOld.j0 k a1 a2 t145 true a0_0 l0_1))) = some r := H
  have A4 := Aside0.mk A40
  clear A40
  replace H := Option.bind_eq_some_iff.mp H
  obtain ⟨t146, A50, H⟩ := H
  replace H : (if t145 = true then (if t146 = true then ((clock_May.f k a0_0 l0_1).bind fun t147 => (bobbinlaw16_ClockOld.j0 k a1 a2 t145 (!t147) a0_0 l0_1)) else (bobbinlaw16_ClockOld.j0 k a1 a2 t145 true a0_0 l0_1)) else (bobbinlaw16_ClockOld.j0 k a1 a2 t145 true a0_0 l0_1)) = some r := H
  have A5 := Aside0.mk A50
  clear A50
  have HC6 := Aside0.mk H
  clear H
  go_enter Try.func4, Try.ntmps4
  go_upto_region 3 with (first | ((with_reducible refine gate_dst (N := 3) rfl ?_); refine box_event ?hg (N := 3) ?hd (cs := #[.int .i64 a0_0, .slice A0_1 l0_1.length c0_1]) (t := 24) ?hr ?_; (case hd => rfl); (case hg => rfl); (case hr => first | (go_simp; done) | (go_simp; rfl)); intro gb144 hg w7 hbox hb; have n0_ := Aside0.mk (below_step (by repeat (first | (with_reducible first | exact HB.out | apply below_alloc | apply pw_below_drewN | apply below_drew1) | exact HB.out)) hb); have n1_ := Aside0.mk (hbox); have n2_ := Aside0.mk ((by rw [hg]; exact (below_size (by repeat (first | (with_reducible first | exact HB.out | apply below_alloc | apply pw_below_drewN | apply below_drew1) | exact HB.out))) : w.heap.size ≤ gb144)); have n3_ := Aside0.mk ((by rw [hg]; exact (below_size (by repeat (first | (with_reducible first | exact HB.out | apply below_alloc | apply pw_below_drewN | apply below_drew1) | exact HB.out))) : w.heap.size ≤ gb144)); clear HB; have HB := n0_; have BK144 := n1_; have GW144 := n2_; have GE144 := n3_; clear n0_ n1_ n2_ n3_; clear hb hbox hg) | ((with_reducible refine gate_callee (f := 8) rfl ?_); refine goesL_ (some 15) rfl rfl Try.func8 (by kernel_rfl) rfl #[] rfl (by (try simp only [List.map_toArray, List.map_cons, List.map_nil]); first | done | rfl | (simp only [List.length_drop, List.length_take]; rfl)) ?_; (with_reducible refine (bobbinlaw16_awake.calls k  t145 _ A4.out).mono ?_); rintro e w8 ⟨rfl, hb⟩; refine ⟨_, rfl, ?_⟩; have n0_ := Aside0.mk (blk_below (g := gb144) (o := .cells #[.int .i64 a0_0, .slice A0_1 l0_1.length c0_1] 24 (0, 0)) (by (with_reducible repeat (first | refine blk_drewN ?_ _ | refine blk_drew ?_ | refine blk_alloc ?_ _)); exact BK144.out) hb); have n1_ := Aside0.mk (below_step (by repeat (first | (with_reducible first | exact HB.out | apply below_alloc | apply pw_below_drewN | apply below_drew1 | refine below_set ?_ GE144.out) | exact HB.out)) hb); clear BK144; clear HB; have BK144 := n0_; have HB := n1_; clear n0_ n1_; (try clear hb); (try clear hb2); (try clear hk); (try clear hi); have hcz9_0 : w8.cell? ⟨gb144, 0, none⟩ = some (.int .i64 a0_0) := (blk_cell BK144.out 0).trans rfl; have hcz9_1 : w8.cell? ⟨gb144, 1, none⟩ = some (.slice A0_1 l0_1.length c0_1) := (blk_cell BK144.out 1).trans rfl; have hfz9_0 := blk_frozen BK144.out 0; have hfz9_1 := blk_frozen BK144.out 1) | ((with_reducible refine gate_callee (f := 9) rfl ?_); refine goesL_ (some 17) rfl rfl Try.func9 (by kernel_rfl) rfl #[.agg #[.int .i64 a0_0, .slice A0_1 l0_1.length c0_1]] rfl (by (try simp only [List.map_toArray, List.map_cons, List.map_nil]); first | done | rfl | (simp only [List.length_drop, List.length_take]; rfl)) ?_; (with_reducible refine (bobbinlaw16_light.calls a0_0 _ _ l0_1 t146 _ ?side1 ?side2 A5.out).mono ?_); (case side1 => repeat (first | exact (Kd.C_below HR0_1.out HB.out) | (with_reducible refine Kd.C_alloc ?_ _) | (with_reducible refine Kd.C_drewN ?_ _) | (with_reducible refine Kd.C_drew ?_))); (case side2 => exact HC0_1.out); rintro e w10 ⟨rfl, hb⟩; refine ⟨_, rfl, ?_⟩; have n0_ := Aside0.mk (blk_below (g := gb144) (o := .cells #[.int .i64 a0_0, .slice A0_1 l0_1.length c0_1] 24 (0, 0)) (by (with_reducible repeat (first | refine blk_drewN ?_ _ | refine blk_drew ?_ | refine blk_alloc ?_ _)); exact BK144.out) hb); have n1_ := Aside0.mk (below_step (by repeat (first | (with_reducible first | exact HB.out | apply below_alloc | apply pw_below_drewN | apply below_drew1 | refine below_set ?_ GE144.out) | exact HB.out)) hb); clear BK144; clear HB; have BK144 := n0_; have HB := n1_; clear n0_ n1_; (try clear hb); (try clear hb2); (try clear hk); (try clear hi)))
  (try simp only [Act.put, List.setIfInBounds_toArray, List.set_cons_zero, List.set_cons_succ])
  go_cut [28] (fun v28 wc => ∃ (kq : Nat) (x28_5 : Bool), v28 = .bool x28_5 ∧ Aside0 (bobbinlaw16_ClockOld.j0 kq a1 a2 t145 x28_5 a0_0 l0_1 = some r) ∧ Aside0 (kq ≤ k) ∧ Aside0 (wc.heap[gb144]? = some (.cells #[.int .i64 a0_0, (.slice A0_1 l0_1.length c0_1)] 24 (0, 0))) ∧ Aside0 (Below w.heap.size w wc))
  case first =>
    have H := HC6.out
    clear HC6
    by_cases c11 : t145 = true
    · subst c11
      have H1 : (if t146 = true then ((clock_May.f k a0_0 l0_1).bind fun t147 => (bobbinlaw16_ClockOld.j0 k a1 a2 true (!t147) a0_0 l0_1)) else (bobbinlaw16_ClockOld.j0 k a1 a2 true true a0_0 l0_1)) = some r := by rw [if_pos rfl] at H; exact H
      clear H
      have H := H1
      clear H1
      by_cases c12 : t146 = true
      · subst c12
        have H1 : ((clock_May.f k a0_0 l0_1).bind fun t147 => (bobbinlaw16_ClockOld.j0 k a1 a2 true (!t147) a0_0 l0_1)) = some r := by rw [if_pos rfl] at H; exact H
        clear H
        have H := H1
        clear H1
        replace H := Option.bind_eq_some_iff.mp H
        obtain ⟨t147, A130, H⟩ := H
        replace H : (bobbinlaw16_ClockOld.j0 k a1 a2 true (!t147) a0_0 l0_1) = some r := H
        have A13 := Aside0.mk A130
        clear A130
        have H' := Aside0.mk H
        clear H
        have hcz14_0 : w10.cell? ⟨gb144, 0, none⟩ = some (.int .i64 a0_0) := (blk_cell BK144.out 0).trans rfl
        have hcz14_1 : w10.cell? ⟨gb144, 1, none⟩ = some (.slice A0_1 l0_1.length c0_1) := (blk_cell BK144.out 1).trans rfl
        have hfz14_0 := blk_frozen BK144.out 0
        have hfz14_1 := blk_frozen BK144.out 1
        go_wp2_with (first | (go_at_call 10; (with_reducible refine (clock_May.calls k a0_0 _ _ l0_1 t147 _ ?side1 ?side2 A13.out).mono ?_); (case side1 => repeat (first | exact (Kd.C_below HR0_1.out HB.out) | (with_reducible refine Kd.C_alloc ?_ _) | (with_reducible refine Kd.C_drewN ?_ _) | (with_reducible refine Kd.C_drew ?_))); (case side2 => exact HC0_1.out); rintro e w15 ⟨rfl, hb⟩; have n0_ := Aside0.mk (blk_below (g := gb144) (o := .cells #[.int .i64 a0_0, .slice A0_1 l0_1.length c0_1] 24 (0, 0)) (by (with_reducible repeat (first | refine blk_drewN ?_ _ | refine blk_drew ?_ | refine blk_alloc ?_ _)); exact BK144.out) hb); have n1_ := Aside0.mk (below_step (by repeat (first | (with_reducible first | exact HB.out | apply below_alloc | apply pw_below_drewN | apply below_drew1 | refine below_set ?_ GE144.out) | exact HB.out)) hb); clear BK144; clear HB; have BK144 := n0_; have HB := n1_; clear n0_ n1_; (try clear hb); (try clear hb2); (try clear hk); (try clear hi)))
        go_meet
        case rel => exact ⟨_, (!t147), (by first | rfl | (simp; done) | (simp [*]; done)), H', ⟨by first | omega | exact Nat.le_refl _⟩, ⟨by (with_reducible repeat (first | refine blk_drewN ?_ _ | refine blk_drew ?_ | refine blk_alloc ?_ _)); exact BK144.out⟩, ⟨by repeat (first | (with_reducible first | exact HB.out | apply below_alloc | apply pw_below_drewN | apply below_drew1 | refine below_set ?_ GE144.out) | exact HB.out)⟩⟩
      · replace c12 := Bool.eq_false_iff.mpr c12
        subst c12
        have H1 : (bobbinlaw16_ClockOld.j0 k a1 a2 true true a0_0 l0_1) = some r := by rw [if_neg (show ¬ (false = true) by decide)] at H; exact H
        clear H
        have H := H1
        clear H1
        have H' := Aside0.mk H
        clear H
        go_wp2
        go_meet
        case rel => exact ⟨_, (true), (by first | rfl | (simp; done) | (simp [*]; done)), H', ⟨by first | omega | exact Nat.le_refl _⟩, ⟨by (with_reducible repeat (first | refine blk_drewN ?_ _ | refine blk_drew ?_ | refine blk_alloc ?_ _)); exact BK144.out⟩, ⟨by repeat (first | (with_reducible first | exact HB.out | apply below_alloc | apply pw_below_drewN | apply below_drew1 | refine below_set ?_ GE144.out) | exact HB.out)⟩⟩
    · replace c11 := Bool.eq_false_iff.mpr c11
      subst c11
      have H1 : (bobbinlaw16_ClockOld.j0 k a1 a2 false true a0_0 l0_1) = some r := by rw [if_neg (show ¬ (false = true) by decide)] at H; exact H
      clear H
      have H := H1
      clear H1
      have H' := Aside0.mk H
      clear H
      go_wp2
      go_meet
      case rel => exact ⟨_, (true), (by first | rfl | (simp; done) | (simp [*]; done)), H', ⟨by first | omega | exact Nat.le_refl _⟩, ⟨by (with_reducible repeat (first | refine blk_drewN ?_ _ | refine blk_drew ?_ | refine blk_alloc ?_ _)); exact BK144.out⟩, ⟨by repeat (first | (with_reducible first | exact HB.out | apply below_alloc | apply pw_below_drewN | apply below_drew1 | refine below_set ?_ GE144.out) | exact HB.out)⟩⟩
  case rest =>
    clear HC6
    try clear c1
    try clear p2
    try clear c4
    try clear c8
    try clear c9
    try clear c11
    try clear c12
    try clear hcz14_0
    try clear hcz14_1
    try clear hcz9_0
    try clear hcz9_1
    try clear hfz14_0
    try clear hfz14_1
    try clear hfz9_0
    try clear hfz9_1
    obtain ⟨kq, x28_5, rfl, HA, HJ5, BK144, HB⟩ := hcut
    cases kq with
    | zero => exact absurd HA.out (by first | (intro h_; cases h_; done) | simp [bobbinlaw16_ClockOld.j0])
    | succ kj5 =>
      have H := HA.out
      clear HA
      rw [bobbinlaw16_ClockOld.j0_eq] at H
      by_cases c16 : x28_5 = true
      · subst c16
        have H1 : (some t145) = some r := by rw [if_pos rfl] at H; exact H
        clear H
        have H := H1
        clear H1
        obtain rfl := Option.some.inj H
        go_wp2
        go_ret
        exact ⟨by first | rfl | (simp [errW_none, errW_some] <;> rfl) | (simp [*, errW_none, errW_some] <;> rfl), by repeat (first | (with_reducible first | exact HB.out | apply below_alloc | apply pw_below_drewN | apply below_drew1 | refine below_set ?_ GE144.out) | exact HB.out)⟩
      · replace c16 := Bool.eq_false_iff.mpr c16
        subst c16
        have H1 : (bobbinlaw16_ClockOld.l0 kj5 a1 a2 false 0 a0_0 l0_1) = some r := by rw [if_neg (show ¬ (false = true) by decide)] at H; exact H
        clear H
        have H := H1
        clear H1
        have H' := Aside0.mk H
        clear H
        go_wp2
        go_loopg [9, 10] kj5 (fun kq v9 v10 w' => ∃ (x9_2 : Bool) (x10_2 : Int), v9 = .bool x9_2 ∧ v10 = .int .i64 x10_2 ∧ Aside0 (bobbinlaw16_ClockOld.l0 kq a1 a2 x9_2 x10_2 a0_0 l0_1 = some r) ∧ Aside0 (kq ≤ kj5) ∧ Aside0 (w'.heap[gb144]? = some (.cells #[.int .i64 a0_0, (.slice A0_1 l0_1.length c0_1)] 24 (0, 0))) ∧ Aside0 (Below w.heap.size w w'))
        case atStart => exact ⟨(false), (0), (by first | rfl | (simp; done) | (simp [*]; done)), (by first | rfl | (simp; done) | (simp [*]; done)), H', ⟨Nat.le_refl _⟩, ⟨by (with_reducible repeat (first | refine blk_drewN ?_ _ | refine blk_drew ?_ | refine blk_alloc ?_ _)); exact BK144.out⟩, ⟨by repeat (first | (with_reducible first | exact HB.out | apply below_alloc | apply pw_below_drewN | apply below_drew1 | refine below_set ?_ GE144.out) | exact HB.out)⟩⟩
        case round =>
          clear H'
          try clear c1
          try clear p2
          try clear c4
          try clear c8
          try clear c9
          try clear c11
          try clear c12
          try clear c16
          try clear hcz14_0
          try clear hcz14_1
          try clear hcz9_0
          try clear hcz9_1
          try clear hfz14_0
          try clear hfz14_1
          try clear hfz9_0
          try clear hfz9_1
          try clear p2
          obtain ⟨x9_2, x10_2, rfl, rfl, HA, HK2, BK144, HB⟩ := hrel
          cases gk with
          | zero => exact absurd HA.out (by first | (intro h_; cases h_; done) | simp [bobbinlaw16_ClockOld.l0])
          | succ k2 =>
            have H := HA.out
            clear HA
            rw [bobbinlaw16_ClockOld.l0_eq] at H
            by_cases c17 : x10_2 < (l0_1.length : Int)
            · rw [if_pos c17] at H
              have c17b0 : decide (x10_2 < (l0_1.length : Int)) = true := decide_eq_true c17
              clear c17
              by_cases c18 : x9_2 = true
              · subst c18
                have H1 : (bobbinlaw16_ClockOld.l0 k2 a1 a2 true (wrap64 (x10_2 + 1)) a0_0 l0_1) = some r := by rw [if_pos rfl] at H; exact H
                clear H
                have H := H1
                clear H1
                have H' := Aside0.mk H
                clear H
                have hcz19_0 : wr.cell? ⟨gb144, 0, none⟩ = some (.int .i64 a0_0) := (blk_cell BK144.out 0).trans rfl
                have hcz19_1 : wr.cell? ⟨gb144, 1, none⟩ = some (.slice A0_1 l0_1.length c0_1) := (blk_cell BK144.out 1).trans rfl
                have hfz19_0 := blk_frozen BK144.out 0
                have hfz19_1 := blk_frozen BK144.out 1
                go_wp2
                go_roundg k2
                case measure => have := HJ5.out; have := HK2.out; omega
                case rel => exact ⟨(true), (wrap64 (x10_2 + 1)), (by first | rfl | (simp; done) | (simp [*]; done)), (by first | rfl | (simp; done) | (simp [*]; done)), H', ⟨by have := HJ5.out; have := HK2.out; omega⟩, ⟨by (with_reducible repeat (first | refine blk_drewN ?_ _ | refine blk_drew ?_ | refine blk_alloc ?_ _)); exact BK144.out⟩, ⟨by repeat (first | (with_reducible first | exact HB.out | apply below_alloc | apply pw_below_drewN | apply below_drew1 | refine below_set ?_ GE144.out) | exact HB.out)⟩⟩
              · replace c18 := Bool.eq_false_iff.mpr c18
                subst c18
                have H1 : (if 0 ≤ x10_2 then (if ((rd_T32 l0_1 x10_2).f1 = true) then (bobbinlaw16_ClockOld.l0 k2 a1 a2 false (wrap64 (x10_2 + 1)) a0_0 l0_1) else (bobbinlaw16_ClockOld.l0 k2 a1 a2 (!((rd_T32 l0_1 x10_2).f2)) (wrap64 (x10_2 + 1)) a0_0 l0_1)) else (none)) = some r := by rw [if_neg (show ¬ (false = true) by decide)] at H; exact H
                clear H
                have H := H1
                clear H1
                by_cases c20 : 0 ≤ x10_2
                · rw [if_pos c20] at H
                  have c20b0 : decide (0 ≤ x10_2) = true := decide_eq_true c20
                  clear c20
                  obtain ⟨bq21, hbq21⟩ : ∃ b_ : Bool, b_ = ((rd_T32 l0_1 x10_2).f1) := ⟨_, rfl⟩
                  replace H : (if (bq21 = true) then (bobbinlaw16_ClockOld.l0 k2 a1 a2 false (wrap64 (x10_2 + 1)) a0_0 l0_1) else (bobbinlaw16_ClockOld.l0 k2 a1 a2 (!((rd_T32 l0_1 x10_2).f2)) (wrap64 (x10_2 + 1)) a0_0 l0_1)) = some r := by rw [← hbq21] at H; exact H
                  have Nbq21 := Aside0.mk hbq21
                  clear hbq21
                  by_cases c22 : (bq21 = true)
                  · subst c22
                    have H1 : (bobbinlaw16_ClockOld.l0 k2 a1 a2 false (wrap64 (x10_2 + 1)) a0_0 l0_1) = some r := by rw [if_pos rfl] at H; exact H
                    clear H
                    have H := H1
                    clear H1
                    have H' := Aside0.mk H
                    clear H
                    have hcz23_0 : wr.cell? ⟨gb144, 0, none⟩ = some (.int .i64 a0_0) := (blk_cell BK144.out 0).trans rfl
                    have hcz23_1 : wr.cell? ⟨gb144, 1, none⟩ = some (.slice A0_1 l0_1.length c0_1) := (blk_cell BK144.out 1).trans rfl
                    have hfz23_0 := blk_frozen BK144.out 0
                    have hfz23_1 := blk_frozen BK144.out 1
                    have p148 : 0 ≤ (x10_2 : Int) := of_decide_eq_true (by first | (with_reducible assumption) | assumption)
                    have q148 : x10_2 < (l0_1.length : Int) := of_decide_eq_true (by first | (with_reducible assumption) | assumption)
                    obtain ⟨ad148, e148, hx148_0, hx148_1, hx148_2⟩ := at_T32 HR0_1.out x10_2 p148 q148
                    (try rw [← Nbq21.out] at hx148_1)
                    (try rw [← Nbq21.out] at hx148_2)
                    cases e148
                    replace hx148_0 := (HB.out.cell (World.block_lt_of_cell? w _ hx148_0)).trans hx148_0
                    replace hx148_1 := (HB.out.cell (World.block_lt_of_cell? w _ hx148_1)).trans hx148_1
                    replace hx148_2 := (HB.out.cell (World.block_lt_of_cell? w _ hx148_2)).trans hx148_2
                    replace p148 := eq_true p148
                    replace q148 := eq_true q148
                    go_wp2
                    go_roundg k2
                    case measure => have := HJ5.out; have := HK2.out; omega
                    case rel => exact ⟨(false), (wrap64 (x10_2 + 1)), (by first | rfl | (simp; done) | (simp [*]; done)), (by first | rfl | (simp; done) | (simp [*]; done)), H', ⟨by have := HJ5.out; have := HK2.out; omega⟩, ⟨by (with_reducible repeat (first | refine blk_drewN ?_ _ | refine blk_drew ?_ | refine blk_alloc ?_ _)); exact BK144.out⟩, ⟨by repeat (first | (with_reducible first | exact HB.out | apply below_alloc | apply pw_below_drewN | apply below_drew1 | refine below_set ?_ GE144.out) | exact HB.out)⟩⟩
                  · replace c22 := Bool.eq_false_iff.mpr c22
                    subst c22
                    have H1 : (bobbinlaw16_ClockOld.l0 k2 a1 a2 (!((rd_T32 l0_1 x10_2).f2)) (wrap64 (x10_2 + 1)) a0_0 l0_1) = some r := by rw [if_neg (show ¬ (false = true) by decide)] at H; exact H
                    clear H
                    have H := H1
                    clear H1
                    have H' := Aside0.mk H
                    clear H
                    have hcz24_0 : wr.cell? ⟨gb144, 0, none⟩ = some (.int .i64 a0_0) := (blk_cell BK144.out 0).trans rfl
                    have hcz24_1 : wr.cell? ⟨gb144, 1, none⟩ = some (.slice A0_1 l0_1.length c0_1) := (blk_cell BK144.out 1).trans rfl
                    have hfz24_0 := blk_frozen BK144.out 0
                    have hfz24_1 := blk_frozen BK144.out 1
                    have p148 : 0 ≤ (x10_2 : Int) := of_decide_eq_true (by first | (with_reducible assumption) | assumption)
                    have q148 : x10_2 < (l0_1.length : Int) := of_decide_eq_true (by first | (with_reducible assumption) | assumption)
                    obtain ⟨ad148, e148, hx148_0, hx148_1, hx148_2⟩ := at_T32 HR0_1.out x10_2 p148 q148
                    (try rw [← Nbq21.out] at hx148_1)
                    (try rw [← Nbq21.out] at hx148_2)
                    cases e148
                    replace hx148_0 := (HB.out.cell (World.block_lt_of_cell? w _ hx148_0)).trans hx148_0
                    replace hx148_1 := (HB.out.cell (World.block_lt_of_cell? w _ hx148_1)).trans hx148_1
                    replace hx148_2 := (HB.out.cell (World.block_lt_of_cell? w _ hx148_2)).trans hx148_2
                    replace p148 := eq_true p148
                    replace q148 := eq_true q148
                    have p149 : 0 ≤ (x10_2 : Int) := of_decide_eq_true (by first | (with_reducible assumption) | assumption)
                    have q149 : x10_2 < (l0_1.length : Int) := of_decide_eq_true (by first | (with_reducible assumption) | assumption)
                    obtain ⟨ad149, e149, hx149_0, hx149_1, hx149_2⟩ := at_T32 HR0_1.out x10_2 p149 q149
                    (try rw [← Nbq21.out] at hx149_1)
                    (try rw [← Nbq21.out] at hx149_2)
                    obtain rfl : ad148 = ad149 := (by injection e149)
                    replace hx149_0 := (HB.out.cell (World.block_lt_of_cell? w _ hx149_0)).trans hx149_0
                    replace hx149_1 := (HB.out.cell (World.block_lt_of_cell? w _ hx149_1)).trans hx149_1
                    replace hx149_2 := (HB.out.cell (World.block_lt_of_cell? w _ hx149_2)).trans hx149_2
                    replace p149 := eq_true p149
                    replace q149 := eq_true q149
                    go_wp2
                    go_roundg k2
                    case measure => have := HJ5.out; have := HK2.out; omega
                    case rel => exact ⟨(!((rd_T32 l0_1 x10_2).f2)), (wrap64 (x10_2 + 1)), (by first | rfl | (simp; done) | (simp [*]; done)), (by first | rfl | (simp; done) | (simp [*]; done)), H', ⟨by have := HJ5.out; have := HK2.out; omega⟩, ⟨by (with_reducible repeat (first | refine blk_drewN ?_ _ | refine blk_drew ?_ | refine blk_alloc ?_ _)); exact BK144.out⟩, ⟨by repeat (first | (with_reducible first | exact HB.out | apply below_alloc | apply pw_below_drewN | apply below_drew1 | refine below_set ?_ GE144.out) | exact HB.out)⟩⟩
                · rw [if_neg c20] at H
                  exact absurd H (by simp)
            · rw [if_neg c17] at H
              have c17b0 : decide (x10_2 < (l0_1.length : Int)) = false := decide_eq_false c17
              clear c17
              replace H := Option.bind_eq_some_iff.mp H
              obtain ⟨⟨t150, t151, t154, t155⟩, A250, H⟩ := H
              replace H : (if t155 = 0 then (if t154 < 0 then (bobbinlaw16_ClockOld.j2 k2 t154 true a0_0 l0_1) else (bobbinlaw16_ClockOld.j2 k2 t154 (!x9_2) a0_0 l0_1)) else (bobbinlaw16_ClockOld.j2 k2 t154 true a0_0 l0_1)) = some r := H
              have A25 := Aside0.mk A250
              clear A250
              have HC26 := Aside0.mk H
              clear H
              have hcz27_0 : wr.cell? ⟨gb144, 0, none⟩ = some (.int .i64 a0_0) := (blk_cell BK144.out 0).trans rfl
              have hcz27_1 : wr.cell? ⟨gb144, 1, none⟩ = some (.slice A0_1 l0_1.length c0_1) := (blk_cell BK144.out 1).trans rfl
              have hfz27_0 := blk_frozen BK144.out 0
              have hfz27_1 := blk_frozen BK144.out 1
              go_upto_region 11 with (first | ((with_reducible refine gate_callee (f := 11) rfl ?_); refine goesL_ (some 60) rfl rfl Try.func11 (by kernel_rfl) rfl #[.agg #[.int .i64 a0_0, .slice A0_1 l0_1.length c0_1], .int .i64 a1, .int .i64 a2] rfl (by (try simp only [List.map_toArray, List.map_cons, List.map_nil]); first | done | rfl | (simp only [List.length_drop, List.length_take]; rfl)) ?_; (with_reducible refine (clock_Admit.calls k2 a0_0 _ _ l0_1 a1 a2 t150 t151 t154 t155 _ ?side1 ?side2 A25.out).mono ?_); (case side1 => repeat (first | exact (Kd.C_below HR0_1.out HB.out) | (with_reducible refine Kd.C_alloc ?_ _) | (with_reducible refine Kd.C_drewN ?_ _) | (with_reducible refine Kd.C_drew ?_))); (case side2 => exact HC0_1.out); rintro e w28 ⟨v152, rfl, ho0, hb⟩; refine ⟨_, rfl, ?_⟩; have n0_ := Aside0.mk (Kd.R_lower ho0 (below_size (by repeat (first | (with_reducible first | exact HB.out | apply below_alloc | apply pw_below_drewN | apply below_drew1 | refine below_set ?_ GE144.out) | exact HB.out)))); have n1_ := Aside0.mk (blk_below (g := gb144) (o := .cells #[.int .i64 a0_0, .slice A0_1 l0_1.length c0_1] 24 (0, 0)) (by (with_reducible repeat (first | refine blk_drewN ?_ _ | refine blk_drew ?_ | refine blk_alloc ?_ _)); exact BK144.out) hb); have n2_ := Aside0.mk (below_step (by repeat (first | (with_reducible first | exact HB.out | apply below_alloc | apply pw_below_drewN | apply below_drew1 | refine below_set ?_ GE144.out) | exact HB.out)) hb); clear BK144; clear HB; have HO153 := n0_; have BK144 := n1_; have HB := n2_; clear n0_ n1_ n2_; (try clear hb); (try clear hb2); (try clear hk); (try clear hi); (try clear ho0)) | ((with_reducible refine gate_dst (N := 11) rfl ?_); refine box_event ?hg (N := 11) ?hd (cs := #[.int .i64 0, .slice none 0 0]) (t := 24) ?hr ?_; (case hd => rfl); (case hg => rfl); (case hr => first | (go_simp; done) | (go_simp; rfl)); intro gb156 hg w29 hbox hb; have n0_ := Aside0.mk (Kd.R_below (by (with_reducible repeat (first | apply Kd.R_alloc | apply Kd.R_drewN | apply Kd.R_drew)); exact HO153.out) hb); have n1_ := Aside0.mk (blk_below (g := gb144) (o := .cells #[.int .i64 a0_0, .slice A0_1 l0_1.length c0_1] 24 (0, 0)) (by (with_reducible repeat (first | refine blk_drewN ?_ _ | refine blk_drew ?_ | refine blk_alloc ?_ _)); exact BK144.out) hb); have n2_ := Aside0.mk (below_step (by repeat (first | (with_reducible first | exact HB.out | apply below_alloc | apply pw_below_drewN | apply below_drew1 | refine below_set ?_ GE144.out) | exact HB.out)) hb); have n3_ := Aside0.mk (hbox); have n4_ := Aside0.mk ((by rw [hg]; exact (below_size (by repeat (first | (with_reducible first | exact HB.out | apply below_alloc | apply pw_below_drewN | apply below_drew1 | refine below_set ?_ GE144.out) | exact HB.out))) : w.heap.size ≤ gb156)); have n5_ := Aside0.mk ((by rw [hg]; exact (below_size (by repeat (first | (with_reducible first | exact HB.out | apply below_alloc | apply pw_below_drewN | apply below_drew1 | refine below_set ?_ GE144.out) | exact HB.out))) : w.heap.size ≤ gb156)); have n6_ := Aside0.mk ((by rw [hg]; exact Nat.ne_of_lt (blk_lt (g := gb144) (o := .cells #[.int .i64 a0_0, .slice A0_1 l0_1.length c0_1] 24 (0, 0)) (by (with_reducible repeat (first | refine blk_drewN ?_ _ | refine blk_drew ?_ | refine blk_alloc ?_ _)); exact BK144.out)) : gb144 ≠ gb156)); have n7_ := Aside0.mk ((by rw [hg]; exact Nat.ne_of_gt (blk_lt (g := gb144) (o := .cells #[.int .i64 a0_0, .slice A0_1 l0_1.length c0_1] 24 (0, 0)) (by (with_reducible repeat (first | refine blk_drewN ?_ _ | refine blk_drew ?_ | refine blk_alloc ?_ _)); exact BK144.out)) : gb156 ≠ gb144)); clear HO153; clear BK144; clear HB; have HO153 := n0_; have BK144 := n1_; have HB := n2_; have BK156 := n3_; have GW156 := n4_; have GE156 := n5_; have NB144_156 := n6_; have NB156_144 := n7_; clear n0_ n1_ n2_ n3_ n4_ n5_ n6_ n7_; clear hb hbox hg; have hnb30 := NB156_144.out; have hnc30 := NB144_156.out; have hcz31_0 : w29.cell? ⟨gb156, 0, none⟩ = some (.int .i64 0) := (blk_cell BK156.out 0).trans rfl; have hcz31_1 : w29.cell? ⟨gb156, 1, none⟩ = some (.slice none 0 0) := (blk_cell BK156.out 1).trans rfl; have hfz31_0 := blk_frozen BK156.out 0; have hfz31_1 := blk_frozen BK156.out 1; obtain ⟨Ao32, co32, eo32⟩ := Kd.R_slice HO153.out; subst eo32))
              (try simp only [Act.put, List.setIfInBounds_toArray, List.set_cons_zero, List.set_cons_succ])
              go_cut [73] (fun v73 wc => ∃ (kq : Nat) (x73_25 : Bool), v73 = .bool x73_25 ∧ Aside0 (bobbinlaw16_ClockOld.j2 kq t154 x73_25 a0_0 l0_1 = some r) ∧ Aside0 (kq ≤ k2) ∧ Aside0 (Kd.R k32 32 wc w.heap.size (fun _ => True) (.slice Ao32 t151.length co32) t151) ∧ Aside0 (wc.heap[gb144]? = some (.cells #[.int .i64 a0_0, (.slice A0_1 l0_1.length c0_1)] 24 (0, 0))) ∧ Aside0 (wc.heap[gb156]? = some (.cells #[.int .i64 t150, (.slice Ao32 t151.length co32)] 24 (0, 0))) ∧ Aside0 (Below w.heap.size w wc))
              case first =>
                have H := HC26.out
                clear HC26
                by_cases c33 : t155 = 0
                · rw [if_pos c33] at H
                  have c33b0 : (t155 == 0) = true := beq_iff_eq.mpr c33
                  have c33b1 : (t155 != 0) = false := bne_eq_false_iff_eq.mpr c33
                  clear c33
                  (first | rw [c33b0] | (simp only [i64_w, i32_w]; rw [c33b0]) | skip)
                  by_cases c34 : t154 < 0
                  · rw [if_pos c34] at H
                    have c34b0 : decide (t154 < 0) = true := decide_eq_true c34
                    clear c34
                    have H' := Aside0.mk H
                    clear H
                    go_wp2
                    go_meet
                    case rel => exact ⟨_, (true), (by first | rfl | (simp; done) | (simp [*]; done)), H', ⟨by have := HJ5.out; have := HK2.out; first | omega | exact Nat.le_refl _⟩, ⟨by (with_reducible repeat (first | apply Kd.R_alloc | apply Kd.R_drewN | apply Kd.R_drew)); exact Kd.R_mono (Kd.R_far (p := ⟨gb156, 1, none⟩) (Kd.R_far (p := ⟨gb156, 0, none⟩) (Kd.R_types HO153.out BK156.out (by decide)) (fun _ hk => hk.2) (.int .i64 t150)) (fun _ hk => hk.2) (.slice Ao32 t151.length co32)) (fun _ hk => trivial)⟩, ⟨by (with_reducible repeat (first | refine blk_drewN ?_ _ | refine blk_drew ?_ | refine blk_alloc ?_ _)); refine blk_far ?_ NB144_156.out _; (with_reducible repeat (first | refine blk_drewN ?_ _ | refine blk_drew ?_ | refine blk_alloc ?_ _)); refine blk_far ?_ NB144_156.out _; (with_reducible repeat (first | refine blk_drewN ?_ _ | refine blk_drew ?_ | refine blk_alloc ?_ _)); exact BK144.out⟩, ⟨by (with_reducible repeat (first | refine blk_drewN ?_ _ | refine blk_drew ?_ | refine blk_alloc ?_ _)); refine blk_put (cs := #[.int .i64 t150, .slice none 0 0]) ?_ 1 _ rfl; (with_reducible repeat (first | refine blk_drewN ?_ _ | refine blk_drew ?_ | refine blk_alloc ?_ _)); refine blk_put (cs := #[.int .i64 0, .slice none 0 0]) ?_ 0 _ rfl; (with_reducible repeat (first | refine blk_drewN ?_ _ | refine blk_drew ?_ | refine blk_alloc ?_ _)); exact BK156.out⟩, ⟨by repeat (first | (with_reducible first | exact HB.out | apply below_alloc | apply pw_below_drewN | apply below_drew1 | refine below_set ?_ GE144.out | refine below_set ?_ GE156.out) | exact HB.out)⟩⟩
                  · rw [if_neg c34] at H
                    have c34b0 : decide (t154 < 0) = false := decide_eq_false c34
                    clear c34
                    have H' := Aside0.mk H
                    clear H
                    go_wp2
                    go_meet
                    case rel => exact ⟨_, (!x9_2), (by first | rfl | (simp; done) | (simp [*]; done)), H', ⟨by have := HJ5.out; have := HK2.out; first | omega | exact Nat.le_refl _⟩, ⟨by (with_reducible repeat (first | apply Kd.R_alloc | apply Kd.R_drewN | apply Kd.R_drew)); exact Kd.R_mono (Kd.R_far (p := ⟨gb156, 1, none⟩) (Kd.R_far (p := ⟨gb156, 0, none⟩) (Kd.R_types HO153.out BK156.out (by decide)) (fun _ hk => hk.2) (.int .i64 t150)) (fun _ hk => hk.2) (.slice Ao32 t151.length co32)) (fun _ hk => trivial)⟩, ⟨by (with_reducible repeat (first | refine blk_drewN ?_ _ | refine blk_drew ?_ | refine blk_alloc ?_ _)); refine blk_far ?_ NB144_156.out _; (with_reducible repeat (first | refine blk_drewN ?_ _ | refine blk_drew ?_ | refine blk_alloc ?_ _)); refine blk_far ?_ NB144_156.out _; (with_reducible repeat (first | refine blk_drewN ?_ _ | refine blk_drew ?_ | refine blk_alloc ?_ _)); exact BK144.out⟩, ⟨by (with_reducible repeat (first | refine blk_drewN ?_ _ | refine blk_drew ?_ | refine blk_alloc ?_ _)); refine blk_put (cs := #[.int .i64 t150, .slice none 0 0]) ?_ 1 _ rfl; (with_reducible repeat (first | refine blk_drewN ?_ _ | refine blk_drew ?_ | refine blk_alloc ?_ _)); refine blk_put (cs := #[.int .i64 0, .slice none 0 0]) ?_ 0 _ rfl; (with_reducible repeat (first | refine blk_drewN ?_ _ | refine blk_drew ?_ | refine blk_alloc ?_ _)); exact BK156.out⟩, ⟨by repeat (first | (with_reducible first | exact HB.out | apply below_alloc | apply pw_below_drewN | apply below_drew1 | refine below_set ?_ GE144.out | refine below_set ?_ GE156.out) | exact HB.out)⟩⟩
                · rw [if_neg c33] at H
                  have c33b0 : (t155 == 0) = false := beq_eq_false_iff_ne.mpr c33
                  have c33b1 : (t155 != 0) = true := bne_iff_ne.mpr c33
                  (first | rw [c33b0] | (simp only [i64_w, i32_w]; rw [c33b0]) | skip)
                  have H' := Aside0.mk H
                  clear H
                  go_wp2
                  go_meet
                  case rel => exact ⟨_, (true), (by first | rfl | (simp; done) | (simp [*]; done)), H', ⟨by have := HJ5.out; have := HK2.out; first | omega | exact Nat.le_refl _⟩, ⟨by (with_reducible repeat (first | apply Kd.R_alloc | apply Kd.R_drewN | apply Kd.R_drew)); exact Kd.R_mono (Kd.R_far (p := ⟨gb156, 1, none⟩) (Kd.R_far (p := ⟨gb156, 0, none⟩) (Kd.R_types HO153.out BK156.out (by decide)) (fun _ hk => hk.2) (.int .i64 t150)) (fun _ hk => hk.2) (.slice Ao32 t151.length co32)) (fun _ hk => trivial)⟩, ⟨by (with_reducible repeat (first | refine blk_drewN ?_ _ | refine blk_drew ?_ | refine blk_alloc ?_ _)); refine blk_far ?_ NB144_156.out _; (with_reducible repeat (first | refine blk_drewN ?_ _ | refine blk_drew ?_ | refine blk_alloc ?_ _)); refine blk_far ?_ NB144_156.out _; (with_reducible repeat (first | refine blk_drewN ?_ _ | refine blk_drew ?_ | refine blk_alloc ?_ _)); exact BK144.out⟩, ⟨by (with_reducible repeat (first | refine blk_drewN ?_ _ | refine blk_drew ?_ | refine blk_alloc ?_ _)); refine blk_put (cs := #[.int .i64 t150, .slice none 0 0]) ?_ 1 _ rfl; (with_reducible repeat (first | refine blk_drewN ?_ _ | refine blk_drew ?_ | refine blk_alloc ?_ _)); refine blk_put (cs := #[.int .i64 0, .slice none 0 0]) ?_ 0 _ rfl; (with_reducible repeat (first | refine blk_drewN ?_ _ | refine blk_drew ?_ | refine blk_alloc ?_ _)); exact BK156.out⟩, ⟨by repeat (first | (with_reducible first | exact HB.out | apply below_alloc | apply pw_below_drewN | apply below_drew1 | refine below_set ?_ GE144.out | refine below_set ?_ GE156.out) | exact HB.out)⟩⟩
              case rest =>
                clear HC26
                try clear c1
                try clear p1
                try clear q1
                try clear hx1
                try clear c2
                try clear p2
                try clear q2
                try clear c3
                try clear c4
                try clear p6
                try clear c8
                try clear c9
                try clear c11
                try clear c12
                try clear p14
                try clear q14
                try clear hx14
                try clear c16
                try clear c17
                try clear c17b0
                try clear c18
                try clear c20
                try clear c20b0
                try clear q21
                try clear c22
                try clear c30
                try clear c33
                try clear c33b0
                try clear c33b1
                try clear c34
                try clear c34b0
                try clear hcz14_0
                try clear hcz14_1
                try clear hcz19_0
                try clear hcz19_1
                try clear hcz23_0
                try clear hcz23_1
                try clear hcz24_0
                try clear hcz24_1
                try clear hcz27_0
                try clear hcz27_1
                try clear hcz31_0
                try clear hcz31_1
                try clear hcz9_0
                try clear hcz9_1
                try clear hfz14_0
                try clear hfz14_1
                try clear hfz19_0
                try clear hfz19_1
                try clear hfz23_0
                try clear hfz23_1
                try clear hfz24_0
                try clear hfz24_1
                try clear hfz27_0
                try clear hfz27_1
                try clear hfz31_0
                try clear hfz31_1
                try clear hfz9_0
                try clear hfz9_1
                try clear hx148_0
                try clear hx148_1
                try clear hx148_2
                try clear hx149_0
                try clear hx149_1
                try clear hx149_2
                try clear p148
                try clear p149
                try clear p2
                try clear q148
                try clear q149
                obtain ⟨kq, x73_25, rfl, HA, HJ25, HO_157001, BK144, BK156, HB⟩ := hcut
                cases kq with
                | zero => exact absurd HA.out (by first | (intro h_; cases h_; done) | simp [bobbinlaw16_ClockOld.j2])
                | succ kj25 =>
                  have H := HA.out
                  clear HA
                  rw [bobbinlaw16_ClockOld.j2_eq] at H
                  by_cases c35 : x73_25 = true
                  · subst c35
                    have H1 : (some true) = some r := by rw [if_pos rfl] at H; exact H
                    clear H
                    have H := H1
                    clear H1
                    obtain rfl := Option.some.inj H
                    go_wp2
                    go_ret
                    exact ⟨by first | rfl | (simp [errW_none, errW_some] <;> rfl) | (simp [*, errW_none, errW_some] <;> rfl), by repeat (first | (with_reducible first | exact HB.out | apply below_alloc | apply pw_below_drewN | apply below_drew1 | refine below_set ?_ GE144.out | refine below_set ?_ GE156.out) | exact HB.out)⟩
                  · replace c35 := Bool.eq_false_iff.mpr c35
                    subst c35
                    have H1 : (bobbinlaw16_ClockOld.l1 kj25 t154 0 a0_0 l0_1) = some r := by rw [if_neg (show ¬ (false = true) by decide)] at H; exact H
                    clear H
                    have H := H1
                    clear H1
                    have H' := Aside0.mk H
                    clear H
                    go_wp2
                    go_loopg [14] kj25 (fun kq v14 w' => ∃ (x14_4 : Int), v14 = .int .i64 x14_4 ∧ Aside0 (bobbinlaw16_ClockOld.l1 kq t154 x14_4 a0_0 l0_1 = some r) ∧ Aside0 (kq ≤ kj25) ∧ Aside0 (Kd.R k32 32 w' w.heap.size (fun _ => True) (.slice Ao32 t151.length co32) t151) ∧ Aside0 (w'.heap[gb144]? = some (.cells #[.int .i64 a0_0, (.slice A0_1 l0_1.length c0_1)] 24 (0, 0))) ∧ Aside0 (w'.heap[gb156]? = some (.cells #[.int .i64 t150, (.slice Ao32 t151.length co32)] 24 (0, 0))) ∧ Aside0 (Below w.heap.size w w'))
                    case atStart => exact ⟨(0), (by first | rfl | (simp; done) | (simp [*]; done)), H', ⟨Nat.le_refl _⟩, ⟨by (with_reducible repeat (first | apply Kd.R_alloc | apply Kd.R_drewN | apply Kd.R_drew)); exact HO_157001.out⟩, ⟨by (with_reducible repeat (first | refine blk_drewN ?_ _ | refine blk_drew ?_ | refine blk_alloc ?_ _)); exact BK144.out⟩, ⟨by (with_reducible repeat (first | refine blk_drewN ?_ _ | refine blk_drew ?_ | refine blk_alloc ?_ _)); exact BK156.out⟩, ⟨by repeat (first | (with_reducible first | exact HB.out | apply below_alloc | apply pw_below_drewN | apply below_drew1 | refine below_set ?_ GE144.out | refine below_set ?_ GE156.out) | exact HB.out)⟩⟩
                    case round =>
                      clear H'
                      try clear c1
                      try clear p1
                      try clear q1
                      try clear hx1
                      try clear c2
                      try clear p2
                      try clear q2
                      try clear c3
                      try clear c4
                      try clear p6
                      try clear c8
                      try clear c9
                      try clear c11
                      try clear c12
                      try clear p14
                      try clear q14
                      try clear hx14
                      try clear c16
                      try clear c17
                      try clear c17b0
                      try clear c18
                      try clear c20
                      try clear c20b0
                      try clear q21
                      try clear c22
                      try clear c30
                      try clear c33
                      try clear c33b0
                      try clear c33b1
                      try clear c34
                      try clear c34b0
                      try clear c35
                      try clear hcz14_0
                      try clear hcz14_1
                      try clear hcz19_0
                      try clear hcz19_1
                      try clear hcz23_0
                      try clear hcz23_1
                      try clear hcz24_0
                      try clear hcz24_1
                      try clear hcz27_0
                      try clear hcz27_1
                      try clear hcz31_0
                      try clear hcz31_1
                      try clear hcz9_0
                      try clear hcz9_1
                      try clear hfz14_0
                      try clear hfz14_1
                      try clear hfz19_0
                      try clear hfz19_1
                      try clear hfz23_0
                      try clear hfz23_1
                      try clear hfz24_0
                      try clear hfz24_1
                      try clear hfz27_0
                      try clear hfz27_1
                      try clear hfz31_0
                      try clear hfz31_1
                      try clear hfz9_0
                      try clear hfz9_1
                      try clear hx148_0
                      try clear hx148_1
                      try clear hx148_2
                      try clear hx149_0
                      try clear hx149_1
                      try clear hx149_2
                      try clear p1
                      try clear p14
                      try clear p148
                      try clear p149
                      try clear p2
                      try clear p6
                      try clear q1
                      try clear q14
                      try clear q148
                      try clear q149
                      try clear q2
                      try clear q21
                      obtain ⟨x14_4, rfl, HA, HK4, HO_157001, BK144, BK156, HB⟩ := hrel
                      cases gk with
                      | zero => exact absurd HA.out (by first | (intro h_; cases h_; done) | simp [bobbinlaw16_ClockOld.l1])
                      | succ k4 =>
                        have H := HA.out
                        clear HA
                        rw [bobbinlaw16_ClockOld.l1_eq] at H
                        by_cases c36 : x14_4 < (l0_1.length : Int)
                        · rw [if_pos c36] at H
                          have c36b0 : decide (x14_4 < (l0_1.length : Int)) = true := decide_eq_true c36
                          clear c36
                          by_cases c37 : 0 ≤ x14_4
                          · rw [if_pos c37] at H
                            have c37b0 : decide (0 ≤ x14_4) = true := decide_eq_true c37
                            clear c37
                            by_cases c38 : ((rd_T32 l0_1 x14_4).f0) = t154
                            · rw [if_pos c38] at H
                              have c38b0 : (((rd_T32 l0_1 x14_4).f0) == t154) = true := beq_iff_eq.mpr c38
                              have c38b1 : (((rd_T32 l0_1 x14_4).f0) != t154) = false := bne_eq_false_iff_eq.mpr c38
                              clear c38
                              obtain ⟨bq39, hbq39⟩ : ∃ b_ : Bool, b_ = ((rd_T32 l0_1 x14_4).f1) := ⟨_, rfl⟩
                              replace H : (if (bq39 = true) then (some false) else (some (!((rd_T32 l0_1 x14_4).f2)))) = some r := by rw [← hbq39] at H; exact H
                              have Nbq39 := Aside0.mk hbq39
                              clear hbq39
                              by_cases c40 : (bq39 = true)
                              · subst c40
                                have H1 : (some false) = some r := by rw [if_pos rfl] at H; exact H
                                clear H
                                have H := H1
                                clear H1
                                obtain rfl := Option.some.inj H
                                have hnb41 := NB144_156.out
                                have hnc41 := NB156_144.out
                                have hcz42_0 : wr.cell? ⟨gb144, 0, none⟩ = some (.int .i64 a0_0) := (blk_cell BK144.out 0).trans rfl
                                have hcz42_1 : wr.cell? ⟨gb144, 1, none⟩ = some (.slice A0_1 l0_1.length c0_1) := (blk_cell BK144.out 1).trans rfl
                                have hfz42_0 := blk_frozen BK144.out 0
                                have hfz42_1 := blk_frozen BK144.out 1
                                have p157 : 0 ≤ (x14_4 : Int) := of_decide_eq_true (by first | (with_reducible assumption) | assumption)
                                have q157 : x14_4 < (l0_1.length : Int) := of_decide_eq_true (by first | (with_reducible assumption) | assumption)
                                obtain ⟨ad157, e157, hx157_0, hx157_1, hx157_2⟩ := at_T32 HR0_1.out x14_4 p157 q157
                                (try rw [← Nbq39.out] at hx157_1)
                                (try rw [← Nbq39.out] at hx157_2)
                                cases e157
                                replace hx157_0 := (HB.out.cell (World.block_lt_of_cell? w _ hx157_0)).trans hx157_0
                                replace hx157_1 := (HB.out.cell (World.block_lt_of_cell? w _ hx157_1)).trans hx157_1
                                replace hx157_2 := (HB.out.cell (World.block_lt_of_cell? w _ hx157_2)).trans hx157_2
                                replace p157 := eq_true p157
                                replace q157 := eq_true q157
                                have p158 : 0 ≤ (x14_4 : Int) := of_decide_eq_true (by first | (with_reducible assumption) | assumption)
                                have q158 : x14_4 < (l0_1.length : Int) := of_decide_eq_true (by first | (with_reducible assumption) | assumption)
                                obtain ⟨ad158, e158, hx158_0, hx158_1, hx158_2⟩ := at_T32 HR0_1.out x14_4 p158 q158
                                (try rw [← Nbq39.out] at hx158_1)
                                (try rw [← Nbq39.out] at hx158_2)
                                obtain rfl : ad157 = ad158 := (by injection e158)
                                replace hx158_0 := (HB.out.cell (World.block_lt_of_cell? w _ hx158_0)).trans hx158_0
                                replace hx158_1 := (HB.out.cell (World.block_lt_of_cell? w _ hx158_1)).trans hx158_1
                                replace hx158_2 := (HB.out.cell (World.block_lt_of_cell? w _ hx158_2)).trans hx158_2
                                replace p158 := eq_true p158
                                replace q158 := eq_true q158
                                go_wp2
                                go_ret
                                exact ⟨by first | rfl | (simp [errW_none, errW_some] <;> rfl) | (simp [*, errW_none, errW_some] <;> rfl), by repeat (first | (with_reducible first | exact HB.out | apply below_alloc | apply pw_below_drewN | apply below_drew1 | refine below_set ?_ GE144.out | refine below_set ?_ GE156.out) | exact HB.out)⟩
                              · replace c40 := Bool.eq_false_iff.mpr c40
                                subst c40
                                have H1 : (some (!((rd_T32 l0_1 x14_4).f2))) = some r := by rw [if_neg (show ¬ (false = true) by decide)] at H; exact H
                                clear H
                                have H := H1
                                clear H1
                                obtain rfl := Option.some.inj H
                                have hnb43 := NB144_156.out
                                have hnc43 := NB156_144.out
                                have hcz44_0 : wr.cell? ⟨gb144, 0, none⟩ = some (.int .i64 a0_0) := (blk_cell BK144.out 0).trans rfl
                                have hcz44_1 : wr.cell? ⟨gb144, 1, none⟩ = some (.slice A0_1 l0_1.length c0_1) := (blk_cell BK144.out 1).trans rfl
                                have hfz44_0 := blk_frozen BK144.out 0
                                have hfz44_1 := blk_frozen BK144.out 1
                                have p157 : 0 ≤ (x14_4 : Int) := of_decide_eq_true (by first | (with_reducible assumption) | assumption)
                                have q157 : x14_4 < (l0_1.length : Int) := of_decide_eq_true (by first | (with_reducible assumption) | assumption)
                                obtain ⟨ad157, e157, hx157_0, hx157_1, hx157_2⟩ := at_T32 HR0_1.out x14_4 p157 q157
                                (try rw [← Nbq39.out] at hx157_1)
                                (try rw [← Nbq39.out] at hx157_2)
                                cases e157
                                replace hx157_0 := (HB.out.cell (World.block_lt_of_cell? w _ hx157_0)).trans hx157_0
                                replace hx157_1 := (HB.out.cell (World.block_lt_of_cell? w _ hx157_1)).trans hx157_1
                                replace hx157_2 := (HB.out.cell (World.block_lt_of_cell? w _ hx157_2)).trans hx157_2
                                replace p157 := eq_true p157
                                replace q157 := eq_true q157
                                have p158 : 0 ≤ (x14_4 : Int) := of_decide_eq_true (by first | (with_reducible assumption) | assumption)
                                have q158 : x14_4 < (l0_1.length : Int) := of_decide_eq_true (by first | (with_reducible assumption) | assumption)
                                obtain ⟨ad158, e158, hx158_0, hx158_1, hx158_2⟩ := at_T32 HR0_1.out x14_4 p158 q158
                                (try rw [← Nbq39.out] at hx158_1)
                                (try rw [← Nbq39.out] at hx158_2)
                                obtain rfl : ad157 = ad158 := (by injection e158)
                                replace hx158_0 := (HB.out.cell (World.block_lt_of_cell? w _ hx158_0)).trans hx158_0
                                replace hx158_1 := (HB.out.cell (World.block_lt_of_cell? w _ hx158_1)).trans hx158_1
                                replace hx158_2 := (HB.out.cell (World.block_lt_of_cell? w _ hx158_2)).trans hx158_2
                                replace p158 := eq_true p158
                                replace q158 := eq_true q158
                                have p159 : 0 ≤ (x14_4 : Int) := of_decide_eq_true (by first | (with_reducible assumption) | assumption)
                                have q159 : x14_4 < (l0_1.length : Int) := of_decide_eq_true (by first | (with_reducible assumption) | assumption)
                                obtain ⟨ad159, e159, hx159_0, hx159_1, hx159_2⟩ := at_T32 HR0_1.out x14_4 p159 q159
                                (try rw [← Nbq39.out] at hx159_1)
                                (try rw [← Nbq39.out] at hx159_2)
                                obtain rfl : ad157 = ad159 := (by injection e159)
                                replace hx159_0 := (HB.out.cell (World.block_lt_of_cell? w _ hx159_0)).trans hx159_0
                                replace hx159_1 := (HB.out.cell (World.block_lt_of_cell? w _ hx159_1)).trans hx159_1
                                replace hx159_2 := (HB.out.cell (World.block_lt_of_cell? w _ hx159_2)).trans hx159_2
                                replace p159 := eq_true p159
                                replace q159 := eq_true q159
                                go_wp2
                                go_ret
                                exact ⟨by first | rfl | (simp [errW_none, errW_some] <;> rfl) | (simp [*, errW_none, errW_some] <;> rfl), by repeat (first | (with_reducible first | exact HB.out | apply below_alloc | apply pw_below_drewN | apply below_drew1 | refine below_set ?_ GE144.out | refine below_set ?_ GE156.out) | exact HB.out)⟩
                            · rw [if_neg c38] at H
                              have c38b0 : (((rd_T32 l0_1 x14_4).f0) == t154) = false := beq_eq_false_iff_ne.mpr c38
                              have c38b1 : (((rd_T32 l0_1 x14_4).f0) != t154) = true := bne_iff_ne.mpr c38
                              have H' := Aside0.mk H
                              clear H
                              have hnb45 := NB144_156.out
                              have hnc45 := NB156_144.out
                              have hcz46_0 : wr.cell? ⟨gb144, 0, none⟩ = some (.int .i64 a0_0) := (blk_cell BK144.out 0).trans rfl
                              have hcz46_1 : wr.cell? ⟨gb144, 1, none⟩ = some (.slice A0_1 l0_1.length c0_1) := (blk_cell BK144.out 1).trans rfl
                              have hfz46_0 := blk_frozen BK144.out 0
                              have hfz46_1 := blk_frozen BK144.out 1
                              have p157 : 0 ≤ (x14_4 : Int) := of_decide_eq_true (by first | (with_reducible assumption) | assumption)
                              have q157 : x14_4 < (l0_1.length : Int) := of_decide_eq_true (by first | (with_reducible assumption) | assumption)
                              obtain ⟨ad157, e157, hx157_0, hx157_1, hx157_2⟩ := at_T32 HR0_1.out x14_4 p157 q157
                              cases e157
                              replace hx157_0 := (HB.out.cell (World.block_lt_of_cell? w _ hx157_0)).trans hx157_0
                              replace hx157_1 := (HB.out.cell (World.block_lt_of_cell? w _ hx157_1)).trans hx157_1
                              replace hx157_2 := (HB.out.cell (World.block_lt_of_cell? w _ hx157_2)).trans hx157_2
                              replace p157 := eq_true p157
                              replace q157 := eq_true q157
                              go_wp2
                              go_roundg k4
                              case measure => have := HJ5.out; have := HK2.out; have := HJ25.out; have := HK4.out; omega
                              case rel => exact ⟨(wrap64 (x14_4 + 1)), (by first | rfl | (simp; done) | (simp [*]; done)), H', ⟨by have := HJ5.out; have := HK2.out; have := HJ25.out; have := HK4.out; omega⟩, ⟨by (with_reducible repeat (first | apply Kd.R_alloc | apply Kd.R_drewN | apply Kd.R_drew)); exact HO_157001.out⟩, ⟨by (with_reducible repeat (first | refine blk_drewN ?_ _ | refine blk_drew ?_ | refine blk_alloc ?_ _)); exact BK144.out⟩, ⟨by (with_reducible repeat (first | refine blk_drewN ?_ _ | refine blk_drew ?_ | refine blk_alloc ?_ _)); exact BK156.out⟩, ⟨by repeat (first | (with_reducible first | exact HB.out | apply below_alloc | apply pw_below_drewN | apply below_drew1 | refine below_set ?_ GE144.out | refine below_set ?_ GE156.out) | exact HB.out)⟩⟩
                          · rw [if_neg c37] at H
                            exact absurd H (by simp)
                        · rw [if_neg c36] at H
                          have c36b0 : decide (x14_4 < (l0_1.length : Int)) = false := decide_eq_false c36
                          clear c36
                          obtain rfl := Option.some.inj H
                          have hnb47 := NB144_156.out
                          have hnc47 := NB156_144.out
                          have hcz48_0 : wr.cell? ⟨gb144, 0, none⟩ = some (.int .i64 a0_0) := (blk_cell BK144.out 0).trans rfl
                          have hcz48_1 : wr.cell? ⟨gb144, 1, none⟩ = some (.slice A0_1 l0_1.length c0_1) := (blk_cell BK144.out 1).trans rfl
                          have hfz48_0 := blk_frozen BK144.out 0
                          have hfz48_1 := blk_frozen BK144.out 1
                          go_wp2
                          go_ret
                          exact ⟨by first | rfl | (simp [errW_none, errW_some] <;> rfl) | (simp [*, errW_none, errW_some] <;> rfl), by repeat (first | (with_reducible first | exact HB.out | apply below_alloc | apply pw_below_drewN | apply below_drew1 | refine below_set ?_ GE144.out | refine below_set ?_ GE156.out) | exact HB.out)⟩

end Go.Proofs.Ytoklljioloekmaa.Print
