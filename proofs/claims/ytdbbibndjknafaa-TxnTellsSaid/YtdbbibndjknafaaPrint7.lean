-- Written by a program of this session (myprint.py over the kit's print.py) out of the translation. Not trusted: Lean checks it.
import Derived.Test.YtdbbibndjknafaaPrint0
import Derived.Test.YtdbbibndjknafaaPrint6
namespace Go.Proofs.Ytdbbibndjknafaa.Print
open Go.RowKit Go.Proofs.YtdbbibndjknafaaW.PrintWords Go.Proofs.YtdbbibndjknafaaW.PrintLast Go.Proofs.YtdbbibndjknafaaW.PrintMore
attribute [local go_sem] max2_int min2_int max_two min_two max_three min_three max_four min_four   -- for this text's walks alone
set_option linter.unusedVariables false
set_option linter.unusedSimpArgs false
mutual
def bobbinref14_May.j0 : Nat → Bool → Int → Int → Int → Int → List (S30) → List Int → Option (Bool)
 | 0, _, _, _, _, _, _, _ => none
 | k + 1, x57, x268000, x268001, x268002, x268003, x268004, x268005 => if x57 = true then (some false) else (bobbinref14_May.l0 k 0 0 x268000 x268001 x268002 x268003 x268004 x268005)
def bobbinref14_May.l0 : Nat → Int → Int → Int → Int → Int → Int → List (S30) → List Int → Option (Bool)
 | 0, _, _, _, _, _, _, _, _ => none
 | k + 1, x3, x4, x268000, x268001, x268002, x268003, x268004, x268005 => if x4 < (x268004.length : Int) then (if 0 ≤ x4 then ((bobbinref14_Change.f ((rd_T30 x268004 x4).f0) ((rd_T30 x268004 x4).f1) ((rd_T30 x268004 x4).f2) ((rd_T30 x268004 x4).f3.f0) ((rd_T30 x268004 x4).f3.f1) ((rd_T30 x268004 x4).f4.f0) ((rd_T30 x268004 x4).f4.f1)).bind fun t269 => (if t269 = true then (if ((rd_T30 x268004 x4).f0) ≤ x3 then (some false) else (bobbinref14_May.l0 k ((rd_T30 x268004 x4).f0) (wrap64 (x4 + 1)) x268000 x268001 x268002 x268003 x268004 x268005)) else (some false))) else (none)) else (bobbinref14_May.l1 k 0 0 x268000 x268001 x268002 x268003 x268004 x268005)
def bobbinref14_May.l1 : Nat → Int → Int → Int → Int → Int → Int → List (S30) → List Int → Option (Bool)
 | 0, _, _, _, _, _, _, _, _ => none
 | k + 1, x6, x7, x268000, x268001, x268002, x268003, x268004, x268005 => if x7 < (x268005.length : Int) then (if 0 ≤ x7 then (if (rd x268005 x7) < x6 then (some false) else (if (rd x268005 x7) > (x268004.length : Int) then (some false) else (bobbinref14_May.l1 k (rd x268005 x7) (wrap64 (x7 + 1)) x268000 x268001 x268002 x268003 x268004 x268005))) else (none)) else (some true)
end
theorem bobbinref14_May.j0_eq : ∀ (k : Nat) x57 x268000 x268001 x268002 x268003 x268004 x268005, bobbinref14_May.j0 (k + 1) x57 x268000 x268001 x268002 x268003 x268004 x268005 = (if x57 = true then (some false) else (bobbinref14_May.l0 k 0 0 x268000 x268001 x268002 x268003 x268004 x268005)) := fun _ _ _ _ _ _ _ _ => rfl
theorem bobbinref14_May.l0_eq : ∀ (k : Nat) x3 x4 x268000 x268001 x268002 x268003 x268004 x268005, bobbinref14_May.l0 (k + 1) x3 x4 x268000 x268001 x268002 x268003 x268004 x268005 = (if x4 < (x268004.length : Int) then (if 0 ≤ x4 then ((bobbinref14_Change.f ((rd_T30 x268004 x4).f0) ((rd_T30 x268004 x4).f1) ((rd_T30 x268004 x4).f2) ((rd_T30 x268004 x4).f3.f0) ((rd_T30 x268004 x4).f3.f1) ((rd_T30 x268004 x4).f4.f0) ((rd_T30 x268004 x4).f4.f1)).bind fun t269 => (if t269 = true then (if ((rd_T30 x268004 x4).f0) ≤ x3 then (some false) else (bobbinref14_May.l0 k ((rd_T30 x268004 x4).f0) (wrap64 (x4 + 1)) x268000 x268001 x268002 x268003 x268004 x268005)) else (some false))) else (none)) else (bobbinref14_May.l1 k 0 0 x268000 x268001 x268002 x268003 x268004 x268005)) := fun _ _ _ _ _ _ _ _ _ => rfl
theorem bobbinref14_May.l1_eq : ∀ (k : Nat) x6 x7 x268000 x268001 x268002 x268003 x268004 x268005, bobbinref14_May.l1 (k + 1) x6 x7 x268000 x268001 x268002 x268003 x268004 x268005 = (if x7 < (x268005.length : Int) then (if 0 ≤ x7 then (if (rd x268005 x7) < x6 then (some false) else (if (rd x268005 x7) > (x268004.length : Int) then (some false) else (bobbinref14_May.l1 k (rd x268005 x7) (wrap64 (x7 + 1)) x268000 x268001 x268002 x268003 x268004 x268005))) else (none)) else (some true)) := fun _ _ _ _ _ _ _ _ _ => rfl
def bobbinref14_May.f (k : Nat) (a0_0 : Int) (a0_1 : Int) (a0_2 : Int) (a0_3 : Int) (l0_4 : List (S30)) (l0_5 : List Int) : Option (Bool) := if a0_0 < 1 then (bobbinref14_May.j0 k true a0_0 a0_1 a0_2 a0_3 l0_4 l0_5) else (if a0_0 > 255 then (bobbinref14_May.j0 k true a0_0 a0_1 a0_2 a0_3 l0_4 l0_5) else (if a0_1 < 1 then (bobbinref14_May.j0 k true a0_0 a0_1 a0_2 a0_3 l0_4 l0_5) else (if a0_1 > 3 then (bobbinref14_May.j0 k true a0_0 a0_1 a0_2 a0_3 l0_4 l0_5) else (if a0_2 < 0 then (bobbinref14_May.j0 k true a0_0 a0_1 a0_2 a0_3 l0_4 l0_5) else (if a0_2 > 4294967295 then (bobbinref14_May.j0 k true a0_0 a0_1 a0_2 a0_3 l0_4 l0_5) else (if a0_3 < 0 then (bobbinref14_May.j0 k true a0_0 a0_1 a0_2 a0_3 l0_4 l0_5) else (if a0_3 > 4294967295 then (bobbinref14_May.j0 k true a0_0 a0_1 a0_2 a0_3 l0_4 l0_5) else (if (l0_4.length : Int) > 6 then (bobbinref14_May.j0 k true a0_0 a0_1 a0_2 a0_3 l0_4 l0_5) else (bobbinref14_May.j0 k (decide ((l0_5.length : Int) > 4)) a0_0 a0_1 a0_2 a0_3 l0_4 l0_5)))))))))
theorem bobbinref14_May.mono_l : ∀ k, (∀ y0 y1 y2 y3 y4 y5 y6, LeO (bobbinref14_May.j0 k y0 y1 y2 y3 y4 y5 y6) (bobbinref14_May.j0 (k + 1) y0 y1 y2 y3 y4 y5 y6)) ∧ (∀ y0 y1 y2 y3 y4 y5 y6 y7, LeO (bobbinref14_May.l0 k y0 y1 y2 y3 y4 y5 y6 y7) (bobbinref14_May.l0 (k + 1) y0 y1 y2 y3 y4 y5 y6 y7)) ∧ (∀ y0 y1 y2 y3 y4 y5 y6 y7, LeO (bobbinref14_May.l1 k y0 y1 y2 y3 y4 y5 y6 y7) (bobbinref14_May.l1 (k + 1) y0 y1 y2 y3 y4 y5 y6 y7))
 | 0 => ⟨fun _ _ _ _ _ _ _ r h => by first | (cases h; done) | simp [bobbinref14_May.j0] at h, fun _ _ _ _ _ _ _ _ r h => by first | (cases h; done) | simp [bobbinref14_May.l0] at h, fun _ _ _ _ _ _ _ _ r h => by first | (cases h; done) | simp [bobbinref14_May.l1] at h⟩
 | k + 1 => by
  obtain ⟨ih0, ih1, ih2⟩ := bobbinref14_May.mono_l k
  refine ⟨?_, ?_, ?_⟩
  ·intro y0 y1 y2 y3 y4 y5 y6
   unfold bobbinref14_May.j0
   repeat' first
   | (with_reducible exact ih0 _ _ _ _ _ _ _)
   | (with_reducible exact ih1 _ _ _ _ _ _ _ _)
   | (with_reducible exact ih2 _ _ _ _ _ _ _ _)
   | (with_reducible exact LeO.refl _)
   | (with_reducible exact LeO.none _)
   | (with_reducible refine LeO.ite ?_ ?_)
   | (with_reducible refine LeO.bind ?_ (fun _ => ?_))
   | exact ih0 _ _ _ _ _ _ _
   | exact ih1 _ _ _ _ _ _ _ _
   | exact ih2 _ _ _ _ _ _ _ _
   | exact LeO.none _
   | refine LeO.ite ?_ ?_
   | refine LeO.bind ?_ (fun _ => ?_)
  ·intro y0 y1 y2 y3 y4 y5 y6 y7
   unfold bobbinref14_May.l0
   repeat' first
   | (with_reducible exact ih0 _ _ _ _ _ _ _)
   | (with_reducible exact ih1 _ _ _ _ _ _ _ _)
   | (with_reducible exact ih2 _ _ _ _ _ _ _ _)
   | (with_reducible exact LeO.refl _)
   | (with_reducible exact LeO.none _)
   | (with_reducible refine LeO.ite ?_ ?_)
   | (with_reducible refine LeO.bind ?_ (fun _ => ?_))
   | exact ih0 _ _ _ _ _ _ _
   | exact ih1 _ _ _ _ _ _ _ _
   | exact ih2 _ _ _ _ _ _ _ _
   | exact LeO.none _
   | refine LeO.ite ?_ ?_
   | refine LeO.bind ?_ (fun _ => ?_)
  ·intro y0 y1 y2 y3 y4 y5 y6 y7
   unfold bobbinref14_May.l1
   repeat' first
   | (with_reducible exact ih0 _ _ _ _ _ _ _)
   | (with_reducible exact ih1 _ _ _ _ _ _ _ _)
   | (with_reducible exact ih2 _ _ _ _ _ _ _ _)
   | (with_reducible exact LeO.refl _)
   | (with_reducible exact LeO.none _)
   | (with_reducible refine LeO.ite ?_ ?_)
   | (with_reducible refine LeO.bind ?_ (fun _ => ?_))
   | exact ih0 _ _ _ _ _ _ _
   | exact ih1 _ _ _ _ _ _ _ _
   | exact ih2 _ _ _ _ _ _ _ _
   | exact LeO.none _
   | refine LeO.ite ?_ ?_
   | refine LeO.bind ?_ (fun _ => ?_)
theorem bobbinref14_May.mono : ∀ a0 a1 a2 a3 a4 a5 k, LeO (bobbinref14_May.f k a0 a1 a2 a3 a4 a5) (bobbinref14_May.f (k + 1) a0 a1 a2 a3 a4 a5) := by
 intro a0 a1 a2 a3 a4 a5 k
 obtain ⟨ih0, ih1, ih2⟩ := bobbinref14_May.mono_l k
 unfold bobbinref14_May.f
 repeat' first
   | (with_reducible exact ih0 _ _ _ _ _ _ _)
   | (with_reducible exact ih1 _ _ _ _ _ _ _ _)
   | (with_reducible exact ih2 _ _ _ _ _ _ _ _)
   | (with_reducible exact LeO.refl _)
   | (with_reducible exact LeO.none _)
   | (with_reducible refine LeO.ite ?_ ?_)
   | (with_reducible refine LeO.bind ?_ (fun _ => ?_))
   | exact ih0 _ _ _ _ _ _ _
   | exact ih1 _ _ _ _ _ _ _ _
   | exact ih2 _ _ _ _ _ _ _ _
   | exact LeO.none _
   | refine LeO.ite ?_ ?_
   | refine LeO.bind ?_ (fun _ => ?_)
set_option maxHeartbeats 8000000 in
set_option maxRecDepth 100000 in
theorem bobbinref14_May.calls (k : Nat) (a0_0 : Int) (a0_1 : Int) (a0_2 : Int) (a0_3 : Int) (A0_4 : Option Addr) (c0_4 : Nat) (l0_4 : List (S30)) (A0_5 : Option Addr) (c0_5 : Nat) (l0_5 : List Int) (r : Bool) (w : World) (hr0_4 : Kd.C k30 w A0_4 l0_4.length l0_4) (hc0_4 : l0_4.length ≤ c0_4) (hr0_5 : Kd.C (Kd.int .i64) w A0_5 l0_5.length l0_5) (hc0_5 : l0_5.length ≤ c0_5) (h : bobbinref14_May.f k a0_0 a0_1 a0_2 a0_3 l0_4 l0_5 = some r) :
  Calls Try.prog 23 #[.agg #[.int .i64 a0_0, .int .i64 a0_1, .int .i64 a0_2, .int .i64 a0_3, .slice A0_4 l0_4.length c0_4, .slice A0_5 l0_5.length c0_5]] w fun e w' => e = .returned (.bool r) ∧ Below w.heap.size w w' := by
 have hu25 := Try.underlying25
 have hu30 := Try.underlying30
 have HR0_4 := Aside0.mk hr0_4
 have HC0_4 := Aside0.mk hc0_4
 clear hr0_4 hc0_4
 have HR0_5 := Aside0.mk hr0_5
 have HC0_5 := Aside0.mk hc0_5
 clear hr0_5 hc0_5
 have HB := Aside0.mk (Below.refl w.heap.size w)
 have H : (if a0_0 < 1 then (bobbinref14_May.j0 k true a0_0 a0_1 a0_2 a0_3 l0_4 l0_5) else (if a0_0 > 255 then (bobbinref14_May.j0 k true a0_0 a0_1 a0_2 a0_3 l0_4 l0_5) else (if a0_1 < 1 then (bobbinref14_May.j0 k true a0_0 a0_1 a0_2 a0_3 l0_4 l0_5) else (if a0_1 > 3 then (bobbinref14_May.j0 k true a0_0 a0_1 a0_2 a0_3 l0_4 l0_5) else (if a0_2 < 0 then (bobbinref14_May.j0 k true a0_0 a0_1 a0_2 a0_3 l0_4 l0_5) else (if a0_2 > 4294967295 then (bobbinref14_May.j0 k true a0_0 a0_1 a0_2 a0_3 l0_4 l0_5) else (if a0_3 < 0 then (bobbinref14_May.j0 k true a0_0 a0_1 a0_2 a0_3 l0_4 l0_5) else (if a0_3 > 4294967295 then (bobbinref14_May.j0 k true a0_0 a0_1 a0_2 a0_3 l0_4 l0_5) else (if (l0_4.length : Int) > 6 then (bobbinref14_May.j0 k true a0_0 a0_1 a0_2 a0_3 l0_4 l0_5) else (bobbinref14_May.j0 k (decide ((l0_5.length : Int) > 4)) a0_0 a0_1 a0_2 a0_3 l0_4 l0_5)))))))))) = some r := h
 clear h
 have HC2 := Aside0.mk H
 clear H
 go_enter Try.func23, Try.ntmps23
 go_upto_region 1 with (first | ((with_reducible refine gate_dst (N := 1) rfl ?_); (try (refine gate_guard (by rfl) ?_; dsimp only)); refine box_event ?hg (N := 1) ?hd (cs := #[.int .i64 a0_0, .int .i64 a0_1, .int .i64 a0_2, .int .i64 a0_3, .slice A0_4 l0_4.length c0_4, .slice A0_5 l0_5.length c0_5]) (t := 25) ?hr ?_; (case hd => rfl); (case hg => rfl); (case hr => first | (go_simp; done) | (go_simp; rfl)); intro gb267 hg w3 hbox hb; have n0_ := Aside0.mk (below_step (by repeat (first | (with_reducible first | exact HB.out | apply below_alloc | apply pw_below_drewN | apply below_drew1) | exact HB.out)) hb); have n1_ := Aside0.mk (hbox); have n2_ := Aside0.mk ((by rw [hg]; exact (below_size (by repeat (first | (with_reducible first | exact HB.out | apply below_alloc | apply pw_below_drewN | apply below_drew1) | exact HB.out))) : w.heap.size ≤ gb267)); have n3_ := n2_; clear HB; have HB := n0_; have BK267 := n1_; have GW267 := n2_; have GE267 := n3_; clear n0_ n1_ n2_ n3_; clear hb hbox hg))
 repeat (go_quiet (first | ((with_reducible refine gate_dst (N := 1) rfl ?_); (try (refine gate_guard (by rfl) ?_; dsimp only)); refine box_event ?hg (N := 1) ?hd (cs := #[.int .i64 a0_0, .int .i64 a0_1, .int .i64 a0_2, .int .i64 a0_3, .slice A0_4 l0_4.length c0_4, .slice A0_5 l0_5.length c0_5]) (t := 25) ?hr ?_; (case hd => rfl); (case hg => rfl); (case hr => first | (go_simp; done) | (go_simp; rfl)); intro gb267 hg w3 hbox hb; have n0_ := Aside0.mk (below_step (by repeat (first | (with_reducible first | exact HB.out | apply below_alloc | apply pw_below_drewN | apply below_drew1) | exact HB.out)) hb); have n1_ := Aside0.mk (hbox); have n2_ := Aside0.mk ((by rw [hg]; exact (below_size (by repeat (first | (with_reducible first | exact HB.out | apply below_alloc | apply pw_below_drewN | apply below_drew1) | exact HB.out))) : w.heap.size ≤ gb267)); have n3_ := n2_; clear HB; have HB := n0_; have BK267 := n1_; have GW267 := n2_; have GE267 := n3_; clear n0_ n1_ n2_ n3_; clear hb hbox hg)); go_upto_region 1 with (first | ((with_reducible refine gate_dst (N := 1) rfl ?_); (try (refine gate_guard (by rfl) ?_; dsimp only)); refine box_event ?hg (N := 1) ?hd (cs := #[.int .i64 a0_0, .int .i64 a0_1, .int .i64 a0_2, .int .i64 a0_3, .slice A0_4 l0_4.length c0_4, .slice A0_5 l0_5.length c0_5]) (t := 25) ?hr ?_; (case hd => rfl); (case hg => rfl); (case hr => first | (go_simp; done) | (go_simp; rfl)); intro gb267 hg w3 hbox hb; have n0_ := Aside0.mk (below_step (by repeat (first | (with_reducible first | exact HB.out | apply below_alloc | apply pw_below_drewN | apply below_drew1) | exact HB.out)) hb); have n1_ := Aside0.mk (hbox); have n2_ := Aside0.mk ((by rw [hg]; exact (below_size (by repeat (first | (with_reducible first | exact HB.out | apply below_alloc | apply pw_below_drewN | apply below_drew1) | exact HB.out))) : w.heap.size ≤ gb267)); have n3_ := n2_; clear HB; have HB := n0_; have BK267 := n1_; have GW267 := n2_; have GE267 := n3_; clear n0_ n1_ n2_ n3_; clear hb hbox hg)))
 (try simp only [Act.put, List.setIfInBounds_toArray, List.set_cons_zero, List.set_cons_succ])
 go_cut [57] (fun v57 wc => ∃ (kq : Nat) (x57_1 : Bool), v57 = .bool x57_1 ∧ Aside0 (bobbinref14_May.j0 kq x57_1 a0_0 a0_1 a0_2 a0_3 l0_4 l0_5 = some r) ∧ Aside0 (kq ≤ k) ∧ Aside0 (wc.heap[gb267]? = some (.cells #[.int .i64 a0_0, .int .i64 a0_1, .int .i64 a0_2, .int .i64 a0_3, (.slice A0_4 l0_4.length c0_4), (.slice A0_5 l0_5.length c0_5)] 25 (0, 0))) ∧ Aside0 (Below w.heap.size w wc))
 case first =>
  have H := HC2.out
  clear HC2
  by_cases c4 : a0_0 < 1
  ·rw [if_pos c4] at H
   have c4b0 : decide (a0_0 < 1) = true := decide_eq_true c4
   clear c4
   (first | rw [c4b0] | (simp only [i64_w, i32_w]; rw [c4b0]) | skip)
   have H' := Aside0.mk H
   clear H
   obtain ⟨hcz5_0, hcz5_1, hcz5_2, hcz5_3, hcz5_4, hcz5_5, hfz5_0, hfz5_1, hfz5_2, hfz5_3, hfz5_4, hfz5_5⟩ := six_cl BK267.out
   go_wp2
   repeat (go_quiet (fail); try go_wp2)
   go_meet
   case rel => exact ⟨_, (true), (by first | rfl | (simp; done) | (simp [*]; done)), H', ⟨by first | omega | exact Nat.le_refl _⟩, ⟨by (with_reducible repeat (first | refine blk_drewN ?_ _ | refine blk_drew ?_ | refine blk_alloc ?_ _)); exact BK267.out⟩, ⟨by repeat (first | (with_reducible first | exact HB.out | apply below_alloc | apply pw_below_drewN | apply below_drew1 | refine below_set ?_ GE267.out) | exact HB.out)⟩⟩
  ·rw [if_neg c4] at H
   have c4b0 : decide (a0_0 < 1) = false := decide_eq_false c4
   clear c4
   (first | rw [c4b0] | (simp only [i64_w, i32_w]; rw [c4b0]) | skip)
   by_cases c6 : a0_0 > 255
   ·rw [if_pos c6] at H
    have c6b0 : decide (255 < a0_0) = true := decide_eq_true c6
    clear c6
    have H' := Aside0.mk H
    clear H
    obtain ⟨hcz7_0, hcz7_1, hcz7_2, hcz7_3, hcz7_4, hcz7_5, hfz7_0, hfz7_1, hfz7_2, hfz7_3, hfz7_4, hfz7_5⟩ := six_cl BK267.out
    go_wp2
    repeat (go_quiet (fail); try go_wp2)
    go_meet
    case rel => exact ⟨_, (true), (by first | rfl | (simp; done) | (simp [*]; done)), H', ⟨by first | omega | exact Nat.le_refl _⟩, ⟨by (with_reducible repeat (first | refine blk_drewN ?_ _ | refine blk_drew ?_ | refine blk_alloc ?_ _)); exact BK267.out⟩, ⟨by repeat (first | (with_reducible first | exact HB.out | apply below_alloc | apply pw_below_drewN | apply below_drew1 | refine below_set ?_ GE267.out) | exact HB.out)⟩⟩
   ·rw [if_neg c6] at H
    have c6b0 : decide (255 < a0_0) = false := decide_eq_false c6
    clear c6
    by_cases c8 : a0_1 < 1
    ·rw [if_pos c8] at H
     have c8b0 : decide (a0_1 < 1) = true := decide_eq_true c8
     clear c8
     have H' := Aside0.mk H
     clear H
     obtain ⟨hcz9_0, hcz9_1, hcz9_2, hcz9_3, hcz9_4, hcz9_5, hfz9_0, hfz9_1, hfz9_2, hfz9_3, hfz9_4, hfz9_5⟩ := six_cl BK267.out
     go_wp2
     repeat (go_quiet (fail); try go_wp2)
     go_meet
     case rel => exact ⟨_, (true), (by first | rfl | (simp; done) | (simp [*]; done)), H', ⟨by first | omega | exact Nat.le_refl _⟩, ⟨by (with_reducible repeat (first | refine blk_drewN ?_ _ | refine blk_drew ?_ | refine blk_alloc ?_ _)); exact BK267.out⟩, ⟨by repeat (first | (with_reducible first | exact HB.out | apply below_alloc | apply pw_below_drewN | apply below_drew1 | refine below_set ?_ GE267.out) | exact HB.out)⟩⟩
    ·rw [if_neg c8] at H
     have c8b0 : decide (a0_1 < 1) = false := decide_eq_false c8
     clear c8
     by_cases c10 : a0_1 > 3
     ·rw [if_pos c10] at H
      have c10b0 : decide (3 < a0_1) = true := decide_eq_true c10
      clear c10
      have H' := Aside0.mk H
      clear H
      obtain ⟨hcz11_0, hcz11_1, hcz11_2, hcz11_3, hcz11_4, hcz11_5, hfz11_0, hfz11_1, hfz11_2, hfz11_3, hfz11_4, hfz11_5⟩ := six_cl BK267.out
      go_wp2
      repeat (go_quiet (fail); try go_wp2)
      go_meet
      case rel => exact ⟨_, (true), (by first | rfl | (simp; done) | (simp [*]; done)), H', ⟨by first | omega | exact Nat.le_refl _⟩, ⟨by (with_reducible repeat (first | refine blk_drewN ?_ _ | refine blk_drew ?_ | refine blk_alloc ?_ _)); exact BK267.out⟩, ⟨by repeat (first | (with_reducible first | exact HB.out | apply below_alloc | apply pw_below_drewN | apply below_drew1 | refine below_set ?_ GE267.out) | exact HB.out)⟩⟩
     ·rw [if_neg c10] at H
      have c10b0 : decide (3 < a0_1) = false := decide_eq_false c10
      clear c10
      by_cases c12 : a0_2 < 0
      ·rw [if_pos c12] at H
       have c12b0 : decide (a0_2 < 0) = true := decide_eq_true c12
       clear c12
       have H' := Aside0.mk H
       clear H
       obtain ⟨hcz13_0, hcz13_1, hcz13_2, hcz13_3, hcz13_4, hcz13_5, hfz13_0, hfz13_1, hfz13_2, hfz13_3, hfz13_4, hfz13_5⟩ := six_cl BK267.out
       go_wp2
       repeat (go_quiet (fail); try go_wp2)
       go_meet
       case rel => exact ⟨_, (true), (by first | rfl | (simp; done) | (simp [*]; done)), H', ⟨by first | omega | exact Nat.le_refl _⟩, ⟨by (with_reducible repeat (first | refine blk_drewN ?_ _ | refine blk_drew ?_ | refine blk_alloc ?_ _)); exact BK267.out⟩, ⟨by repeat (first | (with_reducible first | exact HB.out | apply below_alloc | apply pw_below_drewN | apply below_drew1 | refine below_set ?_ GE267.out) | exact HB.out)⟩⟩
      ·rw [if_neg c12] at H
       have c12b0 : decide (a0_2 < 0) = false := decide_eq_false c12
       clear c12
       by_cases c14 : a0_2 > 4294967295
       ·rw [if_pos c14] at H
        have c14b0 : decide (4294967295 < a0_2) = true := decide_eq_true c14
        clear c14
        have H' := Aside0.mk H
        clear H
        obtain ⟨hcz15_0, hcz15_1, hcz15_2, hcz15_3, hcz15_4, hcz15_5, hfz15_0, hfz15_1, hfz15_2, hfz15_3, hfz15_4, hfz15_5⟩ := six_cl BK267.out
        go_wp2
        repeat (go_quiet (fail); try go_wp2)
        go_meet
        case rel => exact ⟨_, (true), (by first | rfl | (simp; done) | (simp [*]; done)), H', ⟨by first | omega | exact Nat.le_refl _⟩, ⟨by (with_reducible repeat (first | refine blk_drewN ?_ _ | refine blk_drew ?_ | refine blk_alloc ?_ _)); exact BK267.out⟩, ⟨by repeat (first | (with_reducible first | exact HB.out | apply below_alloc | apply pw_below_drewN | apply below_drew1 | refine below_set ?_ GE267.out) | exact HB.out)⟩⟩
       ·rw [if_neg c14] at H
        have c14b0 : decide (4294967295 < a0_2) = false := decide_eq_false c14
        clear c14
        by_cases c16 : a0_3 < 0
        ·rw [if_pos c16] at H
         have c16b0 : decide (a0_3 < 0) = true := decide_eq_true c16
         clear c16
         have H' := Aside0.mk H
         clear H
         obtain ⟨hcz17_0, hcz17_1, hcz17_2, hcz17_3, hcz17_4, hcz17_5, hfz17_0, hfz17_1, hfz17_2, hfz17_3, hfz17_4, hfz17_5⟩ := six_cl BK267.out
         go_wp2
         repeat (go_quiet (fail); try go_wp2)
         go_meet
         case rel => exact ⟨_, (true), (by first | rfl | (simp; done) | (simp [*]; done)), H', ⟨by first | omega | exact Nat.le_refl _⟩, ⟨by (with_reducible repeat (first | refine blk_drewN ?_ _ | refine blk_drew ?_ | refine blk_alloc ?_ _)); exact BK267.out⟩, ⟨by repeat (first | (with_reducible first | exact HB.out | apply below_alloc | apply pw_below_drewN | apply below_drew1 | refine below_set ?_ GE267.out) | exact HB.out)⟩⟩
        ·rw [if_neg c16] at H
         have c16b0 : decide (a0_3 < 0) = false := decide_eq_false c16
         clear c16
         by_cases c18 : a0_3 > 4294967295
         ·rw [if_pos c18] at H
          have c18b0 : decide (4294967295 < a0_3) = true := decide_eq_true c18
          clear c18
          have H' := Aside0.mk H
          clear H
          obtain ⟨hcz19_0, hcz19_1, hcz19_2, hcz19_3, hcz19_4, hcz19_5, hfz19_0, hfz19_1, hfz19_2, hfz19_3, hfz19_4, hfz19_5⟩ := six_cl BK267.out
          go_wp2
          repeat (go_quiet (fail); try go_wp2)
          go_meet
          case rel => exact ⟨_, (true), (by first | rfl | (simp; done) | (simp [*]; done)), H', ⟨by first | omega | exact Nat.le_refl _⟩, ⟨by (with_reducible repeat (first | refine blk_drewN ?_ _ | refine blk_drew ?_ | refine blk_alloc ?_ _)); exact BK267.out⟩, ⟨by repeat (first | (with_reducible first | exact HB.out | apply below_alloc | apply pw_below_drewN | apply below_drew1 | refine below_set ?_ GE267.out) | exact HB.out)⟩⟩
         ·rw [if_neg c18] at H
          have c18b0 : decide (4294967295 < a0_3) = false := decide_eq_false c18
          clear c18
          by_cases c20 : (l0_4.length : Int) > 6
          ·rw [if_pos c20] at H
           have c20b0 : decide (6 < (l0_4.length : Int)) = true := decide_eq_true c20
           have c20b1 : decide (6 < l0_4.length) = true := decide_eq_true (by omega)
           clear c20
           have H' := Aside0.mk H
           clear H
           obtain ⟨hcz21_0, hcz21_1, hcz21_2, hcz21_3, hcz21_4, hcz21_5, hfz21_0, hfz21_1, hfz21_2, hfz21_3, hfz21_4, hfz21_5⟩ := six_cl BK267.out
           go_wp2
           repeat (go_quiet (fail); try go_wp2)
           go_meet
           case rel => exact ⟨_, (true), (by first | rfl | (simp; done) | (simp [*]; done)), H', ⟨by first | omega | exact Nat.le_refl _⟩, ⟨by (with_reducible repeat (first | refine blk_drewN ?_ _ | refine blk_drew ?_ | refine blk_alloc ?_ _)); exact BK267.out⟩, ⟨by repeat (first | (with_reducible first | exact HB.out | apply below_alloc | apply pw_below_drewN | apply below_drew1 | refine below_set ?_ GE267.out) | exact HB.out)⟩⟩
          ·rw [if_neg c20] at H
           have c20b0 : decide (6 < (l0_4.length : Int)) = false := decide_eq_false c20
           have c20b1 : decide (6 < l0_4.length) = false := decide_eq_false (by omega)
           clear c20
           have H' := Aside0.mk H
           clear H
           obtain ⟨hcz22_0, hcz22_1, hcz22_2, hcz22_3, hcz22_4, hcz22_5, hfz22_0, hfz22_1, hfz22_2, hfz22_3, hfz22_4, hfz22_5⟩ := six_cl BK267.out
           go_wp2
           repeat (go_quiet (fail); try go_wp2)
           go_meet
           case rel => exact ⟨_, (decide ((l0_5.length : Int) > 4)), (by first | rfl | (simp; done) | (simp [*]; done)), H', ⟨by first | omega | exact Nat.le_refl _⟩, ⟨by (with_reducible repeat (first | refine blk_drewN ?_ _ | refine blk_drew ?_ | refine blk_alloc ?_ _)); exact BK267.out⟩, ⟨by repeat (first | (with_reducible first | exact HB.out | apply below_alloc | apply pw_below_drewN | apply below_drew1 | refine below_set ?_ GE267.out) | exact HB.out)⟩⟩
 case rest =>
  clear HC2
  try clear c1
  try clear c2
  try clear p2
  try clear c4
  try clear c4b0
  try clear c6
  try clear c6b0
  try clear c8
  try clear c8b0
  try clear c10
  try clear c10b0
  try clear c12
  try clear c12b0
  try clear c14
  try clear c14b0
  try clear c16
  try clear c16b0
  try clear c18
  try clear c18b0
  try clear c20
  try clear c20b0
  try clear c20b1
  try clear hcz11_0
  try clear hcz11_1
  try clear hcz11_2
  try clear hcz11_3
  try clear hcz11_4
  try clear hcz11_5
  try clear hcz13_0
  try clear hcz13_1
  try clear hcz13_2
  try clear hcz13_3
  try clear hcz13_4
  try clear hcz13_5
  try clear hcz15_0
  try clear hcz15_1
  try clear hcz15_2
  try clear hcz15_3
  try clear hcz15_4
  try clear hcz15_5
  try clear hcz17_0
  try clear hcz17_1
  try clear hcz17_2
  try clear hcz17_3
  try clear hcz17_4
  try clear hcz17_5
  try clear hcz19_0
  try clear hcz19_1
  try clear hcz19_2
  try clear hcz19_3
  try clear hcz19_4
  try clear hcz19_5
  try clear hcz21_0
  try clear hcz21_1
  try clear hcz21_2
  try clear hcz21_3
  try clear hcz21_4
  try clear hcz21_5
  try clear hcz22_0
  try clear hcz22_1
  try clear hcz22_2
  try clear hcz22_3
  try clear hcz22_4
  try clear hcz22_5
  try clear hcz5_0
  try clear hcz5_1
  try clear hcz5_2
  try clear hcz5_3
  try clear hcz5_4
  try clear hcz5_5
  try clear hcz7_0
  try clear hcz7_1
  try clear hcz7_2
  try clear hcz7_3
  try clear hcz7_4
  try clear hcz7_5
  try clear hcz9_0
  try clear hcz9_1
  try clear hcz9_2
  try clear hcz9_3
  try clear hcz9_4
  try clear hcz9_5
  try clear hfz11_0
  try clear hfz11_1
  try clear hfz11_2
  try clear hfz11_3
  try clear hfz11_4
  try clear hfz11_5
  try clear hfz13_0
  try clear hfz13_1
  try clear hfz13_2
  try clear hfz13_3
  try clear hfz13_4
  try clear hfz13_5
  try clear hfz15_0
  try clear hfz15_1
  try clear hfz15_2
  try clear hfz15_3
  try clear hfz15_4
  try clear hfz15_5
  try clear hfz17_0
  try clear hfz17_1
  try clear hfz17_2
  try clear hfz17_3
  try clear hfz17_4
  try clear hfz17_5
  try clear hfz19_0
  try clear hfz19_1
  try clear hfz19_2
  try clear hfz19_3
  try clear hfz19_4
  try clear hfz19_5
  try clear hfz21_0
  try clear hfz21_1
  try clear hfz21_2
  try clear hfz21_3
  try clear hfz21_4
  try clear hfz21_5
  try clear hfz22_0
  try clear hfz22_1
  try clear hfz22_2
  try clear hfz22_3
  try clear hfz22_4
  try clear hfz22_5
  try clear hfz5_0
  try clear hfz5_1
  try clear hfz5_2
  try clear hfz5_3
  try clear hfz5_4
  try clear hfz5_5
  try clear hfz7_0
  try clear hfz7_1
  try clear hfz7_2
  try clear hfz7_3
  try clear hfz7_4
  try clear hfz7_5
  try clear hfz9_0
  try clear hfz9_1
  try clear hfz9_2
  try clear hfz9_3
  try clear hfz9_4
  try clear hfz9_5
  obtain ⟨kq, x57_1, rfl, HA, HJ1, BK267, HB⟩ := hcut
  cases kq with
  | zero => exact absurd HA.out (by first | (intro h_; cases h_; done) | simp [bobbinref14_May.j0])
  | succ kj1 =>
   have H := HA.out
   clear HA
   rw [bobbinref14_May.j0_eq] at H
   by_cases c23 : x57_1 = true
   ·subst c23
    have H1 : (some false) = some r := by rw [if_pos rfl] at H; exact H
    clear H
    have H := H1
    clear H1
    obtain rfl := Option.some.inj H
    go_wp2
    repeat (go_quiet (fail); try go_wp2)
    go_ret
    exact ⟨by first | rfl | (simp [errW_none, errW_some] <;> rfl) | (simp [*, errW_none, errW_some] <;> rfl), by repeat (first | (with_reducible first | exact HB.out | apply below_alloc | apply pw_below_drewN | apply below_drew1 | refine below_set ?_ GE267.out) | exact HB.out)⟩
   ·replace c23 := Bool.eq_false_iff.mpr c23
    subst c23
    have H1 : (bobbinref14_May.l0 kj1 0 0 a0_0 a0_1 a0_2 a0_3 l0_4 l0_5) = some r := by rw [if_neg (show ¬ (false = true) by decide)] at H; exact H
    clear H
    have H := H1
    clear H1
    have H' := Aside0.mk H
    clear H
    go_wp2
    repeat (go_quiet (fail); try go_wp2)
    go_loopg [3, 4] kj1 (fun kq v3 v4 w' => ∃ (x3_2 : Int) (x4_2 : Int), v3 = .int .i64 x3_2 ∧ v4 = .int .i64 x4_2 ∧ Aside0 (bobbinref14_May.l0 kq x3_2 x4_2 a0_0 a0_1 a0_2 a0_3 l0_4 l0_5 = some r) ∧ Aside0 (kq ≤ kj1) ∧ Aside0 (w'.heap[gb267]? = some (.cells #[.int .i64 a0_0, .int .i64 a0_1, .int .i64 a0_2, .int .i64 a0_3, (.slice A0_4 l0_4.length c0_4), (.slice A0_5 l0_5.length c0_5)] 25 (0, 0))) ∧ Aside0 (Below w.heap.size w w'))
    case atStart => exact ⟨(0), (0), (by first | rfl | (simp; done) | (simp [*]; done)), (by first | rfl | (simp; done) | (simp [*]; done)), H', ⟨Nat.le_refl _⟩, ⟨by (with_reducible repeat (first | refine blk_drewN ?_ _ | refine blk_drew ?_ | refine blk_alloc ?_ _)); exact BK267.out⟩, ⟨by repeat (first | (with_reducible first | exact HB.out | apply below_alloc | apply pw_below_drewN | apply below_drew1 | refine below_set ?_ GE267.out) | exact HB.out)⟩⟩
    case round =>
     clear H'
     try clear c1
     try clear c2
     try clear p2
     try clear c4
     try clear c4b0
     try clear c6
     try clear c6b0
     try clear c8
     try clear c8b0
     try clear c10
     try clear c10b0
     try clear c12
     try clear c12b0
     try clear c14
     try clear c14b0
     try clear c16
     try clear c16b0
     try clear c18
     try clear c18b0
     try clear c20
     try clear c20b0
     try clear c20b1
     try clear c23
     try clear hcz11_0
     try clear hcz11_1
     try clear hcz11_2
     try clear hcz11_3
     try clear hcz11_4
     try clear hcz11_5
     try clear hcz13_0
     try clear hcz13_1
     try clear hcz13_2
     try clear hcz13_3
     try clear hcz13_4
     try clear hcz13_5
     try clear hcz15_0
     try clear hcz15_1
     try clear hcz15_2
     try clear hcz15_3
     try clear hcz15_4
     try clear hcz15_5
     try clear hcz17_0
     try clear hcz17_1
     try clear hcz17_2
     try clear hcz17_3
     try clear hcz17_4
     try clear hcz17_5
     try clear hcz19_0
     try clear hcz19_1
     try clear hcz19_2
     try clear hcz19_3
     try clear hcz19_4
     try clear hcz19_5
     try clear hcz21_0
     try clear hcz21_1
     try clear hcz21_2
     try clear hcz21_3
     try clear hcz21_4
     try clear hcz21_5
     try clear hcz22_0
     try clear hcz22_1
     try clear hcz22_2
     try clear hcz22_3
     try clear hcz22_4
     try clear hcz22_5
     try clear hcz5_0
     try clear hcz5_1
     try clear hcz5_2
     try clear hcz5_3
     try clear hcz5_4
     try clear hcz5_5
     try clear hcz7_0
     try clear hcz7_1
     try clear hcz7_2
     try clear hcz7_3
     try clear hcz7_4
     try clear hcz7_5
     try clear hcz9_0
     try clear hcz9_1
     try clear hcz9_2
     try clear hcz9_3
     try clear hcz9_4
     try clear hcz9_5
     try clear hfz11_0
     try clear hfz11_1
     try clear hfz11_2
     try clear hfz11_3
     try clear hfz11_4
     try clear hfz11_5
     try clear hfz13_0
     try clear hfz13_1
     try clear hfz13_2
     try clear hfz13_3
     try clear hfz13_4
     try clear hfz13_5
     try clear hfz15_0
     try clear hfz15_1
     try clear hfz15_2
     try clear hfz15_3
     try clear hfz15_4
     try clear hfz15_5
     try clear hfz17_0
     try clear hfz17_1
     try clear hfz17_2
     try clear hfz17_3
     try clear hfz17_4
     try clear hfz17_5
     try clear hfz19_0
     try clear hfz19_1
     try clear hfz19_2
     try clear hfz19_3
     try clear hfz19_4
     try clear hfz19_5
     try clear hfz21_0
     try clear hfz21_1
     try clear hfz21_2
     try clear hfz21_3
     try clear hfz21_4
     try clear hfz21_5
     try clear hfz22_0
     try clear hfz22_1
     try clear hfz22_2
     try clear hfz22_3
     try clear hfz22_4
     try clear hfz22_5
     try clear hfz5_0
     try clear hfz5_1
     try clear hfz5_2
     try clear hfz5_3
     try clear hfz5_4
     try clear hfz5_5
     try clear hfz7_0
     try clear hfz7_1
     try clear hfz7_2
     try clear hfz7_3
     try clear hfz7_4
     try clear hfz7_5
     try clear hfz9_0
     try clear hfz9_1
     try clear hfz9_2
     try clear hfz9_3
     try clear hfz9_4
     try clear hfz9_5
     try clear p2
     obtain ⟨x3_2, x4_2, rfl, rfl, HA, HK2, BK267, HB⟩ := hrel
     cases gk with
     | zero => exact absurd HA.out (by first | (intro h_; cases h_; done) | simp [bobbinref14_May.l0])
     | succ k2 =>
      have H := HA.out
      clear HA
      rw [bobbinref14_May.l0_eq] at H
      by_cases c24 : x4_2 < (l0_4.length : Int)
      ·rw [if_pos c24] at H
       have c24b0 : decide (x4_2 < (l0_4.length : Int)) = true := decide_eq_true c24
       clear c24
       by_cases c25 : 0 ≤ x4_2
       ·rw [if_pos c25] at H
        have c25b0 : decide (0 ≤ x4_2) = true := decide_eq_true c25
        clear c25
        replace H := Option.bind_eq_some_iff.mp H
        obtain ⟨t269, A260, H⟩ := H
        replace H : (if t269 = true then (if ((rd_T30 l0_4 x4_2).f0) ≤ x3_2 then (some false) else (bobbinref14_May.l0 k2 ((rd_T30 l0_4 x4_2).f0) (wrap64 (x4_2 + 1)) a0_0 a0_1 a0_2 a0_3 l0_4 l0_5)) else (some false)) = some r := H
        have A26 := Aside0.mk A260
        clear A260
        by_cases c27 : t269 = true
        ·subst c27
         have H1 : (if ((rd_T30 l0_4 x4_2).f0) ≤ x3_2 then (some false) else (bobbinref14_May.l0 k2 ((rd_T30 l0_4 x4_2).f0) (wrap64 (x4_2 + 1)) a0_0 a0_1 a0_2 a0_3 l0_4 l0_5)) = some r := by rw [if_pos rfl] at H; exact H
         clear H
         have H := H1
         clear H1
         by_cases c28 : ((rd_T30 l0_4 x4_2).f0) ≤ x3_2
         ·rw [if_pos c28] at H
          have c28b0 : decide (((rd_T30 l0_4 x4_2).f0) ≤ x3_2) = true := decide_eq_true c28
          clear c28
          obtain rfl := Option.some.inj H
          obtain ⟨hcz29_0, hcz29_1, hcz29_2, hcz29_3, hcz29_4, hcz29_5, hfz29_0, hfz29_1, hfz29_2, hfz29_3, hfz29_4, hfz29_5⟩ := six_cl BK267.out
          have p268 : 0 ≤ (x4_2 : Int) := of_decide_eq_true (by first | (with_reducible assumption) | assumption)
          have q268 : x4_2 < (l0_4.length : Int) := of_decide_eq_true (by first | (with_reducible assumption) | assumption)
          obtain ⟨ad268, A268_4, c268_4, A268_6, c268_6, e268, hx268_0, hx268_1, hx268_2, hx268_3, hx268_4, hx268_5, hx268_6, hl268_4, hi268_4, hl268_6, hi268_6⟩ := at_T30 HR0_4.out x4_2 p268 q268
          cases e268
          replace hx268_0 := (HB.out.cell (World.block_lt_of_cell? w _ hx268_0)).trans hx268_0
          replace hx268_1 := (HB.out.cell (World.block_lt_of_cell? w _ hx268_1)).trans hx268_1
          replace hx268_2 := (HB.out.cell (World.block_lt_of_cell? w _ hx268_2)).trans hx268_2
          replace hx268_3 := (HB.out.cell (World.block_lt_of_cell? w _ hx268_3)).trans hx268_3
          replace hx268_4 := (HB.out.cell (World.block_lt_of_cell? w _ hx268_4)).trans hx268_4
          replace hx268_5 := (HB.out.cell (World.block_lt_of_cell? w _ hx268_5)).trans hx268_5
          replace hx268_6 := (HB.out.cell (World.block_lt_of_cell? w _ hx268_6)).trans hx268_6
          have HR268_4 := Aside0.mk hi268_4
          have HC268_4 := Aside0.mk hl268_4
          clear hi268_4 hl268_4
          have HR268_6 := Aside0.mk hi268_6
          have HC268_6 := Aside0.mk hl268_6
          clear hi268_6 hl268_6
          replace p268 := eq_true p268
          replace q268 := eq_true q268
          go_wp2_with (first | (go_at_call 34; (with_reducible refine (bobbinref14_Change.calls ((rd_T30 l0_4 x4_2).f0) ((rd_T30 l0_4 x4_2).f1) ((rd_T30 l0_4 x4_2).f2) ((rd_T30 l0_4 x4_2).f3.f0) _ _ ((rd_T30 l0_4 x4_2).f3.f1) ((rd_T30 l0_4 x4_2).f4.f0) _ _ ((rd_T30 l0_4 x4_2).f4.f1) true _ ?side1 ?side2 ?side3 ?side4 A26.out).mono ?_); (case side1 => repeat (first | exact (Kd.C_below HR268_4.out HB.out) | (with_reducible refine Kd.C_alloc ?_ _) | (with_reducible refine Kd.C_drewN ?_ _) | (with_reducible refine Kd.C_drew ?_))); (case side2 => exact HC268_4.out); (case side3 => repeat (first | exact (Kd.C_below HR268_6.out HB.out) | (with_reducible refine Kd.C_alloc ?_ _) | (with_reducible refine Kd.C_drewN ?_ _) | (with_reducible refine Kd.C_drew ?_))); (case side4 => exact HC268_6.out); rintro e w30 ⟨rfl, hb⟩; have n0_ := Aside0.mk (blk_below (by (with_reducible repeat (first | refine blk_drewN ?_ _ | refine blk_drew ?_ | refine blk_alloc ?_ _)); exact BK267.out) hb); have n1_ := Aside0.mk (below_step (by repeat (first | (with_reducible first | exact HB.out | apply below_alloc | apply pw_below_drewN | apply below_drew1 | refine below_set ?_ GE267.out) | exact HB.out)) hb); clear BK267; clear HB; have BK267 := n0_; have HB := n1_; clear n0_ n1_; (try clear hb); (try clear hb2); (try clear hk); (try clear hi); obtain ⟨hcz31_0, hcz31_1, hcz31_2, hcz31_3, hcz31_4, hcz31_5, hfz31_0, hfz31_1, hfz31_2, hfz31_3, hfz31_4, hfz31_5⟩ := six_cl BK267.out; have p270 : 0 ≤ (x4_2 : Int) := of_decide_eq_true (by first | (with_reducible assumption) | assumption); have q270 : x4_2 < (l0_4.length : Int) := of_decide_eq_true (by first | (with_reducible assumption) | assumption); obtain ⟨ad270, A270_4, c270_4, A270_6, c270_6, e270, hx270_0, hx270_1, hx270_2, hx270_3, hx270_4, hx270_5, hx270_6, hl270_4, hi270_4, hl270_6, hi270_6⟩ := at_T30 HR0_4.out x4_2 p270 q270; obtain rfl : ad268 = ad270 := (by injection e270); replace hx270_0 := (HB.out.cell (World.block_lt_of_cell? w _ hx270_0)).trans hx270_0; replace hx270_1 := (HB.out.cell (World.block_lt_of_cell? w _ hx270_1)).trans hx270_1; replace hx270_2 := (HB.out.cell (World.block_lt_of_cell? w _ hx270_2)).trans hx270_2; replace hx270_3 := (HB.out.cell (World.block_lt_of_cell? w _ hx270_3)).trans hx270_3; replace hx270_4 := (HB.out.cell (World.block_lt_of_cell? w _ hx270_4)).trans hx270_4; replace hx270_5 := (HB.out.cell (World.block_lt_of_cell? w _ hx270_5)).trans hx270_5; replace hx270_6 := (HB.out.cell (World.block_lt_of_cell? w _ hx270_6)).trans hx270_6; have HR270_4 := Aside0.mk hi270_4; have HC270_4 := Aside0.mk hl270_4; clear hi270_4 hl270_4; have HR270_6 := Aside0.mk hi270_6; have HC270_6 := Aside0.mk hl270_6; clear hi270_6 hl270_6; replace p270 := eq_true p270; replace q270 := eq_true q270))
          repeat (go_quiet (first | (go_at_call 34; (with_reducible refine (bobbinref14_Change.calls ((rd_T30 l0_4 x4_2).f0) ((rd_T30 l0_4 x4_2).f1) ((rd_T30 l0_4 x4_2).f2) ((rd_T30 l0_4 x4_2).f3.f0) _ _ ((rd_T30 l0_4 x4_2).f3.f1) ((rd_T30 l0_4 x4_2).f4.f0) _ _ ((rd_T30 l0_4 x4_2).f4.f1) true _ ?side1 ?side2 ?side3 ?side4 A26.out).mono ?_); (case side1 => repeat (first | exact (Kd.C_below HR268_4.out HB.out) | (with_reducible refine Kd.C_alloc ?_ _) | (with_reducible refine Kd.C_drewN ?_ _) | (with_reducible refine Kd.C_drew ?_))); (case side2 => exact HC268_4.out); (case side3 => repeat (first | exact (Kd.C_below HR268_6.out HB.out) | (with_reducible refine Kd.C_alloc ?_ _) | (with_reducible refine Kd.C_drewN ?_ _) | (with_reducible refine Kd.C_drew ?_))); (case side4 => exact HC268_6.out); rintro e w30 ⟨rfl, hb⟩; have n0_ := Aside0.mk (blk_below (by (with_reducible repeat (first | refine blk_drewN ?_ _ | refine blk_drew ?_ | refine blk_alloc ?_ _)); exact BK267.out) hb); have n1_ := Aside0.mk (below_step (by repeat (first | (with_reducible first | exact HB.out | apply below_alloc | apply pw_below_drewN | apply below_drew1 | refine below_set ?_ GE267.out) | exact HB.out)) hb); clear BK267; clear HB; have BK267 := n0_; have HB := n1_; clear n0_ n1_; (try clear hb); (try clear hb2); (try clear hk); (try clear hi); obtain ⟨hcz31_0, hcz31_1, hcz31_2, hcz31_3, hcz31_4, hcz31_5, hfz31_0, hfz31_1, hfz31_2, hfz31_3, hfz31_4, hfz31_5⟩ := six_cl BK267.out; have p270 : 0 ≤ (x4_2 : Int) := of_decide_eq_true (by first | (with_reducible assumption) | assumption); have q270 : x4_2 < (l0_4.length : Int) := of_decide_eq_true (by first | (with_reducible assumption) | assumption); obtain ⟨ad270, A270_4, c270_4, A270_6, c270_6, e270, hx270_0, hx270_1, hx270_2, hx270_3, hx270_4, hx270_5, hx270_6, hl270_4, hi270_4, hl270_6, hi270_6⟩ := at_T30 HR0_4.out x4_2 p270 q270; obtain rfl : ad268 = ad270 := (by injection e270); replace hx270_0 := (HB.out.cell (World.block_lt_of_cell? w _ hx270_0)).trans hx270_0; replace hx270_1 := (HB.out.cell (World.block_lt_of_cell? w _ hx270_1)).trans hx270_1; replace hx270_2 := (HB.out.cell (World.block_lt_of_cell? w _ hx270_2)).trans hx270_2; replace hx270_3 := (HB.out.cell (World.block_lt_of_cell? w _ hx270_3)).trans hx270_3; replace hx270_4 := (HB.out.cell (World.block_lt_of_cell? w _ hx270_4)).trans hx270_4; replace hx270_5 := (HB.out.cell (World.block_lt_of_cell? w _ hx270_5)).trans hx270_5; replace hx270_6 := (HB.out.cell (World.block_lt_of_cell? w _ hx270_6)).trans hx270_6; have HR270_4 := Aside0.mk hi270_4; have HC270_4 := Aside0.mk hl270_4; clear hi270_4 hl270_4; have HR270_6 := Aside0.mk hi270_6; have HC270_6 := Aside0.mk hl270_6; clear hi270_6 hl270_6; replace p270 := eq_true p270; replace q270 := eq_true q270)); try go_wp2_with (first | (go_at_call 34; (with_reducible refine (bobbinref14_Change.calls ((rd_T30 l0_4 x4_2).f0) ((rd_T30 l0_4 x4_2).f1) ((rd_T30 l0_4 x4_2).f2) ((rd_T30 l0_4 x4_2).f3.f0) _ _ ((rd_T30 l0_4 x4_2).f3.f1) ((rd_T30 l0_4 x4_2).f4.f0) _ _ ((rd_T30 l0_4 x4_2).f4.f1) true _ ?side1 ?side2 ?side3 ?side4 A26.out).mono ?_); (case side1 => repeat (first | exact (Kd.C_below HR268_4.out HB.out) | (with_reducible refine Kd.C_alloc ?_ _) | (with_reducible refine Kd.C_drewN ?_ _) | (with_reducible refine Kd.C_drew ?_))); (case side2 => exact HC268_4.out); (case side3 => repeat (first | exact (Kd.C_below HR268_6.out HB.out) | (with_reducible refine Kd.C_alloc ?_ _) | (with_reducible refine Kd.C_drewN ?_ _) | (with_reducible refine Kd.C_drew ?_))); (case side4 => exact HC268_6.out); rintro e w30 ⟨rfl, hb⟩; have n0_ := Aside0.mk (blk_below (by (with_reducible repeat (first | refine blk_drewN ?_ _ | refine blk_drew ?_ | refine blk_alloc ?_ _)); exact BK267.out) hb); have n1_ := Aside0.mk (below_step (by repeat (first | (with_reducible first | exact HB.out | apply below_alloc | apply pw_below_drewN | apply below_drew1 | refine below_set ?_ GE267.out) | exact HB.out)) hb); clear BK267; clear HB; have BK267 := n0_; have HB := n1_; clear n0_ n1_; (try clear hb); (try clear hb2); (try clear hk); (try clear hi); obtain ⟨hcz31_0, hcz31_1, hcz31_2, hcz31_3, hcz31_4, hcz31_5, hfz31_0, hfz31_1, hfz31_2, hfz31_3, hfz31_4, hfz31_5⟩ := six_cl BK267.out; have p270 : 0 ≤ (x4_2 : Int) := of_decide_eq_true (by first | (with_reducible assumption) | assumption); have q270 : x4_2 < (l0_4.length : Int) := of_decide_eq_true (by first | (with_reducible assumption) | assumption); obtain ⟨ad270, A270_4, c270_4, A270_6, c270_6, e270, hx270_0, hx270_1, hx270_2, hx270_3, hx270_4, hx270_5, hx270_6, hl270_4, hi270_4, hl270_6, hi270_6⟩ := at_T30 HR0_4.out x4_2 p270 q270; obtain rfl : ad268 = ad270 := (by injection e270); replace hx270_0 := (HB.out.cell (World.block_lt_of_cell? w _ hx270_0)).trans hx270_0; replace hx270_1 := (HB.out.cell (World.block_lt_of_cell? w _ hx270_1)).trans hx270_1; replace hx270_2 := (HB.out.cell (World.block_lt_of_cell? w _ hx270_2)).trans hx270_2; replace hx270_3 := (HB.out.cell (World.block_lt_of_cell? w _ hx270_3)).trans hx270_3; replace hx270_4 := (HB.out.cell (World.block_lt_of_cell? w _ hx270_4)).trans hx270_4; replace hx270_5 := (HB.out.cell (World.block_lt_of_cell? w _ hx270_5)).trans hx270_5; replace hx270_6 := (HB.out.cell (World.block_lt_of_cell? w _ hx270_6)).trans hx270_6; have HR270_4 := Aside0.mk hi270_4; have HC270_4 := Aside0.mk hl270_4; clear hi270_4 hl270_4; have HR270_6 := Aside0.mk hi270_6; have HC270_6 := Aside0.mk hl270_6; clear hi270_6 hl270_6; replace p270 := eq_true p270; replace q270 := eq_true q270)))
          go_ret
          exact ⟨by first | rfl | (simp [errW_none, errW_some] <;> rfl) | (simp [*, errW_none, errW_some] <;> rfl), by repeat (first | (with_reducible first | exact HB.out | apply below_alloc | apply pw_below_drewN | apply below_drew1 | refine below_set ?_ GE267.out) | exact HB.out)⟩
         ·rw [if_neg c28] at H
          have c28b0 : decide (((rd_T30 l0_4 x4_2).f0) ≤ x3_2) = false := decide_eq_false c28
          clear c28
          have H' := Aside0.mk H
          clear H
          obtain ⟨hcz32_0, hcz32_1, hcz32_2, hcz32_3, hcz32_4, hcz32_5, hfz32_0, hfz32_1, hfz32_2, hfz32_3, hfz32_4, hfz32_5⟩ := six_cl BK267.out
          have p268 : 0 ≤ (x4_2 : Int) := of_decide_eq_true (by first | (with_reducible assumption) | assumption)
          have q268 : x4_2 < (l0_4.length : Int) := of_decide_eq_true (by first | (with_reducible assumption) | assumption)
          obtain ⟨ad268, A268_4, c268_4, A268_6, c268_6, e268, hx268_0, hx268_1, hx268_2, hx268_3, hx268_4, hx268_5, hx268_6, hl268_4, hi268_4, hl268_6, hi268_6⟩ := at_T30 HR0_4.out x4_2 p268 q268
          cases e268
          replace hx268_0 := (HB.out.cell (World.block_lt_of_cell? w _ hx268_0)).trans hx268_0
          replace hx268_1 := (HB.out.cell (World.block_lt_of_cell? w _ hx268_1)).trans hx268_1
          replace hx268_2 := (HB.out.cell (World.block_lt_of_cell? w _ hx268_2)).trans hx268_2
          replace hx268_3 := (HB.out.cell (World.block_lt_of_cell? w _ hx268_3)).trans hx268_3
          replace hx268_4 := (HB.out.cell (World.block_lt_of_cell? w _ hx268_4)).trans hx268_4
          replace hx268_5 := (HB.out.cell (World.block_lt_of_cell? w _ hx268_5)).trans hx268_5
          replace hx268_6 := (HB.out.cell (World.block_lt_of_cell? w _ hx268_6)).trans hx268_6
          have HR268_4 := Aside0.mk hi268_4
          have HC268_4 := Aside0.mk hl268_4
          clear hi268_4 hl268_4
          have HR268_6 := Aside0.mk hi268_6
          have HC268_6 := Aside0.mk hl268_6
          clear hi268_6 hl268_6
          replace p268 := eq_true p268
          replace q268 := eq_true q268
          go_wp2_with (first | (go_at_call 34; (with_reducible refine (bobbinref14_Change.calls ((rd_T30 l0_4 x4_2).f0) ((rd_T30 l0_4 x4_2).f1) ((rd_T30 l0_4 x4_2).f2) ((rd_T30 l0_4 x4_2).f3.f0) _ _ ((rd_T30 l0_4 x4_2).f3.f1) ((rd_T30 l0_4 x4_2).f4.f0) _ _ ((rd_T30 l0_4 x4_2).f4.f1) true _ ?side1 ?side2 ?side3 ?side4 A26.out).mono ?_); (case side1 => repeat (first | exact (Kd.C_below HR268_4.out HB.out) | (with_reducible refine Kd.C_alloc ?_ _) | (with_reducible refine Kd.C_drewN ?_ _) | (with_reducible refine Kd.C_drew ?_))); (case side2 => exact HC268_4.out); (case side3 => repeat (first | exact (Kd.C_below HR268_6.out HB.out) | (with_reducible refine Kd.C_alloc ?_ _) | (with_reducible refine Kd.C_drewN ?_ _) | (with_reducible refine Kd.C_drew ?_))); (case side4 => exact HC268_6.out); rintro e w33 ⟨rfl, hb⟩; have n0_ := Aside0.mk (blk_below (by (with_reducible repeat (first | refine blk_drewN ?_ _ | refine blk_drew ?_ | refine blk_alloc ?_ _)); exact BK267.out) hb); have n1_ := Aside0.mk (below_step (by repeat (first | (with_reducible first | exact HB.out | apply below_alloc | apply pw_below_drewN | apply below_drew1 | refine below_set ?_ GE267.out) | exact HB.out)) hb); clear BK267; clear HB; have BK267 := n0_; have HB := n1_; clear n0_ n1_; (try clear hb); (try clear hb2); (try clear hk); (try clear hi); obtain ⟨hcz34_0, hcz34_1, hcz34_2, hcz34_3, hcz34_4, hcz34_5, hfz34_0, hfz34_1, hfz34_2, hfz34_3, hfz34_4, hfz34_5⟩ := six_cl BK267.out; have p270 : 0 ≤ (x4_2 : Int) := of_decide_eq_true (by first | (with_reducible assumption) | assumption); have q270 : x4_2 < (l0_4.length : Int) := of_decide_eq_true (by first | (with_reducible assumption) | assumption); obtain ⟨ad270, A270_4, c270_4, A270_6, c270_6, e270, hx270_0, hx270_1, hx270_2, hx270_3, hx270_4, hx270_5, hx270_6, hl270_4, hi270_4, hl270_6, hi270_6⟩ := at_T30 HR0_4.out x4_2 p270 q270; obtain rfl : ad268 = ad270 := (by injection e270); replace hx270_0 := (HB.out.cell (World.block_lt_of_cell? w _ hx270_0)).trans hx270_0; replace hx270_1 := (HB.out.cell (World.block_lt_of_cell? w _ hx270_1)).trans hx270_1; replace hx270_2 := (HB.out.cell (World.block_lt_of_cell? w _ hx270_2)).trans hx270_2; replace hx270_3 := (HB.out.cell (World.block_lt_of_cell? w _ hx270_3)).trans hx270_3; replace hx270_4 := (HB.out.cell (World.block_lt_of_cell? w _ hx270_4)).trans hx270_4; replace hx270_5 := (HB.out.cell (World.block_lt_of_cell? w _ hx270_5)).trans hx270_5; replace hx270_6 := (HB.out.cell (World.block_lt_of_cell? w _ hx270_6)).trans hx270_6; have HR270_4 := Aside0.mk hi270_4; have HC270_4 := Aside0.mk hl270_4; clear hi270_4 hl270_4; have HR270_6 := Aside0.mk hi270_6; have HC270_6 := Aside0.mk hl270_6; clear hi270_6 hl270_6; replace p270 := eq_true p270; replace q270 := eq_true q270; have p271 : 0 ≤ (x4_2 : Int) := of_decide_eq_true (by first | (with_reducible assumption) | assumption); have q271 : x4_2 < (l0_4.length : Int) := of_decide_eq_true (by first | (with_reducible assumption) | assumption); obtain ⟨ad271, A271_4, c271_4, A271_6, c271_6, e271, hx271_0, hx271_1, hx271_2, hx271_3, hx271_4, hx271_5, hx271_6, hl271_4, hi271_4, hl271_6, hi271_6⟩ := at_T30 HR0_4.out x4_2 p271 q271; obtain rfl : ad268 = ad271 := (by injection e271); replace hx271_0 := (HB.out.cell (World.block_lt_of_cell? w _ hx271_0)).trans hx271_0; replace hx271_1 := (HB.out.cell (World.block_lt_of_cell? w _ hx271_1)).trans hx271_1; replace hx271_2 := (HB.out.cell (World.block_lt_of_cell? w _ hx271_2)).trans hx271_2; replace hx271_3 := (HB.out.cell (World.block_lt_of_cell? w _ hx271_3)).trans hx271_3; replace hx271_4 := (HB.out.cell (World.block_lt_of_cell? w _ hx271_4)).trans hx271_4; replace hx271_5 := (HB.out.cell (World.block_lt_of_cell? w _ hx271_5)).trans hx271_5; replace hx271_6 := (HB.out.cell (World.block_lt_of_cell? w _ hx271_6)).trans hx271_6; have HR271_4 := Aside0.mk hi271_4; have HC271_4 := Aside0.mk hl271_4; clear hi271_4 hl271_4; have HR271_6 := Aside0.mk hi271_6; have HC271_6 := Aside0.mk hl271_6; clear hi271_6 hl271_6; replace p271 := eq_true p271; replace q271 := eq_true q271; have ea_ := Option.some.inj (hx270_4.symm.trans hx271_4); injection ea_ with ea_ en_ ec_; subst ea_; subst ec_; clear en_; have ea_ := Option.some.inj (hx270_6.symm.trans hx271_6); injection ea_ with ea_ en_ ec_; subst ea_; subst ec_; clear en_))
          repeat (go_quiet (first | (go_at_call 34; (with_reducible refine (bobbinref14_Change.calls ((rd_T30 l0_4 x4_2).f0) ((rd_T30 l0_4 x4_2).f1) ((rd_T30 l0_4 x4_2).f2) ((rd_T30 l0_4 x4_2).f3.f0) _ _ ((rd_T30 l0_4 x4_2).f3.f1) ((rd_T30 l0_4 x4_2).f4.f0) _ _ ((rd_T30 l0_4 x4_2).f4.f1) true _ ?side1 ?side2 ?side3 ?side4 A26.out).mono ?_); (case side1 => repeat (first | exact (Kd.C_below HR268_4.out HB.out) | (with_reducible refine Kd.C_alloc ?_ _) | (with_reducible refine Kd.C_drewN ?_ _) | (with_reducible refine Kd.C_drew ?_))); (case side2 => exact HC268_4.out); (case side3 => repeat (first | exact (Kd.C_below HR268_6.out HB.out) | (with_reducible refine Kd.C_alloc ?_ _) | (with_reducible refine Kd.C_drewN ?_ _) | (with_reducible refine Kd.C_drew ?_))); (case side4 => exact HC268_6.out); rintro e w33 ⟨rfl, hb⟩; have n0_ := Aside0.mk (blk_below (by (with_reducible repeat (first | refine blk_drewN ?_ _ | refine blk_drew ?_ | refine blk_alloc ?_ _)); exact BK267.out) hb); have n1_ := Aside0.mk (below_step (by repeat (first | (with_reducible first | exact HB.out | apply below_alloc | apply pw_below_drewN | apply below_drew1 | refine below_set ?_ GE267.out) | exact HB.out)) hb); clear BK267; clear HB; have BK267 := n0_; have HB := n1_; clear n0_ n1_; (try clear hb); (try clear hb2); (try clear hk); (try clear hi); obtain ⟨hcz34_0, hcz34_1, hcz34_2, hcz34_3, hcz34_4, hcz34_5, hfz34_0, hfz34_1, hfz34_2, hfz34_3, hfz34_4, hfz34_5⟩ := six_cl BK267.out; have p270 : 0 ≤ (x4_2 : Int) := of_decide_eq_true (by first | (with_reducible assumption) | assumption); have q270 : x4_2 < (l0_4.length : Int) := of_decide_eq_true (by first | (with_reducible assumption) | assumption); obtain ⟨ad270, A270_4, c270_4, A270_6, c270_6, e270, hx270_0, hx270_1, hx270_2, hx270_3, hx270_4, hx270_5, hx270_6, hl270_4, hi270_4, hl270_6, hi270_6⟩ := at_T30 HR0_4.out x4_2 p270 q270; obtain rfl : ad268 = ad270 := (by injection e270); replace hx270_0 := (HB.out.cell (World.block_lt_of_cell? w _ hx270_0)).trans hx270_0; replace hx270_1 := (HB.out.cell (World.block_lt_of_cell? w _ hx270_1)).trans hx270_1; replace hx270_2 := (HB.out.cell (World.block_lt_of_cell? w _ hx270_2)).trans hx270_2; replace hx270_3 := (HB.out.cell (World.block_lt_of_cell? w _ hx270_3)).trans hx270_3; replace hx270_4 := (HB.out.cell (World.block_lt_of_cell? w _ hx270_4)).trans hx270_4; replace hx270_5 := (HB.out.cell (World.block_lt_of_cell? w _ hx270_5)).trans hx270_5; replace hx270_6 := (HB.out.cell (World.block_lt_of_cell? w _ hx270_6)).trans hx270_6; have HR270_4 := Aside0.mk hi270_4; have HC270_4 := Aside0.mk hl270_4; clear hi270_4 hl270_4; have HR270_6 := Aside0.mk hi270_6; have HC270_6 := Aside0.mk hl270_6; clear hi270_6 hl270_6; replace p270 := eq_true p270; replace q270 := eq_true q270; have p271 : 0 ≤ (x4_2 : Int) := of_decide_eq_true (by first | (with_reducible assumption) | assumption); have q271 : x4_2 < (l0_4.length : Int) := of_decide_eq_true (by first | (with_reducible assumption) | assumption); obtain ⟨ad271, A271_4, c271_4, A271_6, c271_6, e271, hx271_0, hx271_1, hx271_2, hx271_3, hx271_4, hx271_5, hx271_6, hl271_4, hi271_4, hl271_6, hi271_6⟩ := at_T30 HR0_4.out x4_2 p271 q271; obtain rfl : ad268 = ad271 := (by injection e271); replace hx271_0 := (HB.out.cell (World.block_lt_of_cell? w _ hx271_0)).trans hx271_0; replace hx271_1 := (HB.out.cell (World.block_lt_of_cell? w _ hx271_1)).trans hx271_1; replace hx271_2 := (HB.out.cell (World.block_lt_of_cell? w _ hx271_2)).trans hx271_2; replace hx271_3 := (HB.out.cell (World.block_lt_of_cell? w _ hx271_3)).trans hx271_3; replace hx271_4 := (HB.out.cell (World.block_lt_of_cell? w _ hx271_4)).trans hx271_4; replace hx271_5 := (HB.out.cell (World.block_lt_of_cell? w _ hx271_5)).trans hx271_5; replace hx271_6 := (HB.out.cell (World.block_lt_of_cell? w _ hx271_6)).trans hx271_6; have HR271_4 := Aside0.mk hi271_4; have HC271_4 := Aside0.mk hl271_4; clear hi271_4 hl271_4; have HR271_6 := Aside0.mk hi271_6; have HC271_6 := Aside0.mk hl271_6; clear hi271_6 hl271_6; replace p271 := eq_true p271; replace q271 := eq_true q271; have ea_ := Option.some.inj (hx270_4.symm.trans hx271_4); injection ea_ with ea_ en_ ec_; subst ea_; subst ec_; clear en_; have ea_ := Option.some.inj (hx270_6.symm.trans hx271_6); injection ea_ with ea_ en_ ec_; subst ea_; subst ec_; clear en_)); try go_wp2_with (first | (go_at_call 34; (with_reducible refine (bobbinref14_Change.calls ((rd_T30 l0_4 x4_2).f0) ((rd_T30 l0_4 x4_2).f1) ((rd_T30 l0_4 x4_2).f2) ((rd_T30 l0_4 x4_2).f3.f0) _ _ ((rd_T30 l0_4 x4_2).f3.f1) ((rd_T30 l0_4 x4_2).f4.f0) _ _ ((rd_T30 l0_4 x4_2).f4.f1) true _ ?side1 ?side2 ?side3 ?side4 A26.out).mono ?_); (case side1 => repeat (first | exact (Kd.C_below HR268_4.out HB.out) | (with_reducible refine Kd.C_alloc ?_ _) | (with_reducible refine Kd.C_drewN ?_ _) | (with_reducible refine Kd.C_drew ?_))); (case side2 => exact HC268_4.out); (case side3 => repeat (first | exact (Kd.C_below HR268_6.out HB.out) | (with_reducible refine Kd.C_alloc ?_ _) | (with_reducible refine Kd.C_drewN ?_ _) | (with_reducible refine Kd.C_drew ?_))); (case side4 => exact HC268_6.out); rintro e w33 ⟨rfl, hb⟩; have n0_ := Aside0.mk (blk_below (by (with_reducible repeat (first | refine blk_drewN ?_ _ | refine blk_drew ?_ | refine blk_alloc ?_ _)); exact BK267.out) hb); have n1_ := Aside0.mk (below_step (by repeat (first | (with_reducible first | exact HB.out | apply below_alloc | apply pw_below_drewN | apply below_drew1 | refine below_set ?_ GE267.out) | exact HB.out)) hb); clear BK267; clear HB; have BK267 := n0_; have HB := n1_; clear n0_ n1_; (try clear hb); (try clear hb2); (try clear hk); (try clear hi); obtain ⟨hcz34_0, hcz34_1, hcz34_2, hcz34_3, hcz34_4, hcz34_5, hfz34_0, hfz34_1, hfz34_2, hfz34_3, hfz34_4, hfz34_5⟩ := six_cl BK267.out; have p270 : 0 ≤ (x4_2 : Int) := of_decide_eq_true (by first | (with_reducible assumption) | assumption); have q270 : x4_2 < (l0_4.length : Int) := of_decide_eq_true (by first | (with_reducible assumption) | assumption); obtain ⟨ad270, A270_4, c270_4, A270_6, c270_6, e270, hx270_0, hx270_1, hx270_2, hx270_3, hx270_4, hx270_5, hx270_6, hl270_4, hi270_4, hl270_6, hi270_6⟩ := at_T30 HR0_4.out x4_2 p270 q270; obtain rfl : ad268 = ad270 := (by injection e270); replace hx270_0 := (HB.out.cell (World.block_lt_of_cell? w _ hx270_0)).trans hx270_0; replace hx270_1 := (HB.out.cell (World.block_lt_of_cell? w _ hx270_1)).trans hx270_1; replace hx270_2 := (HB.out.cell (World.block_lt_of_cell? w _ hx270_2)).trans hx270_2; replace hx270_3 := (HB.out.cell (World.block_lt_of_cell? w _ hx270_3)).trans hx270_3; replace hx270_4 := (HB.out.cell (World.block_lt_of_cell? w _ hx270_4)).trans hx270_4; replace hx270_5 := (HB.out.cell (World.block_lt_of_cell? w _ hx270_5)).trans hx270_5; replace hx270_6 := (HB.out.cell (World.block_lt_of_cell? w _ hx270_6)).trans hx270_6; have HR270_4 := Aside0.mk hi270_4; have HC270_4 := Aside0.mk hl270_4; clear hi270_4 hl270_4; have HR270_6 := Aside0.mk hi270_6; have HC270_6 := Aside0.mk hl270_6; clear hi270_6 hl270_6; replace p270 := eq_true p270; replace q270 := eq_true q270; have p271 : 0 ≤ (x4_2 : Int) := of_decide_eq_true (by first | (with_reducible assumption) | assumption); have q271 : x4_2 < (l0_4.length : Int) := of_decide_eq_true (by first | (with_reducible assumption) | assumption); obtain ⟨ad271, A271_4, c271_4, A271_6, c271_6, e271, hx271_0, hx271_1, hx271_2, hx271_3, hx271_4, hx271_5, hx271_6, hl271_4, hi271_4, hl271_6, hi271_6⟩ := at_T30 HR0_4.out x4_2 p271 q271; obtain rfl : ad268 = ad271 := (by injection e271); replace hx271_0 := (HB.out.cell (World.block_lt_of_cell? w _ hx271_0)).trans hx271_0; replace hx271_1 := (HB.out.cell (World.block_lt_of_cell? w _ hx271_1)).trans hx271_1; replace hx271_2 := (HB.out.cell (World.block_lt_of_cell? w _ hx271_2)).trans hx271_2; replace hx271_3 := (HB.out.cell (World.block_lt_of_cell? w _ hx271_3)).trans hx271_3; replace hx271_4 := (HB.out.cell (World.block_lt_of_cell? w _ hx271_4)).trans hx271_4; replace hx271_5 := (HB.out.cell (World.block_lt_of_cell? w _ hx271_5)).trans hx271_5; replace hx271_6 := (HB.out.cell (World.block_lt_of_cell? w _ hx271_6)).trans hx271_6; have HR271_4 := Aside0.mk hi271_4; have HC271_4 := Aside0.mk hl271_4; clear hi271_4 hl271_4; have HR271_6 := Aside0.mk hi271_6; have HC271_6 := Aside0.mk hl271_6; clear hi271_6 hl271_6; replace p271 := eq_true p271; replace q271 := eq_true q271; have ea_ := Option.some.inj (hx270_4.symm.trans hx271_4); injection ea_ with ea_ en_ ec_; subst ea_; subst ec_; clear en_; have ea_ := Option.some.inj (hx270_6.symm.trans hx271_6); injection ea_ with ea_ en_ ec_; subst ea_; subst ec_; clear en_)))
          go_roundg k2
          case measure => have := HJ1.out; have := HK2.out; omega
          case rel => exact ⟨((rd_T30 l0_4 x4_2).f0), (wrap64 (x4_2 + 1)), (by first | rfl | (simp; done) | (simp [*]; done)), (by first | rfl | (simp; done) | (simp [*]; done)), H', ⟨by have := HJ1.out; have := HK2.out; omega⟩, ⟨by (with_reducible repeat (first | refine blk_drewN ?_ _ | refine blk_drew ?_ | refine blk_alloc ?_ _)); exact BK267.out⟩, ⟨by repeat (first | (with_reducible first | exact HB.out | apply below_alloc | apply pw_below_drewN | apply below_drew1 | refine below_set ?_ GE267.out) | exact HB.out)⟩⟩
        ·replace c27 := Bool.eq_false_iff.mpr c27
         subst c27
         have H1 : (some false) = some r := by rw [if_neg (show ¬ (false = true) by decide)] at H; exact H
         clear H
         have H := H1
         clear H1
         obtain rfl := Option.some.inj H
         obtain ⟨hcz35_0, hcz35_1, hcz35_2, hcz35_3, hcz35_4, hcz35_5, hfz35_0, hfz35_1, hfz35_2, hfz35_3, hfz35_4, hfz35_5⟩ := six_cl BK267.out
         have p268 : 0 ≤ (x4_2 : Int) := of_decide_eq_true (by first | (with_reducible assumption) | assumption)
         have q268 : x4_2 < (l0_4.length : Int) := of_decide_eq_true (by first | (with_reducible assumption) | assumption)
         obtain ⟨ad268, A268_4, c268_4, A268_6, c268_6, e268, hx268_0, hx268_1, hx268_2, hx268_3, hx268_4, hx268_5, hx268_6, hl268_4, hi268_4, hl268_6, hi268_6⟩ := at_T30 HR0_4.out x4_2 p268 q268
         cases e268
         replace hx268_0 := (HB.out.cell (World.block_lt_of_cell? w _ hx268_0)).trans hx268_0
         replace hx268_1 := (HB.out.cell (World.block_lt_of_cell? w _ hx268_1)).trans hx268_1
         replace hx268_2 := (HB.out.cell (World.block_lt_of_cell? w _ hx268_2)).trans hx268_2
         replace hx268_3 := (HB.out.cell (World.block_lt_of_cell? w _ hx268_3)).trans hx268_3
         replace hx268_4 := (HB.out.cell (World.block_lt_of_cell? w _ hx268_4)).trans hx268_4
         replace hx268_5 := (HB.out.cell (World.block_lt_of_cell? w _ hx268_5)).trans hx268_5
         replace hx268_6 := (HB.out.cell (World.block_lt_of_cell? w _ hx268_6)).trans hx268_6
         have HR268_4 := Aside0.mk hi268_4
         have HC268_4 := Aside0.mk hl268_4
         clear hi268_4 hl268_4
         have HR268_6 := Aside0.mk hi268_6
         have HC268_6 := Aside0.mk hl268_6
         clear hi268_6 hl268_6
         replace p268 := eq_true p268
         replace q268 := eq_true q268
         go_wp2_with (first | (go_at_call 34; (with_reducible refine (bobbinref14_Change.calls ((rd_T30 l0_4 x4_2).f0) ((rd_T30 l0_4 x4_2).f1) ((rd_T30 l0_4 x4_2).f2) ((rd_T30 l0_4 x4_2).f3.f0) _ _ ((rd_T30 l0_4 x4_2).f3.f1) ((rd_T30 l0_4 x4_2).f4.f0) _ _ ((rd_T30 l0_4 x4_2).f4.f1) false _ ?side1 ?side2 ?side3 ?side4 A26.out).mono ?_); (case side1 => repeat (first | exact (Kd.C_below HR268_4.out HB.out) | (with_reducible refine Kd.C_alloc ?_ _) | (with_reducible refine Kd.C_drewN ?_ _) | (with_reducible refine Kd.C_drew ?_))); (case side2 => exact HC268_4.out); (case side3 => repeat (first | exact (Kd.C_below HR268_6.out HB.out) | (with_reducible refine Kd.C_alloc ?_ _) | (with_reducible refine Kd.C_drewN ?_ _) | (with_reducible refine Kd.C_drew ?_))); (case side4 => exact HC268_6.out); rintro e w36 ⟨rfl, hb⟩; have n0_ := Aside0.mk (blk_below (by (with_reducible repeat (first | refine blk_drewN ?_ _ | refine blk_drew ?_ | refine blk_alloc ?_ _)); exact BK267.out) hb); have n1_ := Aside0.mk (below_step (by repeat (first | (with_reducible first | exact HB.out | apply below_alloc | apply pw_below_drewN | apply below_drew1 | refine below_set ?_ GE267.out) | exact HB.out)) hb); clear BK267; clear HB; have BK267 := n0_; have HB := n1_; clear n0_ n1_; (try clear hb); (try clear hb2); (try clear hk); (try clear hi)))
         repeat (go_quiet (first | (go_at_call 34; (with_reducible refine (bobbinref14_Change.calls ((rd_T30 l0_4 x4_2).f0) ((rd_T30 l0_4 x4_2).f1) ((rd_T30 l0_4 x4_2).f2) ((rd_T30 l0_4 x4_2).f3.f0) _ _ ((rd_T30 l0_4 x4_2).f3.f1) ((rd_T30 l0_4 x4_2).f4.f0) _ _ ((rd_T30 l0_4 x4_2).f4.f1) false _ ?side1 ?side2 ?side3 ?side4 A26.out).mono ?_); (case side1 => repeat (first | exact (Kd.C_below HR268_4.out HB.out) | (with_reducible refine Kd.C_alloc ?_ _) | (with_reducible refine Kd.C_drewN ?_ _) | (with_reducible refine Kd.C_drew ?_))); (case side2 => exact HC268_4.out); (case side3 => repeat (first | exact (Kd.C_below HR268_6.out HB.out) | (with_reducible refine Kd.C_alloc ?_ _) | (with_reducible refine Kd.C_drewN ?_ _) | (with_reducible refine Kd.C_drew ?_))); (case side4 => exact HC268_6.out); rintro e w36 ⟨rfl, hb⟩; have n0_ := Aside0.mk (blk_below (by (with_reducible repeat (first | refine blk_drewN ?_ _ | refine blk_drew ?_ | refine blk_alloc ?_ _)); exact BK267.out) hb); have n1_ := Aside0.mk (below_step (by repeat (first | (with_reducible first | exact HB.out | apply below_alloc | apply pw_below_drewN | apply below_drew1 | refine below_set ?_ GE267.out) | exact HB.out)) hb); clear BK267; clear HB; have BK267 := n0_; have HB := n1_; clear n0_ n1_; (try clear hb); (try clear hb2); (try clear hk); (try clear hi))); try go_wp2_with (first | (go_at_call 34; (with_reducible refine (bobbinref14_Change.calls ((rd_T30 l0_4 x4_2).f0) ((rd_T30 l0_4 x4_2).f1) ((rd_T30 l0_4 x4_2).f2) ((rd_T30 l0_4 x4_2).f3.f0) _ _ ((rd_T30 l0_4 x4_2).f3.f1) ((rd_T30 l0_4 x4_2).f4.f0) _ _ ((rd_T30 l0_4 x4_2).f4.f1) false _ ?side1 ?side2 ?side3 ?side4 A26.out).mono ?_); (case side1 => repeat (first | exact (Kd.C_below HR268_4.out HB.out) | (with_reducible refine Kd.C_alloc ?_ _) | (with_reducible refine Kd.C_drewN ?_ _) | (with_reducible refine Kd.C_drew ?_))); (case side2 => exact HC268_4.out); (case side3 => repeat (first | exact (Kd.C_below HR268_6.out HB.out) | (with_reducible refine Kd.C_alloc ?_ _) | (with_reducible refine Kd.C_drewN ?_ _) | (with_reducible refine Kd.C_drew ?_))); (case side4 => exact HC268_6.out); rintro e w36 ⟨rfl, hb⟩; have n0_ := Aside0.mk (blk_below (by (with_reducible repeat (first | refine blk_drewN ?_ _ | refine blk_drew ?_ | refine blk_alloc ?_ _)); exact BK267.out) hb); have n1_ := Aside0.mk (below_step (by repeat (first | (with_reducible first | exact HB.out | apply below_alloc | apply pw_below_drewN | apply below_drew1 | refine below_set ?_ GE267.out) | exact HB.out)) hb); clear BK267; clear HB; have BK267 := n0_; have HB := n1_; clear n0_ n1_; (try clear hb); (try clear hb2); (try clear hk); (try clear hi))))
         go_ret
         exact ⟨by first | rfl | (simp [errW_none, errW_some] <;> rfl) | (simp [*, errW_none, errW_some] <;> rfl), by repeat (first | (with_reducible first | exact HB.out | apply below_alloc | apply pw_below_drewN | apply below_drew1 | refine below_set ?_ GE267.out) | exact HB.out)⟩
       ·rw [if_neg c25] at H
        exact absurd H (by simp)
      ·rw [if_neg c24] at H
       have c24b0 : decide (x4_2 < (l0_4.length : Int)) = false := decide_eq_false c24
       clear c24
       have H' := Aside0.mk H
       clear H
       obtain ⟨hcz37_0, hcz37_1, hcz37_2, hcz37_3, hcz37_4, hcz37_5, hfz37_0, hfz37_1, hfz37_2, hfz37_3, hfz37_4, hfz37_5⟩ := six_cl BK267.out
       go_wp2
       repeat (go_quiet (fail); try go_wp2)
       go_loopg [6, 7] k2 (fun kq v6 v7 w' => ∃ (x6_3 : Int) (x7_3 : Int), v6 = .int .i64 x6_3 ∧ v7 = .int .i64 x7_3 ∧ Aside0 (bobbinref14_May.l1 kq x6_3 x7_3 a0_0 a0_1 a0_2 a0_3 l0_4 l0_5 = some r) ∧ Aside0 (kq ≤ k2) ∧ Aside0 (w'.heap[gb267]? = some (.cells #[.int .i64 a0_0, .int .i64 a0_1, .int .i64 a0_2, .int .i64 a0_3, (.slice A0_4 l0_4.length c0_4), (.slice A0_5 l0_5.length c0_5)] 25 (0, 0))) ∧ Aside0 (Below w.heap.size w w'))
       case atStart => exact ⟨(0), (0), (by first | rfl | (simp; done) | (simp [*]; done)), (by first | rfl | (simp; done) | (simp [*]; done)), H', ⟨Nat.le_refl _⟩, ⟨by (with_reducible repeat (first | refine blk_drewN ?_ _ | refine blk_drew ?_ | refine blk_alloc ?_ _)); exact BK267.out⟩, ⟨by repeat (first | (with_reducible first | exact HB.out | apply below_alloc | apply pw_below_drewN | apply below_drew1 | refine below_set ?_ GE267.out) | exact HB.out)⟩⟩
       case round =>
        clear H'
        try clear c1
        try clear c2
        try clear p2
        try clear q2
        try clear hx2
        try clear c4
        try clear c4b0
        try clear c6
        try clear c6b0
        try clear p6
        try clear c8
        try clear c8b0
        try clear c10
        try clear c10b0
        try clear c12
        try clear c12b0
        try clear c14
        try clear c14b0
        try clear c16
        try clear c16b0
        try clear c18
        try clear c18b0
        try clear c20
        try clear c20b0
        try clear c20b1
        try clear c23
        try clear c24
        try clear c24b0
        try clear c25
        try clear c25b0
        try clear c26
        try clear p26
        try clear q26
        try clear hx26
        try clear c27
        try clear p27
        try clear q27
        try clear hx27
        try clear c28
        try clear c28b0
        try clear hcz11_0
        try clear hcz11_1
        try clear hcz11_2
        try clear hcz11_3
        try clear hcz11_4
        try clear hcz11_5
        try clear hcz13_0
        try clear hcz13_1
        try clear hcz13_2
        try clear hcz13_3
        try clear hcz13_4
        try clear hcz13_5
        try clear hcz15_0
        try clear hcz15_1
        try clear hcz15_2
        try clear hcz15_3
        try clear hcz15_4
        try clear hcz15_5
        try clear hcz17_0
        try clear hcz17_1
        try clear hcz17_2
        try clear hcz17_3
        try clear hcz17_4
        try clear hcz17_5
        try clear hcz19_0
        try clear hcz19_1
        try clear hcz19_2
        try clear hcz19_3
        try clear hcz19_4
        try clear hcz19_5
        try clear hcz21_0
        try clear hcz21_1
        try clear hcz21_2
        try clear hcz21_3
        try clear hcz21_4
        try clear hcz21_5
        try clear hcz22_0
        try clear hcz22_1
        try clear hcz22_2
        try clear hcz22_3
        try clear hcz22_4
        try clear hcz22_5
        try clear hcz29_0
        try clear hcz29_1
        try clear hcz29_2
        try clear hcz29_3
        try clear hcz29_4
        try clear hcz29_5
        try clear hcz31_0
        try clear hcz31_1
        try clear hcz31_2
        try clear hcz31_3
        try clear hcz31_4
        try clear hcz31_5
        try clear hcz32_0
        try clear hcz32_1
        try clear hcz32_2
        try clear hcz32_3
        try clear hcz32_4
        try clear hcz32_5
        try clear hcz34_0
        try clear hcz34_1
        try clear hcz34_2
        try clear hcz34_3
        try clear hcz34_4
        try clear hcz34_5
        try clear hcz35_0
        try clear hcz35_1
        try clear hcz35_2
        try clear hcz35_3
        try clear hcz35_4
        try clear hcz35_5
        try clear hcz37_0
        try clear hcz37_1
        try clear hcz37_2
        try clear hcz37_3
        try clear hcz37_4
        try clear hcz37_5
        try clear hcz5_0
        try clear hcz5_1
        try clear hcz5_2
        try clear hcz5_3
        try clear hcz5_4
        try clear hcz5_5
        try clear hcz7_0
        try clear hcz7_1
        try clear hcz7_2
        try clear hcz7_3
        try clear hcz7_4
        try clear hcz7_5
        try clear hcz9_0
        try clear hcz9_1
        try clear hcz9_2
        try clear hcz9_3
        try clear hcz9_4
        try clear hcz9_5
        try clear hfz11_0
        try clear hfz11_1
        try clear hfz11_2
        try clear hfz11_3
        try clear hfz11_4
        try clear hfz11_5
        try clear hfz13_0
        try clear hfz13_1
        try clear hfz13_2
        try clear hfz13_3
        try clear hfz13_4
        try clear hfz13_5
        try clear hfz15_0
        try clear hfz15_1
        try clear hfz15_2
        try clear hfz15_3
        try clear hfz15_4
        try clear hfz15_5
        try clear hfz17_0
        try clear hfz17_1
        try clear hfz17_2
        try clear hfz17_3
        try clear hfz17_4
        try clear hfz17_5
        try clear hfz19_0
        try clear hfz19_1
        try clear hfz19_2
        try clear hfz19_3
        try clear hfz19_4
        try clear hfz19_5
        try clear hfz21_0
        try clear hfz21_1
        try clear hfz21_2
        try clear hfz21_3
        try clear hfz21_4
        try clear hfz21_5
        try clear hfz22_0
        try clear hfz22_1
        try clear hfz22_2
        try clear hfz22_3
        try clear hfz22_4
        try clear hfz22_5
        try clear hfz29_0
        try clear hfz29_1
        try clear hfz29_2
        try clear hfz29_3
        try clear hfz29_4
        try clear hfz29_5
        try clear hfz31_0
        try clear hfz31_1
        try clear hfz31_2
        try clear hfz31_3
        try clear hfz31_4
        try clear hfz31_5
        try clear hfz32_0
        try clear hfz32_1
        try clear hfz32_2
        try clear hfz32_3
        try clear hfz32_4
        try clear hfz32_5
        try clear hfz34_0
        try clear hfz34_1
        try clear hfz34_2
        try clear hfz34_3
        try clear hfz34_4
        try clear hfz34_5
        try clear hfz35_0
        try clear hfz35_1
        try clear hfz35_2
        try clear hfz35_3
        try clear hfz35_4
        try clear hfz35_5
        try clear hfz37_0
        try clear hfz37_1
        try clear hfz37_2
        try clear hfz37_3
        try clear hfz37_4
        try clear hfz37_5
        try clear hfz5_0
        try clear hfz5_1
        try clear hfz5_2
        try clear hfz5_3
        try clear hfz5_4
        try clear hfz5_5
        try clear hfz7_0
        try clear hfz7_1
        try clear hfz7_2
        try clear hfz7_3
        try clear hfz7_4
        try clear hfz7_5
        try clear hfz9_0
        try clear hfz9_1
        try clear hfz9_2
        try clear hfz9_3
        try clear hfz9_4
        try clear hfz9_5
        try clear hx268_0
        try clear hx268_1
        try clear hx268_2
        try clear hx268_3
        try clear hx268_4
        try clear hx268_5
        try clear hx268_6
        try clear hx270_0
        try clear hx270_1
        try clear hx270_2
        try clear hx270_3
        try clear hx270_4
        try clear hx270_5
        try clear hx270_6
        try clear hx271_0
        try clear hx271_1
        try clear hx271_2
        try clear hx271_3
        try clear hx271_4
        try clear hx271_5
        try clear hx271_6
        try clear p2
        try clear p268
        try clear p270
        try clear p271
        try clear q268
        try clear q270
        try clear q271
        obtain ⟨x6_3, x7_3, rfl, rfl, HA, HK3, BK267, HB⟩ := hrel
        cases gk with
        | zero => exact absurd HA.out (by first | (intro h_; cases h_; done) | simp [bobbinref14_May.l1])
        | succ k3 =>
         have H := HA.out
         clear HA
         rw [bobbinref14_May.l1_eq] at H
         by_cases c38 : x7_3 < (l0_5.length : Int)
         ·rw [if_pos c38] at H
          have c38b0 : decide (x7_3 < (l0_5.length : Int)) = true := decide_eq_true c38
          clear c38
          by_cases c39 : 0 ≤ x7_3
          ·rw [if_pos c39] at H
           have c39b0 : decide (0 ≤ x7_3) = true := decide_eq_true c39
           clear c39
           by_cases c40 : (rd l0_5 x7_3) < x6_3
           ·rw [if_pos c40] at H
            have c40b0 : decide ((rd l0_5 x7_3) < x6_3) = true := decide_eq_true c40
            clear c40
            obtain rfl := Option.some.inj H
            obtain ⟨hcz41_0, hcz41_1, hcz41_2, hcz41_3, hcz41_4, hcz41_5, hfz41_0, hfz41_1, hfz41_2, hfz41_3, hfz41_4, hfz41_5⟩ := six_cl BK267.out
            have p272 : 0 ≤ (x7_3 : Int) := of_decide_eq_true (by first | (with_reducible assumption) | assumption)
            have q272 : x7_3 < (l0_5.length : Int) := of_decide_eq_true (by first | (with_reducible assumption) | assumption)
            obtain ⟨ad272, e272, hx272_0⟩ := Kd.at_int HR0_5.out x7_3 p272 q272
            cases e272
            replace hx272_0 := (HB.out.cell (World.block_lt_of_cell? w _ hx272_0)).trans hx272_0
            replace p272 := eq_true p272
            replace q272 := eq_true q272
            go_wp2
            repeat (go_quiet (fail); try go_wp2)
            go_ret
            exact ⟨by first | rfl | (simp [errW_none, errW_some] <;> rfl) | (simp [*, errW_none, errW_some] <;> rfl), by repeat (first | (with_reducible first | exact HB.out | apply below_alloc | apply pw_below_drewN | apply below_drew1 | refine below_set ?_ GE267.out) | exact HB.out)⟩
           ·rw [if_neg c40] at H
            have c40b0 : decide ((rd l0_5 x7_3) < x6_3) = false := decide_eq_false c40
            clear c40
            by_cases c42 : (rd l0_5 x7_3) > (l0_4.length : Int)
            ·rw [if_pos c42] at H
             have c42b0 : decide ((l0_4.length : Int) < (rd l0_5 x7_3)) = true := decide_eq_true c42
             clear c42
             obtain rfl := Option.some.inj H
             obtain ⟨hcz43_0, hcz43_1, hcz43_2, hcz43_3, hcz43_4, hcz43_5, hfz43_0, hfz43_1, hfz43_2, hfz43_3, hfz43_4, hfz43_5⟩ := six_cl BK267.out
             have p272 : 0 ≤ (x7_3 : Int) := of_decide_eq_true (by first | (with_reducible assumption) | assumption)
             have q272 : x7_3 < (l0_5.length : Int) := of_decide_eq_true (by first | (with_reducible assumption) | assumption)
             obtain ⟨ad272, e272, hx272_0⟩ := Kd.at_int HR0_5.out x7_3 p272 q272
             cases e272
             replace hx272_0 := (HB.out.cell (World.block_lt_of_cell? w _ hx272_0)).trans hx272_0
             replace p272 := eq_true p272
             replace q272 := eq_true q272
             have p273 : 0 ≤ (x7_3 : Int) := of_decide_eq_true (by first | (with_reducible assumption) | assumption)
             have q273 : x7_3 < (l0_5.length : Int) := of_decide_eq_true (by first | (with_reducible assumption) | assumption)
             obtain ⟨ad273, e273, hx273_0⟩ := Kd.at_int HR0_5.out x7_3 p273 q273
             obtain rfl : ad272 = ad273 := (by injection e273)
             replace hx273_0 := (HB.out.cell (World.block_lt_of_cell? w _ hx273_0)).trans hx273_0
             replace p273 := eq_true p273
             replace q273 := eq_true q273
             go_wp2
             repeat (go_quiet (fail); try go_wp2)
             go_ret
             exact ⟨by first | rfl | (simp [errW_none, errW_some] <;> rfl) | (simp [*, errW_none, errW_some] <;> rfl), by repeat (first | (with_reducible first | exact HB.out | apply below_alloc | apply pw_below_drewN | apply below_drew1 | refine below_set ?_ GE267.out) | exact HB.out)⟩
            ·rw [if_neg c42] at H
             have c42b0 : decide ((l0_4.length : Int) < (rd l0_5 x7_3)) = false := decide_eq_false c42
             clear c42
             have H' := Aside0.mk H
             clear H
             obtain ⟨hcz44_0, hcz44_1, hcz44_2, hcz44_3, hcz44_4, hcz44_5, hfz44_0, hfz44_1, hfz44_2, hfz44_3, hfz44_4, hfz44_5⟩ := six_cl BK267.out
             have p272 : 0 ≤ (x7_3 : Int) := of_decide_eq_true (by first | (with_reducible assumption) | assumption)
             have q272 : x7_3 < (l0_5.length : Int) := of_decide_eq_true (by first | (with_reducible assumption) | assumption)
             obtain ⟨ad272, e272, hx272_0⟩ := Kd.at_int HR0_5.out x7_3 p272 q272
             cases e272
             replace hx272_0 := (HB.out.cell (World.block_lt_of_cell? w _ hx272_0)).trans hx272_0
             replace p272 := eq_true p272
             replace q272 := eq_true q272
             have p273 : 0 ≤ (x7_3 : Int) := of_decide_eq_true (by first | (with_reducible assumption) | assumption)
             have q273 : x7_3 < (l0_5.length : Int) := of_decide_eq_true (by first | (with_reducible assumption) | assumption)
             obtain ⟨ad273, e273, hx273_0⟩ := Kd.at_int HR0_5.out x7_3 p273 q273
             obtain rfl : ad272 = ad273 := (by injection e273)
             replace hx273_0 := (HB.out.cell (World.block_lt_of_cell? w _ hx273_0)).trans hx273_0
             replace p273 := eq_true p273
             replace q273 := eq_true q273
             have p274 : 0 ≤ (x7_3 : Int) := of_decide_eq_true (by first | (with_reducible assumption) | assumption)
             have q274 : x7_3 < (l0_5.length : Int) := of_decide_eq_true (by first | (with_reducible assumption) | assumption)
             obtain ⟨ad274, e274, hx274_0⟩ := Kd.at_int HR0_5.out x7_3 p274 q274
             obtain rfl : ad272 = ad274 := (by injection e274)
             replace hx274_0 := (HB.out.cell (World.block_lt_of_cell? w _ hx274_0)).trans hx274_0
             replace p274 := eq_true p274
             replace q274 := eq_true q274
             go_wp2
             repeat (go_quiet (fail); try go_wp2)
             go_roundg k3
             case measure => have := HJ1.out; have := HK2.out; have := HK3.out; omega
             case rel => exact ⟨(rd l0_5 x7_3), (wrap64 (x7_3 + 1)), (by first | rfl | (simp; done) | (simp [*]; done)), (by first | rfl | (simp; done) | (simp [*]; done)), H', ⟨by have := HJ1.out; have := HK2.out; have := HK3.out; omega⟩, ⟨by (with_reducible repeat (first | refine blk_drewN ?_ _ | refine blk_drew ?_ | refine blk_alloc ?_ _)); exact BK267.out⟩, ⟨by repeat (first | (with_reducible first | exact HB.out | apply below_alloc | apply pw_below_drewN | apply below_drew1 | refine below_set ?_ GE267.out) | exact HB.out)⟩⟩
          ·rw [if_neg c39] at H
           exact absurd H (by simp)
         ·rw [if_neg c38] at H
          have c38b0 : decide (x7_3 < (l0_5.length : Int)) = false := decide_eq_false c38
          clear c38
          obtain rfl := Option.some.inj H
          obtain ⟨hcz45_0, hcz45_1, hcz45_2, hcz45_3, hcz45_4, hcz45_5, hfz45_0, hfz45_1, hfz45_2, hfz45_3, hfz45_4, hfz45_5⟩ := six_cl BK267.out
          go_wp2
          repeat (go_quiet (fail); try go_wp2)
          go_ret
          exact ⟨by first | rfl | (simp [errW_none, errW_some] <;> rfl) | (simp [*, errW_none, errW_some] <;> rfl), by repeat (first | (with_reducible first | exact HB.out | apply below_alloc | apply pw_below_drewN | apply below_drew1 | refine below_set ?_ GE267.out) | exact HB.out)⟩
end Go.Proofs.Ytdbbibndjknafaa.Print
