-- Written by a program of this session (myprint.py over the kit's print.py) out of the translation. Not trusted: Lean checks it.
import Derived.Test.YtghhmbagjhmgfaaPrint0
namespace Go.Proofs.Ytghhmbagjhmgfaa.Print
open Go.RowKit Go.Proofs.YtghhmbagjhmgfaaW.PrintWords Go.Proofs.YtghhmbagjhmgfaaW.PrintLast Go.Proofs.YtghhmbagjhmgfaaW.PrintMore
attribute [local go_sem] max2_int min2_int max_two min_two max_three min_three max_four min_four   -- for this text's walks alone
set_option linter.unusedVariables false
set_option linter.unusedSimpArgs false

/-! ### bobbinref03_Read: function 36 -/
mutual
def bobbinref03_Read.j0 : Nat → Int → Bool → List (List Int) → List (S75) → Bool → Bool → Int → Option (List Int × Int)
  | 0, _, _, _, _, _, _, _ => none
  | k + 1, x1, x17, x225000, x225001, x225002, x225003, x225004 => if x17 = true then (some (([] : List Int), 3)) else (bobbinref03_Read.l0 k x1 (wrap64 ((x225001.length : Int) - 1)) x225000 x225001 x225002 x225003 x225004)
def bobbinref03_Read.l0 : Nat → Int → Int → List (List Int) → List (S75) → Bool → Bool → Int → Option (List Int × Int)
  | 0, _, _, _, _, _, _, _ => none
  | k + 1, x1, x6, x225000, x225001, x225002, x225003, x225004 => if x6 ≥ 0 then (if 0 ≤ x6 then (if x6 < (x225001.length : Int) then (if ((rd_T75 x225001 x6).f0) = x1 then (some ((rd_T75 x225001 x6).f1, 0)) else (bobbinref03_Read.l0 k x1 (wrap64 (x6 - 1)) x225000 x225001 x225002 x225003 x225004)) else (none)) else (none)) else (if 0 ≤ x1 then (if x1 < (x225000.length : Int) then (some (rd_L1 x225000 x1, 0)) else (none)) else (none))
end
theorem bobbinref03_Read.j0_eq : ∀ (k : Nat) x1 x17 x225000 x225001 x225002 x225003 x225004, bobbinref03_Read.j0 (k + 1) x1 x17 x225000 x225001 x225002 x225003 x225004 = (if x17 = true then (some (([] : List Int), 3)) else (bobbinref03_Read.l0 k x1 (wrap64 ((x225001.length : Int) - 1)) x225000 x225001 x225002 x225003 x225004)) := fun _ _ _ _ _ _ _ _ => rfl
theorem bobbinref03_Read.l0_eq : ∀ (k : Nat) x1 x6 x225000 x225001 x225002 x225003 x225004, bobbinref03_Read.l0 (k + 1) x1 x6 x225000 x225001 x225002 x225003 x225004 = (if x6 ≥ 0 then (if 0 ≤ x6 then (if x6 < (x225001.length : Int) then (if ((rd_T75 x225001 x6).f0) = x1 then (some ((rd_T75 x225001 x6).f1, 0)) else (bobbinref03_Read.l0 k x1 (wrap64 (x6 - 1)) x225000 x225001 x225002 x225003 x225004)) else (none)) else (none)) else (if 0 ≤ x1 then (if x1 < (x225000.length : Int) then (some (rd_L1 x225000 x1, 0)) else (none)) else (none))) := fun _ _ _ _ _ _ _ _ => rfl
def bobbinref03_Read.f (k : Nat) (l0_0 : List (List Int)) (l0_1 : List (S75)) (a0_2 : Bool) (a0_3 : Bool) (a0_4 : Int) (a1 : Int) : Option (List Int × Int) := if a0_3 = true then (some (([] : List Int), 30)) else (if a1 < 0 then (bobbinref03_Read.j0 k a1 true l0_0 l0_1 a0_2 a0_3 a0_4) else (bobbinref03_Read.j0 k a1 (decide (a1 ≥ (l0_0.length : Int))) l0_0 l0_1 a0_2 a0_3 a0_4))
theorem bobbinref03_Read.mono_l : ∀ k, (∀ y0 y1 y2 y3 y4 y5 y6, LeO (bobbinref03_Read.j0 k y0 y1 y2 y3 y4 y5 y6) (bobbinref03_Read.j0 (k + 1) y0 y1 y2 y3 y4 y5 y6)) ∧ (∀ y0 y1 y2 y3 y4 y5 y6, LeO (bobbinref03_Read.l0 k y0 y1 y2 y3 y4 y5 y6) (bobbinref03_Read.l0 (k + 1) y0 y1 y2 y3 y4 y5 y6))
  | 0 => ⟨fun _ _ _ _ _ _ _ r h => by first | (cases h; done) | simp [bobbinref03_Read.j0] at h, fun _ _ _ _ _ _ _ r h => by first | (cases h; done) | simp [bobbinref03_Read.l0] at h⟩
  | k + 1 => by
    obtain ⟨ih0, ih1⟩ := bobbinref03_Read.mono_l k
    refine ⟨?_, ?_⟩
    · intro y0 y1 y2 y3 y4 y5 y6
      unfold bobbinref03_Read.j0
      repeat' first
      | (with_reducible exact ih0 _ _ _ _ _ _ _)
      | (with_reducible exact ih1 _ _ _ _ _ _ _)
      | (with_reducible exact LeO.refl _)
      | (with_reducible exact LeO.none _)
      | (with_reducible refine LeO.ite ?_ ?_)
      | (with_reducible refine LeO.bind ?_ (fun _ => ?_))
      | exact ih0 _ _ _ _ _ _ _
      | exact ih1 _ _ _ _ _ _ _
      | exact LeO.none _
      | refine LeO.ite ?_ ?_
      | refine LeO.bind ?_ (fun _ => ?_)
    · intro y0 y1 y2 y3 y4 y5 y6
      unfold bobbinref03_Read.l0
      repeat' first
      | (with_reducible exact ih0 _ _ _ _ _ _ _)
      | (with_reducible exact ih1 _ _ _ _ _ _ _)
      | (with_reducible exact LeO.refl _)
      | (with_reducible exact LeO.none _)
      | (with_reducible refine LeO.ite ?_ ?_)
      | (with_reducible refine LeO.bind ?_ (fun _ => ?_))
      | exact ih0 _ _ _ _ _ _ _
      | exact ih1 _ _ _ _ _ _ _
      | exact LeO.none _
      | refine LeO.ite ?_ ?_
      | refine LeO.bind ?_ (fun _ => ?_)
theorem bobbinref03_Read.mono : ∀ a0 a1 a2 a3 a4 a5 k, LeO (bobbinref03_Read.f k a0 a1 a2 a3 a4 a5) (bobbinref03_Read.f (k + 1) a0 a1 a2 a3 a4 a5) := by
  intro a0 a1 a2 a3 a4 a5 k
  obtain ⟨ih0, ih1⟩ := bobbinref03_Read.mono_l k
  unfold bobbinref03_Read.f
  repeat' first
      | (with_reducible exact ih0 _ _ _ _ _ _ _)
      | (with_reducible exact ih1 _ _ _ _ _ _ _)
      | (with_reducible exact LeO.refl _)
      | (with_reducible exact LeO.none _)
      | (with_reducible refine LeO.ite ?_ ?_)
      | (with_reducible refine LeO.bind ?_ (fun _ => ?_))
      | exact ih0 _ _ _ _ _ _ _
      | exact ih1 _ _ _ _ _ _ _
      | exact LeO.none _
      | refine LeO.ite ?_ ?_
      | refine LeO.bind ?_ (fun _ => ?_)
set_option maxHeartbeats 8000000 in
set_option maxRecDepth 100000 in
theorem bobbinref03_Read.calls (k : Nat) (P0_0_ : Nat → Prop) (A0_0 : Option Addr) (c0_0 : Nat) (l0_0 : List (List Int)) (P0_1_ : Nat → Prop) (A0_1 : Option Addr) (c0_1 : Nat) (l0_1 : List (S75)) (a0_2 : Bool) (a0_3 : Bool) (a0_4 : Int) (a1 : Int) (r1 : List Int) (r2 : Int) (w : World) (hs0_0 : Kd.V (Kd.slice 5 (Kd.int .u8)) 30 w w.heap.size (fun k_ => P0_0_ k_) (.slice A0_0 l0_0.length c0_0) l0_0) (hs0_1 : Kd.V k75 75 w w.heap.size (fun k_ => P0_1_ k_) (.slice A0_1 l0_1.length c0_1) l0_1) (h : bobbinref03_Read.f k l0_0 l0_1 a0_2 a0_3 a0_4 a1 = some (r1, r2)) :
    Calls Try.prog 36 #[.agg #[.slice A0_0 l0_0.length c0_0, .slice A0_1 l0_1.length c0_1, .bool a0_2, .bool a0_3, .int .i64 a0_4], .int .i64 a1] w fun e w' => ∃ v0_ : Value, e = .returned (.tuple #[v0_, .int .i64 r2]) ∧ Kd.V (Kd.int .u8) 5 w' w.heap.size (fun k_ => ((P0_0_ k_ ∨ P0_1_ k_) ∨ w.heap.size ≤ k_)) v0_ r1 ∧ Below w.heap.size w w' := by
  have hu51 := Try.underlying51
  have HO0_0 := Aside0.mk (show Kd.V (Kd.slice 5 (Kd.int .u8)) 30 w w.heap.size (fun k_ => ((P0_0_ k_ ∨ P0_1_ k_) ∨ w.heap.size ≤ k_)) (.slice A0_0 l0_0.length c0_0) l0_0 from Kd.V_mono hs0_0 (fun k_ hk => .inl (.inl hk)))
  have HO0_1 := Aside0.mk (show Kd.V k75 75 w w.heap.size (fun k_ => ((P0_0_ k_ ∨ P0_1_ k_) ∨ w.heap.size ≤ k_)) (.slice A0_1 l0_1.length c0_1) l0_1 from Kd.V_mono hs0_1 (fun k_ hk => .inl (.inr hk)))
  have HB := Aside0.mk (Below.refl w.heap.size w)
  have H : (if a0_3 = true then (some (([] : List Int), 30)) else (if a1 < 0 then (bobbinref03_Read.j0 k a1 true l0_0 l0_1 a0_2 a0_3 a0_4) else (bobbinref03_Read.j0 k a1 (decide (a1 ≥ (l0_0.length : Int))) l0_0 l0_1 a0_2 a0_3 a0_4))) = some (r1, r2) := h
  clear h
  by_cases c3 : a0_3 = true
  · subst c3
    have H1 : (some (([] : List Int), 30)) = some (r1, r2) := by rw [if_pos rfl] at H; exact H
    clear H
    have H := H1
    clear H1
    simp only [Option.some.injEq, Prod.mk.injEq] at H
    obtain ⟨rfl, rfl⟩ := H
    go_enter Try.func36, Try.ntmps36
    go_wp2_with (first | ((with_reducible refine gate_dst (N := 2) rfl ?_); (try (refine gate_guard (by rfl) ?_; dsimp only)); refine box_event ?hg (N := 2) ?hd (cs := #[.slice A0_0 l0_0.length c0_0, .slice A0_1 l0_1.length c0_1, .bool a0_2, .bool true, .int .i64 a0_4]) (t := 51) ?hr ?_; (case hd => rfl); (case hg => rfl); (case hr => first | (go_simp; done) | (go_simp; rfl)); intro gb224 hg w4 hbox hb; have n0_ := Aside0.mk (Kd.V_below (Kd.V_elderB (by (with_reducible repeat (first | apply Kd.V_alloc | apply Kd.V_drewN | apply Kd.V_drew)); exact HO0_0.out) gb224 (Nat.le_of_eq hg.symm)) hb); have n1_ := Aside0.mk (Kd.V_below (Kd.V_elderB (by (with_reducible repeat (first | apply Kd.V_alloc | apply Kd.V_drewN | apply Kd.V_drew)); exact HO0_1.out) gb224 (Nat.le_of_eq hg.symm)) hb); have n2_ := Aside0.mk (below_step (by repeat (first | (with_reducible first | exact HB.out | apply below_alloc | apply pw_below_drewN | apply below_drew1) | exact HB.out)) hb); have n3_ := Aside0.mk (hbox); have n4_ := Aside0.mk ((by rw [hg]; exact (below_size (by repeat (first | (with_reducible first | exact HB.out | apply below_alloc | apply pw_below_drewN | apply below_drew1) | exact HB.out))) : w.heap.size ≤ gb224)); have n5_ := Aside0.mk ((by rw [hg]; exact (below_size (by repeat (first | (with_reducible first | exact HB.out | apply below_alloc | apply pw_below_drewN | apply below_drew1) | exact HB.out))) : w.heap.size ≤ gb224)); clear HO0_0; clear HO0_1; clear HB; have HO0_0 := n0_; have HO0_1 := n1_; have HB := n2_; have BK224 := n3_; have GW224 := n4_; have GE224 := n5_; clear n0_ n1_ n2_ n3_ n4_ n5_; clear hb hbox hg; have hcz5_0 : w4.cell? ⟨gb224, 0, none⟩ = some (.slice A0_0 l0_0.length c0_0) := (blk_cell BK224.out 0).trans rfl; have hcz5_1 : w4.cell? ⟨gb224, 1, none⟩ = some (.slice A0_1 l0_1.length c0_1) := (blk_cell BK224.out 1).trans rfl; have hcz5_2 : w4.cell? ⟨gb224, 2, none⟩ = some (.bool a0_2) := (blk_cell BK224.out 2).trans rfl; have hcz5_3 : w4.cell? ⟨gb224, 3, none⟩ = some (.bool true) := (blk_cell BK224.out 3).trans rfl; have hcz5_4 : w4.cell? ⟨gb224, 4, none⟩ = some (.int .i64 a0_4) := (blk_cell BK224.out 4).trans rfl; have hfz5_0 := blk_frozen BK224.out 0; have hfz5_1 := blk_frozen BK224.out 1; have hfz5_2 := blk_frozen BK224.out 2; have hfz5_3 := blk_frozen BK224.out 3; have hfz5_4 := blk_frozen BK224.out 4))
    go_ret2
    exact ⟨_, by first | rfl | (simp [errW_none, errW_some] <;> rfl) | (simp [*, errW_none, errW_some] <;> rfl), Kd.V_nil _ _ _ _ _, by repeat (first | (with_reducible first | exact HB.out | apply below_alloc | apply pw_below_drewN | apply below_drew1 | refine below_set ?_ GE224.out) | exact HB.out)⟩
  · replace c3 := Bool.eq_false_iff.mpr c3
    subst c3
    have H1 : (if a1 < 0 then (bobbinref03_Read.j0 k a1 true l0_0 l0_1 a0_2 false a0_4) else (bobbinref03_Read.j0 k a1 (decide (a1 ≥ (l0_0.length : Int))) l0_0 l0_1 a0_2 false a0_4)) = some (r1, r2) := by rw [if_neg (show ¬ (false = true) by decide)] at H; exact H
    clear H
    have H := H1
    clear H1
    have HC6 := Aside0.mk H
    clear H
    go_enter Try.func36, Try.ntmps36
    go_upto_region 3 with (first | ((with_reducible refine gate_dst (N := 2) rfl ?_); (try (refine gate_guard (by rfl) ?_; dsimp only)); refine box_event ?hg (N := 2) ?hd (cs := #[.slice A0_0 l0_0.length c0_0, .slice A0_1 l0_1.length c0_1, .bool a0_2, .bool false, .int .i64 a0_4]) (t := 51) ?hr ?_; (case hd => rfl); (case hg => rfl); (case hr => first | (go_simp; done) | (go_simp; rfl)); intro gb224 hg w7 hbox hb; have n0_ := Aside0.mk (Kd.V_below (Kd.V_elderB (by (with_reducible repeat (first | apply Kd.V_alloc | apply Kd.V_drewN | apply Kd.V_drew)); exact HO0_0.out) gb224 (Nat.le_of_eq hg.symm)) hb); have n1_ := Aside0.mk (Kd.V_below (Kd.V_elderB (by (with_reducible repeat (first | apply Kd.V_alloc | apply Kd.V_drewN | apply Kd.V_drew)); exact HO0_1.out) gb224 (Nat.le_of_eq hg.symm)) hb); have n2_ := Aside0.mk (below_step (by repeat (first | (with_reducible first | exact HB.out | apply below_alloc | apply pw_below_drewN | apply below_drew1) | exact HB.out)) hb); have n3_ := Aside0.mk (hbox); have n4_ := Aside0.mk ((by rw [hg]; exact (below_size (by repeat (first | (with_reducible first | exact HB.out | apply below_alloc | apply pw_below_drewN | apply below_drew1) | exact HB.out))) : w.heap.size ≤ gb224)); have n5_ := Aside0.mk ((by rw [hg]; exact (below_size (by repeat (first | (with_reducible first | exact HB.out | apply below_alloc | apply pw_below_drewN | apply below_drew1) | exact HB.out))) : w.heap.size ≤ gb224)); clear HO0_0; clear HO0_1; clear HB; have HO0_0 := n0_; have HO0_1 := n1_; have HB := n2_; have BK224 := n3_; have GW224 := n4_; have GE224 := n5_; clear n0_ n1_ n2_ n3_ n4_ n5_; clear hb hbox hg; have hcz8_0 : w7.cell? ⟨gb224, 0, none⟩ = some (.slice A0_0 l0_0.length c0_0) := (blk_cell BK224.out 0).trans rfl; have hcz8_1 : w7.cell? ⟨gb224, 1, none⟩ = some (.slice A0_1 l0_1.length c0_1) := (blk_cell BK224.out 1).trans rfl; have hcz8_2 : w7.cell? ⟨gb224, 2, none⟩ = some (.bool a0_2) := (blk_cell BK224.out 2).trans rfl; have hcz8_3 : w7.cell? ⟨gb224, 3, none⟩ = some (.bool false) := (blk_cell BK224.out 3).trans rfl; have hcz8_4 : w7.cell? ⟨gb224, 4, none⟩ = some (.int .i64 a0_4) := (blk_cell BK224.out 4).trans rfl; have hfz8_0 := blk_frozen BK224.out 0; have hfz8_1 := blk_frozen BK224.out 1; have hfz8_2 := blk_frozen BK224.out 2; have hfz8_3 := blk_frozen BK224.out 3; have hfz8_4 := blk_frozen BK224.out 4))
    (try simp only [Act.put, List.setIfInBounds_toArray, List.set_cons_zero, List.set_cons_succ])
    go_cut [17] (fun v17 wc => ∃ (kq : Nat) (x17_5 : Bool), v17 = .bool x17_5 ∧ Aside0 (bobbinref03_Read.j0 kq a1 x17_5 l0_0 l0_1 a0_2 false a0_4 = some (r1, r2)) ∧ Aside0 (kq ≤ k) ∧ Aside0 (Kd.V (Kd.slice 5 (Kd.int .u8)) 30 wc w.heap.size (fun k_ => ((P0_0_ k_ ∨ P0_1_ k_) ∨ w.heap.size ≤ k_) ∧ k_ ≠ gb224) (.slice A0_0 l0_0.length c0_0) l0_0) ∧ Aside0 (Kd.V k75 75 wc w.heap.size (fun k_ => ((P0_0_ k_ ∨ P0_1_ k_) ∨ w.heap.size ≤ k_) ∧ k_ ≠ gb224) (.slice A0_1 l0_1.length c0_1) l0_1) ∧ Aside0 (wc.heap[gb224]? = some (.cells #[(.slice A0_0 l0_0.length c0_0), (.slice A0_1 l0_1.length c0_1), .bool a0_2, .bool false, .int .i64 a0_4] 51 (0, 0))) ∧ Aside0 (Below w.heap.size w wc))
    case first =>
      have H := HC6.out
      clear HC6
      by_cases c9 : a1 < 0
      · rw [if_pos c9] at H
        have c9b0 : decide (a1 < 0) = true := decide_eq_true c9
        clear c9
        (first | rw [c9b0] | (simp only [i64_w, i32_w]; rw [c9b0]) | skip)
        have H' := Aside0.mk H
        clear H
        go_wp2
        go_meet
        case rel => exact ⟨_, (true), (by first | rfl | (simp; done) | (simp [*]; done)), H', ⟨by first | omega | exact Nat.le_refl _⟩, ⟨by (with_reducible repeat (first | apply Kd.V_alloc | apply Kd.V_drewN | apply Kd.V_drew)); exact HO0_0.out⟩, ⟨by (with_reducible repeat (first | apply Kd.V_alloc | apply Kd.V_drewN | apply Kd.V_drew)); exact HO0_1.out⟩, ⟨by (with_reducible repeat (first | refine blk_drewN ?_ _ | refine blk_drew ?_ | refine blk_alloc ?_ _)); exact BK224.out⟩, ⟨by repeat (first | (with_reducible first | exact HB.out | apply below_alloc | apply pw_below_drewN | apply below_drew1 | refine below_set ?_ GE224.out) | exact HB.out)⟩⟩
      · rw [if_neg c9] at H
        have c9b0 : decide (a1 < 0) = false := decide_eq_false c9
        clear c9
        (first | rw [c9b0] | (simp only [i64_w, i32_w]; rw [c9b0]) | skip)
        have H' := Aside0.mk H
        clear H
        have hcz10_0 : w7.cell? ⟨gb224, 0, none⟩ = some (.slice A0_0 l0_0.length c0_0) := (blk_cell BK224.out 0).trans rfl
        have hcz10_1 : w7.cell? ⟨gb224, 1, none⟩ = some (.slice A0_1 l0_1.length c0_1) := (blk_cell BK224.out 1).trans rfl
        have hcz10_2 : w7.cell? ⟨gb224, 2, none⟩ = some (.bool a0_2) := (blk_cell BK224.out 2).trans rfl
        have hcz10_3 : w7.cell? ⟨gb224, 3, none⟩ = some (.bool false) := (blk_cell BK224.out 3).trans rfl
        have hcz10_4 : w7.cell? ⟨gb224, 4, none⟩ = some (.int .i64 a0_4) := (blk_cell BK224.out 4).trans rfl
        have hfz10_0 := blk_frozen BK224.out 0
        have hfz10_1 := blk_frozen BK224.out 1
        have hfz10_2 := blk_frozen BK224.out 2
        have hfz10_3 := blk_frozen BK224.out 3
        have hfz10_4 := blk_frozen BK224.out 4
        go_wp2
        go_meet
        case rel => exact ⟨_, (decide (a1 ≥ (l0_0.length : Int))), (by first | rfl | (simp; done) | (simp [*]; done)), H', ⟨by first | omega | exact Nat.le_refl _⟩, ⟨by (with_reducible repeat (first | apply Kd.V_alloc | apply Kd.V_drewN | apply Kd.V_drew)); exact HO0_0.out⟩, ⟨by (with_reducible repeat (first | apply Kd.V_alloc | apply Kd.V_drewN | apply Kd.V_drew)); exact HO0_1.out⟩, ⟨by (with_reducible repeat (first | refine blk_drewN ?_ _ | refine blk_drew ?_ | refine blk_alloc ?_ _)); exact BK224.out⟩, ⟨by repeat (first | (with_reducible first | exact HB.out | apply below_alloc | apply pw_below_drewN | apply below_drew1 | refine below_set ?_ GE224.out) | exact HB.out)⟩⟩
    case rest =>
      clear HC6
      try clear p2
      try clear c3
      try clear c9
      try clear c9b0
      try clear hcz10_0
      try clear hcz10_1
      try clear hcz10_2
      try clear hcz10_3
      try clear hcz10_4
      try clear hcz5_0
      try clear hcz5_1
      try clear hcz5_2
      try clear hcz5_3
      try clear hcz5_4
      try clear hcz8_0
      try clear hcz8_1
      try clear hcz8_2
      try clear hcz8_3
      try clear hcz8_4
      try clear hfz10_0
      try clear hfz10_1
      try clear hfz10_2
      try clear hfz10_3
      try clear hfz10_4
      try clear hfz5_0
      try clear hfz5_1
      try clear hfz5_2
      try clear hfz5_3
      try clear hfz5_4
      try clear hfz8_0
      try clear hfz8_1
      try clear hfz8_2
      try clear hfz8_3
      try clear hfz8_4
      obtain ⟨kq, x17_5, rfl, HA, HJ5, HO_225000, HO_225001, BK224, HB⟩ := hcut
      cases kq with
      | zero => exact absurd HA.out (by first | (intro h_; cases h_; done) | simp [bobbinref03_Read.j0])
      | succ kj5 =>
        have H := HA.out
        clear HA
        rw [bobbinref03_Read.j0_eq] at H
        by_cases c11 : x17_5 = true
        · subst c11
          have H1 : (some (([] : List Int), 3)) = some (r1, r2) := by rw [if_pos rfl] at H; exact H
          clear H
          have H := H1
          clear H1
          simp only [Option.some.injEq, Prod.mk.injEq] at H
          obtain ⟨rfl, rfl⟩ := H
          go_wp2
          go_ret2
          exact ⟨_, by first | rfl | (simp [errW_none, errW_some] <;> rfl) | (simp [*, errW_none, errW_some] <;> rfl), Kd.V_nil _ _ _ _ _, by repeat (first | (with_reducible first | exact HB.out | apply below_alloc | apply pw_below_drewN | apply below_drew1 | refine below_set ?_ GE224.out) | exact HB.out)⟩
        · replace c11 := Bool.eq_false_iff.mpr c11
          subst c11
          have H1 : (bobbinref03_Read.l0 kj5 a1 (wrap64 ((l0_1.length : Int) - 1)) l0_0 l0_1 a0_2 false a0_4) = some (r1, r2) := by rw [if_neg (show ¬ (false = true) by decide)] at H; exact H
          clear H
          have H := H1
          clear H1
          have H' := Aside0.mk H
          clear H
          have hcz12_0 : wc.cell? ⟨gb224, 0, none⟩ = some (.slice A0_0 l0_0.length c0_0) := (blk_cell BK224.out 0).trans rfl
          have hcz12_1 : wc.cell? ⟨gb224, 1, none⟩ = some (.slice A0_1 l0_1.length c0_1) := (blk_cell BK224.out 1).trans rfl
          have hcz12_2 : wc.cell? ⟨gb224, 2, none⟩ = some (.bool a0_2) := (blk_cell BK224.out 2).trans rfl
          have hcz12_3 : wc.cell? ⟨gb224, 3, none⟩ = some (.bool false) := (blk_cell BK224.out 3).trans rfl
          have hcz12_4 : wc.cell? ⟨gb224, 4, none⟩ = some (.int .i64 a0_4) := (blk_cell BK224.out 4).trans rfl
          have hfz12_0 := blk_frozen BK224.out 0
          have hfz12_1 := blk_frozen BK224.out 1
          have hfz12_2 := blk_frozen BK224.out 2
          have hfz12_3 := blk_frozen BK224.out 3
          have hfz12_4 := blk_frozen BK224.out 4
          go_wp2
          go_loopg [6] kj5 (fun kq v6 w' => ∃ (x6_2 : Int), v6 = .int .i64 x6_2 ∧ Aside0 (bobbinref03_Read.l0 kq a1 x6_2 l0_0 l0_1 a0_2 false a0_4 = some (r1, r2)) ∧ Aside0 (kq ≤ kj5) ∧ Aside0 (Kd.V (Kd.slice 5 (Kd.int .u8)) 30 w' w.heap.size (fun k_ => ((P0_0_ k_ ∨ P0_1_ k_) ∨ w.heap.size ≤ k_) ∧ k_ ≠ gb224) (.slice A0_0 l0_0.length c0_0) l0_0) ∧ Aside0 (Kd.V k75 75 w' w.heap.size (fun k_ => ((P0_0_ k_ ∨ P0_1_ k_) ∨ w.heap.size ≤ k_) ∧ k_ ≠ gb224) (.slice A0_1 l0_1.length c0_1) l0_1) ∧ Aside0 (w'.heap[gb224]? = some (.cells #[(.slice A0_0 l0_0.length c0_0), (.slice A0_1 l0_1.length c0_1), .bool a0_2, .bool false, .int .i64 a0_4] 51 (0, 0))) ∧ Aside0 (Below w.heap.size w w'))
          case atStart => exact ⟨(wrap64 ((l0_1.length : Int) - 1)), (by first | rfl | (simp; done) | (simp [*]; done)), H', ⟨Nat.le_refl _⟩, ⟨by (with_reducible repeat (first | apply Kd.V_alloc | apply Kd.V_drewN | apply Kd.V_drew)); exact HO_225000.out⟩, ⟨by (with_reducible repeat (first | apply Kd.V_alloc | apply Kd.V_drewN | apply Kd.V_drew)); exact HO_225001.out⟩, ⟨by (with_reducible repeat (first | refine blk_drewN ?_ _ | refine blk_drew ?_ | refine blk_alloc ?_ _)); exact BK224.out⟩, ⟨by repeat (first | (with_reducible first | exact HB.out | apply below_alloc | apply pw_below_drewN | apply below_drew1 | refine below_set ?_ GE224.out) | exact HB.out)⟩⟩
          case round =>
            clear H'
            try clear c1
            try clear p2
            try clear c3
            try clear p6
            try clear c9
            try clear c9b0
            try clear c11
            try clear hcz10_0
            try clear hcz10_1
            try clear hcz10_2
            try clear hcz10_3
            try clear hcz10_4
            try clear hcz12_0
            try clear hcz12_1
            try clear hcz12_2
            try clear hcz12_3
            try clear hcz12_4
            try clear hcz5_0
            try clear hcz5_1
            try clear hcz5_2
            try clear hcz5_3
            try clear hcz5_4
            try clear hcz8_0
            try clear hcz8_1
            try clear hcz8_2
            try clear hcz8_3
            try clear hcz8_4
            try clear hfz10_0
            try clear hfz10_1
            try clear hfz10_2
            try clear hfz10_3
            try clear hfz10_4
            try clear hfz12_0
            try clear hfz12_1
            try clear hfz12_2
            try clear hfz12_3
            try clear hfz12_4
            try clear hfz5_0
            try clear hfz5_1
            try clear hfz5_2
            try clear hfz5_3
            try clear hfz5_4
            try clear hfz8_0
            try clear hfz8_1
            try clear hfz8_2
            try clear hfz8_3
            try clear hfz8_4
            try clear p2
            obtain ⟨x6_2, rfl, HA, HK2, HO_225000, HO_225001, BK224, HB⟩ := hrel
            cases gk with
            | zero => exact absurd HA.out (by first | (intro h_; cases h_; done) | simp [bobbinref03_Read.l0])
            | succ k2 =>
              have H := HA.out
              clear HA
              rw [bobbinref03_Read.l0_eq] at H
              by_cases c13 : x6_2 ≥ 0
              · rw [if_pos c13] at H
                have c13b0 : decide (0 ≤ x6_2) = true := decide_eq_true c13
                clear c13
                by_cases c14 : 0 ≤ x6_2
                · rw [if_pos c14] at H
                  have c14b0 : decide (0 ≤ x6_2) = true := decide_eq_true c14
                  clear c14
                  by_cases c15 : x6_2 < (l0_1.length : Int)
                  · rw [if_pos c15] at H
                    have c15b0 : decide (x6_2 < (l0_1.length : Int)) = true := decide_eq_true c15
                    clear c15
                    by_cases c16 : ((rd_T75 l0_1 x6_2).f0) = a1
                    · rw [if_pos c16] at H
                      have c16b0 : (((rd_T75 l0_1 x6_2).f0) == a1) = true := beq_iff_eq.mpr c16
                      have c16b1 : (((rd_T75 l0_1 x6_2).f0) != a1) = false := bne_eq_false_iff_eq.mpr c16
                      clear c16
                      simp only [Option.some.injEq, Prod.mk.injEq] at H
                      obtain ⟨rfl, rfl⟩ := H
                      have hcz17_0 : wr.cell? ⟨gb224, 0, none⟩ = some (.slice A0_0 l0_0.length c0_0) := (blk_cell BK224.out 0).trans rfl
                      have hcz17_1 : wr.cell? ⟨gb224, 1, none⟩ = some (.slice A0_1 l0_1.length c0_1) := (blk_cell BK224.out 1).trans rfl
                      have hcz17_2 : wr.cell? ⟨gb224, 2, none⟩ = some (.bool a0_2) := (blk_cell BK224.out 2).trans rfl
                      have hcz17_3 : wr.cell? ⟨gb224, 3, none⟩ = some (.bool false) := (blk_cell BK224.out 3).trans rfl
                      have hcz17_4 : wr.cell? ⟨gb224, 4, none⟩ = some (.int .i64 a0_4) := (blk_cell BK224.out 4).trans rfl
                      have hfz17_0 := blk_frozen BK224.out 0
                      have hfz17_1 := blk_frozen BK224.out 1
                      have hfz17_2 := blk_frozen BK224.out 2
                      have hfz17_3 := blk_frozen BK224.out 3
                      have hfz17_4 := blk_frozen BK224.out 4
                      have p225 : 0 ≤ (x6_2 : Int) := of_decide_eq_true (by first | (with_reducible assumption) | assumption)
                      have q225 : x6_2 < (l0_1.length : Int) := of_decide_eq_true (by first | (with_reducible assumption) | assumption)
                      obtain ⟨ad225, A225_1, c225_1, e225, hx225_0, hx225_1, hl225_1, hi225_1⟩ := at_T75 (Kd.V_reads' HO_225001.out).2.2 x6_2 p225 q225
                      cases e225
                      obtain ⟨ce225, hce225, hMe225, hcc225⟩ := Kd.V_get HO_225001.out z75 x6_2 p225 (by first | exact q225 | exact of_decide_eq_true (by first | (with_reducible assumption) | assumption) | (have e_ := (Kd.V_reads' HO_225001.out).1; omega))
                      obtain ⟨ua225_1, uc225_1, rfl, ul225_1, ge225_1⟩ := k75_openF hMe225
                      have hv225_1 := hcc225 1 _ rfl
                      rw [add_field _ _ 1 (by omega)] at hv225_1
                      replace hv225_1 := Option.some.inj (hv225_1.symm.trans hx225_1)
                      injection hv225_1 with hva_ hvn_ hvc_
                      rw [hva_] at ge225_1
                      rw [hvc_] at ul225_1
                      have HL225_1 := Aside0.mk (show Kd.V (Kd.int .u8) 5 _ w.heap.size _ _ ((rd_T75 l0_1 x6_2).f1) from Kd.V_mk ul225_1 ge225_1)
                      clear hva_ hvn_ hvc_ ge225_1 ul225_1
                      clear hcc225 hce225
                      have HR225_1 := Aside0.mk hi225_1
                      have HC225_1 := Aside0.mk hl225_1
                      clear hi225_1 hl225_1
                      replace p225 := eq_true p225
                      replace q225 := eq_true q225
                      have p226 : 0 ≤ (x6_2 : Int) := of_decide_eq_true (by first | (with_reducible assumption) | assumption)
                      have q226 : x6_2 < (l0_1.length : Int) := of_decide_eq_true (by first | (with_reducible assumption) | assumption)
                      obtain ⟨ad226, A226_1, c226_1, e226, hx226_0, hx226_1, hl226_1, hi226_1⟩ := at_T75 (Kd.V_reads' HO_225001.out).2.2 x6_2 p226 q226
                      obtain rfl : ad225 = ad226 := (by injection e226)
                      obtain ⟨ce226, hce226, hMe226, hcc226⟩ := Kd.V_get HO_225001.out z75 x6_2 p226 (by first | exact q226 | exact of_decide_eq_true (by first | (with_reducible assumption) | assumption) | (have e_ := (Kd.V_reads' HO_225001.out).1; omega))
                      obtain ⟨ua226_1, uc226_1, rfl, ul226_1, ge226_1⟩ := k75_openF hMe226
                      have hv226_1 := hcc226 1 _ rfl
                      rw [add_field _ _ 1 (by omega)] at hv226_1
                      replace hv226_1 := Option.some.inj (hv226_1.symm.trans hx226_1)
                      injection hv226_1 with hva_ hvn_ hvc_
                      rw [hva_] at ge226_1
                      rw [hvc_] at ul226_1
                      have HL226_1 := Aside0.mk (show Kd.V (Kd.int .u8) 5 _ w.heap.size _ _ ((rd_T75 l0_1 x6_2).f1) from Kd.V_mk ul226_1 ge226_1)
                      clear hva_ hvn_ hvc_ ge226_1 ul226_1
                      clear hcc226 hce226
                      have HR226_1 := Aside0.mk hi226_1
                      have HC226_1 := Aside0.mk hl226_1
                      clear hi226_1 hl226_1
                      replace p226 := eq_true p226
                      replace q226 := eq_true q226
                      have ea_ := Option.some.inj (hx225_1.symm.trans hx226_1)
                      injection ea_ with ea_ en_ ec_
                      subst ea_
                      subst ec_
                      clear en_
                      go_wp2
                      go_ret2
                      exact ⟨_, by first | rfl | (simp [errW_none, errW_some] <;> rfl) | (simp [*, errW_none, errW_some] <;> rfl), by (with_reducible repeat (first | apply Kd.V_alloc | apply Kd.V_drewN | apply Kd.V_drew)); exact Kd.V_mono HL226_1.out (fun _ hk => hk.1), by repeat (first | (with_reducible first | exact HB.out | apply below_alloc | apply pw_below_drewN | apply below_drew1 | refine below_set ?_ GE224.out) | exact HB.out)⟩
                    · rw [if_neg c16] at H
                      have c16b0 : (((rd_T75 l0_1 x6_2).f0) == a1) = false := beq_eq_false_iff_ne.mpr c16
                      have c16b1 : (((rd_T75 l0_1 x6_2).f0) != a1) = true := bne_iff_ne.mpr c16
                      have H' := Aside0.mk H
                      clear H
                      have hcz18_0 : wr.cell? ⟨gb224, 0, none⟩ = some (.slice A0_0 l0_0.length c0_0) := (blk_cell BK224.out 0).trans rfl
                      have hcz18_1 : wr.cell? ⟨gb224, 1, none⟩ = some (.slice A0_1 l0_1.length c0_1) := (blk_cell BK224.out 1).trans rfl
                      have hcz18_2 : wr.cell? ⟨gb224, 2, none⟩ = some (.bool a0_2) := (blk_cell BK224.out 2).trans rfl
                      have hcz18_3 : wr.cell? ⟨gb224, 3, none⟩ = some (.bool false) := (blk_cell BK224.out 3).trans rfl
                      have hcz18_4 : wr.cell? ⟨gb224, 4, none⟩ = some (.int .i64 a0_4) := (blk_cell BK224.out 4).trans rfl
                      have hfz18_0 := blk_frozen BK224.out 0
                      have hfz18_1 := blk_frozen BK224.out 1
                      have hfz18_2 := blk_frozen BK224.out 2
                      have hfz18_3 := blk_frozen BK224.out 3
                      have hfz18_4 := blk_frozen BK224.out 4
                      have p225 : 0 ≤ (x6_2 : Int) := of_decide_eq_true (by first | (with_reducible assumption) | assumption)
                      have q225 : x6_2 < (l0_1.length : Int) := of_decide_eq_true (by first | (with_reducible assumption) | assumption)
                      obtain ⟨ad225, A225_1, c225_1, e225, hx225_0, hx225_1, hl225_1, hi225_1⟩ := at_T75 (Kd.V_reads' HO_225001.out).2.2 x6_2 p225 q225
                      cases e225
                      obtain ⟨ce225, hce225, hMe225, hcc225⟩ := Kd.V_get HO_225001.out z75 x6_2 p225 (by first | exact q225 | exact of_decide_eq_true (by first | (with_reducible assumption) | assumption) | (have e_ := (Kd.V_reads' HO_225001.out).1; omega))
                      obtain ⟨ua225_1, uc225_1, rfl, ul225_1, ge225_1⟩ := k75_openF hMe225
                      have hv225_1 := hcc225 1 _ rfl
                      rw [add_field _ _ 1 (by omega)] at hv225_1
                      replace hv225_1 := Option.some.inj (hv225_1.symm.trans hx225_1)
                      injection hv225_1 with hva_ hvn_ hvc_
                      rw [hva_] at ge225_1
                      rw [hvc_] at ul225_1
                      have HL225_1 := Aside0.mk (show Kd.V (Kd.int .u8) 5 _ w.heap.size _ _ ((rd_T75 l0_1 x6_2).f1) from Kd.V_mk ul225_1 ge225_1)
                      clear hva_ hvn_ hvc_ ge225_1 ul225_1
                      clear hcc225 hce225
                      have HR225_1 := Aside0.mk hi225_1
                      have HC225_1 := Aside0.mk hl225_1
                      clear hi225_1 hl225_1
                      replace p225 := eq_true p225
                      replace q225 := eq_true q225
                      go_wp2
                      go_roundg k2
                      case measure => have := HJ5.out; have := HK2.out; omega
                      case rel => exact ⟨(wrap64 (x6_2 - 1)), (by first | rfl | (simp; done) | (simp [*]; done)), H', ⟨by have := HJ5.out; have := HK2.out; omega⟩, ⟨by (with_reducible repeat (first | apply Kd.V_alloc | apply Kd.V_drewN | apply Kd.V_drew)); exact HO_225000.out⟩, ⟨by (with_reducible repeat (first | apply Kd.V_alloc | apply Kd.V_drewN | apply Kd.V_drew)); exact HO_225001.out⟩, ⟨by (with_reducible repeat (first | refine blk_drewN ?_ _ | refine blk_drew ?_ | refine blk_alloc ?_ _)); exact BK224.out⟩, ⟨by repeat (first | (with_reducible first | exact HB.out | apply below_alloc | apply pw_below_drewN | apply below_drew1 | refine below_set ?_ GE224.out) | exact HB.out)⟩⟩
                  · rw [if_neg c15] at H
                    exact absurd H (by simp)
                · rw [if_neg c14] at H
                  exact absurd H (by simp)
              · rw [if_neg c13] at H
                have c13b0 : decide (0 ≤ x6_2) = false := decide_eq_false c13
                clear c13
                by_cases c19 : 0 ≤ a1
                · rw [if_pos c19] at H
                  have c19b0 : decide (0 ≤ a1) = true := decide_eq_true c19
                  clear c19
                  by_cases c20 : a1 < (l0_0.length : Int)
                  · rw [if_pos c20] at H
                    have c20b0 : decide (a1 < (l0_0.length : Int)) = true := decide_eq_true c20
                    clear c20
                    simp only [Option.some.injEq, Prod.mk.injEq] at H
                    obtain ⟨rfl, rfl⟩ := H
                    have hcz21_0 : wr.cell? ⟨gb224, 0, none⟩ = some (.slice A0_0 l0_0.length c0_0) := (blk_cell BK224.out 0).trans rfl
                    have hcz21_1 : wr.cell? ⟨gb224, 1, none⟩ = some (.slice A0_1 l0_1.length c0_1) := (blk_cell BK224.out 1).trans rfl
                    have hcz21_2 : wr.cell? ⟨gb224, 2, none⟩ = some (.bool a0_2) := (blk_cell BK224.out 2).trans rfl
                    have hcz21_3 : wr.cell? ⟨gb224, 3, none⟩ = some (.bool false) := (blk_cell BK224.out 3).trans rfl
                    have hcz21_4 : wr.cell? ⟨gb224, 4, none⟩ = some (.int .i64 a0_4) := (blk_cell BK224.out 4).trans rfl
                    have hfz21_0 := blk_frozen BK224.out 0
                    have hfz21_1 := blk_frozen BK224.out 1
                    have hfz21_2 := blk_frozen BK224.out 2
                    have hfz21_3 := blk_frozen BK224.out 3
                    have hfz21_4 := blk_frozen BK224.out 4
                    have p227 : 0 ≤ (a1 : Int) := of_decide_eq_true (by first | (with_reducible assumption) | assumption)
                    have q227 : a1 < (l0_0.length : Int) := of_decide_eq_true (by first | (with_reducible assumption) | assumption)
                    obtain ⟨ad227, A227_0, c227_0, e227, hx227_0, hl227_0, hi227_0⟩ := at_L1 (Kd.V_reads' HO_225000.out).2.2 a1 p227 q227
                    cases e227
                    obtain ⟨ce227, hce227, hMe227, hcc227⟩ := Kd.V_get HO_225000.out [] a1 p227 (by first | exact q227 | exact of_decide_eq_true (by first | (with_reducible assumption) | assumption) | (have e_ := (Kd.V_reads' HO_225000.out).1; omega))
                    obtain ⟨ua227_0, uc227_0, rfl, ul227_0, ge227_0⟩ := Kd.FK_slice_open hMe227
                    have hv227_0 := hcc227 0 _ rfl
                    rw [Nat.add_zero, show ((Kd.slice 5 (Kd.int .u8))).sz = 1 from rfl, Nat.mul_one] at hv227_0
                    replace hv227_0 := Option.some.inj (hv227_0.symm.trans hx227_0)
                    injection hv227_0 with hva_ hvn_ hvc_
                    rw [hva_] at ge227_0
                    rw [hvc_] at ul227_0
                    have HL227_0 := Aside0.mk (show Kd.V (Kd.int .u8) 5 _ w.heap.size _ _ (rd_L1 l0_0 a1) from Kd.V_mk ul227_0 ge227_0)
                    clear hva_ hvn_ hvc_ ge227_0 ul227_0
                    clear hcc227 hce227
                    have HR227_0 := Aside0.mk hi227_0
                    have HC227_0 := Aside0.mk hl227_0
                    clear hi227_0 hl227_0
                    replace p227 := eq_true p227
                    replace q227 := eq_true q227
                    go_wp2
                    go_ret2
                    exact ⟨_, by first | rfl | (simp [errW_none, errW_some] <;> rfl) | (simp [*, errW_none, errW_some] <;> rfl), by (with_reducible repeat (first | apply Kd.V_alloc | apply Kd.V_drewN | apply Kd.V_drew)); exact Kd.V_mono HL227_0.out (fun _ hk => hk.1), by repeat (first | (with_reducible first | exact HB.out | apply below_alloc | apply pw_below_drewN | apply below_drew1 | refine below_set ?_ GE224.out) | exact HB.out)⟩
                  · rw [if_neg c20] at H
                    exact absurd H (by simp)
                · rw [if_neg c19] at H
                  exact absurd H (by simp)

-- NOT PRINTED: function 27 (bobbinlaw03_same)

-- NOT PRINTED: function 6 (bobbinlaw03_DiskDoes)

-- NOT PRINTED: function 7 (bobbinlaw03_DiskKeeps)

-- NOT PRINTED: function 8 (bobbinlaw03_DiskNone)

end Go.Proofs.Ytghhmbagjhmgfaa.Print
