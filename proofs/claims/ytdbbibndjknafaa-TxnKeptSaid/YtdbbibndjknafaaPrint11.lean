-- Written by a program of this session (myprint.py over the kit's print.py) out of the translation. Not trusted: Lean checks it.
import Derived.Test.YtdbbibndjknafaaPrint0
namespace Go.Proofs.Ytdbbibndjknafaa.Print
open Go.RowKit Go.Proofs.YtdbbibndjknafaaW.PrintWords Go.Proofs.YtdbbibndjknafaaW.PrintLast Go.Proofs.YtdbbibndjknafaaW.PrintMore
attribute [local go_sem] max2_int min2_int max_two min_two max_three min_three max_four min_four   -- for this text's walks alone
set_option linter.unusedVariables false
set_option linter.unusedSimpArgs false
-- NOT PRINTED: function 3 (bobbinlaw14_TxnTells)
def bobbinref14_Size.f (a0_0 : Bool) (l0_1 : List Int) : Option (Int) := if a0_0 = true then (some (wrap64 (4 + (l0_1.length : Int)))) else (some 0)
set_option maxHeartbeats 8000000 in
set_option maxRecDepth 100000 in
theorem bobbinref14_Size.calls (a0_0 : Bool) (A0_1 : Option Addr) (c0_1 : Nat) (l0_1 : List Int) (r : Int) (w : World) (hr0_1 : Kd.C (Kd.int .u8) w A0_1 l0_1.length l0_1) (hc0_1 : l0_1.length ≤ c0_1) (h : bobbinref14_Size.f a0_0 l0_1 = some r) :
    Calls Try.prog 28 #[.agg #[.bool a0_0, .slice A0_1 l0_1.length c0_1]] w fun e w' => e = .returned (.int .i64 r) ∧ Below w.heap.size w w' := by
  have hu28 := Try.underlying28
  have HR0_1 := Aside0.mk hr0_1
  have HC0_1 := Aside0.mk hc0_1
  clear hr0_1 hc0_1
  have HB := Aside0.mk (Below.refl w.heap.size w)
  have H : (if a0_0 = true then (some (wrap64 (4 + (l0_1.length : Int)))) else (some 0)) = some r := h
  clear h
  by_cases c2 : a0_0 = true
  · subst c2
    have H1 : (some (wrap64 (4 + (l0_1.length : Int)))) = some r := by rw [if_pos rfl] at H; exact H
    clear H
    have H := H1
    clear H1
    obtain rfl := Option.some.inj H
    go_enter Try.func28, Try.ntmps28
    go_wp2_with (first | ((with_reducible refine gate_dst (N := 1) rfl ?_); refine box_event ?hg (N := 1) ?hd (cs := #[.bool true, .slice A0_1 l0_1.length c0_1]) (t := 28) ?hr ?_; (case hd => rfl); (case hg => rfl); (case hr => first | (go_simp; done) | (go_simp; rfl)); intro gb333 hg w3 hbox hb; have n0_ := Aside0.mk (below_step (by repeat (first | (with_reducible first | exact HB.out | apply below_alloc | apply pw_below_drewN | apply below_drew1) | exact HB.out)) hb); have n1_ := Aside0.mk (hbox); have n2_ := Aside0.mk ((by rw [hg]; exact (below_size (by repeat (first | (with_reducible first | exact HB.out | apply below_alloc | apply pw_below_drewN | apply below_drew1) | exact HB.out))) : w.heap.size ≤ gb333)); have n3_ := Aside0.mk ((by rw [hg]; exact (below_size (by repeat (first | (with_reducible first | exact HB.out | apply below_alloc | apply pw_below_drewN | apply below_drew1) | exact HB.out))) : w.heap.size ≤ gb333)); clear HB; have HB := n0_; have BK333 := n1_; have GW333 := n2_; have GE333 := n3_; clear n0_ n1_ n2_ n3_; clear hb hbox hg; have hcz4_0 : w3.cell? ⟨gb333, 0, none⟩ = some (.bool true) := (blk_cell BK333.out 0).trans rfl; have hcz4_1 : w3.cell? ⟨gb333, 1, none⟩ = some (.slice A0_1 l0_1.length c0_1) := (blk_cell BK333.out 1).trans rfl; have hfz4_0 := blk_frozen BK333.out 0; have hfz4_1 := blk_frozen BK333.out 1))
    go_ret
    exact ⟨by first | rfl | (simp [errW_none, errW_some] <;> rfl) | (simp [*, errW_none, errW_some] <;> rfl), by repeat (first | (with_reducible first | exact HB.out | apply below_alloc | apply pw_below_drewN | apply below_drew1 | refine below_set ?_ GE333.out) | exact HB.out)⟩
  · replace c2 := Bool.eq_false_iff.mpr c2
    subst c2
    have H1 : (some 0) = some r := by rw [if_neg (show ¬ (false = true) by decide)] at H; exact H
    clear H
    have H := H1
    clear H1
    obtain rfl := Option.some.inj H
    go_enter Try.func28, Try.ntmps28
    go_wp2_with (first | ((with_reducible refine gate_dst (N := 1) rfl ?_); refine box_event ?hg (N := 1) ?hd (cs := #[.bool false, .slice A0_1 l0_1.length c0_1]) (t := 28) ?hr ?_; (case hd => rfl); (case hg => rfl); (case hr => first | (go_simp; done) | (go_simp; rfl)); intro gb333 hg w5 hbox hb; have n0_ := Aside0.mk (below_step (by repeat (first | (with_reducible first | exact HB.out | apply below_alloc | apply pw_below_drewN | apply below_drew1) | exact HB.out)) hb); have n1_ := Aside0.mk (hbox); have n2_ := Aside0.mk ((by rw [hg]; exact (below_size (by repeat (first | (with_reducible first | exact HB.out | apply below_alloc | apply pw_below_drewN | apply below_drew1) | exact HB.out))) : w.heap.size ≤ gb333)); have n3_ := Aside0.mk ((by rw [hg]; exact (below_size (by repeat (first | (with_reducible first | exact HB.out | apply below_alloc | apply pw_below_drewN | apply below_drew1) | exact HB.out))) : w.heap.size ≤ gb333)); clear HB; have HB := n0_; have BK333 := n1_; have GW333 := n2_; have GE333 := n3_; clear n0_ n1_ n2_ n3_; clear hb hbox hg; have hcz6_0 : w5.cell? ⟨gb333, 0, none⟩ = some (.bool false) := (blk_cell BK333.out 0).trans rfl; have hcz6_1 : w5.cell? ⟨gb333, 1, none⟩ = some (.slice A0_1 l0_1.length c0_1) := (blk_cell BK333.out 1).trans rfl; have hfz6_0 := blk_frozen BK333.out 0; have hfz6_1 := blk_frozen BK333.out 1))
    go_ret
    exact ⟨by first | rfl | (simp [errW_none, errW_some] <;> rfl) | (simp [*, errW_none, errW_some] <;> rfl), by repeat (first | (with_reducible first | exact HB.out | apply below_alloc | apply pw_below_drewN | apply below_drew1 | refine below_set ?_ GE333.out) | exact HB.out)⟩
mutual
def bobbinref14_Kept.l0 : Nat → List (S25) → Int → Int → Int → Option (Int)
  | 0, _, _, _, _ => none
  | k + 1, x0, x1, x5, x6 => if x6 < (x0.length : Int) then (bobbinref14_Kept.l1 k x0 x1 x5 x6 0) else (some x5)
def bobbinref14_Kept.l1 : Nat → List (S25) → Int → Int → Int → Int → Option (Int)
  | 0, _, _, _, _, _ => none
  | k + 1, x0, x1, x5, x6, x7 => if 0 ≤ x6 then (if x6 < (x0.length : Int) then (if x7 < (((rd_T25 x0 x6).f4).length : Int) then (if 0 ≤ x7 then ((bobbinref14_Size.f ((rd_T30 ((rd_T25 x0 x6).f4) x7).f3.f0) ((rd_T30 ((rd_T25 x0 x6).f4) x7).f3.f1)).bind fun t338 => ((bobbinref14_Size.f ((rd_T30 ((rd_T25 x0 x6).f4) x7).f4.f0) ((rd_T30 ((rd_T25 x0 x6).f4) x7).f4.f1)).bind fun t339 => (if ((rd_T30 ((rd_T25 x0 x6).f4) x7).f1) = x1 then (if (wrap64 (t338 - t339)) > 0 then (bobbinref14_Kept.l1 k x0 x1 (wrap64 (x5 + (wrap64 (t338 - t339)))) x6 (wrap64 (x7 + 1))) else (bobbinref14_Kept.l1 k x0 x1 x5 x6 (wrap64 (x7 + 1)))) else (bobbinref14_Kept.l1 k x0 x1 x5 x6 (wrap64 (x7 + 1)))))) else (none)) else (bobbinref14_Kept.l0 k x0 x1 x5 (wrap64 (x6 + 1)))) else (none)) else (none)
end
theorem bobbinref14_Kept.l0_eq : ∀ (k : Nat) x0 x1 x5 x6, bobbinref14_Kept.l0 (k + 1) x0 x1 x5 x6 = (if x6 < (x0.length : Int) then (bobbinref14_Kept.l1 k x0 x1 x5 x6 0) else (some x5)) := fun _ _ _ _ _ => rfl
theorem bobbinref14_Kept.l1_eq : ∀ (k : Nat) x0 x1 x5 x6 x7, bobbinref14_Kept.l1 (k + 1) x0 x1 x5 x6 x7 = (if 0 ≤ x6 then (if x6 < (x0.length : Int) then (if x7 < (((rd_T25 x0 x6).f4).length : Int) then (if 0 ≤ x7 then ((bobbinref14_Size.f ((rd_T30 ((rd_T25 x0 x6).f4) x7).f3.f0) ((rd_T30 ((rd_T25 x0 x6).f4) x7).f3.f1)).bind fun t338 => ((bobbinref14_Size.f ((rd_T30 ((rd_T25 x0 x6).f4) x7).f4.f0) ((rd_T30 ((rd_T25 x0 x6).f4) x7).f4.f1)).bind fun t339 => (if ((rd_T30 ((rd_T25 x0 x6).f4) x7).f1) = x1 then (if (wrap64 (t338 - t339)) > 0 then (bobbinref14_Kept.l1 k x0 x1 (wrap64 (x5 + (wrap64 (t338 - t339)))) x6 (wrap64 (x7 + 1))) else (bobbinref14_Kept.l1 k x0 x1 x5 x6 (wrap64 (x7 + 1)))) else (bobbinref14_Kept.l1 k x0 x1 x5 x6 (wrap64 (x7 + 1)))))) else (none)) else (bobbinref14_Kept.l0 k x0 x1 x5 (wrap64 (x6 + 1)))) else (none)) else (none)) := fun _ _ _ _ _ _ => rfl
def bobbinref14_Kept.f (k : Nat) (l0 : List (S25)) (a1 : Int) : Option (Int) := bobbinref14_Kept.l0 k l0 a1 0 0
theorem bobbinref14_Kept.mono_l : ∀ k, (∀ y0 y1 y2 y3, LeO (bobbinref14_Kept.l0 k y0 y1 y2 y3) (bobbinref14_Kept.l0 (k + 1) y0 y1 y2 y3)) ∧ (∀ y0 y1 y2 y3 y4, LeO (bobbinref14_Kept.l1 k y0 y1 y2 y3 y4) (bobbinref14_Kept.l1 (k + 1) y0 y1 y2 y3 y4))
  | 0 => ⟨fun _ _ _ _ r h => by first | (cases h; done) | simp [bobbinref14_Kept.l0] at h, fun _ _ _ _ _ r h => by first | (cases h; done) | simp [bobbinref14_Kept.l1] at h⟩
  | k + 1 => by
    obtain ⟨ih0, ih1⟩ := bobbinref14_Kept.mono_l k
    refine ⟨?_, ?_⟩
    · intro y0 y1 y2 y3
      unfold bobbinref14_Kept.l0
      repeat' first
      | (with_reducible exact ih0 _ _ _ _)
      | (with_reducible exact ih1 _ _ _ _ _)
      | (with_reducible exact LeO.refl _)
      | (with_reducible exact LeO.none _)
      | (with_reducible refine LeO.ite ?_ ?_)
      | (with_reducible refine LeO.bind ?_ (fun _ => ?_))
      | exact ih0 _ _ _ _
      | exact ih1 _ _ _ _ _
      | exact LeO.none _
      | refine LeO.ite ?_ ?_
      | refine LeO.bind ?_ (fun _ => ?_)
    · intro y0 y1 y2 y3 y4
      unfold bobbinref14_Kept.l1
      repeat' first
      | (with_reducible exact ih0 _ _ _ _)
      | (with_reducible exact ih1 _ _ _ _ _)
      | (with_reducible exact LeO.refl _)
      | (with_reducible exact LeO.none _)
      | (with_reducible refine LeO.ite ?_ ?_)
      | (with_reducible refine LeO.bind ?_ (fun _ => ?_))
      | exact ih0 _ _ _ _
      | exact ih1 _ _ _ _ _
      | exact LeO.none _
      | refine LeO.ite ?_ ?_
      | refine LeO.bind ?_ (fun _ => ?_)
theorem bobbinref14_Kept.mono : ∀ a0 a1 k, LeO (bobbinref14_Kept.f k a0 a1) (bobbinref14_Kept.f (k + 1) a0 a1) := by
  intro a0 a1 k
  obtain ⟨ih0, ih1⟩ := bobbinref14_Kept.mono_l k
  unfold bobbinref14_Kept.f
  repeat' first
      | (with_reducible exact ih0 _ _ _ _)
      | (with_reducible exact ih1 _ _ _ _ _)
      | (with_reducible exact LeO.refl _)
      | (with_reducible exact LeO.none _)
      | (with_reducible refine LeO.ite ?_ ?_)
      | (with_reducible refine LeO.bind ?_ (fun _ => ?_))
      | exact ih0 _ _ _ _
      | exact ih1 _ _ _ _ _
      | exact LeO.none _
      | refine LeO.ite ?_ ?_
      | refine LeO.bind ?_ (fun _ => ?_)
def bobbinref14_Kept.T9 : Bool × List (List Nat × List Nat) := (true, [([], []), ([0], [0]), ([1], [1]), ([], []), ([3], [3]), ([4, 2], [4]), ([2, 5], [2, 5]), ([6, 5, 0, 1, 2, 3, 4, 5, 6], [6])])
def bobbinref14_Kept.B9 : List Nat := [0, 1, 3, 0, 8, 31, 63, 127]
theorem bobbinref14_Kept.tab9 : rtab .any (opsOf Try.f26 9) = bobbinref14_Kept.T9 := by kernel_rfl
theorem bobbinref14_Kept.bits9 : waitsOk bobbinref14_Kept.T9.2 bobbinref14_Kept.B9 = true := by kernel_rfl
set_option maxHeartbeats 8000000 in
set_option maxRecDepth 100000 in
theorem bobbinref14_Kept.calls (k : Nat) (A0 : Option Addr) (c0 : Nat) (l0 : List (S25)) (a1 : Int) (r : Int) (w : World) (hr0 : Kd.C k25 w A0 l0.length l0) (hc0 : l0.length ≤ c0) (h : bobbinref14_Kept.f k l0 a1 = some r) :
    Calls Try.prog 26 #[.slice A0 l0.length c0, .int .i64 a1] w fun e w' => e = .returned (.int .i64 r) ∧ Below w.heap.size w w' := by
  have hu30 := Try.underlying30
  have hu28 := Try.underlying28
  have HR0 := Aside0.mk hr0
  have HC0 := Aside0.mk hc0
  clear hr0 hc0
  have HB := Aside0.mk (Below.refl w.heap.size w)
  have H : (bobbinref14_Kept.l0 k l0 a1 0 0) = some r := h
  clear h
  have H' := Aside0.mk H
  clear H
  go_enter Try.func26, Try.ntmps26
  go_wp2
  go_loopg [5, 6] k (fun kq v5 v6 w' => ∃ (x5_1 : Int) (x6_1 : Int), v5 = .int .i64 x5_1 ∧ v6 = .int .i64 x6_1 ∧ Aside0 (bobbinref14_Kept.l0 kq l0 a1 x5_1 x6_1 = some r) ∧ Aside0 (kq ≤ k) ∧ Aside0 (Below w.heap.size w w'))
  case atStart => exact ⟨(0), (0), (by first | rfl | (simp; done) | (simp [*]; done)), (by first | rfl | (simp; done) | (simp [*]; done)), H', ⟨Nat.le_refl _⟩, ⟨by repeat (first | (with_reducible first | exact HB.out | apply below_alloc | apply pw_below_drewN | apply below_drew1) | exact HB.out)⟩⟩
  case round =>
    clear H'
    try clear c2
    try clear p2
    obtain ⟨x5_1, x6_1, rfl, rfl, HA, HK1, HB⟩ := hrel
    cases gk with
    | zero => exact absurd HA.out (by first | (intro h_; cases h_; done) | simp [bobbinref14_Kept.l0])
    | succ k1 =>
      have H := HA.out
      clear HA
      rw [bobbinref14_Kept.l0_eq] at H
      by_cases c3 : x6_1 < (l0.length : Int)
      · rw [if_pos c3] at H
        have c3b0 : decide (x6_1 < (l0.length : Int)) = true := decide_eq_true c3
        clear c3
        have H' := Aside0.mk H
        clear H
        go_wp2
        go_loopg [5, 7] k1 (fun kq v5 v7 w' => ∃ (x5_2 : Int) (x7_2 : Int), v5 = .int .i64 x5_2 ∧ v7 = .int .i64 x7_2 ∧ Aside0 (bobbinref14_Kept.l1 kq l0 a1 x5_2 x6_1 x7_2 = some r) ∧ Aside0 (kq ≤ k1) ∧ Aside0 (Below w.heap.size w w'))
        case atStart => exact ⟨(x5_1), (0), (by first | rfl | (simp; done) | (simp [*]; done)), (by first | rfl | (simp; done) | (simp [*]; done)), H', ⟨Nat.le_refl _⟩, ⟨by repeat (first | (with_reducible first | exact HB.out | apply below_alloc | apply pw_below_drewN | apply below_drew1) | exact HB.out)⟩⟩
        case round =>
          clear H'
          try clear c2
          try clear p2
          try clear c3
          try clear c3b0
          try clear p2
          obtain ⟨x5_2, x7_2, rfl, rfl, HA, HK2, HB⟩ := hrel
          cases gk with
          | zero => exact absurd HA.out (by first | (intro h_; cases h_; done) | simp [bobbinref14_Kept.l1])
          | succ k2 =>
            have H := HA.out
            clear HA
            rw [bobbinref14_Kept.l1_eq] at H
            by_cases c4 : 0 ≤ x6_1
            · rw [if_pos c4] at H
              have c4b0 : decide (0 ≤ x6_1) = true := decide_eq_true c4
              clear c4
              by_cases c5 : x6_1 < (l0.length : Int)
              · rw [if_pos c5] at H
                have c5b0 : decide (x6_1 < (l0.length : Int)) = true := decide_eq_true c5
                clear c5
                by_cases c6 : x7_2 < (((rd_T25 l0 x6_1).f4).length : Int)
                · rw [if_pos c6] at H
                  have c6b0 : decide (x7_2 < (((rd_T25 l0 x6_1).f4).length : Int)) = true := decide_eq_true c6
                  clear c6
                  by_cases c7 : 0 ≤ x7_2
                  · rw [if_pos c7] at H
                    have c7b0 : decide (0 ≤ x7_2) = true := decide_eq_true c7
                    clear c7
                    replace H := Option.bind_eq_some_iff.mp H
                    obtain ⟨t338, A80, H⟩ := H
                    replace H : ((bobbinref14_Size.f ((rd_T30 ((rd_T25 l0 x6_1).f4) x7_2).f4.f0) ((rd_T30 ((rd_T25 l0 x6_1).f4) x7_2).f4.f1)).bind fun t339 => (if ((rd_T30 ((rd_T25 l0 x6_1).f4) x7_2).f1) = a1 then (if (wrap64 (t338 - t339)) > 0 then (bobbinref14_Kept.l1 k2 l0 a1 (wrap64 (x5_2 + (wrap64 (t338 - t339)))) x6_1 (wrap64 (x7_2 + 1))) else (bobbinref14_Kept.l1 k2 l0 a1 x5_2 x6_1 (wrap64 (x7_2 + 1)))) else (bobbinref14_Kept.l1 k2 l0 a1 x5_2 x6_1 (wrap64 (x7_2 + 1))))) = some r := H
                    have A8 := Aside0.mk A80
                    clear A80
                    replace H := Option.bind_eq_some_iff.mp H
                    obtain ⟨t339, A90, H⟩ := H
                    replace H : (if ((rd_T30 ((rd_T25 l0 x6_1).f4) x7_2).f1) = a1 then (if (wrap64 (t338 - t339)) > 0 then (bobbinref14_Kept.l1 k2 l0 a1 (wrap64 (x5_2 + (wrap64 (t338 - t339)))) x6_1 (wrap64 (x7_2 + 1))) else (bobbinref14_Kept.l1 k2 l0 a1 x5_2 x6_1 (wrap64 (x7_2 + 1)))) else (bobbinref14_Kept.l1 k2 l0 a1 x5_2 x6_1 (wrap64 (x7_2 + 1)))) = some r := H
                    have A9 := Aside0.mk A90
                    clear A90
                    by_cases c10 : ((rd_T30 ((rd_T25 l0 x6_1).f4) x7_2).f1) = a1
                    · rw [if_pos c10] at H
                      have c10b0 : (((rd_T30 ((rd_T25 l0 x6_1).f4) x7_2).f1) == a1) = true := beq_iff_eq.mpr c10
                      have c10b1 : (((rd_T30 ((rd_T25 l0 x6_1).f4) x7_2).f1) != a1) = false := bne_eq_false_iff_eq.mpr c10
                      clear c10
                      by_cases c11 : (wrap64 (t338 - t339)) > 0
                      · rw [if_pos c11] at H
                        have c11b0 : decide (0 < (wrap64 (t338 - t339))) = true := decide_eq_true c11
                        clear c11
                        have H' := Aside0.mk H
                        clear H
                        have p334 : 0 ≤ (x6_1 : Int) := of_decide_eq_true (by first | (with_reducible assumption) | assumption)
                        have q334 : x6_1 < (l0.length : Int) := of_decide_eq_true (by first | (with_reducible assumption) | assumption)
                        obtain ⟨ad334, A334_4, c334_4, A334_5, c334_5, e334, hx334_0, hx334_1, hx334_2, hx334_3, hx334_4, hx334_5, hl334_4, hi334_4, hl334_5, hi334_5⟩ := at_T25 HR0.out x6_1 p334 q334
                        cases e334
                        replace hx334_0 := (HB.out.cell (World.block_lt_of_cell? w _ hx334_0)).trans hx334_0
                        replace hx334_1 := (HB.out.cell (World.block_lt_of_cell? w _ hx334_1)).trans hx334_1
                        replace hx334_2 := (HB.out.cell (World.block_lt_of_cell? w _ hx334_2)).trans hx334_2
                        replace hx334_3 := (HB.out.cell (World.block_lt_of_cell? w _ hx334_3)).trans hx334_3
                        replace hx334_4 := (HB.out.cell (World.block_lt_of_cell? w _ hx334_4)).trans hx334_4
                        replace hx334_5 := (HB.out.cell (World.block_lt_of_cell? w _ hx334_5)).trans hx334_5
                        have HR334_4 := Aside0.mk hi334_4
                        have HC334_4 := Aside0.mk hl334_4
                        clear hi334_4 hl334_4
                        have HR334_5 := Aside0.mk hi334_5
                        have HC334_5 := Aside0.mk hl334_5
                        clear hi334_5 hl334_5
                        replace p334 := eq_true p334
                        replace q334 := eq_true q334
                        have p335 : 0 ≤ (x6_1 : Int) := of_decide_eq_true (by first | (with_reducible assumption) | assumption)
                        have q335 : x6_1 < (l0.length : Int) := of_decide_eq_true (by first | (with_reducible assumption) | assumption)
                        obtain ⟨ad335, A335_4, c335_4, A335_5, c335_5, e335, hx335_0, hx335_1, hx335_2, hx335_3, hx335_4, hx335_5, hl335_4, hi335_4, hl335_5, hi335_5⟩ := at_T25 HR0.out x6_1 p335 q335
                        obtain rfl : ad334 = ad335 := (by injection e335)
                        replace hx335_0 := (HB.out.cell (World.block_lt_of_cell? w _ hx335_0)).trans hx335_0
                        replace hx335_1 := (HB.out.cell (World.block_lt_of_cell? w _ hx335_1)).trans hx335_1
                        replace hx335_2 := (HB.out.cell (World.block_lt_of_cell? w _ hx335_2)).trans hx335_2
                        replace hx335_3 := (HB.out.cell (World.block_lt_of_cell? w _ hx335_3)).trans hx335_3
                        replace hx335_4 := (HB.out.cell (World.block_lt_of_cell? w _ hx335_4)).trans hx335_4
                        replace hx335_5 := (HB.out.cell (World.block_lt_of_cell? w _ hx335_5)).trans hx335_5
                        have HR335_4 := Aside0.mk hi335_4
                        have HC335_4 := Aside0.mk hl335_4
                        clear hi335_4 hl335_4
                        have HR335_5 := Aside0.mk hi335_5
                        have HC335_5 := Aside0.mk hl335_5
                        clear hi335_5 hl335_5
                        replace p335 := eq_true p335
                        replace q335 := eq_true q335
                        have ea_ := Option.some.inj (hx334_4.symm.trans hx335_4)
                        injection ea_ with ea_ en_ ec_
                        subst ea_
                        subst ec_
                        clear en_
                        have ea_ := Option.some.inj (hx334_5.symm.trans hx335_5)
                        injection ea_ with ea_ en_ ec_
                        subst ea_
                        subst ec_
                        clear en_
                        have p336 : 0 ≤ (x7_2 : Int) := of_decide_eq_true (by first | (with_reducible assumption) | assumption)
                        have q336 : x7_2 < (((rd_T25 l0 x6_1).f4).length : Int) := of_decide_eq_true (by first | (with_reducible assumption) | assumption)
                        obtain ⟨ad336, A336_4, c336_4, A336_6, c336_6, e336, hx336_0, hx336_1, hx336_2, hx336_3, hx336_4, hx336_5, hx336_6, hl336_4, hi336_4, hl336_6, hi336_6⟩ := at_T30 HR335_4.out x7_2 p336 q336
                        cases e336
                        replace hx336_0 := (HB.out.cell (World.block_lt_of_cell? w _ hx336_0)).trans hx336_0
                        replace hx336_1 := (HB.out.cell (World.block_lt_of_cell? w _ hx336_1)).trans hx336_1
                        replace hx336_2 := (HB.out.cell (World.block_lt_of_cell? w _ hx336_2)).trans hx336_2
                        replace hx336_3 := (HB.out.cell (World.block_lt_of_cell? w _ hx336_3)).trans hx336_3
                        replace hx336_4 := (HB.out.cell (World.block_lt_of_cell? w _ hx336_4)).trans hx336_4
                        replace hx336_5 := (HB.out.cell (World.block_lt_of_cell? w _ hx336_5)).trans hx336_5
                        replace hx336_6 := (HB.out.cell (World.block_lt_of_cell? w _ hx336_6)).trans hx336_6
                        have HR336_4 := Aside0.mk hi336_4
                        have HC336_4 := Aside0.mk hl336_4
                        clear hi336_4 hl336_4
                        have HR336_6 := Aside0.mk hi336_6
                        have HC336_6 := Aside0.mk hl336_6
                        clear hi336_6 hl336_6
                        replace p336 := eq_true p336
                        replace q336 := eq_true q336
                        try go_wp2_with (first | ((with_reducible refine gate_dst (N := 8) rfl ?_); refine box_event ?hg (N := 8) ?hd (cs := #[.int .i64 0, .int .i64 0, .int .i64 0, .bool false, .slice none 0 0, .bool false, .slice none 0 0]) (t := 30) ?hr ?_; (case hd => rfl); (case hg => rfl); (case hr => first | (go_simp; done) | (go_simp; rfl)); intro gb337 hg w12 hbox hb; have n0_ := Aside0.mk (below_step (by repeat (first | (with_reducible first | exact HB.out | apply below_alloc | apply pw_below_drewN | apply below_drew1) | exact HB.out)) hb); have n1_ := Aside0.mk (hbox); have n2_ := Aside0.mk ((by rw [hg]; exact (below_size (by repeat (first | (with_reducible first | exact HB.out | apply below_alloc | apply pw_below_drewN | apply below_drew1) | exact HB.out))) : w.heap.size ≤ gb337)); have n3_ := Aside0.mk ((by rw [hg]; exact (below_size (by repeat (first | (with_reducible first | exact HB.out | apply below_alloc | apply pw_below_drewN | apply below_drew1) | exact HB.out))) : w.heap.size ≤ gb337)); clear HB; have HB := n0_; have BK337 := n1_; have GW337 := n2_; have GE337 := n3_; clear n0_ n1_ n2_ n3_; clear hb hbox hg; have hcz13_0 : w12.cell? ⟨gb337, 0, none⟩ = some (.int .i64 0) := (blk_cell BK337.out 0).trans rfl; have hcz13_1 : w12.cell? ⟨gb337, 1, none⟩ = some (.int .i64 0) := (blk_cell BK337.out 1).trans rfl; have hcz13_2 : w12.cell? ⟨gb337, 2, none⟩ = some (.int .i64 0) := (blk_cell BK337.out 2).trans rfl; have hcz13_3 : w12.cell? ⟨gb337, 3, none⟩ = some (.bool false) := (blk_cell BK337.out 3).trans rfl; have hcz13_4 : w12.cell? ⟨gb337, 4, none⟩ = some (.slice none 0 0) := (blk_cell BK337.out 4).trans rfl; have hcz13_5 : w12.cell? ⟨gb337, 5, none⟩ = some (.bool false) := (blk_cell BK337.out 5).trans rfl; have hcz13_6 : w12.cell? ⟨gb337, 6, none⟩ = some (.slice none 0 0) := (blk_cell BK337.out 6).trans rfl; have hfz13_0 := blk_frozen BK337.out 0; have hfz13_1 := blk_frozen BK337.out 1; have hfz13_2 := blk_frozen BK337.out 2; have hfz13_3 := blk_frozen BK337.out 3; have hfz13_4 := blk_frozen BK337.out 4; have hfz13_5 := blk_frozen BK337.out 5; have hfz13_6 := blk_frozen BK337.out 6))
                        have n0_ : Aside0 ((((((((w12.setCell ⟨gb337, 0, none⟩ (.int .i64 ((rd_T30 ((rd_T25 l0 x6_1).f4) x7_2).f0))).setCell ⟨gb337, 1, none⟩ (.int .i64 ((rd_T30 ((rd_T25 l0 x6_1).f4) x7_2).f1))).setCell ⟨gb337, 2, none⟩ (.int .i64 ((rd_T30 ((rd_T25 l0 x6_1).f4) x7_2).f2))).setCell ⟨gb337, 3, none⟩ (.bool ((rd_T30 ((rd_T25 l0 x6_1).f4) x7_2).f3.f0))).setCell ⟨gb337, 4, none⟩ (.slice A336_4 ((rd_T30 ((rd_T25 l0 x6_1).f4) x7_2).f3.f1).length c336_4)).setCell ⟨gb337, 5, none⟩ (.bool ((rd_T30 ((rd_T25 l0 x6_1).f4) x7_2).f4.f0))).setCell ⟨gb337, 6, none⟩ (.slice A336_6 ((rd_T30 ((rd_T25 l0 x6_1).f4) x7_2).f4.f1).length c336_6)).heap[gb337]? = some (.cells #[.int .i64 ((rd_T30 ((rd_T25 l0 x6_1).f4) x7_2).f0), .int .i64 ((rd_T30 ((rd_T25 l0 x6_1).f4) x7_2).f1), .int .i64 ((rd_T30 ((rd_T25 l0 x6_1).f4) x7_2).f2), .bool ((rd_T30 ((rd_T25 l0 x6_1).f4) x7_2).f3.f0), .slice A336_4 ((rd_T30 ((rd_T25 l0 x6_1).f4) x7_2).f3.f1).length c336_4, .bool ((rd_T30 ((rd_T25 l0 x6_1).f4) x7_2).f4.f0), .slice A336_6 ((rd_T30 ((rd_T25 l0 x6_1).f4) x7_2).f4.f1).length c336_6] 30 (0, 0))) := ⟨by (with_reducible repeat (first | refine blk_drewN ?_ _ | refine blk_drew ?_ | refine blk_alloc ?_ _)); refine blk_put (cs := #[.int .i64 ((rd_T30 ((rd_T25 l0 x6_1).f4) x7_2).f0), .int .i64 ((rd_T30 ((rd_T25 l0 x6_1).f4) x7_2).f1), .int .i64 ((rd_T30 ((rd_T25 l0 x6_1).f4) x7_2).f2), .bool ((rd_T30 ((rd_T25 l0 x6_1).f4) x7_2).f3.f0), .slice A336_4 ((rd_T30 ((rd_T25 l0 x6_1).f4) x7_2).f3.f1).length c336_4, .bool ((rd_T30 ((rd_T25 l0 x6_1).f4) x7_2).f4.f0), .slice none 0 0]) ?_ 6 _ rfl; (with_reducible repeat (first | refine blk_drewN ?_ _ | refine blk_drew ?_ | refine blk_alloc ?_ _)); refine blk_put (cs := #[.int .i64 ((rd_T30 ((rd_T25 l0 x6_1).f4) x7_2).f0), .int .i64 ((rd_T30 ((rd_T25 l0 x6_1).f4) x7_2).f1), .int .i64 ((rd_T30 ((rd_T25 l0 x6_1).f4) x7_2).f2), .bool ((rd_T30 ((rd_T25 l0 x6_1).f4) x7_2).f3.f0), .slice A336_4 ((rd_T30 ((rd_T25 l0 x6_1).f4) x7_2).f3.f1).length c336_4, .bool false, .slice none 0 0]) ?_ 5 _ rfl; (with_reducible repeat (first | refine blk_drewN ?_ _ | refine blk_drew ?_ | refine blk_alloc ?_ _)); refine blk_put (cs := #[.int .i64 ((rd_T30 ((rd_T25 l0 x6_1).f4) x7_2).f0), .int .i64 ((rd_T30 ((rd_T25 l0 x6_1).f4) x7_2).f1), .int .i64 ((rd_T30 ((rd_T25 l0 x6_1).f4) x7_2).f2), .bool ((rd_T30 ((rd_T25 l0 x6_1).f4) x7_2).f3.f0), .slice none 0 0, .bool false, .slice none 0 0]) ?_ 4 _ rfl; (with_reducible repeat (first | refine blk_drewN ?_ _ | refine blk_drew ?_ | refine blk_alloc ?_ _)); refine blk_put (cs := #[.int .i64 ((rd_T30 ((rd_T25 l0 x6_1).f4) x7_2).f0), .int .i64 ((rd_T30 ((rd_T25 l0 x6_1).f4) x7_2).f1), .int .i64 ((rd_T30 ((rd_T25 l0 x6_1).f4) x7_2).f2), .bool false, .slice none 0 0, .bool false, .slice none 0 0]) ?_ 3 _ rfl; (with_reducible repeat (first | refine blk_drewN ?_ _ | refine blk_drew ?_ | refine blk_alloc ?_ _)); refine blk_put (cs := #[.int .i64 ((rd_T30 ((rd_T25 l0 x6_1).f4) x7_2).f0), .int .i64 ((rd_T30 ((rd_T25 l0 x6_1).f4) x7_2).f1), .int .i64 0, .bool false, .slice none 0 0, .bool false, .slice none 0 0]) ?_ 2 _ rfl; (with_reducible repeat (first | refine blk_drewN ?_ _ | refine blk_drew ?_ | refine blk_alloc ?_ _)); refine blk_put (cs := #[.int .i64 ((rd_T30 ((rd_T25 l0 x6_1).f4) x7_2).f0), .int .i64 0, .int .i64 0, .bool false, .slice none 0 0, .bool false, .slice none 0 0]) ?_ 1 _ rfl; (with_reducible repeat (first | refine blk_drewN ?_ _ | refine blk_drew ?_ | refine blk_alloc ?_ _)); refine blk_put (cs := #[.int .i64 0, .int .i64 0, .int .i64 0, .bool false, .slice none 0 0, .bool false, .slice none 0 0]) ?_ 0 _ rfl; (with_reducible repeat (first | refine blk_drewN ?_ _ | refine blk_drew ?_ | refine blk_alloc ?_ _)); exact BK337.out⟩
                        have n1_ : Aside0 (Below w.heap.size w (((((((w12.setCell ⟨gb337, 0, none⟩ (.int .i64 ((rd_T30 ((rd_T25 l0 x6_1).f4) x7_2).f0))).setCell ⟨gb337, 1, none⟩ (.int .i64 ((rd_T30 ((rd_T25 l0 x6_1).f4) x7_2).f1))).setCell ⟨gb337, 2, none⟩ (.int .i64 ((rd_T30 ((rd_T25 l0 x6_1).f4) x7_2).f2))).setCell ⟨gb337, 3, none⟩ (.bool ((rd_T30 ((rd_T25 l0 x6_1).f4) x7_2).f3.f0))).setCell ⟨gb337, 4, none⟩ (.slice A336_4 ((rd_T30 ((rd_T25 l0 x6_1).f4) x7_2).f3.f1).length c336_4)).setCell ⟨gb337, 5, none⟩ (.bool ((rd_T30 ((rd_T25 l0 x6_1).f4) x7_2).f4.f0))).setCell ⟨gb337, 6, none⟩ (.slice A336_6 ((rd_T30 ((rd_T25 l0 x6_1).f4) x7_2).f4.f1).length c336_6))) := ⟨by repeat (first | (with_reducible first | exact HB.out | apply below_alloc | apply pw_below_drewN | apply below_drew1 | refine below_set ?_ GE337.out) | exact HB.out)⟩
                        (try clear BK337)
                        (try clear HB)
                        generalize (((((((w12.setCell ⟨gb337, 0, none⟩ (.int .i64 ((rd_T30 ((rd_T25 l0 x6_1).f4) x7_2).f0))).setCell ⟨gb337, 1, none⟩ (.int .i64 ((rd_T30 ((rd_T25 l0 x6_1).f4) x7_2).f1))).setCell ⟨gb337, 2, none⟩ (.int .i64 ((rd_T30 ((rd_T25 l0 x6_1).f4) x7_2).f2))).setCell ⟨gb337, 3, none⟩ (.bool ((rd_T30 ((rd_T25 l0 x6_1).f4) x7_2).f3.f0))).setCell ⟨gb337, 4, none⟩ (.slice A336_4 ((rd_T30 ((rd_T25 l0 x6_1).f4) x7_2).f3.f1).length c336_4)).setCell ⟨gb337, 5, none⟩ (.bool ((rd_T30 ((rd_T25 l0 x6_1).f4) x7_2).f4.f0))).setCell ⟨gb337, 6, none⟩ (.slice A336_6 ((rd_T30 ((rd_T25 l0 x6_1).f4) x7_2).f4.f1).length c336_6)) = w14 at n0_ n1_ ⊢
                        have BK337 := n0_
                        have HB := n1_
                        clear n0_ n1_
                        have n0_ := Aside0.mk (blk_drew BK337.out)
                        have n1_ := Aside0.mk (below_drew1 HB.out)
                        clear BK337
                        clear HB
                        have BK337 := n0_
                        have HB := n1_
                        clear n0_ n1_
                        refine start_ (n := 8) (S := fun w' => w'.cell? ⟨gb337, 0, none⟩ = some (.int .i64 ((rd_T30 ((rd_T25 l0 x6_1).f4) x7_2).f0)) ∧ w'.cell? ⟨gb337, 1, none⟩ = some (.int .i64 ((rd_T30 ((rd_T25 l0 x6_1).f4) x7_2).f1)) ∧ w'.cell? ⟨gb337, 2, none⟩ = some (.int .i64 ((rd_T30 ((rd_T25 l0 x6_1).f4) x7_2).f2)) ∧ w'.cell? ⟨gb337, 3, none⟩ = some (.bool ((rd_T30 ((rd_T25 l0 x6_1).f4) x7_2).f3.f0)) ∧ w'.cell? ⟨gb337, 4, none⟩ = some (.slice A336_4 ((rd_T30 ((rd_T25 l0 x6_1).f4) x7_2).f3.f1).length c336_4) ∧ w'.cell? ⟨gb337, 5, none⟩ = some (.bool ((rd_T30 ((rd_T25 l0 x6_1).f4) x7_2).f4.f0)) ∧ w'.cell? ⟨gb337, 6, none⟩ = some (.slice A336_6 ((rd_T30 ((rd_T25 l0 x6_1).f4) x7_2).f4.f1).length c336_6)) (ds := []) #[false, false, false, false, false, false, false, false] (by kernel_rfl) rfl rfl ⟨(blk_cell BK337.out 0).trans rfl, (blk_cell BK337.out 1).trans rfl, (blk_cell BK337.out 2).trans rfl, (blk_cell BK337.out 3).trans rfl, (blk_cell BK337.out 4).trans rfl, (blk_cell BK337.out 5).trans rfl, (blk_cell BK337.out 6).trans rfl⟩ (fun hHeld => ?_); refine with_tabW bobbinref14_Kept.tab9 bobbinref14_Kept.bits9 (fun HT_ HW_ => ?_)
                        generalize w14.drew = w15 at BK337 HB hHeld ⊢
                        refine pure_ (i := 0) (N := some 34) (v := ?_) (a' := ?_) #[true, false, false, false, false, false, false, false] rfl rfl (any_of HT_.out (by kernel_rfl)) (fun _ _ _ h => h) (Or.inl ⟨by rfl, ?_⟩) ?_ ?_
                        rotate_left
                        · intro w'
                          go_simp
                          with_reducible rfl
                        rotate_left
                        · simp only [Act.put, List.setIfInBounds_toArray, List.set_cons_zero, List.set_cons_succ, i64_w, i32_w]
                          rfl
                        refine pure_ (i := 3) (N := some 37) (v := ?_) (a' := ?_) #[true, false, false, true, false, false, false, false] rfl rfl (any_of HT_.out (by kernel_rfl)) (fun _ _ _ h => h) (Or.inl ⟨by rfl, ?_⟩) ?_ ?_
                        rotate_left
                        · intro w'
                          go_simp
                          with_reducible rfl
                        rotate_left
                        · simp only [Act.put, List.setIfInBounds_toArray, List.set_cons_zero, List.set_cons_succ, i64_w, i32_w]
                          rfl
                        refine take_ (i := 1) (N := some 35) (v := ?_) (a' := ?_) #[true, true, false, true, false, false, false, false] rfl rfl (take_ofW HT_.out HW_.out (by kernel_rfl)) (fun _ _ _ h => h) (Or.inl ⟨by rfl, ?_⟩) hHeld ?_ ?_
                        rotate_left
                        · rintro w' ⟨s0, s1, s2, s3, s4, s5, s6⟩
                          go_simp
                          with_reducible rfl
                        rotate_left
                        · simp only [Act.put, List.setIfInBounds_toArray, List.set_cons_zero, List.set_cons_succ, i64_w, i32_w]
                          rfl
                        refine take_ (i := 4) (N := some 38) (v := ?_) (a' := ?_) #[true, true, false, true, true, false, false, false] rfl rfl (take_ofW HT_.out HW_.out (by kernel_rfl)) (fun _ _ _ h => h) (Or.inl ⟨by rfl, ?_⟩) hHeld ?_ ?_
                        rotate_left
                        · rintro w' ⟨s0, s1, s2, s3, s4, s5, s6⟩
                          go_simp
                          with_reducible rfl
                        rotate_left
                        · simp only [Act.put, List.setIfInBounds_toArray, List.set_cons_zero, List.set_cons_succ, i64_w, i32_w]
                          rfl
                        refine one_ (i := 2) (N := some 36) #[true, true, true, true, true, false, false, false] rfl rfl (one_of HT_.out (by kernel_rfl)) (by decide) (fun K hK => ?_)
                        refine goes_ Try.func28 (by kernel_rfl) rfl #[.agg #[.bool ((rd_T30 ((rd_T25 l0 x6_1).f4) x7_2).f3.f0), .slice A336_4 ((rd_T30 ((rd_T25 l0 x6_1).f4) x7_2).f3.f1).length c336_4]] (by rfl) rfl rfl (by (try simp only [List.map_toArray, List.map_cons, List.map_nil]); first | done | rfl | (simp only [List.length_drop, List.length_take]; rfl)) ?_
                        with_reducible refine (bobbinref14_Size.calls ((rd_T30 ((rd_T25 l0 x6_1).f4) x7_2).f3.f0) _ _ ((rd_T30 ((rd_T25 l0 x6_1).f4) x7_2).f3.f1) t338 _ ?side1 ?side2 A8.out).mono ?_
                        (case side1 => repeat (first | exact (Kd.C_below HR336_4.out HB.out) | (with_reducible refine Kd.C_alloc ?_ _) | (with_reducible refine Kd.C_drewN ?_ _) | (with_reducible refine Kd.C_drew ?_)))
                        (case side2 => exact HC336_4.out)
                        rintro e w16 ⟨rfl, hb⟩
                        refine ⟨_, rfl, ?_⟩
                        have n0_ := Aside0.mk (blk_below (g := gb337) (o := .cells #[.int .i64 ((rd_T30 ((rd_T25 l0 x6_1).f4) x7_2).f0), .int .i64 ((rd_T30 ((rd_T25 l0 x6_1).f4) x7_2).f1), .int .i64 ((rd_T30 ((rd_T25 l0 x6_1).f4) x7_2).f2), .bool ((rd_T30 ((rd_T25 l0 x6_1).f4) x7_2).f3.f0), .slice A336_4 ((rd_T30 ((rd_T25 l0 x6_1).f4) x7_2).f3.f1).length c336_4, .bool ((rd_T30 ((rd_T25 l0 x6_1).f4) x7_2).f4.f0), .slice A336_6 ((rd_T30 ((rd_T25 l0 x6_1).f4) x7_2).f4.f1).length c336_6] 30 (0, 0)) (by (with_reducible repeat (first | refine blk_drewN ?_ _ | refine blk_drew ?_ | refine blk_alloc ?_ _)); exact BK337.out) hb)
                        have n1_ := Aside0.mk (below_step (by repeat (first | (with_reducible first | exact HB.out | apply below_alloc | apply pw_below_drewN | apply below_drew1 | refine below_set ?_ GE337.out) | exact HB.out)) hb)
                        clear BK337
                        clear HB
                        have BK337 := n0_
                        have HB := n1_
                        clear n0_ n1_
                        (try clear hb)
                        (try clear hb2)
                        (try clear hk)
                        (try clear hi)
                        refine hK.out _ _ ⟨(blk_cell BK337.out 0).trans rfl, (blk_cell BK337.out 1).trans rfl, (blk_cell BK337.out 2).trans rfl, (blk_cell BK337.out 3).trans rfl, (blk_cell BK337.out 4).trans rfl, (blk_cell BK337.out 5).trans rfl, (blk_cell BK337.out 6).trans rfl⟩ (fun hHeld => ?_)
                        clear hK K
                        refine norm_ (a' := ?_) ?_ ?_
                        rotate_left
                        · show Act.put _ (some 36) _ = _
                          simp only [Act.put, List.setIfInBounds_toArray, List.set_cons_zero, List.set_cons_succ, i64_w, i32_w]
                          rfl
                        refine one_ (i := 5) (N := some 39) #[true, true, true, true, true, true, false, false] rfl rfl (one_of HT_.out (by kernel_rfl)) (by decide) (fun K hK => ?_)
                        refine goes_ Try.func28 (by kernel_rfl) rfl #[.agg #[.bool ((rd_T30 ((rd_T25 l0 x6_1).f4) x7_2).f4.f0), .slice A336_6 ((rd_T30 ((rd_T25 l0 x6_1).f4) x7_2).f4.f1).length c336_6]] (by rfl) rfl rfl (by (try simp only [List.map_toArray, List.map_cons, List.map_nil]); first | done | rfl | (simp only [List.length_drop, List.length_take]; rfl)) ?_
                        with_reducible refine (bobbinref14_Size.calls ((rd_T30 ((rd_T25 l0 x6_1).f4) x7_2).f4.f0) _ _ ((rd_T30 ((rd_T25 l0 x6_1).f4) x7_2).f4.f1) t339 _ ?side1 ?side2 A9.out).mono ?_
                        (case side1 => repeat (first | exact (Kd.C_below HR336_6.out HB.out) | (with_reducible refine Kd.C_alloc ?_ _) | (with_reducible refine Kd.C_drewN ?_ _) | (with_reducible refine Kd.C_drew ?_)))
                        (case side2 => exact HC336_6.out)
                        rintro e w17 ⟨rfl, hb⟩
                        refine ⟨_, rfl, ?_⟩
                        have n0_ := Aside0.mk (blk_below (g := gb337) (o := .cells #[.int .i64 ((rd_T30 ((rd_T25 l0 x6_1).f4) x7_2).f0), .int .i64 ((rd_T30 ((rd_T25 l0 x6_1).f4) x7_2).f1), .int .i64 ((rd_T30 ((rd_T25 l0 x6_1).f4) x7_2).f2), .bool ((rd_T30 ((rd_T25 l0 x6_1).f4) x7_2).f3.f0), .slice A336_4 ((rd_T30 ((rd_T25 l0 x6_1).f4) x7_2).f3.f1).length c336_4, .bool ((rd_T30 ((rd_T25 l0 x6_1).f4) x7_2).f4.f0), .slice A336_6 ((rd_T30 ((rd_T25 l0 x6_1).f4) x7_2).f4.f1).length c336_6] 30 (0, 0)) (by (with_reducible repeat (first | refine blk_drewN ?_ _ | refine blk_drew ?_ | refine blk_alloc ?_ _)); exact BK337.out) hb)
                        have n1_ := Aside0.mk (below_step (by repeat (first | (with_reducible first | exact HB.out | apply below_alloc | apply pw_below_drewN | apply below_drew1 | refine below_set ?_ GE337.out) | exact HB.out)) hb)
                        clear BK337
                        clear HB
                        have BK337 := n0_
                        have HB := n1_
                        clear n0_ n1_
                        (try clear hb)
                        (try clear hb2)
                        (try clear hk)
                        (try clear hi)
                        refine hK.out _ _ ⟨(blk_cell BK337.out 0).trans rfl, (blk_cell BK337.out 1).trans rfl, (blk_cell BK337.out 2).trans rfl, (blk_cell BK337.out 3).trans rfl, (blk_cell BK337.out 4).trans rfl, (blk_cell BK337.out 5).trans rfl, (blk_cell BK337.out 6).trans rfl⟩ (fun hHeld => ?_)
                        clear hK K
                        refine norm_ (a' := ?_) ?_ ?_
                        rotate_left
                        · show Act.put _ (some 39) _ = _
                          simp only [Act.put, List.setIfInBounds_toArray, List.set_cons_zero, List.set_cons_succ, i64_w, i32_w]
                          rfl
                        refine pure_ (i := 6) (N := some 40) (v := ?_) (a' := ?_) #[true, true, true, true, true, true, true, false] rfl rfl (any_of HT_.out (by kernel_rfl)) (fun _ _ _ h => h) (Or.inl ⟨by rfl, ?_⟩) ?_ ?_
                        rotate_left
                        · intro w'
                          go_simp
                          with_reducible rfl
                        rotate_left
                        · simp only [Act.put, List.setIfInBounds_toArray, List.set_cons_zero, List.set_cons_succ, i64_w, i32_w]
                          rfl
                        refine pure_ (i := 7) (N := some 9) (v := ?_) (a' := ?_) #[true, true, true, true, true, true, true, true] rfl rfl (any_of HT_.out (by kernel_rfl)) (fun _ _ _ h => h) (Or.inl ⟨by rfl, ?_⟩) ?_ ?_
                        rotate_left
                        · intro w'
                          go_simp
                          with_reducible rfl
                        rotate_left
                        · simp only [Act.put, List.setIfInBounds_toArray, List.set_cons_zero, List.set_cons_succ, i64_w, i32_w]
                          rfl
                        refine done_ (done_of HT_.out (by kernel_rfl)) ?_
                        have hcz18_0 : w17.cell? ⟨gb337, 0, none⟩ = some (.int .i64 ((rd_T30 ((rd_T25 l0 x6_1).f4) x7_2).f0)) := (blk_cell BK337.out 0).trans rfl
                        have hcz18_1 : w17.cell? ⟨gb337, 1, none⟩ = some (.int .i64 ((rd_T30 ((rd_T25 l0 x6_1).f4) x7_2).f1)) := (blk_cell BK337.out 1).trans rfl
                        have hcz18_2 : w17.cell? ⟨gb337, 2, none⟩ = some (.int .i64 ((rd_T30 ((rd_T25 l0 x6_1).f4) x7_2).f2)) := (blk_cell BK337.out 2).trans rfl
                        have hcz18_3 : w17.cell? ⟨gb337, 3, none⟩ = some (.bool ((rd_T30 ((rd_T25 l0 x6_1).f4) x7_2).f3.f0)) := (blk_cell BK337.out 3).trans rfl
                        have hcz18_4 : w17.cell? ⟨gb337, 4, none⟩ = some (.slice A336_4 ((rd_T30 ((rd_T25 l0 x6_1).f4) x7_2).f3.f1).length c336_4) := (blk_cell BK337.out 4).trans rfl
                        have hcz18_5 : w17.cell? ⟨gb337, 5, none⟩ = some (.bool ((rd_T30 ((rd_T25 l0 x6_1).f4) x7_2).f4.f0)) := (blk_cell BK337.out 5).trans rfl
                        have hcz18_6 : w17.cell? ⟨gb337, 6, none⟩ = some (.slice A336_6 ((rd_T30 ((rd_T25 l0 x6_1).f4) x7_2).f4.f1).length c336_6) := (blk_cell BK337.out 6).trans rfl
                        have hfz18_0 := blk_frozen BK337.out 0
                        have hfz18_1 := blk_frozen BK337.out 1
                        have hfz18_2 := blk_frozen BK337.out 2
                        have hfz18_3 := blk_frozen BK337.out 3
                        have hfz18_4 := blk_frozen BK337.out 4
                        have hfz18_5 := blk_frozen BK337.out 5
                        have hfz18_6 := blk_frozen BK337.out 6
                        try go_wp2
                        go_roundg k2
                        case measure => have := HK1.out; have := HK2.out; omega
                        case rel => exact ⟨(wrap64 (x5_2 + (wrap64 (t338 - t339)))), (wrap64 (x7_2 + 1)), (by first | rfl | (simp; done) | (simp [*]; done)), (by first | rfl | (simp; done) | (simp [*]; done)), H', ⟨by have := HK1.out; have := HK2.out; omega⟩, ⟨by repeat (first | (with_reducible first | exact HB.out | apply below_alloc | apply pw_below_drewN | apply below_drew1 | refine below_set ?_ GE337.out) | exact HB.out)⟩⟩
                      · rw [if_neg c11] at H
                        have c11b0 : decide (0 < (wrap64 (t338 - t339))) = false := decide_eq_false c11
                        clear c11
                        have H' := Aside0.mk H
                        clear H
                        have p334 : 0 ≤ (x6_1 : Int) := of_decide_eq_true (by first | (with_reducible assumption) | assumption)
                        have q334 : x6_1 < (l0.length : Int) := of_decide_eq_true (by first | (with_reducible assumption) | assumption)
                        obtain ⟨ad334, A334_4, c334_4, A334_5, c334_5, e334, hx334_0, hx334_1, hx334_2, hx334_3, hx334_4, hx334_5, hl334_4, hi334_4, hl334_5, hi334_5⟩ := at_T25 HR0.out x6_1 p334 q334
                        cases e334
                        replace hx334_0 := (HB.out.cell (World.block_lt_of_cell? w _ hx334_0)).trans hx334_0
                        replace hx334_1 := (HB.out.cell (World.block_lt_of_cell? w _ hx334_1)).trans hx334_1
                        replace hx334_2 := (HB.out.cell (World.block_lt_of_cell? w _ hx334_2)).trans hx334_2
                        replace hx334_3 := (HB.out.cell (World.block_lt_of_cell? w _ hx334_3)).trans hx334_3
                        replace hx334_4 := (HB.out.cell (World.block_lt_of_cell? w _ hx334_4)).trans hx334_4
                        replace hx334_5 := (HB.out.cell (World.block_lt_of_cell? w _ hx334_5)).trans hx334_5
                        have HR334_4 := Aside0.mk hi334_4
                        have HC334_4 := Aside0.mk hl334_4
                        clear hi334_4 hl334_4
                        have HR334_5 := Aside0.mk hi334_5
                        have HC334_5 := Aside0.mk hl334_5
                        clear hi334_5 hl334_5
                        replace p334 := eq_true p334
                        replace q334 := eq_true q334
                        have p335 : 0 ≤ (x6_1 : Int) := of_decide_eq_true (by first | (with_reducible assumption) | assumption)
                        have q335 : x6_1 < (l0.length : Int) := of_decide_eq_true (by first | (with_reducible assumption) | assumption)
                        obtain ⟨ad335, A335_4, c335_4, A335_5, c335_5, e335, hx335_0, hx335_1, hx335_2, hx335_3, hx335_4, hx335_5, hl335_4, hi335_4, hl335_5, hi335_5⟩ := at_T25 HR0.out x6_1 p335 q335
                        obtain rfl : ad334 = ad335 := (by injection e335)
                        replace hx335_0 := (HB.out.cell (World.block_lt_of_cell? w _ hx335_0)).trans hx335_0
                        replace hx335_1 := (HB.out.cell (World.block_lt_of_cell? w _ hx335_1)).trans hx335_1
                        replace hx335_2 := (HB.out.cell (World.block_lt_of_cell? w _ hx335_2)).trans hx335_2
                        replace hx335_3 := (HB.out.cell (World.block_lt_of_cell? w _ hx335_3)).trans hx335_3
                        replace hx335_4 := (HB.out.cell (World.block_lt_of_cell? w _ hx335_4)).trans hx335_4
                        replace hx335_5 := (HB.out.cell (World.block_lt_of_cell? w _ hx335_5)).trans hx335_5
                        have HR335_4 := Aside0.mk hi335_4
                        have HC335_4 := Aside0.mk hl335_4
                        clear hi335_4 hl335_4
                        have HR335_5 := Aside0.mk hi335_5
                        have HC335_5 := Aside0.mk hl335_5
                        clear hi335_5 hl335_5
                        replace p335 := eq_true p335
                        replace q335 := eq_true q335
                        have ea_ := Option.some.inj (hx334_4.symm.trans hx335_4)
                        injection ea_ with ea_ en_ ec_
                        subst ea_
                        subst ec_
                        clear en_
                        have ea_ := Option.some.inj (hx334_5.symm.trans hx335_5)
                        injection ea_ with ea_ en_ ec_
                        subst ea_
                        subst ec_
                        clear en_
                        have p336 : 0 ≤ (x7_2 : Int) := of_decide_eq_true (by first | (with_reducible assumption) | assumption)
                        have q336 : x7_2 < (((rd_T25 l0 x6_1).f4).length : Int) := of_decide_eq_true (by first | (with_reducible assumption) | assumption)
                        obtain ⟨ad336, A336_4, c336_4, A336_6, c336_6, e336, hx336_0, hx336_1, hx336_2, hx336_3, hx336_4, hx336_5, hx336_6, hl336_4, hi336_4, hl336_6, hi336_6⟩ := at_T30 HR335_4.out x7_2 p336 q336
                        cases e336
                        replace hx336_0 := (HB.out.cell (World.block_lt_of_cell? w _ hx336_0)).trans hx336_0
                        replace hx336_1 := (HB.out.cell (World.block_lt_of_cell? w _ hx336_1)).trans hx336_1
                        replace hx336_2 := (HB.out.cell (World.block_lt_of_cell? w _ hx336_2)).trans hx336_2
                        replace hx336_3 := (HB.out.cell (World.block_lt_of_cell? w _ hx336_3)).trans hx336_3
                        replace hx336_4 := (HB.out.cell (World.block_lt_of_cell? w _ hx336_4)).trans hx336_4
                        replace hx336_5 := (HB.out.cell (World.block_lt_of_cell? w _ hx336_5)).trans hx336_5
                        replace hx336_6 := (HB.out.cell (World.block_lt_of_cell? w _ hx336_6)).trans hx336_6
                        have HR336_4 := Aside0.mk hi336_4
                        have HC336_4 := Aside0.mk hl336_4
                        clear hi336_4 hl336_4
                        have HR336_6 := Aside0.mk hi336_6
                        have HC336_6 := Aside0.mk hl336_6
                        clear hi336_6 hl336_6
                        replace p336 := eq_true p336
                        replace q336 := eq_true q336
                        try go_wp2_with (first | ((with_reducible refine gate_dst (N := 8) rfl ?_); refine box_event ?hg (N := 8) ?hd (cs := #[.int .i64 0, .int .i64 0, .int .i64 0, .bool false, .slice none 0 0, .bool false, .slice none 0 0]) (t := 30) ?hr ?_; (case hd => rfl); (case hg => rfl); (case hr => first | (go_simp; done) | (go_simp; rfl)); intro gb337 hg w19 hbox hb; have n0_ := Aside0.mk (below_step (by repeat (first | (with_reducible first | exact HB.out | apply below_alloc | apply pw_below_drewN | apply below_drew1) | exact HB.out)) hb); have n1_ := Aside0.mk (hbox); have n2_ := Aside0.mk ((by rw [hg]; exact (below_size (by repeat (first | (with_reducible first | exact HB.out | apply below_alloc | apply pw_below_drewN | apply below_drew1) | exact HB.out))) : w.heap.size ≤ gb337)); have n3_ := Aside0.mk ((by rw [hg]; exact (below_size (by repeat (first | (with_reducible first | exact HB.out | apply below_alloc | apply pw_below_drewN | apply below_drew1) | exact HB.out))) : w.heap.size ≤ gb337)); clear HB; have HB := n0_; have BK337 := n1_; have GW337 := n2_; have GE337 := n3_; clear n0_ n1_ n2_ n3_; clear hb hbox hg; have hcz20_0 : w19.cell? ⟨gb337, 0, none⟩ = some (.int .i64 0) := (blk_cell BK337.out 0).trans rfl; have hcz20_1 : w19.cell? ⟨gb337, 1, none⟩ = some (.int .i64 0) := (blk_cell BK337.out 1).trans rfl; have hcz20_2 : w19.cell? ⟨gb337, 2, none⟩ = some (.int .i64 0) := (blk_cell BK337.out 2).trans rfl; have hcz20_3 : w19.cell? ⟨gb337, 3, none⟩ = some (.bool false) := (blk_cell BK337.out 3).trans rfl; have hcz20_4 : w19.cell? ⟨gb337, 4, none⟩ = some (.slice none 0 0) := (blk_cell BK337.out 4).trans rfl; have hcz20_5 : w19.cell? ⟨gb337, 5, none⟩ = some (.bool false) := (blk_cell BK337.out 5).trans rfl; have hcz20_6 : w19.cell? ⟨gb337, 6, none⟩ = some (.slice none 0 0) := (blk_cell BK337.out 6).trans rfl; have hfz20_0 := blk_frozen BK337.out 0; have hfz20_1 := blk_frozen BK337.out 1; have hfz20_2 := blk_frozen BK337.out 2; have hfz20_3 := blk_frozen BK337.out 3; have hfz20_4 := blk_frozen BK337.out 4; have hfz20_5 := blk_frozen BK337.out 5; have hfz20_6 := blk_frozen BK337.out 6))
                        have n0_ : Aside0 ((((((((w19.setCell ⟨gb337, 0, none⟩ (.int .i64 ((rd_T30 ((rd_T25 l0 x6_1).f4) x7_2).f0))).setCell ⟨gb337, 1, none⟩ (.int .i64 ((rd_T30 ((rd_T25 l0 x6_1).f4) x7_2).f1))).setCell ⟨gb337, 2, none⟩ (.int .i64 ((rd_T30 ((rd_T25 l0 x6_1).f4) x7_2).f2))).setCell ⟨gb337, 3, none⟩ (.bool ((rd_T30 ((rd_T25 l0 x6_1).f4) x7_2).f3.f0))).setCell ⟨gb337, 4, none⟩ (.slice A336_4 ((rd_T30 ((rd_T25 l0 x6_1).f4) x7_2).f3.f1).length c336_4)).setCell ⟨gb337, 5, none⟩ (.bool ((rd_T30 ((rd_T25 l0 x6_1).f4) x7_2).f4.f0))).setCell ⟨gb337, 6, none⟩ (.slice A336_6 ((rd_T30 ((rd_T25 l0 x6_1).f4) x7_2).f4.f1).length c336_6)).heap[gb337]? = some (.cells #[.int .i64 ((rd_T30 ((rd_T25 l0 x6_1).f4) x7_2).f0), .int .i64 ((rd_T30 ((rd_T25 l0 x6_1).f4) x7_2).f1), .int .i64 ((rd_T30 ((rd_T25 l0 x6_1).f4) x7_2).f2), .bool ((rd_T30 ((rd_T25 l0 x6_1).f4) x7_2).f3.f0), .slice A336_4 ((rd_T30 ((rd_T25 l0 x6_1).f4) x7_2).f3.f1).length c336_4, .bool ((rd_T30 ((rd_T25 l0 x6_1).f4) x7_2).f4.f0), .slice A336_6 ((rd_T30 ((rd_T25 l0 x6_1).f4) x7_2).f4.f1).length c336_6] 30 (0, 0))) := ⟨by (with_reducible repeat (first | refine blk_drewN ?_ _ | refine blk_drew ?_ | refine blk_alloc ?_ _)); refine blk_put (cs := #[.int .i64 ((rd_T30 ((rd_T25 l0 x6_1).f4) x7_2).f0), .int .i64 ((rd_T30 ((rd_T25 l0 x6_1).f4) x7_2).f1), .int .i64 ((rd_T30 ((rd_T25 l0 x6_1).f4) x7_2).f2), .bool ((rd_T30 ((rd_T25 l0 x6_1).f4) x7_2).f3.f0), .slice A336_4 ((rd_T30 ((rd_T25 l0 x6_1).f4) x7_2).f3.f1).length c336_4, .bool ((rd_T30 ((rd_T25 l0 x6_1).f4) x7_2).f4.f0), .slice none 0 0]) ?_ 6 _ rfl; (with_reducible repeat (first | refine blk_drewN ?_ _ | refine blk_drew ?_ | refine blk_alloc ?_ _)); refine blk_put (cs := #[.int .i64 ((rd_T30 ((rd_T25 l0 x6_1).f4) x7_2).f0), .int .i64 ((rd_T30 ((rd_T25 l0 x6_1).f4) x7_2).f1), .int .i64 ((rd_T30 ((rd_T25 l0 x6_1).f4) x7_2).f2), .bool ((rd_T30 ((rd_T25 l0 x6_1).f4) x7_2).f3.f0), .slice A336_4 ((rd_T30 ((rd_T25 l0 x6_1).f4) x7_2).f3.f1).length c336_4, .bool false, .slice none 0 0]) ?_ 5 _ rfl; (with_reducible repeat (first | refine blk_drewN ?_ _ | refine blk_drew ?_ | refine blk_alloc ?_ _)); refine blk_put (cs := #[.int .i64 ((rd_T30 ((rd_T25 l0 x6_1).f4) x7_2).f0), .int .i64 ((rd_T30 ((rd_T25 l0 x6_1).f4) x7_2).f1), .int .i64 ((rd_T30 ((rd_T25 l0 x6_1).f4) x7_2).f2), .bool ((rd_T30 ((rd_T25 l0 x6_1).f4) x7_2).f3.f0), .slice none 0 0, .bool false, .slice none 0 0]) ?_ 4 _ rfl; (with_reducible repeat (first | refine blk_drewN ?_ _ | refine blk_drew ?_ | refine blk_alloc ?_ _)); refine blk_put (cs := #[.int .i64 ((rd_T30 ((rd_T25 l0 x6_1).f4) x7_2).f0), .int .i64 ((rd_T30 ((rd_T25 l0 x6_1).f4) x7_2).f1), .int .i64 ((rd_T30 ((rd_T25 l0 x6_1).f4) x7_2).f2), .bool false, .slice none 0 0, .bool false, .slice none 0 0]) ?_ 3 _ rfl; (with_reducible repeat (first | refine blk_drewN ?_ _ | refine blk_drew ?_ | refine blk_alloc ?_ _)); refine blk_put (cs := #[.int .i64 ((rd_T30 ((rd_T25 l0 x6_1).f4) x7_2).f0), .int .i64 ((rd_T30 ((rd_T25 l0 x6_1).f4) x7_2).f1), .int .i64 0, .bool false, .slice none 0 0, .bool false, .slice none 0 0]) ?_ 2 _ rfl; (with_reducible repeat (first | refine blk_drewN ?_ _ | refine blk_drew ?_ | refine blk_alloc ?_ _)); refine blk_put (cs := #[.int .i64 ((rd_T30 ((rd_T25 l0 x6_1).f4) x7_2).f0), .int .i64 0, .int .i64 0, .bool false, .slice none 0 0, .bool false, .slice none 0 0]) ?_ 1 _ rfl; (with_reducible repeat (first | refine blk_drewN ?_ _ | refine blk_drew ?_ | refine blk_alloc ?_ _)); refine blk_put (cs := #[.int .i64 0, .int .i64 0, .int .i64 0, .bool false, .slice none 0 0, .bool false, .slice none 0 0]) ?_ 0 _ rfl; (with_reducible repeat (first | refine blk_drewN ?_ _ | refine blk_drew ?_ | refine blk_alloc ?_ _)); exact BK337.out⟩
                        have n1_ : Aside0 (Below w.heap.size w (((((((w19.setCell ⟨gb337, 0, none⟩ (.int .i64 ((rd_T30 ((rd_T25 l0 x6_1).f4) x7_2).f0))).setCell ⟨gb337, 1, none⟩ (.int .i64 ((rd_T30 ((rd_T25 l0 x6_1).f4) x7_2).f1))).setCell ⟨gb337, 2, none⟩ (.int .i64 ((rd_T30 ((rd_T25 l0 x6_1).f4) x7_2).f2))).setCell ⟨gb337, 3, none⟩ (.bool ((rd_T30 ((rd_T25 l0 x6_1).f4) x7_2).f3.f0))).setCell ⟨gb337, 4, none⟩ (.slice A336_4 ((rd_T30 ((rd_T25 l0 x6_1).f4) x7_2).f3.f1).length c336_4)).setCell ⟨gb337, 5, none⟩ (.bool ((rd_T30 ((rd_T25 l0 x6_1).f4) x7_2).f4.f0))).setCell ⟨gb337, 6, none⟩ (.slice A336_6 ((rd_T30 ((rd_T25 l0 x6_1).f4) x7_2).f4.f1).length c336_6))) := ⟨by repeat (first | (with_reducible first | exact HB.out | apply below_alloc | apply pw_below_drewN | apply below_drew1 | refine below_set ?_ GE337.out) | exact HB.out)⟩
                        (try clear BK337)
                        (try clear HB)
                        generalize (((((((w19.setCell ⟨gb337, 0, none⟩ (.int .i64 ((rd_T30 ((rd_T25 l0 x6_1).f4) x7_2).f0))).setCell ⟨gb337, 1, none⟩ (.int .i64 ((rd_T30 ((rd_T25 l0 x6_1).f4) x7_2).f1))).setCell ⟨gb337, 2, none⟩ (.int .i64 ((rd_T30 ((rd_T25 l0 x6_1).f4) x7_2).f2))).setCell ⟨gb337, 3, none⟩ (.bool ((rd_T30 ((rd_T25 l0 x6_1).f4) x7_2).f3.f0))).setCell ⟨gb337, 4, none⟩ (.slice A336_4 ((rd_T30 ((rd_T25 l0 x6_1).f4) x7_2).f3.f1).length c336_4)).setCell ⟨gb337, 5, none⟩ (.bool ((rd_T30 ((rd_T25 l0 x6_1).f4) x7_2).f4.f0))).setCell ⟨gb337, 6, none⟩ (.slice A336_6 ((rd_T30 ((rd_T25 l0 x6_1).f4) x7_2).f4.f1).length c336_6)) = w21 at n0_ n1_ ⊢
                        have BK337 := n0_
                        have HB := n1_
                        clear n0_ n1_
                        have n0_ := Aside0.mk (blk_drew BK337.out)
                        have n1_ := Aside0.mk (below_drew1 HB.out)
                        clear BK337
                        clear HB
                        have BK337 := n0_
                        have HB := n1_
                        clear n0_ n1_
                        refine start_ (n := 8) (S := fun w' => w'.cell? ⟨gb337, 0, none⟩ = some (.int .i64 ((rd_T30 ((rd_T25 l0 x6_1).f4) x7_2).f0)) ∧ w'.cell? ⟨gb337, 1, none⟩ = some (.int .i64 ((rd_T30 ((rd_T25 l0 x6_1).f4) x7_2).f1)) ∧ w'.cell? ⟨gb337, 2, none⟩ = some (.int .i64 ((rd_T30 ((rd_T25 l0 x6_1).f4) x7_2).f2)) ∧ w'.cell? ⟨gb337, 3, none⟩ = some (.bool ((rd_T30 ((rd_T25 l0 x6_1).f4) x7_2).f3.f0)) ∧ w'.cell? ⟨gb337, 4, none⟩ = some (.slice A336_4 ((rd_T30 ((rd_T25 l0 x6_1).f4) x7_2).f3.f1).length c336_4) ∧ w'.cell? ⟨gb337, 5, none⟩ = some (.bool ((rd_T30 ((rd_T25 l0 x6_1).f4) x7_2).f4.f0)) ∧ w'.cell? ⟨gb337, 6, none⟩ = some (.slice A336_6 ((rd_T30 ((rd_T25 l0 x6_1).f4) x7_2).f4.f1).length c336_6)) (ds := []) #[false, false, false, false, false, false, false, false] (by kernel_rfl) rfl rfl ⟨(blk_cell BK337.out 0).trans rfl, (blk_cell BK337.out 1).trans rfl, (blk_cell BK337.out 2).trans rfl, (blk_cell BK337.out 3).trans rfl, (blk_cell BK337.out 4).trans rfl, (blk_cell BK337.out 5).trans rfl, (blk_cell BK337.out 6).trans rfl⟩ (fun hHeld => ?_); refine with_tabW bobbinref14_Kept.tab9 bobbinref14_Kept.bits9 (fun HT_ HW_ => ?_)
                        generalize w21.drew = w22 at BK337 HB hHeld ⊢
                        refine pure_ (i := 0) (N := some 34) (v := ?_) (a' := ?_) #[true, false, false, false, false, false, false, false] rfl rfl (any_of HT_.out (by kernel_rfl)) (fun _ _ _ h => h) (Or.inl ⟨by rfl, ?_⟩) ?_ ?_
                        rotate_left
                        · intro w'
                          go_simp
                          with_reducible rfl
                        rotate_left
                        · simp only [Act.put, List.setIfInBounds_toArray, List.set_cons_zero, List.set_cons_succ, i64_w, i32_w]
                          rfl
                        refine pure_ (i := 3) (N := some 37) (v := ?_) (a' := ?_) #[true, false, false, true, false, false, false, false] rfl rfl (any_of HT_.out (by kernel_rfl)) (fun _ _ _ h => h) (Or.inl ⟨by rfl, ?_⟩) ?_ ?_
                        rotate_left
                        · intro w'
                          go_simp
                          with_reducible rfl
                        rotate_left
                        · simp only [Act.put, List.setIfInBounds_toArray, List.set_cons_zero, List.set_cons_succ, i64_w, i32_w]
                          rfl
                        refine take_ (i := 1) (N := some 35) (v := ?_) (a' := ?_) #[true, true, false, true, false, false, false, false] rfl rfl (take_ofW HT_.out HW_.out (by kernel_rfl)) (fun _ _ _ h => h) (Or.inl ⟨by rfl, ?_⟩) hHeld ?_ ?_
                        rotate_left
                        · rintro w' ⟨s0, s1, s2, s3, s4, s5, s6⟩
                          go_simp
                          with_reducible rfl
                        rotate_left
                        · simp only [Act.put, List.setIfInBounds_toArray, List.set_cons_zero, List.set_cons_succ, i64_w, i32_w]
                          rfl
                        refine take_ (i := 4) (N := some 38) (v := ?_) (a' := ?_) #[true, true, false, true, true, false, false, false] rfl rfl (take_ofW HT_.out HW_.out (by kernel_rfl)) (fun _ _ _ h => h) (Or.inl ⟨by rfl, ?_⟩) hHeld ?_ ?_
                        rotate_left
                        · rintro w' ⟨s0, s1, s2, s3, s4, s5, s6⟩
                          go_simp
                          with_reducible rfl
                        rotate_left
                        · simp only [Act.put, List.setIfInBounds_toArray, List.set_cons_zero, List.set_cons_succ, i64_w, i32_w]
                          rfl
                        refine one_ (i := 2) (N := some 36) #[true, true, true, true, true, false, false, false] rfl rfl (one_of HT_.out (by kernel_rfl)) (by decide) (fun K hK => ?_)
                        refine goes_ Try.func28 (by kernel_rfl) rfl #[.agg #[.bool ((rd_T30 ((rd_T25 l0 x6_1).f4) x7_2).f3.f0), .slice A336_4 ((rd_T30 ((rd_T25 l0 x6_1).f4) x7_2).f3.f1).length c336_4]] (by rfl) rfl rfl (by (try simp only [List.map_toArray, List.map_cons, List.map_nil]); first | done | rfl | (simp only [List.length_drop, List.length_take]; rfl)) ?_
                        with_reducible refine (bobbinref14_Size.calls ((rd_T30 ((rd_T25 l0 x6_1).f4) x7_2).f3.f0) _ _ ((rd_T30 ((rd_T25 l0 x6_1).f4) x7_2).f3.f1) t338 _ ?side1 ?side2 A8.out).mono ?_
                        (case side1 => repeat (first | exact (Kd.C_below HR336_4.out HB.out) | (with_reducible refine Kd.C_alloc ?_ _) | (with_reducible refine Kd.C_drewN ?_ _) | (with_reducible refine Kd.C_drew ?_)))
                        (case side2 => exact HC336_4.out)
                        rintro e w23 ⟨rfl, hb⟩
                        refine ⟨_, rfl, ?_⟩
                        have n0_ := Aside0.mk (blk_below (g := gb337) (o := .cells #[.int .i64 ((rd_T30 ((rd_T25 l0 x6_1).f4) x7_2).f0), .int .i64 ((rd_T30 ((rd_T25 l0 x6_1).f4) x7_2).f1), .int .i64 ((rd_T30 ((rd_T25 l0 x6_1).f4) x7_2).f2), .bool ((rd_T30 ((rd_T25 l0 x6_1).f4) x7_2).f3.f0), .slice A336_4 ((rd_T30 ((rd_T25 l0 x6_1).f4) x7_2).f3.f1).length c336_4, .bool ((rd_T30 ((rd_T25 l0 x6_1).f4) x7_2).f4.f0), .slice A336_6 ((rd_T30 ((rd_T25 l0 x6_1).f4) x7_2).f4.f1).length c336_6] 30 (0, 0)) (by (with_reducible repeat (first | refine blk_drewN ?_ _ | refine blk_drew ?_ | refine blk_alloc ?_ _)); exact BK337.out) hb)
                        have n1_ := Aside0.mk (below_step (by repeat (first | (with_reducible first | exact HB.out | apply below_alloc | apply pw_below_drewN | apply below_drew1 | refine below_set ?_ GE337.out) | exact HB.out)) hb)
                        clear BK337
                        clear HB
                        have BK337 := n0_
                        have HB := n1_
                        clear n0_ n1_
                        (try clear hb)
                        (try clear hb2)
                        (try clear hk)
                        (try clear hi)
                        refine hK.out _ _ ⟨(blk_cell BK337.out 0).trans rfl, (blk_cell BK337.out 1).trans rfl, (blk_cell BK337.out 2).trans rfl, (blk_cell BK337.out 3).trans rfl, (blk_cell BK337.out 4).trans rfl, (blk_cell BK337.out 5).trans rfl, (blk_cell BK337.out 6).trans rfl⟩ (fun hHeld => ?_)
                        clear hK K
                        refine norm_ (a' := ?_) ?_ ?_
                        rotate_left
                        · show Act.put _ (some 36) _ = _
                          simp only [Act.put, List.setIfInBounds_toArray, List.set_cons_zero, List.set_cons_succ, i64_w, i32_w]
                          rfl
                        refine one_ (i := 5) (N := some 39) #[true, true, true, true, true, true, false, false] rfl rfl (one_of HT_.out (by kernel_rfl)) (by decide) (fun K hK => ?_)
                        refine goes_ Try.func28 (by kernel_rfl) rfl #[.agg #[.bool ((rd_T30 ((rd_T25 l0 x6_1).f4) x7_2).f4.f0), .slice A336_6 ((rd_T30 ((rd_T25 l0 x6_1).f4) x7_2).f4.f1).length c336_6]] (by rfl) rfl rfl (by (try simp only [List.map_toArray, List.map_cons, List.map_nil]); first | done | rfl | (simp only [List.length_drop, List.length_take]; rfl)) ?_
                        with_reducible refine (bobbinref14_Size.calls ((rd_T30 ((rd_T25 l0 x6_1).f4) x7_2).f4.f0) _ _ ((rd_T30 ((rd_T25 l0 x6_1).f4) x7_2).f4.f1) t339 _ ?side1 ?side2 A9.out).mono ?_
                        (case side1 => repeat (first | exact (Kd.C_below HR336_6.out HB.out) | (with_reducible refine Kd.C_alloc ?_ _) | (with_reducible refine Kd.C_drewN ?_ _) | (with_reducible refine Kd.C_drew ?_)))
                        (case side2 => exact HC336_6.out)
                        rintro e w24 ⟨rfl, hb⟩
                        refine ⟨_, rfl, ?_⟩
                        have n0_ := Aside0.mk (blk_below (g := gb337) (o := .cells #[.int .i64 ((rd_T30 ((rd_T25 l0 x6_1).f4) x7_2).f0), .int .i64 ((rd_T30 ((rd_T25 l0 x6_1).f4) x7_2).f1), .int .i64 ((rd_T30 ((rd_T25 l0 x6_1).f4) x7_2).f2), .bool ((rd_T30 ((rd_T25 l0 x6_1).f4) x7_2).f3.f0), .slice A336_4 ((rd_T30 ((rd_T25 l0 x6_1).f4) x7_2).f3.f1).length c336_4, .bool ((rd_T30 ((rd_T25 l0 x6_1).f4) x7_2).f4.f0), .slice A336_6 ((rd_T30 ((rd_T25 l0 x6_1).f4) x7_2).f4.f1).length c336_6] 30 (0, 0)) (by (with_reducible repeat (first | refine blk_drewN ?_ _ | refine blk_drew ?_ | refine blk_alloc ?_ _)); exact BK337.out) hb)
                        have n1_ := Aside0.mk (below_step (by repeat (first | (with_reducible first | exact HB.out | apply below_alloc | apply pw_below_drewN | apply below_drew1 | refine below_set ?_ GE337.out) | exact HB.out)) hb)
                        clear BK337
                        clear HB
                        have BK337 := n0_
                        have HB := n1_
                        clear n0_ n1_
                        (try clear hb)
                        (try clear hb2)
                        (try clear hk)
                        (try clear hi)
                        refine hK.out _ _ ⟨(blk_cell BK337.out 0).trans rfl, (blk_cell BK337.out 1).trans rfl, (blk_cell BK337.out 2).trans rfl, (blk_cell BK337.out 3).trans rfl, (blk_cell BK337.out 4).trans rfl, (blk_cell BK337.out 5).trans rfl, (blk_cell BK337.out 6).trans rfl⟩ (fun hHeld => ?_)
                        clear hK K
                        refine norm_ (a' := ?_) ?_ ?_
                        rotate_left
                        · show Act.put _ (some 39) _ = _
                          simp only [Act.put, List.setIfInBounds_toArray, List.set_cons_zero, List.set_cons_succ, i64_w, i32_w]
                          rfl
                        refine pure_ (i := 6) (N := some 40) (v := ?_) (a' := ?_) #[true, true, true, true, true, true, true, false] rfl rfl (any_of HT_.out (by kernel_rfl)) (fun _ _ _ h => h) (Or.inl ⟨by rfl, ?_⟩) ?_ ?_
                        rotate_left
                        · intro w'
                          go_simp
                          with_reducible rfl
                        rotate_left
                        · simp only [Act.put, List.setIfInBounds_toArray, List.set_cons_zero, List.set_cons_succ, i64_w, i32_w]
                          rfl
                        refine pure_ (i := 7) (N := some 9) (v := ?_) (a' := ?_) #[true, true, true, true, true, true, true, true] rfl rfl (any_of HT_.out (by kernel_rfl)) (fun _ _ _ h => h) (Or.inl ⟨by rfl, ?_⟩) ?_ ?_
                        rotate_left
                        · intro w'
                          go_simp
                          with_reducible rfl
                        rotate_left
                        · simp only [Act.put, List.setIfInBounds_toArray, List.set_cons_zero, List.set_cons_succ, i64_w, i32_w]
                          rfl
                        refine done_ (done_of HT_.out (by kernel_rfl)) ?_
                        have hcz25_0 : w24.cell? ⟨gb337, 0, none⟩ = some (.int .i64 ((rd_T30 ((rd_T25 l0 x6_1).f4) x7_2).f0)) := (blk_cell BK337.out 0).trans rfl
                        have hcz25_1 : w24.cell? ⟨gb337, 1, none⟩ = some (.int .i64 ((rd_T30 ((rd_T25 l0 x6_1).f4) x7_2).f1)) := (blk_cell BK337.out 1).trans rfl
                        have hcz25_2 : w24.cell? ⟨gb337, 2, none⟩ = some (.int .i64 ((rd_T30 ((rd_T25 l0 x6_1).f4) x7_2).f2)) := (blk_cell BK337.out 2).trans rfl
                        have hcz25_3 : w24.cell? ⟨gb337, 3, none⟩ = some (.bool ((rd_T30 ((rd_T25 l0 x6_1).f4) x7_2).f3.f0)) := (blk_cell BK337.out 3).trans rfl
                        have hcz25_4 : w24.cell? ⟨gb337, 4, none⟩ = some (.slice A336_4 ((rd_T30 ((rd_T25 l0 x6_1).f4) x7_2).f3.f1).length c336_4) := (blk_cell BK337.out 4).trans rfl
                        have hcz25_5 : w24.cell? ⟨gb337, 5, none⟩ = some (.bool ((rd_T30 ((rd_T25 l0 x6_1).f4) x7_2).f4.f0)) := (blk_cell BK337.out 5).trans rfl
                        have hcz25_6 : w24.cell? ⟨gb337, 6, none⟩ = some (.slice A336_6 ((rd_T30 ((rd_T25 l0 x6_1).f4) x7_2).f4.f1).length c336_6) := (blk_cell BK337.out 6).trans rfl
                        have hfz25_0 := blk_frozen BK337.out 0
                        have hfz25_1 := blk_frozen BK337.out 1
                        have hfz25_2 := blk_frozen BK337.out 2
                        have hfz25_3 := blk_frozen BK337.out 3
                        have hfz25_4 := blk_frozen BK337.out 4
                        have hfz25_5 := blk_frozen BK337.out 5
                        have hfz25_6 := blk_frozen BK337.out 6
                        try go_wp2
                        go_roundg k2
                        case measure => have := HK1.out; have := HK2.out; omega
                        case rel => exact ⟨(x5_2), (wrap64 (x7_2 + 1)), (by first | rfl | (simp; done) | (simp [*]; done)), (by first | rfl | (simp; done) | (simp [*]; done)), H', ⟨by have := HK1.out; have := HK2.out; omega⟩, ⟨by repeat (first | (with_reducible first | exact HB.out | apply below_alloc | apply pw_below_drewN | apply below_drew1 | refine below_set ?_ GE337.out) | exact HB.out)⟩⟩
                    · rw [if_neg c10] at H
                      have c10b0 : (((rd_T30 ((rd_T25 l0 x6_1).f4) x7_2).f1) == a1) = false := beq_eq_false_iff_ne.mpr c10
                      have c10b1 : (((rd_T30 ((rd_T25 l0 x6_1).f4) x7_2).f1) != a1) = true := bne_iff_ne.mpr c10
                      have H' := Aside0.mk H
                      clear H
                      have p334 : 0 ≤ (x6_1 : Int) := of_decide_eq_true (by first | (with_reducible assumption) | assumption)
                      have q334 : x6_1 < (l0.length : Int) := of_decide_eq_true (by first | (with_reducible assumption) | assumption)
                      obtain ⟨ad334, A334_4, c334_4, A334_5, c334_5, e334, hx334_0, hx334_1, hx334_2, hx334_3, hx334_4, hx334_5, hl334_4, hi334_4, hl334_5, hi334_5⟩ := at_T25 HR0.out x6_1 p334 q334
                      cases e334
                      replace hx334_0 := (HB.out.cell (World.block_lt_of_cell? w _ hx334_0)).trans hx334_0
                      replace hx334_1 := (HB.out.cell (World.block_lt_of_cell? w _ hx334_1)).trans hx334_1
                      replace hx334_2 := (HB.out.cell (World.block_lt_of_cell? w _ hx334_2)).trans hx334_2
                      replace hx334_3 := (HB.out.cell (World.block_lt_of_cell? w _ hx334_3)).trans hx334_3
                      replace hx334_4 := (HB.out.cell (World.block_lt_of_cell? w _ hx334_4)).trans hx334_4
                      replace hx334_5 := (HB.out.cell (World.block_lt_of_cell? w _ hx334_5)).trans hx334_5
                      have HR334_4 := Aside0.mk hi334_4
                      have HC334_4 := Aside0.mk hl334_4
                      clear hi334_4 hl334_4
                      have HR334_5 := Aside0.mk hi334_5
                      have HC334_5 := Aside0.mk hl334_5
                      clear hi334_5 hl334_5
                      replace p334 := eq_true p334
                      replace q334 := eq_true q334
                      have p335 : 0 ≤ (x6_1 : Int) := of_decide_eq_true (by first | (with_reducible assumption) | assumption)
                      have q335 : x6_1 < (l0.length : Int) := of_decide_eq_true (by first | (with_reducible assumption) | assumption)
                      obtain ⟨ad335, A335_4, c335_4, A335_5, c335_5, e335, hx335_0, hx335_1, hx335_2, hx335_3, hx335_4, hx335_5, hl335_4, hi335_4, hl335_5, hi335_5⟩ := at_T25 HR0.out x6_1 p335 q335
                      obtain rfl : ad334 = ad335 := (by injection e335)
                      replace hx335_0 := (HB.out.cell (World.block_lt_of_cell? w _ hx335_0)).trans hx335_0
                      replace hx335_1 := (HB.out.cell (World.block_lt_of_cell? w _ hx335_1)).trans hx335_1
                      replace hx335_2 := (HB.out.cell (World.block_lt_of_cell? w _ hx335_2)).trans hx335_2
                      replace hx335_3 := (HB.out.cell (World.block_lt_of_cell? w _ hx335_3)).trans hx335_3
                      replace hx335_4 := (HB.out.cell (World.block_lt_of_cell? w _ hx335_4)).trans hx335_4
                      replace hx335_5 := (HB.out.cell (World.block_lt_of_cell? w _ hx335_5)).trans hx335_5
                      have HR335_4 := Aside0.mk hi335_4
                      have HC335_4 := Aside0.mk hl335_4
                      clear hi335_4 hl335_4
                      have HR335_5 := Aside0.mk hi335_5
                      have HC335_5 := Aside0.mk hl335_5
                      clear hi335_5 hl335_5
                      replace p335 := eq_true p335
                      replace q335 := eq_true q335
                      have ea_ := Option.some.inj (hx334_4.symm.trans hx335_4)
                      injection ea_ with ea_ en_ ec_
                      subst ea_
                      subst ec_
                      clear en_
                      have ea_ := Option.some.inj (hx334_5.symm.trans hx335_5)
                      injection ea_ with ea_ en_ ec_
                      subst ea_
                      subst ec_
                      clear en_
                      have p336 : 0 ≤ (x7_2 : Int) := of_decide_eq_true (by first | (with_reducible assumption) | assumption)
                      have q336 : x7_2 < (((rd_T25 l0 x6_1).f4).length : Int) := of_decide_eq_true (by first | (with_reducible assumption) | assumption)
                      obtain ⟨ad336, A336_4, c336_4, A336_6, c336_6, e336, hx336_0, hx336_1, hx336_2, hx336_3, hx336_4, hx336_5, hx336_6, hl336_4, hi336_4, hl336_6, hi336_6⟩ := at_T30 HR335_4.out x7_2 p336 q336
                      cases e336
                      replace hx336_0 := (HB.out.cell (World.block_lt_of_cell? w _ hx336_0)).trans hx336_0
                      replace hx336_1 := (HB.out.cell (World.block_lt_of_cell? w _ hx336_1)).trans hx336_1
                      replace hx336_2 := (HB.out.cell (World.block_lt_of_cell? w _ hx336_2)).trans hx336_2
                      replace hx336_3 := (HB.out.cell (World.block_lt_of_cell? w _ hx336_3)).trans hx336_3
                      replace hx336_4 := (HB.out.cell (World.block_lt_of_cell? w _ hx336_4)).trans hx336_4
                      replace hx336_5 := (HB.out.cell (World.block_lt_of_cell? w _ hx336_5)).trans hx336_5
                      replace hx336_6 := (HB.out.cell (World.block_lt_of_cell? w _ hx336_6)).trans hx336_6
                      have HR336_4 := Aside0.mk hi336_4
                      have HC336_4 := Aside0.mk hl336_4
                      clear hi336_4 hl336_4
                      have HR336_6 := Aside0.mk hi336_6
                      have HC336_6 := Aside0.mk hl336_6
                      clear hi336_6 hl336_6
                      replace p336 := eq_true p336
                      replace q336 := eq_true q336
                      try go_wp2_with (first | ((with_reducible refine gate_dst (N := 8) rfl ?_); refine box_event ?hg (N := 8) ?hd (cs := #[.int .i64 0, .int .i64 0, .int .i64 0, .bool false, .slice none 0 0, .bool false, .slice none 0 0]) (t := 30) ?hr ?_; (case hd => rfl); (case hg => rfl); (case hr => first | (go_simp; done) | (go_simp; rfl)); intro gb337 hg w26 hbox hb; have n0_ := Aside0.mk (below_step (by repeat (first | (with_reducible first | exact HB.out | apply below_alloc | apply pw_below_drewN | apply below_drew1) | exact HB.out)) hb); have n1_ := Aside0.mk (hbox); have n2_ := Aside0.mk ((by rw [hg]; exact (below_size (by repeat (first | (with_reducible first | exact HB.out | apply below_alloc | apply pw_below_drewN | apply below_drew1) | exact HB.out))) : w.heap.size ≤ gb337)); have n3_ := Aside0.mk ((by rw [hg]; exact (below_size (by repeat (first | (with_reducible first | exact HB.out | apply below_alloc | apply pw_below_drewN | apply below_drew1) | exact HB.out))) : w.heap.size ≤ gb337)); clear HB; have HB := n0_; have BK337 := n1_; have GW337 := n2_; have GE337 := n3_; clear n0_ n1_ n2_ n3_; clear hb hbox hg; have hcz27_0 : w26.cell? ⟨gb337, 0, none⟩ = some (.int .i64 0) := (blk_cell BK337.out 0).trans rfl; have hcz27_1 : w26.cell? ⟨gb337, 1, none⟩ = some (.int .i64 0) := (blk_cell BK337.out 1).trans rfl; have hcz27_2 : w26.cell? ⟨gb337, 2, none⟩ = some (.int .i64 0) := (blk_cell BK337.out 2).trans rfl; have hcz27_3 : w26.cell? ⟨gb337, 3, none⟩ = some (.bool false) := (blk_cell BK337.out 3).trans rfl; have hcz27_4 : w26.cell? ⟨gb337, 4, none⟩ = some (.slice none 0 0) := (blk_cell BK337.out 4).trans rfl; have hcz27_5 : w26.cell? ⟨gb337, 5, none⟩ = some (.bool false) := (blk_cell BK337.out 5).trans rfl; have hcz27_6 : w26.cell? ⟨gb337, 6, none⟩ = some (.slice none 0 0) := (blk_cell BK337.out 6).trans rfl; have hfz27_0 := blk_frozen BK337.out 0; have hfz27_1 := blk_frozen BK337.out 1; have hfz27_2 := blk_frozen BK337.out 2; have hfz27_3 := blk_frozen BK337.out 3; have hfz27_4 := blk_frozen BK337.out 4; have hfz27_5 := blk_frozen BK337.out 5; have hfz27_6 := blk_frozen BK337.out 6))
                      have n0_ : Aside0 ((((((((w26.setCell ⟨gb337, 0, none⟩ (.int .i64 ((rd_T30 ((rd_T25 l0 x6_1).f4) x7_2).f0))).setCell ⟨gb337, 1, none⟩ (.int .i64 ((rd_T30 ((rd_T25 l0 x6_1).f4) x7_2).f1))).setCell ⟨gb337, 2, none⟩ (.int .i64 ((rd_T30 ((rd_T25 l0 x6_1).f4) x7_2).f2))).setCell ⟨gb337, 3, none⟩ (.bool ((rd_T30 ((rd_T25 l0 x6_1).f4) x7_2).f3.f0))).setCell ⟨gb337, 4, none⟩ (.slice A336_4 ((rd_T30 ((rd_T25 l0 x6_1).f4) x7_2).f3.f1).length c336_4)).setCell ⟨gb337, 5, none⟩ (.bool ((rd_T30 ((rd_T25 l0 x6_1).f4) x7_2).f4.f0))).setCell ⟨gb337, 6, none⟩ (.slice A336_6 ((rd_T30 ((rd_T25 l0 x6_1).f4) x7_2).f4.f1).length c336_6)).heap[gb337]? = some (.cells #[.int .i64 ((rd_T30 ((rd_T25 l0 x6_1).f4) x7_2).f0), .int .i64 ((rd_T30 ((rd_T25 l0 x6_1).f4) x7_2).f1), .int .i64 ((rd_T30 ((rd_T25 l0 x6_1).f4) x7_2).f2), .bool ((rd_T30 ((rd_T25 l0 x6_1).f4) x7_2).f3.f0), .slice A336_4 ((rd_T30 ((rd_T25 l0 x6_1).f4) x7_2).f3.f1).length c336_4, .bool ((rd_T30 ((rd_T25 l0 x6_1).f4) x7_2).f4.f0), .slice A336_6 ((rd_T30 ((rd_T25 l0 x6_1).f4) x7_2).f4.f1).length c336_6] 30 (0, 0))) := ⟨by (with_reducible repeat (first | refine blk_drewN ?_ _ | refine blk_drew ?_ | refine blk_alloc ?_ _)); refine blk_put (cs := #[.int .i64 ((rd_T30 ((rd_T25 l0 x6_1).f4) x7_2).f0), .int .i64 ((rd_T30 ((rd_T25 l0 x6_1).f4) x7_2).f1), .int .i64 ((rd_T30 ((rd_T25 l0 x6_1).f4) x7_2).f2), .bool ((rd_T30 ((rd_T25 l0 x6_1).f4) x7_2).f3.f0), .slice A336_4 ((rd_T30 ((rd_T25 l0 x6_1).f4) x7_2).f3.f1).length c336_4, .bool ((rd_T30 ((rd_T25 l0 x6_1).f4) x7_2).f4.f0), .slice none 0 0]) ?_ 6 _ rfl; (with_reducible repeat (first | refine blk_drewN ?_ _ | refine blk_drew ?_ | refine blk_alloc ?_ _)); refine blk_put (cs := #[.int .i64 ((rd_T30 ((rd_T25 l0 x6_1).f4) x7_2).f0), .int .i64 ((rd_T30 ((rd_T25 l0 x6_1).f4) x7_2).f1), .int .i64 ((rd_T30 ((rd_T25 l0 x6_1).f4) x7_2).f2), .bool ((rd_T30 ((rd_T25 l0 x6_1).f4) x7_2).f3.f0), .slice A336_4 ((rd_T30 ((rd_T25 l0 x6_1).f4) x7_2).f3.f1).length c336_4, .bool false, .slice none 0 0]) ?_ 5 _ rfl; (with_reducible repeat (first | refine blk_drewN ?_ _ | refine blk_drew ?_ | refine blk_alloc ?_ _)); refine blk_put (cs := #[.int .i64 ((rd_T30 ((rd_T25 l0 x6_1).f4) x7_2).f0), .int .i64 ((rd_T30 ((rd_T25 l0 x6_1).f4) x7_2).f1), .int .i64 ((rd_T30 ((rd_T25 l0 x6_1).f4) x7_2).f2), .bool ((rd_T30 ((rd_T25 l0 x6_1).f4) x7_2).f3.f0), .slice none 0 0, .bool false, .slice none 0 0]) ?_ 4 _ rfl; (with_reducible repeat (first | refine blk_drewN ?_ _ | refine blk_drew ?_ | refine blk_alloc ?_ _)); refine blk_put (cs := #[.int .i64 ((rd_T30 ((rd_T25 l0 x6_1).f4) x7_2).f0), .int .i64 ((rd_T30 ((rd_T25 l0 x6_1).f4) x7_2).f1), .int .i64 ((rd_T30 ((rd_T25 l0 x6_1).f4) x7_2).f2), .bool false, .slice none 0 0, .bool false, .slice none 0 0]) ?_ 3 _ rfl; (with_reducible repeat (first | refine blk_drewN ?_ _ | refine blk_drew ?_ | refine blk_alloc ?_ _)); refine blk_put (cs := #[.int .i64 ((rd_T30 ((rd_T25 l0 x6_1).f4) x7_2).f0), .int .i64 ((rd_T30 ((rd_T25 l0 x6_1).f4) x7_2).f1), .int .i64 0, .bool false, .slice none 0 0, .bool false, .slice none 0 0]) ?_ 2 _ rfl; (with_reducible repeat (first | refine blk_drewN ?_ _ | refine blk_drew ?_ | refine blk_alloc ?_ _)); refine blk_put (cs := #[.int .i64 ((rd_T30 ((rd_T25 l0 x6_1).f4) x7_2).f0), .int .i64 0, .int .i64 0, .bool false, .slice none 0 0, .bool false, .slice none 0 0]) ?_ 1 _ rfl; (with_reducible repeat (first | refine blk_drewN ?_ _ | refine blk_drew ?_ | refine blk_alloc ?_ _)); refine blk_put (cs := #[.int .i64 0, .int .i64 0, .int .i64 0, .bool false, .slice none 0 0, .bool false, .slice none 0 0]) ?_ 0 _ rfl; (with_reducible repeat (first | refine blk_drewN ?_ _ | refine blk_drew ?_ | refine blk_alloc ?_ _)); exact BK337.out⟩
                      have n1_ : Aside0 (Below w.heap.size w (((((((w26.setCell ⟨gb337, 0, none⟩ (.int .i64 ((rd_T30 ((rd_T25 l0 x6_1).f4) x7_2).f0))).setCell ⟨gb337, 1, none⟩ (.int .i64 ((rd_T30 ((rd_T25 l0 x6_1).f4) x7_2).f1))).setCell ⟨gb337, 2, none⟩ (.int .i64 ((rd_T30 ((rd_T25 l0 x6_1).f4) x7_2).f2))).setCell ⟨gb337, 3, none⟩ (.bool ((rd_T30 ((rd_T25 l0 x6_1).f4) x7_2).f3.f0))).setCell ⟨gb337, 4, none⟩ (.slice A336_4 ((rd_T30 ((rd_T25 l0 x6_1).f4) x7_2).f3.f1).length c336_4)).setCell ⟨gb337, 5, none⟩ (.bool ((rd_T30 ((rd_T25 l0 x6_1).f4) x7_2).f4.f0))).setCell ⟨gb337, 6, none⟩ (.slice A336_6 ((rd_T30 ((rd_T25 l0 x6_1).f4) x7_2).f4.f1).length c336_6))) := ⟨by repeat (first | (with_reducible first | exact HB.out | apply below_alloc | apply pw_below_drewN | apply below_drew1 | refine below_set ?_ GE337.out) | exact HB.out)⟩
                      (try clear BK337)
                      (try clear HB)
                      generalize (((((((w26.setCell ⟨gb337, 0, none⟩ (.int .i64 ((rd_T30 ((rd_T25 l0 x6_1).f4) x7_2).f0))).setCell ⟨gb337, 1, none⟩ (.int .i64 ((rd_T30 ((rd_T25 l0 x6_1).f4) x7_2).f1))).setCell ⟨gb337, 2, none⟩ (.int .i64 ((rd_T30 ((rd_T25 l0 x6_1).f4) x7_2).f2))).setCell ⟨gb337, 3, none⟩ (.bool ((rd_T30 ((rd_T25 l0 x6_1).f4) x7_2).f3.f0))).setCell ⟨gb337, 4, none⟩ (.slice A336_4 ((rd_T30 ((rd_T25 l0 x6_1).f4) x7_2).f3.f1).length c336_4)).setCell ⟨gb337, 5, none⟩ (.bool ((rd_T30 ((rd_T25 l0 x6_1).f4) x7_2).f4.f0))).setCell ⟨gb337, 6, none⟩ (.slice A336_6 ((rd_T30 ((rd_T25 l0 x6_1).f4) x7_2).f4.f1).length c336_6)) = w28 at n0_ n1_ ⊢
                      have BK337 := n0_
                      have HB := n1_
                      clear n0_ n1_
                      have n0_ := Aside0.mk (blk_drew BK337.out)
                      have n1_ := Aside0.mk (below_drew1 HB.out)
                      clear BK337
                      clear HB
                      have BK337 := n0_
                      have HB := n1_
                      clear n0_ n1_
                      refine start_ (n := 8) (S := fun w' => w'.cell? ⟨gb337, 0, none⟩ = some (.int .i64 ((rd_T30 ((rd_T25 l0 x6_1).f4) x7_2).f0)) ∧ w'.cell? ⟨gb337, 1, none⟩ = some (.int .i64 ((rd_T30 ((rd_T25 l0 x6_1).f4) x7_2).f1)) ∧ w'.cell? ⟨gb337, 2, none⟩ = some (.int .i64 ((rd_T30 ((rd_T25 l0 x6_1).f4) x7_2).f2)) ∧ w'.cell? ⟨gb337, 3, none⟩ = some (.bool ((rd_T30 ((rd_T25 l0 x6_1).f4) x7_2).f3.f0)) ∧ w'.cell? ⟨gb337, 4, none⟩ = some (.slice A336_4 ((rd_T30 ((rd_T25 l0 x6_1).f4) x7_2).f3.f1).length c336_4) ∧ w'.cell? ⟨gb337, 5, none⟩ = some (.bool ((rd_T30 ((rd_T25 l0 x6_1).f4) x7_2).f4.f0)) ∧ w'.cell? ⟨gb337, 6, none⟩ = some (.slice A336_6 ((rd_T30 ((rd_T25 l0 x6_1).f4) x7_2).f4.f1).length c336_6)) (ds := []) #[false, false, false, false, false, false, false, false] (by kernel_rfl) rfl rfl ⟨(blk_cell BK337.out 0).trans rfl, (blk_cell BK337.out 1).trans rfl, (blk_cell BK337.out 2).trans rfl, (blk_cell BK337.out 3).trans rfl, (blk_cell BK337.out 4).trans rfl, (blk_cell BK337.out 5).trans rfl, (blk_cell BK337.out 6).trans rfl⟩ (fun hHeld => ?_); refine with_tabW bobbinref14_Kept.tab9 bobbinref14_Kept.bits9 (fun HT_ HW_ => ?_)
                      generalize w28.drew = w29 at BK337 HB hHeld ⊢
                      refine pure_ (i := 0) (N := some 34) (v := ?_) (a' := ?_) #[true, false, false, false, false, false, false, false] rfl rfl (any_of HT_.out (by kernel_rfl)) (fun _ _ _ h => h) (Or.inl ⟨by rfl, ?_⟩) ?_ ?_
                      rotate_left
                      · intro w'
                        go_simp
                        with_reducible rfl
                      rotate_left
                      · simp only [Act.put, List.setIfInBounds_toArray, List.set_cons_zero, List.set_cons_succ, i64_w, i32_w]
                        rfl
                      refine pure_ (i := 3) (N := some 37) (v := ?_) (a' := ?_) #[true, false, false, true, false, false, false, false] rfl rfl (any_of HT_.out (by kernel_rfl)) (fun _ _ _ h => h) (Or.inl ⟨by rfl, ?_⟩) ?_ ?_
                      rotate_left
                      · intro w'
                        go_simp
                        with_reducible rfl
                      rotate_left
                      · simp only [Act.put, List.setIfInBounds_toArray, List.set_cons_zero, List.set_cons_succ, i64_w, i32_w]
                        rfl
                      refine take_ (i := 1) (N := some 35) (v := ?_) (a' := ?_) #[true, true, false, true, false, false, false, false] rfl rfl (take_ofW HT_.out HW_.out (by kernel_rfl)) (fun _ _ _ h => h) (Or.inl ⟨by rfl, ?_⟩) hHeld ?_ ?_
                      rotate_left
                      · rintro w' ⟨s0, s1, s2, s3, s4, s5, s6⟩
                        go_simp
                        with_reducible rfl
                      rotate_left
                      · simp only [Act.put, List.setIfInBounds_toArray, List.set_cons_zero, List.set_cons_succ, i64_w, i32_w]
                        rfl
                      refine take_ (i := 4) (N := some 38) (v := ?_) (a' := ?_) #[true, true, false, true, true, false, false, false] rfl rfl (take_ofW HT_.out HW_.out (by kernel_rfl)) (fun _ _ _ h => h) (Or.inl ⟨by rfl, ?_⟩) hHeld ?_ ?_
                      rotate_left
                      · rintro w' ⟨s0, s1, s2, s3, s4, s5, s6⟩
                        go_simp
                        with_reducible rfl
                      rotate_left
                      · simp only [Act.put, List.setIfInBounds_toArray, List.set_cons_zero, List.set_cons_succ, i64_w, i32_w]
                        rfl
                      refine one_ (i := 2) (N := some 36) #[true, true, true, true, true, false, false, false] rfl rfl (one_of HT_.out (by kernel_rfl)) (by decide) (fun K hK => ?_)
                      refine goes_ Try.func28 (by kernel_rfl) rfl #[.agg #[.bool ((rd_T30 ((rd_T25 l0 x6_1).f4) x7_2).f3.f0), .slice A336_4 ((rd_T30 ((rd_T25 l0 x6_1).f4) x7_2).f3.f1).length c336_4]] (by rfl) rfl rfl (by (try simp only [List.map_toArray, List.map_cons, List.map_nil]); first | done | rfl | (simp only [List.length_drop, List.length_take]; rfl)) ?_
                      with_reducible refine (bobbinref14_Size.calls ((rd_T30 ((rd_T25 l0 x6_1).f4) x7_2).f3.f0) _ _ ((rd_T30 ((rd_T25 l0 x6_1).f4) x7_2).f3.f1) t338 _ ?side1 ?side2 A8.out).mono ?_
                      (case side1 => repeat (first | exact (Kd.C_below HR336_4.out HB.out) | (with_reducible refine Kd.C_alloc ?_ _) | (with_reducible refine Kd.C_drewN ?_ _) | (with_reducible refine Kd.C_drew ?_)))
                      (case side2 => exact HC336_4.out)
                      rintro e w30 ⟨rfl, hb⟩
                      refine ⟨_, rfl, ?_⟩
                      have n0_ := Aside0.mk (blk_below (g := gb337) (o := .cells #[.int .i64 ((rd_T30 ((rd_T25 l0 x6_1).f4) x7_2).f0), .int .i64 ((rd_T30 ((rd_T25 l0 x6_1).f4) x7_2).f1), .int .i64 ((rd_T30 ((rd_T25 l0 x6_1).f4) x7_2).f2), .bool ((rd_T30 ((rd_T25 l0 x6_1).f4) x7_2).f3.f0), .slice A336_4 ((rd_T30 ((rd_T25 l0 x6_1).f4) x7_2).f3.f1).length c336_4, .bool ((rd_T30 ((rd_T25 l0 x6_1).f4) x7_2).f4.f0), .slice A336_6 ((rd_T30 ((rd_T25 l0 x6_1).f4) x7_2).f4.f1).length c336_6] 30 (0, 0)) (by (with_reducible repeat (first | refine blk_drewN ?_ _ | refine blk_drew ?_ | refine blk_alloc ?_ _)); exact BK337.out) hb)
                      have n1_ := Aside0.mk (below_step (by repeat (first | (with_reducible first | exact HB.out | apply below_alloc | apply pw_below_drewN | apply below_drew1 | refine below_set ?_ GE337.out) | exact HB.out)) hb)
                      clear BK337
                      clear HB
                      have BK337 := n0_
                      have HB := n1_
                      clear n0_ n1_
                      (try clear hb)
                      (try clear hb2)
                      (try clear hk)
                      (try clear hi)
                      refine hK.out _ _ ⟨(blk_cell BK337.out 0).trans rfl, (blk_cell BK337.out 1).trans rfl, (blk_cell BK337.out 2).trans rfl, (blk_cell BK337.out 3).trans rfl, (blk_cell BK337.out 4).trans rfl, (blk_cell BK337.out 5).trans rfl, (blk_cell BK337.out 6).trans rfl⟩ (fun hHeld => ?_)
                      clear hK K
                      refine norm_ (a' := ?_) ?_ ?_
                      rotate_left
                      · show Act.put _ (some 36) _ = _
                        simp only [Act.put, List.setIfInBounds_toArray, List.set_cons_zero, List.set_cons_succ, i64_w, i32_w]
                        rfl
                      refine one_ (i := 5) (N := some 39) #[true, true, true, true, true, true, false, false] rfl rfl (one_of HT_.out (by kernel_rfl)) (by decide) (fun K hK => ?_)
                      refine goes_ Try.func28 (by kernel_rfl) rfl #[.agg #[.bool ((rd_T30 ((rd_T25 l0 x6_1).f4) x7_2).f4.f0), .slice A336_6 ((rd_T30 ((rd_T25 l0 x6_1).f4) x7_2).f4.f1).length c336_6]] (by rfl) rfl rfl (by (try simp only [List.map_toArray, List.map_cons, List.map_nil]); first | done | rfl | (simp only [List.length_drop, List.length_take]; rfl)) ?_
                      with_reducible refine (bobbinref14_Size.calls ((rd_T30 ((rd_T25 l0 x6_1).f4) x7_2).f4.f0) _ _ ((rd_T30 ((rd_T25 l0 x6_1).f4) x7_2).f4.f1) t339 _ ?side1 ?side2 A9.out).mono ?_
                      (case side1 => repeat (first | exact (Kd.C_below HR336_6.out HB.out) | (with_reducible refine Kd.C_alloc ?_ _) | (with_reducible refine Kd.C_drewN ?_ _) | (with_reducible refine Kd.C_drew ?_)))
                      (case side2 => exact HC336_6.out)
                      rintro e w31 ⟨rfl, hb⟩
                      refine ⟨_, rfl, ?_⟩
                      have n0_ := Aside0.mk (blk_below (g := gb337) (o := .cells #[.int .i64 ((rd_T30 ((rd_T25 l0 x6_1).f4) x7_2).f0), .int .i64 ((rd_T30 ((rd_T25 l0 x6_1).f4) x7_2).f1), .int .i64 ((rd_T30 ((rd_T25 l0 x6_1).f4) x7_2).f2), .bool ((rd_T30 ((rd_T25 l0 x6_1).f4) x7_2).f3.f0), .slice A336_4 ((rd_T30 ((rd_T25 l0 x6_1).f4) x7_2).f3.f1).length c336_4, .bool ((rd_T30 ((rd_T25 l0 x6_1).f4) x7_2).f4.f0), .slice A336_6 ((rd_T30 ((rd_T25 l0 x6_1).f4) x7_2).f4.f1).length c336_6] 30 (0, 0)) (by (with_reducible repeat (first | refine blk_drewN ?_ _ | refine blk_drew ?_ | refine blk_alloc ?_ _)); exact BK337.out) hb)
                      have n1_ := Aside0.mk (below_step (by repeat (first | (with_reducible first | exact HB.out | apply below_alloc | apply pw_below_drewN | apply below_drew1 | refine below_set ?_ GE337.out) | exact HB.out)) hb)
                      clear BK337
                      clear HB
                      have BK337 := n0_
                      have HB := n1_
                      clear n0_ n1_
                      (try clear hb)
                      (try clear hb2)
                      (try clear hk)
                      (try clear hi)
                      refine hK.out _ _ ⟨(blk_cell BK337.out 0).trans rfl, (blk_cell BK337.out 1).trans rfl, (blk_cell BK337.out 2).trans rfl, (blk_cell BK337.out 3).trans rfl, (blk_cell BK337.out 4).trans rfl, (blk_cell BK337.out 5).trans rfl, (blk_cell BK337.out 6).trans rfl⟩ (fun hHeld => ?_)
                      clear hK K
                      refine norm_ (a' := ?_) ?_ ?_
                      rotate_left
                      · show Act.put _ (some 39) _ = _
                        simp only [Act.put, List.setIfInBounds_toArray, List.set_cons_zero, List.set_cons_succ, i64_w, i32_w]
                        rfl
                      refine pure_ (i := 6) (N := some 40) (v := ?_) (a' := ?_) #[true, true, true, true, true, true, true, false] rfl rfl (any_of HT_.out (by kernel_rfl)) (fun _ _ _ h => h) (Or.inl ⟨by rfl, ?_⟩) ?_ ?_
                      rotate_left
                      · intro w'
                        go_simp
                        with_reducible rfl
                      rotate_left
                      · simp only [Act.put, List.setIfInBounds_toArray, List.set_cons_zero, List.set_cons_succ, i64_w, i32_w]
                        rfl
                      refine pure_ (i := 7) (N := some 9) (v := ?_) (a' := ?_) #[true, true, true, true, true, true, true, true] rfl rfl (any_of HT_.out (by kernel_rfl)) (fun _ _ _ h => h) (Or.inl ⟨by rfl, ?_⟩) ?_ ?_
                      rotate_left
                      · intro w'
                        go_simp
                        with_reducible rfl
                      rotate_left
                      · simp only [Act.put, List.setIfInBounds_toArray, List.set_cons_zero, List.set_cons_succ, i64_w, i32_w]
                        rfl
                      refine done_ (done_of HT_.out (by kernel_rfl)) ?_
                      have hcz32_0 : w31.cell? ⟨gb337, 0, none⟩ = some (.int .i64 ((rd_T30 ((rd_T25 l0 x6_1).f4) x7_2).f0)) := (blk_cell BK337.out 0).trans rfl
                      have hcz32_1 : w31.cell? ⟨gb337, 1, none⟩ = some (.int .i64 ((rd_T30 ((rd_T25 l0 x6_1).f4) x7_2).f1)) := (blk_cell BK337.out 1).trans rfl
                      have hcz32_2 : w31.cell? ⟨gb337, 2, none⟩ = some (.int .i64 ((rd_T30 ((rd_T25 l0 x6_1).f4) x7_2).f2)) := (blk_cell BK337.out 2).trans rfl
                      have hcz32_3 : w31.cell? ⟨gb337, 3, none⟩ = some (.bool ((rd_T30 ((rd_T25 l0 x6_1).f4) x7_2).f3.f0)) := (blk_cell BK337.out 3).trans rfl
                      have hcz32_4 : w31.cell? ⟨gb337, 4, none⟩ = some (.slice A336_4 ((rd_T30 ((rd_T25 l0 x6_1).f4) x7_2).f3.f1).length c336_4) := (blk_cell BK337.out 4).trans rfl
                      have hcz32_5 : w31.cell? ⟨gb337, 5, none⟩ = some (.bool ((rd_T30 ((rd_T25 l0 x6_1).f4) x7_2).f4.f0)) := (blk_cell BK337.out 5).trans rfl
                      have hcz32_6 : w31.cell? ⟨gb337, 6, none⟩ = some (.slice A336_6 ((rd_T30 ((rd_T25 l0 x6_1).f4) x7_2).f4.f1).length c336_6) := (blk_cell BK337.out 6).trans rfl
                      have hfz32_0 := blk_frozen BK337.out 0
                      have hfz32_1 := blk_frozen BK337.out 1
                      have hfz32_2 := blk_frozen BK337.out 2
                      have hfz32_3 := blk_frozen BK337.out 3
                      have hfz32_4 := blk_frozen BK337.out 4
                      have hfz32_5 := blk_frozen BK337.out 5
                      have hfz32_6 := blk_frozen BK337.out 6
                      try go_wp2
                      go_roundg k2
                      case measure => have := HK1.out; have := HK2.out; omega
                      case rel => exact ⟨(x5_2), (wrap64 (x7_2 + 1)), (by first | rfl | (simp; done) | (simp [*]; done)), (by first | rfl | (simp; done) | (simp [*]; done)), H', ⟨by have := HK1.out; have := HK2.out; omega⟩, ⟨by repeat (first | (with_reducible first | exact HB.out | apply below_alloc | apply pw_below_drewN | apply below_drew1 | refine below_set ?_ GE337.out) | exact HB.out)⟩⟩
                  · rw [if_neg c7] at H
                    exact absurd H (by simp)
                · rw [if_neg c6] at H
                  have c6b0 : decide (x7_2 < (((rd_T25 l0 x6_1).f4).length : Int)) = false := decide_eq_false c6
                  clear c6
                  have H' := Aside0.mk H
                  clear H
                  have p334 : 0 ≤ (x6_1 : Int) := of_decide_eq_true (by first | (with_reducible assumption) | assumption)
                  have q334 : x6_1 < (l0.length : Int) := of_decide_eq_true (by first | (with_reducible assumption) | assumption)
                  obtain ⟨ad334, A334_4, c334_4, A334_5, c334_5, e334, hx334_0, hx334_1, hx334_2, hx334_3, hx334_4, hx334_5, hl334_4, hi334_4, hl334_5, hi334_5⟩ := at_T25 HR0.out x6_1 p334 q334
                  cases e334
                  replace hx334_0 := (HB.out.cell (World.block_lt_of_cell? w _ hx334_0)).trans hx334_0
                  replace hx334_1 := (HB.out.cell (World.block_lt_of_cell? w _ hx334_1)).trans hx334_1
                  replace hx334_2 := (HB.out.cell (World.block_lt_of_cell? w _ hx334_2)).trans hx334_2
                  replace hx334_3 := (HB.out.cell (World.block_lt_of_cell? w _ hx334_3)).trans hx334_3
                  replace hx334_4 := (HB.out.cell (World.block_lt_of_cell? w _ hx334_4)).trans hx334_4
                  replace hx334_5 := (HB.out.cell (World.block_lt_of_cell? w _ hx334_5)).trans hx334_5
                  have HR334_4 := Aside0.mk hi334_4
                  have HC334_4 := Aside0.mk hl334_4
                  clear hi334_4 hl334_4
                  have HR334_5 := Aside0.mk hi334_5
                  have HC334_5 := Aside0.mk hl334_5
                  clear hi334_5 hl334_5
                  replace p334 := eq_true p334
                  replace q334 := eq_true q334
                  go_wp2
                  go_roundg k2
                  case measure => have := HK1.out; have := HK2.out; omega
                  case rel => exact ⟨(x5_2), (wrap64 (x6_1 + 1)), (by first | rfl | (simp; done) | (simp [*]; done)), (by first | rfl | (simp; done) | (simp [*]; done)), H', ⟨by have := HK1.out; have := HK2.out; omega⟩, ⟨by repeat (first | (with_reducible first | exact HB.out | apply below_alloc | apply pw_below_drewN | apply below_drew1) | exact HB.out)⟩⟩
              · rw [if_neg c5] at H
                exact absurd H (by simp)
            · rw [if_neg c4] at H
              exact absurd H (by simp)
      · rw [if_neg c3] at H
        have c3b0 : decide (x6_1 < (l0.length : Int)) = false := decide_eq_false c3
        clear c3
        obtain rfl := Option.some.inj H
        go_wp2
        go_ret
        exact ⟨by first | rfl | (simp [errW_none, errW_some] <;> rfl) | (simp [*, errW_none, errW_some] <;> rfl), by repeat (first | (with_reducible first | exact HB.out | apply below_alloc | apply pw_below_drewN | apply below_drew1) | exact HB.out)⟩
-- NOT PRINTED: function 4 (bobbinlaw14_TxnKept)
-- NOT PRINTED: function 5 (bobbinlaw14_TxnBack)
-- NOT PRINTED: function 6 (bobbinlaw14_TxnSaves)
-- NOT PRINTED: function 7 (bobbinlaw14_TxnRoom)
-- NOT PRINTED: function 8 (bobbinlaw14_TxnAdds)
-- NOT PRINTED: function 9 (bobbinlaw14_TxnOwn)
end Go.Proofs.Ytdbbibndjknafaa.Print
