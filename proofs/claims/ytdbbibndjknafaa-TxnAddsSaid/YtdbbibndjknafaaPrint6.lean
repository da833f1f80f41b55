-- Written by a program of this session (myprint.py over the kit's print.py) out of the translation. Not trusted: Lean checks it.
import Derived.Test.YtdbbibndjknafaaPrint0
namespace Go.Proofs.Ytdbbibndjknafaa.Print
open Go.RowKit Go.Proofs.YtdbbibndjknafaaW.PrintWords Go.Proofs.YtdbbibndjknafaaW.PrintLast Go.Proofs.YtdbbibndjknafaaW.PrintMore
attribute [local go_sem] max2_int min2_int max_two min_two max_three min_three max_four min_four   -- for this text's walks alone
set_option linter.unusedVariables false
set_option linter.unusedSimpArgs false
mutual
def bobbinref14_Light.j0 : Nat → Bool → Int → Int → Int → Int → List (S30) → List Int → Option (Bool)
  | 0, _, _, _, _, _, _, _ => none
  | k + 1, x17, x258000, x258001, x258002, x258003, x258004, x258005 => if x17 = true then (some false) else (bobbinref14_Light.l0 k 0 x258000 x258001 x258002 x258003 x258004 x258005)
def bobbinref14_Light.l0 : Nat → Int → Int → Int → Int → Int → List (S30) → List Int → Option (Bool)
  | 0, _, _, _, _, _, _, _ => none
  | k + 1, x5, x258000, x258001, x258002, x258003, x258004, x258005 => if x5 < (x258004.length : Int) then (if 0 ≤ x5 then (if (((rd_T30 x258004 x5).f3.f1).length : Int) > 100 then (some false) else (if (((rd_T30 x258004 x5).f4.f1).length : Int) > 100 then (some false) else (bobbinref14_Light.l0 k (wrap64 (x5 + 1)) x258000 x258001 x258002 x258003 x258004 x258005))) else (none)) else (some true)
end
theorem bobbinref14_Light.j0_eq : ∀ (k : Nat) x17 x258000 x258001 x258002 x258003 x258004 x258005, bobbinref14_Light.j0 (k + 1) x17 x258000 x258001 x258002 x258003 x258004 x258005 = (if x17 = true then (some false) else (bobbinref14_Light.l0 k 0 x258000 x258001 x258002 x258003 x258004 x258005)) := fun _ _ _ _ _ _ _ _ => rfl
theorem bobbinref14_Light.l0_eq : ∀ (k : Nat) x5 x258000 x258001 x258002 x258003 x258004 x258005, bobbinref14_Light.l0 (k + 1) x5 x258000 x258001 x258002 x258003 x258004 x258005 = (if x5 < (x258004.length : Int) then (if 0 ≤ x5 then (if (((rd_T30 x258004 x5).f3.f1).length : Int) > 100 then (some false) else (if (((rd_T30 x258004 x5).f4.f1).length : Int) > 100 then (some false) else (bobbinref14_Light.l0 k (wrap64 (x5 + 1)) x258000 x258001 x258002 x258003 x258004 x258005))) else (none)) else (some true)) := fun _ _ _ _ _ _ _ _ => rfl
def bobbinref14_Light.f (k : Nat) (a0_0 : Int) (a0_1 : Int) (a0_2 : Int) (a0_3 : Int) (l0_4 : List (S30)) (l0_5 : List Int) (a1 : Int) : Option (Bool) := if (l0_4.length : Int) > a1 then (bobbinref14_Light.j0 k true a0_0 a0_1 a0_2 a0_3 l0_4 l0_5) else (bobbinref14_Light.j0 k (decide ((l0_5.length : Int) > a1)) a0_0 a0_1 a0_2 a0_3 l0_4 l0_5)
theorem bobbinref14_Light.mono_l : ∀ k, (∀ y0 y1 y2 y3 y4 y5 y6, LeO (bobbinref14_Light.j0 k y0 y1 y2 y3 y4 y5 y6) (bobbinref14_Light.j0 (k + 1) y0 y1 y2 y3 y4 y5 y6)) ∧ (∀ y0 y1 y2 y3 y4 y5 y6, LeO (bobbinref14_Light.l0 k y0 y1 y2 y3 y4 y5 y6) (bobbinref14_Light.l0 (k + 1) y0 y1 y2 y3 y4 y5 y6))
  | 0 => ⟨fun _ _ _ _ _ _ _ r h => by first | (cases h; done) | simp [bobbinref14_Light.j0] at h, fun _ _ _ _ _ _ _ r h => by first | (cases h; done) | simp [bobbinref14_Light.l0] at h⟩
  | k + 1 => by
    obtain ⟨ih0, ih1⟩ := bobbinref14_Light.mono_l k
    refine ⟨?_, ?_⟩
    · intro y0 y1 y2 y3 y4 y5 y6
      unfold bobbinref14_Light.j0
      repeat' first
      | (with_reducible exact ih0 _ _ _ _ _ _ _)
      | (with_reducible exact ih1 _ _ _ _ _ _ _)
      | (with_reducible exact LeO.refl _)
      | (with_reducible exact LeO.none _)
      | (with_reducible refine LeO.ite ?_ ?_)
      | (with_reducible refine LeO.bind ?_ (fun _ => ?_))
      | exact ih0 _ _ _ _ _ _ _
      | exact ih1 _ _ _ _ _ _ _
      | exact LeO.none _
      | refine LeO.ite ?_ ?_
      | refine LeO.bind ?_ (fun _ => ?_)
    · intro y0 y1 y2 y3 y4 y5 y6
      unfold bobbinref14_Light.l0
      repeat' first
      | (with_reducible exact ih0 _ _ _ _ _ _ _)
      | (with_reducible exact ih1 _ _ _ _ _ _ _)
      | (with_reducible exact LeO.refl _)
      | (with_reducible exact LeO.none _)
      | (with_reducible refine LeO.ite ?_ ?_)
      | (with_reducible refine LeO.bind ?_ (fun _ => ?_))
      | exact ih0 _ _ _ _ _ _ _
      | exact ih1 _ _ _ _ _ _ _
      | exact LeO.none _
      | refine LeO.ite ?_ ?_
      | refine LeO.bind ?_ (fun _ => ?_)
theorem bobbinref14_Light.mono : ∀ a0 a1 a2 a3 a4 a5 a6 k, LeO (bobbinref14_Light.f k a0 a1 a2 a3 a4 a5 a6) (bobbinref14_Light.f (k + 1) a0 a1 a2 a3 a4 a5 a6) := by
  intro a0 a1 a2 a3 a4 a5 a6 k
  obtain ⟨ih0, ih1⟩ := bobbinref14_Light.mono_l k
  unfold bobbinref14_Light.f
  repeat' first
      | (with_reducible exact ih0 _ _ _ _ _ _ _)
      | (with_reducible exact ih1 _ _ _ _ _ _ _)
      | (with_reducible exact LeO.refl _)
      | (with_reducible exact LeO.none _)
      | (with_reducible refine LeO.ite ?_ ?_)
      | (with_reducible refine LeO.bind ?_ (fun _ => ?_))
      | exact ih0 _ _ _ _ _ _ _
      | exact ih1 _ _ _ _ _ _ _
      | exact LeO.none _
      | refine LeO.ite ?_ ?_
      | refine LeO.bind ?_ (fun _ => ?_)
set_option maxHeartbeats 8000000 in
set_option maxRecDepth 100000 in
theorem bobbinref14_Light.calls (k : Nat) (a0_0 : Int) (a0_1 : Int) (a0_2 : Int) (a0_3 : Int) (A0_4 : Option Addr) (c0_4 : Nat) (l0_4 : List (S30)) (A0_5 : Option Addr) (c0_5 : Nat) (l0_5 : List Int) (a1 : Int) (r : Bool) (w : World) (hr0_4 : Kd.C k30 w A0_4 l0_4.length l0_4) (hc0_4 : l0_4.length ≤ c0_4) (hr0_5 : Kd.C (Kd.int .i64) w A0_5 l0_5.length l0_5) (hc0_5 : l0_5.length ≤ c0_5) (h : bobbinref14_Light.f k a0_0 a0_1 a0_2 a0_3 l0_4 l0_5 a1 = some r) :
    Calls Try.prog 24 #[.agg #[.int .i64 a0_0, .int .i64 a0_1, .int .i64 a0_2, .int .i64 a0_3, .slice A0_4 l0_4.length c0_4, .slice A0_5 l0_5.length c0_5], .int .i64 a1] w fun e w' => e = .returned (.bool r) ∧ Below w.heap.size w w' := by
  have hu25 := Try.underlying25
  have HR0_4 := Aside0.mk hr0_4
  have HC0_4 := Aside0.mk hc0_4
  clear hr0_4 hc0_4
  have HR0_5 := Aside0.mk hr0_5
  have HC0_5 := Aside0.mk hc0_5
  clear hr0_5 hc0_5
  have HB := Aside0.mk (Below.refl w.heap.size w)
  have H : (if (l0_4.length : Int) > a1 then (bobbinref14_Light.j0 k true a0_0 a0_1 a0_2 a0_3 l0_4 l0_5) else (bobbinref14_Light.j0 k (decide ((l0_5.length : Int) > a1)) a0_0 a0_1 a0_2 a0_3 l0_4 l0_5)) = some r := h
  clear h
  have HC3 := Aside0.mk H
  clear H
  go_enter Try.func24, Try.ntmps24
  go_upto_region 1 with (first | ((with_reducible refine gate_dst (N := 2) rfl ?_); (try (refine gate_guard (by rfl) ?_; dsimp only)); refine box_event ?hg (N := 2) ?hd (cs := #[.int .i64 a0_0, .int .i64 a0_1, .int .i64 a0_2, .int .i64 a0_3, .slice A0_4 l0_4.length c0_4, .slice A0_5 l0_5.length c0_5]) (t := 25) ?hr ?_; (case hd => rfl); (case hg => rfl); (case hr => first | (go_simp; done) | (go_simp; rfl)); intro gb257 hg w4 hbox hb; have n0_ := Aside0.mk (below_step (by repeat (first | (with_reducible first | exact HB.out | apply below_alloc | apply pw_below_drewN | apply below_drew1) | exact HB.out)) hb); have n1_ := Aside0.mk (hbox); have n2_ := Aside0.mk ((by rw [hg]; exact (below_size (by repeat (first | (with_reducible first | exact HB.out | apply below_alloc | apply pw_below_drewN | apply below_drew1) | exact HB.out))) : w.heap.size ≤ gb257)); have n3_ := Aside0.mk ((by rw [hg]; exact (below_size (by repeat (first | (with_reducible first | exact HB.out | apply below_alloc | apply pw_below_drewN | apply below_drew1) | exact HB.out))) : w.heap.size ≤ gb257)); clear HB; have HB := n0_; have BK257 := n1_; have GW257 := n2_; have GE257 := n3_; clear n0_ n1_ n2_ n3_; clear hb hbox hg))
  (try simp only [Act.put, List.setIfInBounds_toArray, List.set_cons_zero, List.set_cons_succ])
  go_cut [17] (fun v17 wc => ∃ (kq : Nat) (x17_2 : Bool), v17 = .bool x17_2 ∧ Aside0 (bobbinref14_Light.j0 kq x17_2 a0_0 a0_1 a0_2 a0_3 l0_4 l0_5 = some r) ∧ Aside0 (kq ≤ k) ∧ Aside0 (wc.heap[gb257]? = some (.cells #[.int .i64 a0_0, .int .i64 a0_1, .int .i64 a0_2, .int .i64 a0_3, (.slice A0_4 l0_4.length c0_4), (.slice A0_5 l0_5.length c0_5)] 25 (0, 0))) ∧ Aside0 (Below w.heap.size w wc))
  case first =>
    have H := HC3.out
    clear HC3
    by_cases c5 : (l0_4.length : Int) > a1
    · rw [if_pos c5] at H
      have c5b0 : decide (a1 < (l0_4.length : Int)) = true := decide_eq_true c5
      clear c5
      (first | rw [c5b0] | (simp only [i64_w, i32_w]; rw [c5b0]) | skip)
      have H' := Aside0.mk H
      clear H
      have hcz6_0 : w4.cell? ⟨gb257, 0, none⟩ = some (.int .i64 a0_0) := (blk_cell BK257.out 0).trans rfl
      have hcz6_1 : w4.cell? ⟨gb257, 1, none⟩ = some (.int .i64 a0_1) := (blk_cell BK257.out 1).trans rfl
      have hcz6_2 : w4.cell? ⟨gb257, 2, none⟩ = some (.int .i64 a0_2) := (blk_cell BK257.out 2).trans rfl
      have hcz6_3 : w4.cell? ⟨gb257, 3, none⟩ = some (.int .i64 a0_3) := (blk_cell BK257.out 3).trans rfl
      have hcz6_4 : w4.cell? ⟨gb257, 4, none⟩ = some (.slice A0_4 l0_4.length c0_4) := (blk_cell BK257.out 4).trans rfl
      have hcz6_5 : w4.cell? ⟨gb257, 5, none⟩ = some (.slice A0_5 l0_5.length c0_5) := (blk_cell BK257.out 5).trans rfl
      have hfz6_0 := blk_frozen BK257.out 0
      have hfz6_1 := blk_frozen BK257.out 1
      have hfz6_2 := blk_frozen BK257.out 2
      have hfz6_3 := blk_frozen BK257.out 3
      have hfz6_4 := blk_frozen BK257.out 4
      have hfz6_5 := blk_frozen BK257.out 5
      go_wp2
      go_meet
      case rel => exact ⟨_, (true), (by first | rfl | (simp; done) | (simp [*]; done)), H', ⟨by first | omega | exact Nat.le_refl _⟩, ⟨by (with_reducible repeat (first | refine blk_drewN ?_ _ | refine blk_drew ?_ | refine blk_alloc ?_ _)); exact BK257.out⟩, ⟨by repeat (first | (with_reducible first | exact HB.out | apply below_alloc | apply pw_below_drewN | apply below_drew1 | refine below_set ?_ GE257.out) | exact HB.out)⟩⟩
    · rw [if_neg c5] at H
      have c5b0 : decide (a1 < (l0_4.length : Int)) = false := decide_eq_false c5
      clear c5
      (first | rw [c5b0] | (simp only [i64_w, i32_w]; rw [c5b0]) | skip)
      have H' := Aside0.mk H
      clear H
      have hcz7_0 : w4.cell? ⟨gb257, 0, none⟩ = some (.int .i64 a0_0) := (blk_cell BK257.out 0).trans rfl
      have hcz7_1 : w4.cell? ⟨gb257, 1, none⟩ = some (.int .i64 a0_1) := (blk_cell BK257.out 1).trans rfl
      have hcz7_2 : w4.cell? ⟨gb257, 2, none⟩ = some (.int .i64 a0_2) := (blk_cell BK257.out 2).trans rfl
      have hcz7_3 : w4.cell? ⟨gb257, 3, none⟩ = some (.int .i64 a0_3) := (blk_cell BK257.out 3).trans rfl
      have hcz7_4 : w4.cell? ⟨gb257, 4, none⟩ = some (.slice A0_4 l0_4.length c0_4) := (blk_cell BK257.out 4).trans rfl
      have hcz7_5 : w4.cell? ⟨gb257, 5, none⟩ = some (.slice A0_5 l0_5.length c0_5) := (blk_cell BK257.out 5).trans rfl
      have hfz7_0 := blk_frozen BK257.out 0
      have hfz7_1 := blk_frozen BK257.out 1
      have hfz7_2 := blk_frozen BK257.out 2
      have hfz7_3 := blk_frozen BK257.out 3
      have hfz7_4 := blk_frozen BK257.out 4
      have hfz7_5 := blk_frozen BK257.out 5
      go_wp2
      go_meet
      case rel => exact ⟨_, (decide ((l0_5.length : Int) > a1)), (by first | rfl | (simp; done) | (simp [*]; done)), H', ⟨by first | omega | exact Nat.le_refl _⟩, ⟨by (with_reducible repeat (first | refine blk_drewN ?_ _ | refine blk_drew ?_ | refine blk_alloc ?_ _)); exact BK257.out⟩, ⟨by repeat (first | (with_reducible first | exact HB.out | apply below_alloc | apply pw_below_drewN | apply below_drew1 | refine below_set ?_ GE257.out) | exact HB.out)⟩⟩
  case rest =>
    clear HC3
    try clear c2
    try clear p2
    try clear c5
    try clear c5b0
    try clear hcz6_0
    try clear hcz6_1
    try clear hcz6_2
    try clear hcz6_3
    try clear hcz6_4
    try clear hcz6_5
    try clear hcz7_0
    try clear hcz7_1
    try clear hcz7_2
    try clear hcz7_3
    try clear hcz7_4
    try clear hcz7_5
    try clear hfz6_0
    try clear hfz6_1
    try clear hfz6_2
    try clear hfz6_3
    try clear hfz6_4
    try clear hfz6_5
    try clear hfz7_0
    try clear hfz7_1
    try clear hfz7_2
    try clear hfz7_3
    try clear hfz7_4
    try clear hfz7_5
    obtain ⟨kq, x17_2, rfl, HA, HJ2, BK257, HB⟩ := hcut
    cases kq with
    | zero => exact absurd HA.out (by first | (intro h_; cases h_; done) | simp [bobbinref14_Light.j0])
    | succ kj2 =>
      have H := HA.out
      clear HA
      rw [bobbinref14_Light.j0_eq] at H
      by_cases c8 : x17_2 = true
      · subst c8
        have H1 : (some false) = some r := by rw [if_pos rfl] at H; exact H
        clear H
        have H := H1
        clear H1
        obtain rfl := Option.some.inj H
        go_wp2
        go_ret
        exact ⟨by first | rfl | (simp [errW_none, errW_some] <;> rfl) | (simp [*, errW_none, errW_some] <;> rfl), by repeat (first | (with_reducible first | exact HB.out | apply below_alloc | apply pw_below_drewN | apply below_drew1 | refine below_set ?_ GE257.out) | exact HB.out)⟩
      · replace c8 := Bool.eq_false_iff.mpr c8
        subst c8
        have H1 : (bobbinref14_Light.l0 kj2 0 a0_0 a0_1 a0_2 a0_3 l0_4 l0_5) = some r := by rw [if_neg (show ¬ (false = true) by decide)] at H; exact H
        clear H
        have H := H1
        clear H1
        have H' := Aside0.mk H
        clear H
        go_wp2
        go_loopg [5] kj2 (fun kq v5 w' => ∃ (x5_2 : Int), v5 = .int .i64 x5_2 ∧ Aside0 (bobbinref14_Light.l0 kq x5_2 a0_0 a0_1 a0_2 a0_3 l0_4 l0_5 = some r) ∧ Aside0 (kq ≤ kj2) ∧ Aside0 (w'.heap[gb257]? = some (.cells #[.int .i64 a0_0, .int .i64 a0_1, .int .i64 a0_2, .int .i64 a0_3, (.slice A0_4 l0_4.length c0_4), (.slice A0_5 l0_5.length c0_5)] 25 (0, 0))) ∧ Aside0 (Below w.heap.size w w'))
        case atStart => exact ⟨(0), (by first | rfl | (simp; done) | (simp [*]; done)), H', ⟨Nat.le_refl _⟩, ⟨by (with_reducible repeat (first | refine blk_drewN ?_ _ | refine blk_drew ?_ | refine blk_alloc ?_ _)); exact BK257.out⟩, ⟨by repeat (first | (with_reducible first | exact HB.out | apply below_alloc | apply pw_below_drewN | apply below_drew1 | refine below_set ?_ GE257.out) | exact HB.out)⟩⟩
        case round =>
          clear H'
          try clear c2
          try clear p2
          try clear c5
          try clear c5b0
          try clear c8
          try clear hcz6_0
          try clear hcz6_1
          try clear hcz6_2
          try clear hcz6_3
          try clear hcz6_4
          try clear hcz6_5
          try clear hcz7_0
          try clear hcz7_1
          try clear hcz7_2
          try clear hcz7_3
          try clear hcz7_4
          try clear hcz7_5
          try clear hfz6_0
          try clear hfz6_1
          try clear hfz6_2
          try clear hfz6_3
          try clear hfz6_4
          try clear hfz6_5
          try clear hfz7_0
          try clear hfz7_1
          try clear hfz7_2
          try clear hfz7_3
          try clear hfz7_4
          try clear hfz7_5
          try clear p2
          obtain ⟨x5_2, rfl, HA, HK2, BK257, HB⟩ := hrel
          cases gk with
          | zero => exact absurd HA.out (by first | (intro h_; cases h_; done) | simp [bobbinref14_Light.l0])
          | succ k2 =>
            have H := HA.out
            clear HA
            rw [bobbinref14_Light.l0_eq] at H
            by_cases c9 : x5_2 < (l0_4.length : Int)
            · rw [if_pos c9] at H
              have c9b0 : decide (x5_2 < (l0_4.length : Int)) = true := decide_eq_true c9
              clear c9
              by_cases c10 : 0 ≤ x5_2
              · rw [if_pos c10] at H
                have c10b0 : decide (0 ≤ x5_2) = true := decide_eq_true c10
                clear c10
                by_cases c11 : (((rd_T30 l0_4 x5_2).f3.f1).length : Int) > 100
                · rw [if_pos c11] at H
                  have c11b0 : decide (100 < (((rd_T30 l0_4 x5_2).f3.f1).length : Int)) = true := decide_eq_true c11
                  have c11b1 : decide (100 < ((rd_T30 l0_4 x5_2).f3.f1).length) = true := decide_eq_true (by omega)
                  clear c11
                  obtain rfl := Option.some.inj H
                  have hcz12_0 : wr.cell? ⟨gb257, 0, none⟩ = some (.int .i64 a0_0) := (blk_cell BK257.out 0).trans rfl
                  have hcz12_1 : wr.cell? ⟨gb257, 1, none⟩ = some (.int .i64 a0_1) := (blk_cell BK257.out 1).trans rfl
                  have hcz12_2 : wr.cell? ⟨gb257, 2, none⟩ = some (.int .i64 a0_2) := (blk_cell BK257.out 2).trans rfl
                  have hcz12_3 : wr.cell? ⟨gb257, 3, none⟩ = some (.int .i64 a0_3) := (blk_cell BK257.out 3).trans rfl
                  have hcz12_4 : wr.cell? ⟨gb257, 4, none⟩ = some (.slice A0_4 l0_4.length c0_4) := (blk_cell BK257.out 4).trans rfl
                  have hcz12_5 : wr.cell? ⟨gb257, 5, none⟩ = some (.slice A0_5 l0_5.length c0_5) := (blk_cell BK257.out 5).trans rfl
                  have hfz12_0 := blk_frozen BK257.out 0
                  have hfz12_1 := blk_frozen BK257.out 1
                  have hfz12_2 := blk_frozen BK257.out 2
                  have hfz12_3 := blk_frozen BK257.out 3
                  have hfz12_4 := blk_frozen BK257.out 4
                  have hfz12_5 := blk_frozen BK257.out 5
                  have p258 : 0 ≤ (x5_2 : Int) := of_decide_eq_true (by first | (with_reducible assumption) | assumption)
                  have q258 : x5_2 < (l0_4.length : Int) := of_decide_eq_true (by first | (with_reducible assumption) | assumption)
                  obtain ⟨ad258, A258_4, c258_4, A258_6, c258_6, e258, hx258_0, hx258_1, hx258_2, hx258_3, hx258_4, hx258_5, hx258_6, hl258_4, hi258_4, hl258_6, hi258_6⟩ := at_T30 HR0_4.out x5_2 p258 q258
                  cases e258
                  replace hx258_0 := (HB.out.cell (World.block_lt_of_cell? w _ hx258_0)).trans hx258_0
                  replace hx258_1 := (HB.out.cell (World.block_lt_of_cell? w _ hx258_1)).trans hx258_1
                  replace hx258_2 := (HB.out.cell (World.block_lt_of_cell? w _ hx258_2)).trans hx258_2
                  replace hx258_3 := (HB.out.cell (World.block_lt_of_cell? w _ hx258_3)).trans hx258_3
                  replace hx258_4 := (HB.out.cell (World.block_lt_of_cell? w _ hx258_4)).trans hx258_4
                  replace hx258_5 := (HB.out.cell (World.block_lt_of_cell? w _ hx258_5)).trans hx258_5
                  replace hx258_6 := (HB.out.cell (World.block_lt_of_cell? w _ hx258_6)).trans hx258_6
                  have HR258_4 := Aside0.mk hi258_4
                  have HC258_4 := Aside0.mk hl258_4
                  clear hi258_4 hl258_4
                  have HR258_6 := Aside0.mk hi258_6
                  have HC258_6 := Aside0.mk hl258_6
                  clear hi258_6 hl258_6
                  replace p258 := eq_true p258
                  replace q258 := eq_true q258
                  go_wp2
                  go_ret
                  exact ⟨by first | rfl | (simp [errW_none, errW_some] <;> rfl) | (simp [*, errW_none, errW_some] <;> rfl), by repeat (first | (with_reducible first | exact HB.out | apply below_alloc | apply pw_below_drewN | apply below_drew1 | refine below_set ?_ GE257.out) | exact HB.out)⟩
                · rw [if_neg c11] at H
                  have c11b0 : decide (100 < (((rd_T30 l0_4 x5_2).f3.f1).length : Int)) = false := decide_eq_false c11
                  have c11b1 : decide (100 < ((rd_T30 l0_4 x5_2).f3.f1).length) = false := decide_eq_false (by omega)
                  clear c11
                  by_cases c13 : (((rd_T30 l0_4 x5_2).f4.f1).length : Int) > 100
                  · rw [if_pos c13] at H
                    have c13b0 : decide (100 < (((rd_T30 l0_4 x5_2).f4.f1).length : Int)) = true := decide_eq_true c13
                    have c13b1 : decide (100 < ((rd_T30 l0_4 x5_2).f4.f1).length) = true := decide_eq_true (by omega)
                    clear c13
                    obtain rfl := Option.some.inj H
                    have hcz14_0 : wr.cell? ⟨gb257, 0, none⟩ = some (.int .i64 a0_0) := (blk_cell BK257.out 0).trans rfl
                    have hcz14_1 : wr.cell? ⟨gb257, 1, none⟩ = some (.int .i64 a0_1) := (blk_cell BK257.out 1).trans rfl
                    have hcz14_2 : wr.cell? ⟨gb257, 2, none⟩ = some (.int .i64 a0_2) := (blk_cell BK257.out 2).trans rfl
                    have hcz14_3 : wr.cell? ⟨gb257, 3, none⟩ = some (.int .i64 a0_3) := (blk_cell BK257.out 3).trans rfl
                    have hcz14_4 : wr.cell? ⟨gb257, 4, none⟩ = some (.slice A0_4 l0_4.length c0_4) := (blk_cell BK257.out 4).trans rfl
                    have hcz14_5 : wr.cell? ⟨gb257, 5, none⟩ = some (.slice A0_5 l0_5.length c0_5) := (blk_cell BK257.out 5).trans rfl
                    have hfz14_0 := blk_frozen BK257.out 0
                    have hfz14_1 := blk_frozen BK257.out 1
                    have hfz14_2 := blk_frozen BK257.out 2
                    have hfz14_3 := blk_frozen BK257.out 3
                    have hfz14_4 := blk_frozen BK257.out 4
                    have hfz14_5 := blk_frozen BK257.out 5
                    have p258 : 0 ≤ (x5_2 : Int) := of_decide_eq_true (by first | (with_reducible assumption) | assumption)
                    have q258 : x5_2 < (l0_4.length : Int) := of_decide_eq_true (by first | (with_reducible assumption) | assumption)
                    obtain ⟨ad258, A258_4, c258_4, A258_6, c258_6, e258, hx258_0, hx258_1, hx258_2, hx258_3, hx258_4, hx258_5, hx258_6, hl258_4, hi258_4, hl258_6, hi258_6⟩ := at_T30 HR0_4.out x5_2 p258 q258
                    cases e258
                    replace hx258_0 := (HB.out.cell (World.block_lt_of_cell? w _ hx258_0)).trans hx258_0
                    replace hx258_1 := (HB.out.cell (World.block_lt_of_cell? w _ hx258_1)).trans hx258_1
                    replace hx258_2 := (HB.out.cell (World.block_lt_of_cell? w _ hx258_2)).trans hx258_2
                    replace hx258_3 := (HB.out.cell (World.block_lt_of_cell? w _ hx258_3)).trans hx258_3
                    replace hx258_4 := (HB.out.cell (World.block_lt_of_cell? w _ hx258_4)).trans hx258_4
                    replace hx258_5 := (HB.out.cell (World.block_lt_of_cell? w _ hx258_5)).trans hx258_5
                    replace hx258_6 := (HB.out.cell (World.block_lt_of_cell? w _ hx258_6)).trans hx258_6
                    have HR258_4 := Aside0.mk hi258_4
                    have HC258_4 := Aside0.mk hl258_4
                    clear hi258_4 hl258_4
                    have HR258_6 := Aside0.mk hi258_6
                    have HC258_6 := Aside0.mk hl258_6
                    clear hi258_6 hl258_6
                    replace p258 := eq_true p258
                    replace q258 := eq_true q258
                    have p259 : 0 ≤ (x5_2 : Int) := of_decide_eq_true (by first | (with_reducible assumption) | assumption)
                    have q259 : x5_2 < (l0_4.length : Int) := of_decide_eq_true (by first | (with_reducible assumption) | assumption)
                    obtain ⟨ad259, A259_4, c259_4, A259_6, c259_6, e259, hx259_0, hx259_1, hx259_2, hx259_3, hx259_4, hx259_5, hx259_6, hl259_4, hi259_4, hl259_6, hi259_6⟩ := at_T30 HR0_4.out x5_2 p259 q259
                    obtain rfl : ad258 = ad259 := (by injection e259)
                    replace hx259_0 := (HB.out.cell (World.block_lt_of_cell? w _ hx259_0)).trans hx259_0
                    replace hx259_1 := (HB.out.cell (World.block_lt_of_cell? w _ hx259_1)).trans hx259_1
                    replace hx259_2 := (HB.out.cell (World.block_lt_of_cell? w _ hx259_2)).trans hx259_2
                    replace hx259_3 := (HB.out.cell (World.block_lt_of_cell? w _ hx259_3)).trans hx259_3
                    replace hx259_4 := (HB.out.cell (World.block_lt_of_cell? w _ hx259_4)).trans hx259_4
                    replace hx259_5 := (HB.out.cell (World.block_lt_of_cell? w _ hx259_5)).trans hx259_5
                    replace hx259_6 := (HB.out.cell (World.block_lt_of_cell? w _ hx259_6)).trans hx259_6
                    have HR259_4 := Aside0.mk hi259_4
                    have HC259_4 := Aside0.mk hl259_4
                    clear hi259_4 hl259_4
                    have HR259_6 := Aside0.mk hi259_6
                    have HC259_6 := Aside0.mk hl259_6
                    clear hi259_6 hl259_6
                    replace p259 := eq_true p259
                    replace q259 := eq_true q259
                    have ea_ := Option.some.inj (hx258_4.symm.trans hx259_4)
                    injection ea_ with ea_ en_ ec_
                    subst ea_
                    subst ec_
                    clear en_
                    have ea_ := Option.some.inj (hx258_6.symm.trans hx259_6)
                    injection ea_ with ea_ en_ ec_
                    subst ea_
                    subst ec_
                    clear en_
                    go_wp2
                    go_ret
                    exact ⟨by first | rfl | (simp [errW_none, errW_some] <;> rfl) | (simp [*, errW_none, errW_some] <;> rfl), by repeat (first | (with_reducible first | exact HB.out | apply below_alloc | apply pw_below_drewN | apply below_drew1 | refine below_set ?_ GE257.out) | exact HB.out)⟩
                  · rw [if_neg c13] at H
                    have c13b0 : decide (100 < (((rd_T30 l0_4 x5_2).f4.f1).length : Int)) = false := decide_eq_false c13
                    have c13b1 : decide (100 < ((rd_T30 l0_4 x5_2).f4.f1).length) = false := decide_eq_false (by omega)
                    clear c13
                    have H' := Aside0.mk H
                    clear H
                    have hcz15_0 : wr.cell? ⟨gb257, 0, none⟩ = some (.int .i64 a0_0) := (blk_cell BK257.out 0).trans rfl
                    have hcz15_1 : wr.cell? ⟨gb257, 1, none⟩ = some (.int .i64 a0_1) := (blk_cell BK257.out 1).trans rfl
                    have hcz15_2 : wr.cell? ⟨gb257, 2, none⟩ = some (.int .i64 a0_2) := (blk_cell BK257.out 2).trans rfl
                    have hcz15_3 : wr.cell? ⟨gb257, 3, none⟩ = some (.int .i64 a0_3) := (blk_cell BK257.out 3).trans rfl
                    have hcz15_4 : wr.cell? ⟨gb257, 4, none⟩ = some (.slice A0_4 l0_4.length c0_4) := (blk_cell BK257.out 4).trans rfl
                    have hcz15_5 : wr.cell? ⟨gb257, 5, none⟩ = some (.slice A0_5 l0_5.length c0_5) := (blk_cell BK257.out 5).trans rfl
                    have hfz15_0 := blk_frozen BK257.out 0
                    have hfz15_1 := blk_frozen BK257.out 1
                    have hfz15_2 := blk_frozen BK257.out 2
                    have hfz15_3 := blk_frozen BK257.out 3
                    have hfz15_4 := blk_frozen BK257.out 4
                    have hfz15_5 := blk_frozen BK257.out 5
                    have p258 : 0 ≤ (x5_2 : Int) := of_decide_eq_true (by first | (with_reducible assumption) | assumption)
                    have q258 : x5_2 < (l0_4.length : Int) := of_decide_eq_true (by first | (with_reducible assumption) | assumption)
                    obtain ⟨ad258, A258_4, c258_4, A258_6, c258_6, e258, hx258_0, hx258_1, hx258_2, hx258_3, hx258_4, hx258_5, hx258_6, hl258_4, hi258_4, hl258_6, hi258_6⟩ := at_T30 HR0_4.out x5_2 p258 q258
                    cases e258
                    replace hx258_0 := (HB.out.cell (World.block_lt_of_cell? w _ hx258_0)).trans hx258_0
                    replace hx258_1 := (HB.out.cell (World.block_lt_of_cell? w _ hx258_1)).trans hx258_1
                    replace hx258_2 := (HB.out.cell (World.block_lt_of_cell? w _ hx258_2)).trans hx258_2
                    replace hx258_3 := (HB.out.cell (World.block_lt_of_cell? w _ hx258_3)).trans hx258_3
                    replace hx258_4 := (HB.out.cell (World.block_lt_of_cell? w _ hx258_4)).trans hx258_4
                    replace hx258_5 := (HB.out.cell (World.block_lt_of_cell? w _ hx258_5)).trans hx258_5
                    replace hx258_6 := (HB.out.cell (World.block_lt_of_cell? w _ hx258_6)).trans hx258_6
                    have HR258_4 := Aside0.mk hi258_4
                    have HC258_4 := Aside0.mk hl258_4
                    clear hi258_4 hl258_4
                    have HR258_6 := Aside0.mk hi258_6
                    have HC258_6 := Aside0.mk hl258_6
                    clear hi258_6 hl258_6
                    replace p258 := eq_true p258
                    replace q258 := eq_true q258
                    have p259 : 0 ≤ (x5_2 : Int) := of_decide_eq_true (by first | (with_reducible assumption) | assumption)
                    have q259 : x5_2 < (l0_4.length : Int) := of_decide_eq_true (by first | (with_reducible assumption) | assumption)
                    obtain ⟨ad259, A259_4, c259_4, A259_6, c259_6, e259, hx259_0, hx259_1, hx259_2, hx259_3, hx259_4, hx259_5, hx259_6, hl259_4, hi259_4, hl259_6, hi259_6⟩ := at_T30 HR0_4.out x5_2 p259 q259
                    obtain rfl : ad258 = ad259 := (by injection e259)
                    replace hx259_0 := (HB.out.cell (World.block_lt_of_cell? w _ hx259_0)).trans hx259_0
                    replace hx259_1 := (HB.out.cell (World.block_lt_of_cell? w _ hx259_1)).trans hx259_1
                    replace hx259_2 := (HB.out.cell (World.block_lt_of_cell? w _ hx259_2)).trans hx259_2
                    replace hx259_3 := (HB.out.cell (World.block_lt_of_cell? w _ hx259_3)).trans hx259_3
                    replace hx259_4 := (HB.out.cell (World.block_lt_of_cell? w _ hx259_4)).trans hx259_4
                    replace hx259_5 := (HB.out.cell (World.block_lt_of_cell? w _ hx259_5)).trans hx259_5
                    replace hx259_6 := (HB.out.cell (World.block_lt_of_cell? w _ hx259_6)).trans hx259_6
                    have HR259_4 := Aside0.mk hi259_4
                    have HC259_4 := Aside0.mk hl259_4
                    clear hi259_4 hl259_4
                    have HR259_6 := Aside0.mk hi259_6
                    have HC259_6 := Aside0.mk hl259_6
                    clear hi259_6 hl259_6
                    replace p259 := eq_true p259
                    replace q259 := eq_true q259
                    have ea_ := Option.some.inj (hx258_4.symm.trans hx259_4)
                    injection ea_ with ea_ en_ ec_
                    subst ea_
                    subst ec_
                    clear en_
                    have ea_ := Option.some.inj (hx258_6.symm.trans hx259_6)
                    injection ea_ with ea_ en_ ec_
                    subst ea_
                    subst ec_
                    clear en_
                    go_wp2
                    go_roundg k2
                    case measure => have := HJ2.out; have := HK2.out; omega
                    case rel => exact ⟨(wrap64 (x5_2 + 1)), (by first | rfl | (simp; done) | (simp [*]; done)), H', ⟨by have := HJ2.out; have := HK2.out; omega⟩, ⟨by (with_reducible repeat (first | refine blk_drewN ?_ _ | refine blk_drew ?_ | refine blk_alloc ?_ _)); exact BK257.out⟩, ⟨by repeat (first | (with_reducible first | exact HB.out | apply below_alloc | apply pw_below_drewN | apply below_drew1 | refine below_set ?_ GE257.out) | exact HB.out)⟩⟩
              · rw [if_neg c10] at H
                exact absurd H (by simp)
            · rw [if_neg c9] at H
              have c9b0 : decide (x5_2 < (l0_4.length : Int)) = false := decide_eq_false c9
              clear c9
              obtain rfl := Option.some.inj H
              have hcz16_0 : wr.cell? ⟨gb257, 0, none⟩ = some (.int .i64 a0_0) := (blk_cell BK257.out 0).trans rfl
              have hcz16_1 : wr.cell? ⟨gb257, 1, none⟩ = some (.int .i64 a0_1) := (blk_cell BK257.out 1).trans rfl
              have hcz16_2 : wr.cell? ⟨gb257, 2, none⟩ = some (.int .i64 a0_2) := (blk_cell BK257.out 2).trans rfl
              have hcz16_3 : wr.cell? ⟨gb257, 3, none⟩ = some (.int .i64 a0_3) := (blk_cell BK257.out 3).trans rfl
              have hcz16_4 : wr.cell? ⟨gb257, 4, none⟩ = some (.slice A0_4 l0_4.length c0_4) := (blk_cell BK257.out 4).trans rfl
              have hcz16_5 : wr.cell? ⟨gb257, 5, none⟩ = some (.slice A0_5 l0_5.length c0_5) := (blk_cell BK257.out 5).trans rfl
              have hfz16_0 := blk_frozen BK257.out 0
              have hfz16_1 := blk_frozen BK257.out 1
              have hfz16_2 := blk_frozen BK257.out 2
              have hfz16_3 := blk_frozen BK257.out 3
              have hfz16_4 := blk_frozen BK257.out 4
              have hfz16_5 := blk_frozen BK257.out 5
              go_wp2
              go_ret
              exact ⟨by first | rfl | (simp [errW_none, errW_some] <;> rfl) | (simp [*, errW_none, errW_some] <;> rfl), by repeat (first | (with_reducible first | exact HB.out | apply below_alloc | apply pw_below_drewN | apply below_drew1 | refine below_set ?_ GE257.out) | exact HB.out)⟩
end Go.Proofs.Ytdbbibndjknafaa.Print
