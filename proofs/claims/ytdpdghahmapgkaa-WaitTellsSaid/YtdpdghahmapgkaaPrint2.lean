-- Written by a program of this session (myprint.py over the kit's print.py) out of the translation. Not trusted: Lean checks it.
import Derived.Test.YtdpdghahmapgkaaPrint0
import Derived.Test.YtdpdghahmapgkaaPrint1
namespace Go.Proofs.Ytdpdghahmapgkaa.Print
open Go.RowKit Go.Proofs.YtdpdghahmapgkaaW.PrintWords Go.Proofs.YtdpdghahmapgkaaW.PrintLast Go.Proofs.YtdpdghahmapgkaaW.PrintMore
attribute [local go_sem] max2_int min2_int max_two min_two max_three min_three max_four min_four   -- for this text's walks alone
set_option linter.unusedVariables false
set_option linter.unusedSimpArgs false

/-! ### bobbinref13_Reached: function 17 -/
mutual
def bobbinref13_Reached.l0 : Nat → List (S29) → Int → List Int → Option (List Int)
  | 0, _, _, _ => none
  | k + 1, x0, x1, x5 => bobbinref13_Reached.l1 k x0 x1 x5 false 0
def bobbinref13_Reached.l1 : Nat → List (S29) → Int → List Int → Bool → Int → Option (List Int)
  | 0, _, _, _, _, _ => none
  | k + 1, x0, x1, x5, x6, x7 => if x7 < (x0.length : Int) then (if 0 ≤ x7 then ((bobbinref13_in.f k x5 ((rd_T29 x0 x7).f0)).bind fun t105 => (if ((rd_T29 x0 x7).f0) = x1 then (bobbinref13_Reached.j2 k x0 x1 x5 x6 x7 false) else (bobbinref13_Reached.j2 k x0 x1 x5 x6 x7 (!t105)))) else (none)) else (if x6 = true then (bobbinref13_Reached.l0 k x0 x1 x5) else (some x5))
def bobbinref13_Reached.j2 : Nat → List (S29) → Int → List Int → Bool → Int → Bool → Option (List Int)
  | 0, _, _, _, _, _, _ => none
  | k + 1, x0, x1, x5, x6, x7, x34 => if x34 = true then (bobbinref13_Reached.l1 k x0 x1 x5 x6 (wrap64 (x7 + 1))) else (bobbinref13_Reached.l2 k x0 x1 x5 x6 x7 0)
def bobbinref13_Reached.l2 : Nat → List (S29) → Int → List Int → Bool → Int → Int → Option (List Int)
  | 0, _, _, _, _, _, _ => none
  | k + 1, x0, x1, x5, x6, x7, x9 => if 0 ≤ x7 then (if x7 < (x0.length : Int) then (if x9 < (((rd_T29 x0 x7).f1).length : Int) then (if 0 ≤ x9 then ((bobbinref13_in.f k x5 (rd ((rd_T29 x0 x7).f1) x9)).bind fun t110 => (if t110 = true then (bobbinref13_Reached.l2 k x0 x1 x5 x6 x7 (wrap64 (x9 + 1))) else (if x5.length < 17592186044416 then (bobbinref13_Reached.l2 k x0 x1 (x5 ++ [rd ((rd_T29 x0 x7).f1) x9]) true x7 (wrap64 (x9 + 1))) else (none)))) else (none)) else (bobbinref13_Reached.l1 k x0 x1 x5 x6 (wrap64 (x7 + 1)))) else (none)) else (none)
end
theorem bobbinref13_Reached.l0_eq : ∀ (k : Nat) x0 x1 x5, bobbinref13_Reached.l0 (k + 1) x0 x1 x5 = (bobbinref13_Reached.l1 k x0 x1 x5 false 0) := fun _ _ _ _ => rfl
theorem bobbinref13_Reached.l1_eq : ∀ (k : Nat) x0 x1 x5 x6 x7, bobbinref13_Reached.l1 (k + 1) x0 x1 x5 x6 x7 = (if x7 < (x0.length : Int) then (if 0 ≤ x7 then ((bobbinref13_in.f k x5 ((rd_T29 x0 x7).f0)).bind fun t105 => (if ((rd_T29 x0 x7).f0) = x1 then (bobbinref13_Reached.j2 k x0 x1 x5 x6 x7 false) else (bobbinref13_Reached.j2 k x0 x1 x5 x6 x7 (!t105)))) else (none)) else (if x6 = true then (bobbinref13_Reached.l0 k x0 x1 x5) else (some x5))) := fun _ _ _ _ _ _ => rfl
theorem bobbinref13_Reached.j2_eq : ∀ (k : Nat) x0 x1 x5 x6 x7 x34, bobbinref13_Reached.j2 (k + 1) x0 x1 x5 x6 x7 x34 = (if x34 = true then (bobbinref13_Reached.l1 k x0 x1 x5 x6 (wrap64 (x7 + 1))) else (bobbinref13_Reached.l2 k x0 x1 x5 x6 x7 0)) := fun _ _ _ _ _ _ _ => rfl
theorem bobbinref13_Reached.l2_eq : ∀ (k : Nat) x0 x1 x5 x6 x7 x9, bobbinref13_Reached.l2 (k + 1) x0 x1 x5 x6 x7 x9 = (if 0 ≤ x7 then (if x7 < (x0.length : Int) then (if x9 < (((rd_T29 x0 x7).f1).length : Int) then (if 0 ≤ x9 then ((bobbinref13_in.f k x5 (rd ((rd_T29 x0 x7).f1) x9)).bind fun t110 => (if t110 = true then (bobbinref13_Reached.l2 k x0 x1 x5 x6 x7 (wrap64 (x9 + 1))) else (if x5.length < 17592186044416 then (bobbinref13_Reached.l2 k x0 x1 (x5 ++ [rd ((rd_T29 x0 x7).f1) x9]) true x7 (wrap64 (x9 + 1))) else (none)))) else (none)) else (bobbinref13_Reached.l1 k x0 x1 x5 x6 (wrap64 (x7 + 1)))) else (none)) else (none)) := fun _ _ _ _ _ _ _ => rfl
def bobbinref13_Reached.f (k : Nat) (l0 : List (S29)) (a1 : Int) : Option (List Int) := bobbinref13_Reached.l0 k l0 a1 ([] : List Int)
theorem bobbinref13_Reached.mono_l : ∀ k, (∀ y0 y1 y2, LeO (bobbinref13_Reached.l0 k y0 y1 y2) (bobbinref13_Reached.l0 (k + 1) y0 y1 y2)) ∧ (∀ y0 y1 y2 y3 y4, LeO (bobbinref13_Reached.l1 k y0 y1 y2 y3 y4) (bobbinref13_Reached.l1 (k + 1) y0 y1 y2 y3 y4)) ∧ (∀ y0 y1 y2 y3 y4 y5, LeO (bobbinref13_Reached.j2 k y0 y1 y2 y3 y4 y5) (bobbinref13_Reached.j2 (k + 1) y0 y1 y2 y3 y4 y5)) ∧ (∀ y0 y1 y2 y3 y4 y5, LeO (bobbinref13_Reached.l2 k y0 y1 y2 y3 y4 y5) (bobbinref13_Reached.l2 (k + 1) y0 y1 y2 y3 y4 y5))
  | 0 => ⟨fun _ _ _ r h => by first | (cases h; done) | simp [bobbinref13_Reached.l0] at h, fun _ _ _ _ _ r h => by first | (cases h; done) | simp [bobbinref13_Reached.l1] at h, fun _ _ _ _ _ _ r h => by first | (cases h; done) | simp [bobbinref13_Reached.j2] at h, fun _ _ _ _ _ _ r h => by first | (cases h; done) | simp [bobbinref13_Reached.l2] at h⟩
  | k + 1 => by
    obtain ⟨ih0, ih1, ih2, ih3⟩ := bobbinref13_Reached.mono_l k
    refine ⟨?_, ?_, ?_, ?_⟩
    · intro y0 y1 y2
      unfold bobbinref13_Reached.l0
      repeat' first
      | (with_reducible exact ih0 _ _ _)
      | (with_reducible exact ih1 _ _ _ _ _)
      | (with_reducible exact ih2 _ _ _ _ _ _)
      | (with_reducible exact ih3 _ _ _ _ _ _)
      | (with_reducible exact bobbinref13_in.mono _ _ _)
      | (with_reducible exact LeO.refl _)
      | (with_reducible exact LeO.none _)
      | (with_reducible refine LeO.ite ?_ ?_)
      | (with_reducible refine LeO.bind ?_ (fun _ => ?_))
      | exact ih0 _ _ _
      | exact ih1 _ _ _ _ _
      | exact ih2 _ _ _ _ _ _
      | exact ih3 _ _ _ _ _ _
      | exact bobbinref13_in.mono _ _ _
      | exact LeO.none _
      | refine LeO.ite ?_ ?_
      | refine LeO.bind ?_ (fun _ => ?_)
    · intro y0 y1 y2 y3 y4
      unfold bobbinref13_Reached.l1
      repeat' first
      | (with_reducible exact ih0 _ _ _)
      | (with_reducible exact ih1 _ _ _ _ _)
      | (with_reducible exact ih2 _ _ _ _ _ _)
      | (with_reducible exact ih3 _ _ _ _ _ _)
      | (with_reducible exact bobbinref13_in.mono _ _ _)
      | (with_reducible exact LeO.refl _)
      | (with_reducible exact LeO.none _)
      | (with_reducible refine LeO.ite ?_ ?_)
      | (with_reducible refine LeO.bind ?_ (fun _ => ?_))
      | exact ih0 _ _ _
      | exact ih1 _ _ _ _ _
      | exact ih2 _ _ _ _ _ _
      | exact ih3 _ _ _ _ _ _
      | exact bobbinref13_in.mono _ _ _
      | exact LeO.none _
      | refine LeO.ite ?_ ?_
      | refine LeO.bind ?_ (fun _ => ?_)
    · intro y0 y1 y2 y3 y4 y5
      unfold bobbinref13_Reached.j2
      repeat' first
      | (with_reducible exact ih0 _ _ _)
      | (with_reducible exact ih1 _ _ _ _ _)
      | (with_reducible exact ih2 _ _ _ _ _ _)
      | (with_reducible exact ih3 _ _ _ _ _ _)
      | (with_reducible exact bobbinref13_in.mono _ _ _)
      | (with_reducible exact LeO.refl _)
      | (with_reducible exact LeO.none _)
      | (with_reducible refine LeO.ite ?_ ?_)
      | (with_reducible refine LeO.bind ?_ (fun _ => ?_))
      | exact ih0 _ _ _
      | exact ih1 _ _ _ _ _
      | exact ih2 _ _ _ _ _ _
      | exact ih3 _ _ _ _ _ _
      | exact bobbinref13_in.mono _ _ _
      | exact LeO.none _
      | refine LeO.ite ?_ ?_
      | refine LeO.bind ?_ (fun _ => ?_)
    · intro y0 y1 y2 y3 y4 y5
      unfold bobbinref13_Reached.l2
      repeat' first
      | (with_reducible exact ih0 _ _ _)
      | (with_reducible exact ih1 _ _ _ _ _)
      | (with_reducible exact ih2 _ _ _ _ _ _)
      | (with_reducible exact ih3 _ _ _ _ _ _)
      | (with_reducible exact bobbinref13_in.mono _ _ _)
      | (with_reducible exact LeO.refl _)
      | (with_reducible exact LeO.none _)
      | (with_reducible refine LeO.ite ?_ ?_)
      | (with_reducible refine LeO.bind ?_ (fun _ => ?_))
      | exact ih0 _ _ _
      | exact ih1 _ _ _ _ _
      | exact ih2 _ _ _ _ _ _
      | exact ih3 _ _ _ _ _ _
      | exact bobbinref13_in.mono _ _ _
      | exact LeO.none _
      | refine LeO.ite ?_ ?_
      | refine LeO.bind ?_ (fun _ => ?_)
theorem bobbinref13_Reached.mono : ∀ a0 a1 k, LeO (bobbinref13_Reached.f k a0 a1) (bobbinref13_Reached.f (k + 1) a0 a1) := by
  intro a0 a1 k
  obtain ⟨ih0, ih1, ih2, ih3⟩ := bobbinref13_Reached.mono_l k
  unfold bobbinref13_Reached.f
  repeat' first
      | (with_reducible exact ih0 _ _ _)
      | (with_reducible exact ih1 _ _ _ _ _)
      | (with_reducible exact ih2 _ _ _ _ _ _)
      | (with_reducible exact ih3 _ _ _ _ _ _)
      | (with_reducible exact bobbinref13_in.mono _ _ _)
      | (with_reducible exact LeO.refl _)
      | (with_reducible exact LeO.none _)
      | (with_reducible refine LeO.ite ?_ ?_)
      | (with_reducible refine LeO.bind ?_ (fun _ => ?_))
      | exact ih0 _ _ _
      | exact ih1 _ _ _ _ _
      | exact ih2 _ _ _ _ _ _
      | exact ih3 _ _ _ _ _ _
      | exact bobbinref13_in.mono _ _ _
      | exact LeO.none _
      | refine LeO.ite ?_ ?_
      | refine LeO.bind ?_ (fun _ => ?_)
set_option maxHeartbeats 8000000 in
set_option maxRecDepth 100000 in
theorem bobbinref13_Reached.calls (k : Nat) (A0 : Option Addr) (c0 : Nat) (l0 : List (S29)) (a1 : Int) (r : List Int) (w : World) (hr0 : Kd.C k29 w A0 l0.length l0) (hc0 : l0.length ≤ c0) (h : bobbinref13_Reached.f k l0 a1 = some r) :
    Calls Try.prog 17 #[.slice A0 l0.length c0, .int .i64 a1] w fun e w' => ∃ v0_ : Value, e = .returned (v0_) ∧ Kd.R (Kd.int .i64) 3 w' w.heap.size (fun _ => True) v0_ r ∧ Below w.heap.size w w' := by
  have HR0 := Aside0.mk hr0
  have HC0 := Aside0.mk hc0
  clear hr0 hc0
  have HB := Aside0.mk (Below.refl w.heap.size w)
  have H : (bobbinref13_Reached.l0 k l0 a1 ([] : List Int)) = some r := h
  clear h
  have H' := Aside0.mk H
  clear H
  go_enter Try.func17, Try.ntmps17
  go_wp2
  go_loopg [5] k (fun kq v5 w' => ∃ (x5_1 : List Int), Aside0 (bobbinref13_Reached.l0 kq l0 a1 x5_1 = some r) ∧ Aside0 (kq ≤ k) ∧ Aside0 (Kd.R (Kd.int .i64) 3 w' w.heap.size (fun _ => True) v5 x5_1) ∧ Aside0 (Below w.heap.size w w'))
  case atStart => exact ⟨(([] : List Int)), H', ⟨Nat.le_refl _⟩, ⟨by first | exact Kd.R_nil _ _ _ _ _ | exact Kd.N_nil _ _ _ _ _ | exact Kd.V_nil _ _ _ _ _ | exact Kd.Q_nil _ _ _ _ _ | exact Kd.S_nil _ _ _ _ _⟩, ⟨by repeat (first | (with_reducible first | exact HB.out | apply below_alloc | apply pw_below_drewN | apply below_drew1) | exact HB.out)⟩⟩
  case round =>
    clear H'
    try clear c1
    try clear p2
    obtain ⟨x5_1, HA, HK1, HO_5, HB⟩ := hrel
    cases gk with
    | zero => exact absurd HA.out (by first | (intro h_; cases h_; done) | simp [bobbinref13_Reached.l0])
    | succ k1 =>
      have H := HA.out
      clear HA
      rw [bobbinref13_Reached.l0_eq] at H
      have H' := Aside0.mk H
      clear H
      go_wp2
      go_loopg [5, 6, 7] k1 (fun kq v5 v6 v7 w' => ∃ (x5_2 : List Int) (x6_2 : Bool) (x7_2 : Int), v6 = .bool x6_2 ∧ v7 = .int .i64 x7_2 ∧ Aside0 (bobbinref13_Reached.l1 kq l0 a1 x5_2 x6_2 x7_2 = some r) ∧ Aside0 (kq ≤ k1) ∧ Aside0 (Kd.R (Kd.int .i64) 3 w' w.heap.size (fun _ => True) v5 x5_2) ∧ Aside0 (Below w.heap.size w w'))
      case atStart => exact ⟨(x5_1), (false), (0), (by first | rfl | (simp; done) | (simp [*]; done)), (by first | rfl | (simp; done) | (simp [*]; done)), H', ⟨Nat.le_refl _⟩, ⟨by (with_reducible repeat (first | apply Kd.R_alloc | apply Kd.R_drewN | apply Kd.R_drew)); exact HO_5.out⟩, ⟨by repeat (first | (with_reducible first | exact HB.out | apply below_alloc | apply pw_below_drewN | apply below_drew1) | exact HB.out)⟩⟩
      case round =>
        clear H'
        try clear c1
        try clear p2
        try clear p2
        obtain ⟨x5_2, x6_2, x7_2, rfl, rfl, HA, HK2, HO_5, HB⟩ := hrel
        cases gk with
        | zero => exact absurd HA.out (by first | (intro h_; cases h_; done) | simp [bobbinref13_Reached.l1])
        | succ k2 =>
          have H := HA.out
          clear HA
          rw [bobbinref13_Reached.l1_eq] at H
          by_cases c3 : x7_2 < (l0.length : Int)
          · rw [if_pos c3] at H
            have c3b0 : decide (x7_2 < (l0.length : Int)) = true := decide_eq_true c3
            clear c3
            by_cases c4 : 0 ≤ x7_2
            · rw [if_pos c4] at H
              have c4b0 : decide (0 ≤ x7_2) = true := decide_eq_true c4
              clear c4
              replace H := Option.bind_eq_some_iff.mp H
              obtain ⟨t105, A50, H⟩ := H
              replace H : (if ((rd_T29 l0 x7_2).f0) = a1 then (bobbinref13_Reached.j2 k2 l0 a1 x5_2 x6_2 x7_2 false) else (bobbinref13_Reached.j2 k2 l0 a1 x5_2 x6_2 x7_2 (!t105))) = some r := H
              have A5 := Aside0.mk A50
              clear A50
              have HC6 := Aside0.mk H
              clear H
              have p104 : 0 ≤ (x7_2 : Int) := of_decide_eq_true (by first | (with_reducible assumption) | assumption)
              have q104 : x7_2 < (l0.length : Int) := of_decide_eq_true (by first | (with_reducible assumption) | assumption)
              obtain ⟨ad104, A104_1, c104_1, e104, hx104_0, hx104_1, hl104_1, hi104_1⟩ := at_T29 HR0.out x7_2 p104 q104
              cases e104
              replace hx104_0 := (HB.out.cell (World.block_lt_of_cell? w _ hx104_0)).trans hx104_0
              replace hx104_1 := (HB.out.cell (World.block_lt_of_cell? w _ hx104_1)).trans hx104_1
              have HR104_1 := Aside0.mk hi104_1
              have HC104_1 := Aside0.mk hl104_1
              clear hi104_1 hl104_1
              replace p104 := eq_true p104
              replace q104 := eq_true q104
              obtain ⟨Ao7, co7, eo7⟩ := Kd.R_slice HO_5.out
              subst eo7
              go_upto_region 7 with (first | ((with_reducible refine gate_callee (f := 16) rfl ?_); refine goesL_ (some 23) rfl rfl Try.func16 (by kernel_rfl) rfl #[.slice Ao7 x5_2.length co7, .int .i64 ((rd_T29 l0 x7_2).f0)] rfl (by (try simp only [List.map_toArray, List.map_cons, List.map_nil]); first | done | rfl | (simp only [List.length_drop, List.length_take]; rfl)) ?_; (with_reducible refine (bobbinref13_in.calls k2 _ _ x5_2 ((rd_T29 l0 x7_2).f0) t105 _ ?side1 ?side2 A5.out).mono ?_); (case side1 => repeat (first | exact (Kd.R_reads' HO_5.out).2.2 | (with_reducible refine Kd.C_alloc ?_ _) | (with_reducible refine Kd.C_drewN ?_ _) | (with_reducible refine Kd.C_drew ?_))); (case side2 => exact (Kd.R_reads' HO_5.out).2.1); rintro e w' ⟨rfl, ⟨nd, rfl⟩⟩; refine ⟨_, rfl, ?_⟩))
              (try simp only [Act.put, List.setIfInBounds_toArray, List.set_cons_zero, List.set_cons_succ])
              go_cut [34] (fun v34 wc => ∃ (kq : Nat) (x34_5 : Bool), v34 = .bool x34_5 ∧ Aside0 (bobbinref13_Reached.j2 kq l0 a1 x5_2 x6_2 x7_2 x34_5 = some r) ∧ Aside0 (kq ≤ k2) ∧ Aside0 (Kd.R (Kd.int .i64) 3 wc w.heap.size (fun _ => True) (.slice Ao7 x5_2.length co7) x5_2) ∧ Aside0 (Below w.heap.size w wc))
              case first =>
                have H := HC6.out
                clear HC6
                by_cases c8 : ((rd_T29 l0 x7_2).f0) = a1
                · rw [if_pos c8] at H
                  have c8b0 : (((rd_T29 l0 x7_2).f0) == a1) = true := beq_iff_eq.mpr c8
                  have c8b1 : (((rd_T29 l0 x7_2).f0) != a1) = false := bne_eq_false_iff_eq.mpr c8
                  clear c8
                  (first | rw [c8b0] | (simp only [i64_w, i32_w]; rw [c8b0]) | skip)
                  have H' := Aside0.mk H
                  clear H
                  have p106 : 0 ≤ (x7_2 : Int) := of_decide_eq_true (by first | (with_reducible assumption) | assumption)
                  have q106 : x7_2 < (l0.length : Int) := of_decide_eq_true (by first | (with_reducible assumption) | assumption)
                  obtain ⟨ad106, A106_1, c106_1, e106, hx106_0, hx106_1, hl106_1, hi106_1⟩ := at_T29 HR0.out x7_2 p106 q106
                  obtain rfl : ad104 = ad106 := (by injection e106)
                  replace hx106_0 := (HB.out.cell (World.block_lt_of_cell? w _ hx106_0)).trans hx106_0
                  replace hx106_1 := (HB.out.cell (World.block_lt_of_cell? w _ hx106_1)).trans hx106_1
                  have HR106_1 := Aside0.mk hi106_1
                  have HC106_1 := Aside0.mk hl106_1
                  clear hi106_1 hl106_1
                  replace p106 := eq_true p106
                  replace q106 := eq_true q106
                  go_wp2
                  go_meet
                  case rel => exact ⟨_, (false), (by first | rfl | (simp; done) | (simp [*]; done)), H', ⟨by have := HK1.out; have := HK2.out; first | omega | exact Nat.le_refl _⟩, ⟨by (with_reducible repeat (first | apply Kd.R_alloc | apply Kd.R_drewN | apply Kd.R_drew)); exact HO_5.out⟩, ⟨by repeat (first | (with_reducible first | exact HB.out | apply below_alloc | apply pw_below_drewN | apply below_drew1) | exact HB.out)⟩⟩
                · rw [if_neg c8] at H
                  have c8b0 : (((rd_T29 l0 x7_2).f0) == a1) = false := beq_eq_false_iff_ne.mpr c8
                  have c8b1 : (((rd_T29 l0 x7_2).f0) != a1) = true := bne_iff_ne.mpr c8
                  (first | rw [c8b0] | (simp only [i64_w, i32_w]; rw [c8b0]) | skip)
                  have H' := Aside0.mk H
                  clear H
                  have p106 : 0 ≤ (x7_2 : Int) := of_decide_eq_true (by first | (with_reducible assumption) | assumption)
                  have q106 : x7_2 < (l0.length : Int) := of_decide_eq_true (by first | (with_reducible assumption) | assumption)
                  obtain ⟨ad106, A106_1, c106_1, e106, hx106_0, hx106_1, hl106_1, hi106_1⟩ := at_T29 HR0.out x7_2 p106 q106
                  obtain rfl : ad104 = ad106 := (by injection e106)
                  replace hx106_0 := (HB.out.cell (World.block_lt_of_cell? w _ hx106_0)).trans hx106_0
                  replace hx106_1 := (HB.out.cell (World.block_lt_of_cell? w _ hx106_1)).trans hx106_1
                  have HR106_1 := Aside0.mk hi106_1
                  have HC106_1 := Aside0.mk hl106_1
                  clear hi106_1 hl106_1
                  replace p106 := eq_true p106
                  replace q106 := eq_true q106
                  go_wp2
                  go_meet
                  case rel => exact ⟨_, (!t105), (by first | rfl | (simp; done) | (simp [*]; done)), H', ⟨by have := HK1.out; have := HK2.out; first | omega | exact Nat.le_refl _⟩, ⟨by (with_reducible repeat (first | apply Kd.R_alloc | apply Kd.R_drewN | apply Kd.R_drew)); exact HO_5.out⟩, ⟨by repeat (first | (with_reducible first | exact HB.out | apply below_alloc | apply pw_below_drewN | apply below_drew1) | exact HB.out)⟩⟩
              case rest =>
                clear HC6
                try clear c1
                try clear p1
                try clear q1
                try clear hx1
                try clear p2
                try clear c3
                try clear c3b0
                try clear c4
                try clear c4b0
                try clear c8
                try clear c8b0
                try clear c8b1
                try clear hx104_0
                try clear hx104_1
                try clear hx106_0
                try clear hx106_1
                try clear p104
                try clear p106
                try clear p2
                try clear q104
                try clear q106
                obtain ⟨kq, x34_5, rfl, HA, HJ5, HO_5, HB⟩ := hcut
                cases kq with
                | zero => exact absurd HA.out (by first | (intro h_; cases h_; done) | simp [bobbinref13_Reached.j2])
                | succ kj5 =>
                  have H := HA.out
                  clear HA
                  rw [bobbinref13_Reached.j2_eq] at H
                  by_cases c9 : x34_5 = true
                  · subst c9
                    have H1 : (bobbinref13_Reached.l1 kj5 l0 a1 x5_2 x6_2 (wrap64 (x7_2 + 1))) = some r := by rw [if_pos rfl] at H; exact H
                    clear H
                    have H := H1
                    clear H1
                    have H' := Aside0.mk H
                    clear H
                    go_wp2
                    go_roundg kj5
                    case measure => have := HK1.out; have := HK2.out; have := HJ5.out; omega
                    case rel => exact ⟨(x5_2), (x6_2), (wrap64 (x7_2 + 1)), (by first | rfl | (simp; done) | (simp [*]; done)), (by first | rfl | (simp; done) | (simp [*]; done)), H', ⟨by have := HK1.out; have := HK2.out; have := HJ5.out; omega⟩, ⟨by (with_reducible repeat (first | apply Kd.R_alloc | apply Kd.R_drewN | apply Kd.R_drew)); exact HO_5.out⟩, ⟨by repeat (first | (with_reducible first | exact HB.out | apply below_alloc | apply pw_below_drewN | apply below_drew1) | exact HB.out)⟩⟩
                  · replace c9 := Bool.eq_false_iff.mpr c9
                    subst c9
                    have H1 : (bobbinref13_Reached.l2 kj5 l0 a1 x5_2 x6_2 x7_2 0) = some r := by rw [if_neg (show ¬ (false = true) by decide)] at H; exact H
                    clear H
                    have H := H1
                    clear H1
                    have H' := Aside0.mk H
                    clear H
                    go_wp2
                    go_loopg [5, 6, 9] kj5 (fun kq v5 v6 v9 w' => ∃ (x5_4 : List Int) (x6_4 : Bool) (x9_4 : Int), v6 = .bool x6_4 ∧ v9 = .int .i64 x9_4 ∧ Aside0 (bobbinref13_Reached.l2 kq l0 a1 x5_4 x6_4 x7_2 x9_4 = some r) ∧ Aside0 (kq ≤ kj5) ∧ Aside0 (Kd.R (Kd.int .i64) 3 w' w.heap.size (fun _ => True) v5 x5_4) ∧ Aside0 (Below w.heap.size w w'))
                    case atStart => exact ⟨(x5_2), (x6_2), (0), (by first | rfl | (simp; done) | (simp [*]; done)), (by first | rfl | (simp; done) | (simp [*]; done)), H', ⟨Nat.le_refl _⟩, ⟨by (with_reducible repeat (first | apply Kd.R_alloc | apply Kd.R_drewN | apply Kd.R_drew)); exact HO_5.out⟩, ⟨by repeat (first | (with_reducible first | exact HB.out | apply below_alloc | apply pw_below_drewN | apply below_drew1) | exact HB.out)⟩⟩
                    case round =>
                      clear H'
                      try clear c1
                      try clear p1
                      try clear q1
                      try clear hx1
                      try clear p2
                      try clear c3
                      try clear c3b0
                      try clear c4
                      try clear c4b0
                      try clear p6
                      try clear c8
                      try clear c8b0
                      try clear c8b1
                      try clear c9
                      try clear hx104_0
                      try clear hx104_1
                      try clear hx106_0
                      try clear hx106_1
                      try clear p1
                      try clear p104
                      try clear p106
                      try clear p2
                      try clear q1
                      try clear q104
                      try clear q106
                      obtain ⟨x5_4, x6_4, x9_4, rfl, rfl, HA, HK4, HO_5, HB⟩ := hrel
                      cases gk with
                      | zero => exact absurd HA.out (by first | (intro h_; cases h_; done) | simp [bobbinref13_Reached.l2])
                      | succ k4 =>
                        have H := HA.out
                        clear HA
                        rw [bobbinref13_Reached.l2_eq] at H
                        by_cases c10 : 0 ≤ x7_2
                        · rw [if_pos c10] at H
                          have c10b0 : decide (0 ≤ x7_2) = true := decide_eq_true c10
                          clear c10
                          by_cases c11 : x7_2 < (l0.length : Int)
                          · rw [if_pos c11] at H
                            have c11b0 : decide (x7_2 < (l0.length : Int)) = true := decide_eq_true c11
                            clear c11
                            by_cases c12 : x9_4 < (((rd_T29 l0 x7_2).f1).length : Int)
                            · rw [if_pos c12] at H
                              have c12b0 : decide (x9_4 < (((rd_T29 l0 x7_2).f1).length : Int)) = true := decide_eq_true c12
                              clear c12
                              by_cases c13 : 0 ≤ x9_4
                              · rw [if_pos c13] at H
                                have c13b0 : decide (0 ≤ x9_4) = true := decide_eq_true c13
                                clear c13
                                replace H := Option.bind_eq_some_iff.mp H
                                obtain ⟨t110, A140, H⟩ := H
                                replace H : (if t110 = true then (bobbinref13_Reached.l2 k4 l0 a1 x5_4 x6_4 x7_2 (wrap64 (x9_4 + 1))) else (if x5_4.length < 17592186044416 then (bobbinref13_Reached.l2 k4 l0 a1 (x5_4 ++ [rd ((rd_T29 l0 x7_2).f1) x9_4]) true x7_2 (wrap64 (x9_4 + 1))) else (none))) = some r := H
                                have A14 := Aside0.mk A140
                                clear A140
                                by_cases c15 : t110 = true
                                · subst c15
                                  have H1 : (bobbinref13_Reached.l2 k4 l0 a1 x5_4 x6_4 x7_2 (wrap64 (x9_4 + 1))) = some r := by rw [if_pos rfl] at H; exact H
                                  clear H
                                  have H := H1
                                  clear H1
                                  have H' := Aside0.mk H
                                  clear H
                                  have p107 : 0 ≤ (x7_2 : Int) := of_decide_eq_true (by first | (with_reducible assumption) | assumption)
                                  have q107 : x7_2 < (l0.length : Int) := of_decide_eq_true (by first | (with_reducible assumption) | assumption)
                                  obtain ⟨ad107, A107_1, c107_1, e107, hx107_0, hx107_1, hl107_1, hi107_1⟩ := at_T29 HR0.out x7_2 p107 q107
                                  obtain rfl : ad104 = ad107 := (by injection e107)
                                  replace hx107_0 := (HB.out.cell (World.block_lt_of_cell? w _ hx107_0)).trans hx107_0
                                  replace hx107_1 := (HB.out.cell (World.block_lt_of_cell? w _ hx107_1)).trans hx107_1
                                  have HR107_1 := Aside0.mk hi107_1
                                  have HC107_1 := Aside0.mk hl107_1
                                  clear hi107_1 hl107_1
                                  replace p107 := eq_true p107
                                  replace q107 := eq_true q107
                                  have p108 : 0 ≤ (x7_2 : Int) := of_decide_eq_true (by first | (with_reducible assumption) | assumption)
                                  have q108 : x7_2 < (l0.length : Int) := of_decide_eq_true (by first | (with_reducible assumption) | assumption)
                                  obtain ⟨ad108, A108_1, c108_1, e108, hx108_0, hx108_1, hl108_1, hi108_1⟩ := at_T29 HR0.out x7_2 p108 q108
                                  obtain rfl : ad104 = ad108 := (by injection e108)
                                  replace hx108_0 := (HB.out.cell (World.block_lt_of_cell? w _ hx108_0)).trans hx108_0
                                  replace hx108_1 := (HB.out.cell (World.block_lt_of_cell? w _ hx108_1)).trans hx108_1
                                  have HR108_1 := Aside0.mk hi108_1
                                  have HC108_1 := Aside0.mk hl108_1
                                  clear hi108_1 hl108_1
                                  replace p108 := eq_true p108
                                  replace q108 := eq_true q108
                                  have ea_ := Option.some.inj (hx107_1.symm.trans hx108_1)
                                  injection ea_ with ea_ en_ ec_
                                  subst ea_
                                  subst ec_
                                  clear en_
                                  have p109 : 0 ≤ (x9_4 : Int) := of_decide_eq_true (by first | (with_reducible assumption) | assumption)
                                  have q109 : x9_4 < (((rd_T29 l0 x7_2).f1).length : Int) := of_decide_eq_true (by first | (with_reducible assumption) | assumption)
                                  obtain ⟨ad109, e109, hx109_0⟩ := Kd.at_int HR108_1.out x9_4 p109 q109
                                  cases e109
                                  replace hx109_0 := (HB.out.cell (World.block_lt_of_cell? w _ hx109_0)).trans hx109_0
                                  replace p109 := eq_true p109
                                  replace q109 := eq_true q109
                                  obtain ⟨Ao16, co16, eo16⟩ := Kd.R_slice HO_5.out
                                  subst eo16
                                  go_wp2_with (first | ((with_reducible refine gate_callee (f := 16) rfl ?_); refine goesL_ (some 54) rfl rfl Try.func16 (by kernel_rfl) rfl #[.slice Ao16 x5_4.length co16, .int .i64 (rd ((rd_T29 l0 x7_2).f1) x9_4)] rfl (by (try simp only [List.map_toArray, List.map_cons, List.map_nil]); first | done | rfl | (simp only [List.length_drop, List.length_take]; rfl)) ?_; (with_reducible refine (bobbinref13_in.calls k4 _ _ x5_4 (rd ((rd_T29 l0 x7_2).f1) x9_4) true _ ?side1 ?side2 A14.out).mono ?_); (case side1 => repeat (first | exact (Kd.R_reads' HO_5.out).2.2 | (with_reducible refine Kd.C_alloc ?_ _) | (with_reducible refine Kd.C_drewN ?_ _) | (with_reducible refine Kd.C_drew ?_))); (case side2 => exact (Kd.R_reads' HO_5.out).2.1); rintro e w' ⟨rfl, ⟨nd, rfl⟩⟩; refine ⟨_, rfl, ?_⟩))
                                  go_roundg k4
                                  case measure => have := HK1.out; have := HK2.out; have := HJ5.out; have := HK4.out; omega
                                  case rel => exact ⟨(x5_4), (x6_4), (wrap64 (x9_4 + 1)), (by first | rfl | (simp; done) | (simp [*]; done)), (by first | rfl | (simp; done) | (simp [*]; done)), H', ⟨by have := HK1.out; have := HK2.out; have := HJ5.out; have := HK4.out; omega⟩, ⟨by (with_reducible repeat (first | apply Kd.R_alloc | apply Kd.R_drewN | apply Kd.R_drew)); exact HO_5.out⟩, ⟨by repeat (first | (with_reducible first | exact HB.out | apply below_alloc | apply pw_below_drewN | apply below_drew1) | exact HB.out)⟩⟩
                                · replace c15 := Bool.eq_false_iff.mpr c15
                                  subst c15
                                  have H1 : (if x5_4.length < 17592186044416 then (bobbinref13_Reached.l2 k4 l0 a1 (x5_4 ++ [rd ((rd_T29 l0 x7_2).f1) x9_4]) true x7_2 (wrap64 (x9_4 + 1))) else (none)) = some r := by rw [if_neg (show ¬ (false = true) by decide)] at H; exact H
                                  clear H
                                  have H := H1
                                  clear H1
                                  by_cases c17 : x5_4.length < 17592186044416
                                  · rw [if_pos c17] at H
                                    have LMc17 := Aside0.mk c17
                                    clear c17
                                    obtain ⟨y113, hy113⟩ : ∃ y_ : List Int, y_ = (x5_4 ++ [rd ((rd_T29 l0 x7_2).f1) x9_4]) := ⟨_, rfl⟩
                                    replace H : (bobbinref13_Reached.l2 k4 l0 a1 y113 true x7_2 (wrap64 (x9_4 + 1))) = some r := by first | (rw [hy113]; with_reducible exact H) | (have H2_ := (Option.bind_some _ _).symm.trans H; rw [hy113]; with_reducible exact H2_) | (have H2_ := (Option.bind_some _ _).symm.trans H; with_reducible exact H2_) | with_reducible exact H | (rw [hy113]; exact H) | exact H
                                    have Ny113 := Aside0.mk hy113
                                    clear hy113
                                    have H' := Aside0.mk H
                                    clear H
                                    have p107 : 0 ≤ (x7_2 : Int) := of_decide_eq_true (by first | (with_reducible assumption) | assumption)
                                    have q107 : x7_2 < (l0.length : Int) := of_decide_eq_true (by first | (with_reducible assumption) | assumption)
                                    obtain ⟨ad107, A107_1, c107_1, e107, hx107_0, hx107_1, hl107_1, hi107_1⟩ := at_T29 HR0.out x7_2 p107 q107
                                    obtain rfl : ad104 = ad107 := (by injection e107)
                                    replace hx107_0 := (HB.out.cell (World.block_lt_of_cell? w _ hx107_0)).trans hx107_0
                                    replace hx107_1 := (HB.out.cell (World.block_lt_of_cell? w _ hx107_1)).trans hx107_1
                                    have HR107_1 := Aside0.mk hi107_1
                                    have HC107_1 := Aside0.mk hl107_1
                                    clear hi107_1 hl107_1
                                    replace p107 := eq_true p107
                                    replace q107 := eq_true q107
                                    have p108 : 0 ≤ (x7_2 : Int) := of_decide_eq_true (by first | (with_reducible assumption) | assumption)
                                    have q108 : x7_2 < (l0.length : Int) := of_decide_eq_true (by first | (with_reducible assumption) | assumption)
                                    obtain ⟨ad108, A108_1, c108_1, e108, hx108_0, hx108_1, hl108_1, hi108_1⟩ := at_T29 HR0.out x7_2 p108 q108
                                    obtain rfl : ad104 = ad108 := (by injection e108)
                                    replace hx108_0 := (HB.out.cell (World.block_lt_of_cell? w _ hx108_0)).trans hx108_0
                                    replace hx108_1 := (HB.out.cell (World.block_lt_of_cell? w _ hx108_1)).trans hx108_1
                                    have HR108_1 := Aside0.mk hi108_1
                                    have HC108_1 := Aside0.mk hl108_1
                                    clear hi108_1 hl108_1
                                    replace p108 := eq_true p108
                                    replace q108 := eq_true q108
                                    have ea_ := Option.some.inj (hx107_1.symm.trans hx108_1)
                                    injection ea_ with ea_ en_ ec_
                                    subst ea_
                                    subst ec_
                                    clear en_
                                    have p109 : 0 ≤ (x9_4 : Int) := of_decide_eq_true (by first | (with_reducible assumption) | assumption)
                                    have q109 : x9_4 < (((rd_T29 l0 x7_2).f1).length : Int) := of_decide_eq_true (by first | (with_reducible assumption) | assumption)
                                    obtain ⟨ad109, e109, hx109_0⟩ := Kd.at_int HR108_1.out x9_4 p109 q109
                                    cases e109
                                    replace hx109_0 := (HB.out.cell (World.block_lt_of_cell? w _ hx109_0)).trans hx109_0
                                    replace p109 := eq_true p109
                                    replace q109 := eq_true q109
                                    obtain ⟨Ao18, co18, eo18⟩ := Kd.R_slice HO_5.out
                                    subst eo18
                                    go_wp2_with (first | ((with_reducible refine gate_callee (f := 16) rfl ?_); refine goesL_ (some 54) rfl rfl Try.func16 (by kernel_rfl) rfl #[.slice Ao18 x5_4.length co18, .int .i64 (rd ((rd_T29 l0 x7_2).f1) x9_4)] rfl (by (try simp only [List.map_toArray, List.map_cons, List.map_nil]); first | done | rfl | (simp only [List.length_drop, List.length_take]; rfl)) ?_; (with_reducible refine (bobbinref13_in.calls k4 _ _ x5_4 (rd ((rd_T29 l0 x7_2).f1) x9_4) false _ ?side1 ?side2 A14.out).mono ?_); (case side1 => repeat (first | exact (Kd.R_reads' HO_5.out).2.2 | (with_reducible refine Kd.C_alloc ?_ _) | (with_reducible refine Kd.C_drewN ?_ _) | (with_reducible refine Kd.C_drew ?_))); (case side2 => exact (Kd.R_reads' HO_5.out).2.1); rintro e w' ⟨rfl, ⟨nd, rfl⟩⟩; refine ⟨_, rfl, ?_⟩; have p111 : 0 ≤ (x7_2 : Int) := of_decide_eq_true (by first | (with_reducible assumption) | assumption); have q111 : x7_2 < (l0.length : Int) := of_decide_eq_true (by first | (with_reducible assumption) | assumption); obtain ⟨ad111, A111_1, c111_1, e111, hx111_0, hx111_1, hl111_1, hi111_1⟩ := at_T29 HR0.out x7_2 p111 q111; obtain rfl : ad104 = ad111 := (by injection e111); replace hx111_0 := (HB.out.cell (World.block_lt_of_cell? w _ hx111_0)).trans hx111_0; replace hx111_1 := (HB.out.cell (World.block_lt_of_cell? w _ hx111_1)).trans hx111_1; have HR111_1 := Aside0.mk hi111_1; have HC111_1 := Aside0.mk hl111_1; clear hi111_1 hl111_1; replace p111 := eq_true p111; replace q111 := eq_true q111; have ea_ := Option.some.inj (hx107_1.symm.trans hx111_1); injection ea_ with ea_ en_ ec_; subst ea_; subst ec_; clear en_; have p112 : 0 ≤ (x9_4 : Int) := of_decide_eq_true (by first | (with_reducible assumption) | assumption); have q112 : x9_4 < (((rd_T29 l0 x7_2).f1).length : Int) := of_decide_eq_true (by first | (with_reducible assumption) | assumption); obtain ⟨ad112, e112, hx112_0⟩ := Kd.at_int HR111_1.out x9_4 p112 q112; cases e112; replace hx112_0 := (HB.out.cell (World.block_lt_of_cell? w _ hx112_0)).trans hx112_0; replace p112 := eq_true p112; replace q112 := eq_true q112) | ((with_reducible refine gate_builtin (b := .append) (xs := #[.tmp 57, .tmp 66]) rfl ?_); at_builtin; refine Kd.R_append (Kd.int .i64) (w0 := w) w.heap.size rfl (.tmp 57) (.tmp 66) 27 3 (.int .i64 0) 8 rfl Try.underlying27 info3 rfl (by decide) (by omega) (.slice Ao18 x5_4.length co18) x5_4 (rd ((rd_T29 l0 x7_2).f1) x9_4) [.int .i64 (rd ((rd_T29 l0 x7_2).f1) x9_4)] (fun _ => True) (fun _ => False) rfl rfl ?aP (fun _ hk => hk.elim) ?aF ?aO ?aB ?aS ?aL ?_; (case aP => exact rfl); (case aB => exact (by repeat (first | (with_reducible first | exact HB.out | apply below_alloc | apply pw_below_drewN | apply below_drew1) | exact HB.out))); (case aF => exact (fun _ _ => trivial)); (case aO => exact (by (with_reducible repeat (first | apply Kd.R_alloc | apply Kd.R_drewN | apply Kd.R_drew)); exact HO_5.out)); (case aS => exact (below_size (by repeat (first | (with_reducible first | exact HB.out | apply below_alloc | apply pw_below_drewN | apply below_drew1) | exact HB.out)))); (case aL => have := LMc17.out; omega); intro v114 w19 ho hb hg hat; rw [← Ny113.out] at ho; have n0_ := Aside0.mk (hb); have n1_ := Aside0.mk (ho); clear HB; clear HO_5; have HB := n0_; have HO115 := n1_; clear n0_ n1_; clear ho hb hg hat))
                                    go_roundg k4
                                    case measure => have := HK1.out; have := HK2.out; have := HJ5.out; have := HK4.out; omega
                                    case rel => exact ⟨(y113), (true), (wrap64 (x9_4 + 1)), (by first | rfl | (simp; done) | (simp [*]; done)), (by first | rfl | (simp; done) | (simp [*]; done)), H', ⟨by have := HK1.out; have := HK2.out; have := HJ5.out; have := HK4.out; omega⟩, ⟨by (with_reducible repeat (first | apply Kd.R_alloc | apply Kd.R_drewN | apply Kd.R_drew)); exact HO115.out⟩, ⟨by repeat (first | (with_reducible first | exact HB.out | apply below_alloc | apply pw_below_drewN | apply below_drew1) | exact HB.out)⟩⟩
                                  · rw [if_neg c17] at H
                                    exact absurd H (by simp)
                              · rw [if_neg c13] at H
                                exact absurd H (by simp)
                            · rw [if_neg c12] at H
                              have c12b0 : decide (x9_4 < (((rd_T29 l0 x7_2).f1).length : Int)) = false := decide_eq_false c12
                              clear c12
                              have H' := Aside0.mk H
                              clear H
                              have p107 : 0 ≤ (x7_2 : Int) := of_decide_eq_true (by first | (with_reducible assumption) | assumption)
                              have q107 : x7_2 < (l0.length : Int) := of_decide_eq_true (by first | (with_reducible assumption) | assumption)
                              obtain ⟨ad107, A107_1, c107_1, e107, hx107_0, hx107_1, hl107_1, hi107_1⟩ := at_T29 HR0.out x7_2 p107 q107
                              obtain rfl : ad104 = ad107 := (by injection e107)
                              replace hx107_0 := (HB.out.cell (World.block_lt_of_cell? w _ hx107_0)).trans hx107_0
                              replace hx107_1 := (HB.out.cell (World.block_lt_of_cell? w _ hx107_1)).trans hx107_1
                              have HR107_1 := Aside0.mk hi107_1
                              have HC107_1 := Aside0.mk hl107_1
                              clear hi107_1 hl107_1
                              replace p107 := eq_true p107
                              replace q107 := eq_true q107
                              go_wp2
                              go_roundg k4
                              case measure => have := HK1.out; have := HK2.out; have := HJ5.out; have := HK4.out; omega
                              case rel => exact ⟨(x5_4), (x6_4), (wrap64 (x7_2 + 1)), (by first | rfl | (simp; done) | (simp [*]; done)), (by first | rfl | (simp; done) | (simp [*]; done)), H', ⟨by have := HK1.out; have := HK2.out; have := HJ5.out; have := HK4.out; omega⟩, ⟨by (with_reducible repeat (first | apply Kd.R_alloc | apply Kd.R_drewN | apply Kd.R_drew)); exact HO_5.out⟩, ⟨by repeat (first | (with_reducible first | exact HB.out | apply below_alloc | apply pw_below_drewN | apply below_drew1) | exact HB.out)⟩⟩
                          · rw [if_neg c11] at H
                            exact absurd H (by simp)
                        · rw [if_neg c10] at H
                          exact absurd H (by simp)
            · rw [if_neg c4] at H
              exact absurd H (by simp)
          · rw [if_neg c3] at H
            have c3b0 : decide (x7_2 < (l0.length : Int)) = false := decide_eq_false c3
            clear c3
            by_cases c20 : x6_2 = true
            · subst c20
              have H1 : (bobbinref13_Reached.l0 k2 l0 a1 x5_2) = some r := by rw [if_pos rfl] at H; exact H
              clear H
              have H := H1
              clear H1
              have H' := Aside0.mk H
              clear H
              go_wp2
              go_roundg k2
              case measure => have := HK1.out; have := HK2.out; omega
              case rel => exact ⟨(x5_2), H', ⟨by have := HK1.out; have := HK2.out; omega⟩, ⟨by (with_reducible repeat (first | apply Kd.R_alloc | apply Kd.R_drewN | apply Kd.R_drew)); exact HO_5.out⟩, ⟨by repeat (first | (with_reducible first | exact HB.out | apply below_alloc | apply pw_below_drewN | apply below_drew1) | exact HB.out)⟩⟩
            · replace c20 := Bool.eq_false_iff.mpr c20
              subst c20
              have H1 : (some x5_2) = some r := by rw [if_neg (show ¬ (false = true) by decide)] at H; exact H
              clear H
              have H := H1
              clear H1
              obtain rfl := Option.some.inj H
              go_wp2
              go_ret
              exact ⟨_, by first | rfl | (simp [errW_none, errW_some] <;> rfl) | (simp [*, errW_none, errW_some] <;> rfl), by (with_reducible repeat (first | apply Kd.R_alloc | apply Kd.R_drewN | apply Kd.R_drew)); exact HO_5.out, by repeat (first | (with_reducible first | exact HB.out | apply below_alloc | apply pw_below_drewN | apply below_drew1) | exact HB.out)⟩

/-! ### bobbinref13_Reach: function 11 -/
def bobbinref13_Reach.f (k : Nat) (l0 : List (S29)) (a1 : Int) (a2 : Int) : Option (Bool) := (bobbinref13_Reached.f k l0 a1).bind fun t116 => ((bobbinref13_in.f k t116 a2).bind fun t119 => (some t119))
theorem bobbinref13_Reach.mono : ∀ a0 a1 a2 k, LeO (bobbinref13_Reach.f k a0 a1 a2) (bobbinref13_Reach.f (k + 1) a0 a1 a2) := by
  intro a0 a1 a2 k
  unfold bobbinref13_Reach.f
  repeat' first
      | (with_reducible exact bobbinref13_Reached.mono _ _ _)
      | (with_reducible exact bobbinref13_in.mono _ _ _)
      | (with_reducible exact LeO.refl _)
      | (with_reducible exact LeO.none _)
      | (with_reducible refine LeO.ite ?_ ?_)
      | (with_reducible refine LeO.bind ?_ (fun _ => ?_))
      | exact bobbinref13_Reached.mono _ _ _
      | exact bobbinref13_in.mono _ _ _
      | exact LeO.none _
      | refine LeO.ite ?_ ?_
      | refine LeO.bind ?_ (fun _ => ?_)
set_option maxHeartbeats 8000000 in
set_option maxRecDepth 100000 in
theorem bobbinref13_Reach.calls (k : Nat) (A0 : Option Addr) (c0 : Nat) (l0 : List (S29)) (a1 : Int) (a2 : Int) (r : Bool) (w : World) (hr0 : Kd.C k29 w A0 l0.length l0) (hc0 : l0.length ≤ c0) (h : bobbinref13_Reach.f k l0 a1 a2 = some r) :
    Calls Try.prog 11 #[.slice A0 l0.length c0, .int .i64 a1, .int .i64 a2] w fun e w' => e = .returned (.bool r) ∧ Below w.heap.size w w' := by
  have HR0 := Aside0.mk hr0
  have HC0 := Aside0.mk hc0
  clear hr0 hc0
  have HB := Aside0.mk (Below.refl w.heap.size w)
  have H : ((bobbinref13_Reached.f k l0 a1).bind fun t116 => ((bobbinref13_in.f k t116 a2).bind fun t119 => (some t119))) = some r := h
  clear h
  replace H := Option.bind_eq_some_iff.mp H
  obtain ⟨t116, A40, H⟩ := H
  replace H : ((bobbinref13_in.f k t116 a2).bind fun t119 => (some t119)) = some r := H
  have A4 := Aside0.mk A40
  clear A40
  replace H := Option.bind_eq_some_iff.mp H
  obtain ⟨t119, A50, H⟩ := H
  replace H : (some t119) = some r := H
  have A5 := Aside0.mk A50
  clear A50
  obtain rfl := Option.some.inj H
  go_enter Try.func11, Try.ntmps11
  go_wp2_with (first | ((with_reducible refine gate_callee (f := 17) rfl ?_); refine goesL_ (some 9) rfl rfl Try.func17 (by kernel_rfl) rfl #[.slice A0 l0.length c0, .int .i64 a1] rfl (by (try simp only [List.map_toArray, List.map_cons, List.map_nil]); first | done | rfl | (simp only [List.length_drop, List.length_take]; rfl)) ?_; (with_reducible refine (bobbinref13_Reached.calls k _ _ l0 a1 t116 _ ?side1 ?side2 A4.out).mono ?_); (case side1 => repeat (first | exact HR0.out | (with_reducible refine Kd.C_alloc ?_ _) | (with_reducible refine Kd.C_drewN ?_ _) | (with_reducible refine Kd.C_drew ?_))); (case side2 => exact HC0.out); rintro e w6 ⟨v117, rfl, ho0, hb⟩; refine ⟨_, rfl, ?_⟩; have n0_ := Aside0.mk (Kd.R_lower ho0 (below_size (by repeat (first | (with_reducible first | exact HB.out | apply below_alloc | apply pw_below_drewN | apply below_drew1) | exact HB.out)))); have n1_ := Aside0.mk (below_step (by repeat (first | (with_reducible first | exact HB.out | apply below_alloc | apply pw_below_drewN | apply below_drew1) | exact HB.out)) hb); clear HB; have HO118 := n0_; have HB := n1_; clear n0_ n1_; (try clear hb); (try clear hb2); (try clear hk); (try clear hi); (try clear ho0); obtain ⟨Ao7, co7, eo7⟩ := Kd.R_slice HO118.out; subst eo7) | ((with_reducible refine gate_callee (f := 16) rfl ?_); refine goesL_ (some 11) rfl rfl Try.func16 (by kernel_rfl) rfl #[.slice Ao7 t116.length co7, .int .i64 a2] rfl (by (try simp only [List.map_toArray, List.map_cons, List.map_nil]); first | done | rfl | (simp only [List.length_drop, List.length_take]; rfl)) ?_; (with_reducible refine (bobbinref13_in.calls k _ _ t116 a2 t119 _ ?side1 ?side2 A5.out).mono ?_); (case side1 => repeat (first | exact (Kd.R_reads' HO118.out).2.2 | (with_reducible refine Kd.C_alloc ?_ _) | (with_reducible refine Kd.C_drewN ?_ _) | (with_reducible refine Kd.C_drew ?_))); (case side2 => exact (Kd.R_reads' HO118.out).2.1); rintro e w' ⟨rfl, ⟨nd, rfl⟩⟩; refine ⟨_, rfl, ?_⟩))
  go_ret
  exact ⟨by first | rfl | (simp [errW_none, errW_some] <;> rfl) | (simp [*, errW_none, errW_some] <;> rfl), by repeat (first | (with_reducible first | exact HB.out | apply below_alloc | apply pw_below_drewN | apply below_drew1) | exact HB.out)⟩

end Go.Proofs.Ytdpdghahmapgkaa.Print
