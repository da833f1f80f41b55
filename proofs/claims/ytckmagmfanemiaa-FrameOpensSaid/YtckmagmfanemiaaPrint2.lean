-- Written by a program of this session (myprint.py over the kit's print.py) out of the translation. Not trusted: Lean checks it.
import Derived.Test.YtckmagmfanemiaaPrint0
import Derived.Test.YtckmagmfanemiaaPrint1
namespace Go.Proofs.Ytckmagmfanemiaa.Print
open Go.RowKit Go.Proofs.YtckmagmfanemiaaW.PrintWords Go.Proofs.YtckmagmfanemiaaW.PrintLast Go.Proofs.YtckmagmfanemiaaW.PrintMore
attribute [local go_sem] max2_int min2_int max_two min_two max_three min_three max_four min_four   -- for this text's walks alone
set_option linter.unusedVariables false
set_option linter.unusedSimpArgs false

/-! ### bobbinref01_Same: function 13 -/
def bobbinref01_Same.l0 : Nat → List Int → List Int → Int → Option (Bool)
  | 0, _, _, _ => none
  | k + 1, x0, x1, x5 => if x5 < (x0.length : Int) then (if 0 ≤ x5 then (if x5 < (x1.length : Int) then (if (rd x0 x5) = (rd x1 x5) then (bobbinref01_Same.l0 k x0 x1 (wrap64 (x5 + 1))) else (some false)) else (none)) else (none)) else (some true)
theorem bobbinref01_Same.l0_eq : ∀ (k : Nat) x0 x1 x5, bobbinref01_Same.l0 (k + 1) x0 x1 x5 = (if x5 < (x0.length : Int) then (if 0 ≤ x5 then (if x5 < (x1.length : Int) then (if (rd x0 x5) = (rd x1 x5) then (bobbinref01_Same.l0 k x0 x1 (wrap64 (x5 + 1))) else (some false)) else (none)) else (none)) else (some true)) := fun _ _ _ _ => rfl
def bobbinref01_Same.f (k : Nat) (l0 : List Int) (l1 : List Int) : Option (Bool) := if (l0.length : Int) = (l1.length : Int) then (bobbinref01_Same.l0 k l0 l1 0) else (some false)
theorem bobbinref01_Same.mono_l : ∀ k, (∀ y0 y1 y2, LeO (bobbinref01_Same.l0 k y0 y1 y2) (bobbinref01_Same.l0 (k + 1) y0 y1 y2))
  | 0 => fun _ _ _ r h => by first | (cases h; done) | simp [bobbinref01_Same.l0] at h
  | k + 1 => by
    have ih0 := bobbinref01_Same.mono_l k
    · intro y0 y1 y2
      unfold bobbinref01_Same.l0
      repeat' first
      | (with_reducible exact ih0 _ _ _)
      | (with_reducible exact LeO.refl _)
      | (with_reducible exact LeO.none _)
      | (with_reducible refine LeO.ite ?_ ?_)
      | (with_reducible refine LeO.bind ?_ (fun _ => ?_))
      | exact ih0 _ _ _
      | exact LeO.none _
      | refine LeO.ite ?_ ?_
      | refine LeO.bind ?_ (fun _ => ?_)
theorem bobbinref01_Same.mono : ∀ a0 a1 k, LeO (bobbinref01_Same.f k a0 a1) (bobbinref01_Same.f (k + 1) a0 a1) := by
  intro a0 a1 k
  have ih0 := bobbinref01_Same.mono_l k
  unfold bobbinref01_Same.f
  repeat' first
      | (with_reducible exact ih0 _ _ _)
      | (with_reducible exact LeO.refl _)
      | (with_reducible exact LeO.none _)
      | (with_reducible refine LeO.ite ?_ ?_)
      | (with_reducible refine LeO.bind ?_ (fun _ => ?_))
      | exact ih0 _ _ _
      | exact LeO.none _
      | refine LeO.ite ?_ ?_
      | refine LeO.bind ?_ (fun _ => ?_)
set_option maxHeartbeats 8000000 in
set_option maxRecDepth 100000 in
theorem bobbinref01_Same.calls (k : Nat) (A0 : Option Addr) (c0 : Nat) (l0 : List Int) (A1 : Option Addr) (c1 : Nat) (l1 : List Int) (r : Bool) (w : World) (hr0 : Kd.C (Kd.int .u8) w A0 l0.length l0) (hc0 : l0.length ≤ c0) (hr1 : Kd.C (Kd.int .u8) w A1 l1.length l1) (hc1 : l1.length ≤ c1) (h : bobbinref01_Same.f k l0 l1 = some r) :
    Calls Try.prog 13 #[.slice A0 l0.length c0, .slice A1 l1.length c1] w fun e w' => e = .returned (.bool r) ∧ Drawn0 w w' := by
  have HR0 := Aside0.mk hr0
  have HC0 := Aside0.mk hc0
  clear hr0 hc0
  have HR1 := Aside0.mk hr1
  have HC1 := Aside0.mk hc1
  clear hr1 hc1
  have H : (if (l0.length : Int) = (l1.length : Int) then (bobbinref01_Same.l0 k l0 l1 0) else (some false)) = some r := h
  clear h
  by_cases c3 : (l0.length : Int) = (l1.length : Int)
  · rw [if_pos c3] at H
    have c3b0 : ((l0.length : Int) == (l1.length : Int)) = true := beq_iff_eq.mpr c3
    have c3b1 : ((l0.length : Int) != (l1.length : Int)) = false := bne_eq_false_iff_eq.mpr c3
    have c3b2 : (l0.length == l1.length) = true := by first | simpa using c3 | (simp at c3 ⊢; omega)
    clear c3
    have H' := Aside0.mk H
    clear H
    go_enter Try.func13, Try.ntmps13
    go_wp2
    repeat (go_quiet (fail); try go_wp2)
    go_loopg [5] k (fun kq v5 w' => ∃ (x5_1 : Int), v5 = .int .i64 x5_1 ∧ Aside0 (bobbinref01_Same.l0 kq l0 l1 x5_1 = some r) ∧ Aside0 (kq ≤ k) ∧ Drawn0 w w')
    case atStart => exact ⟨(0), (by first | rfl | (simp; done) | (simp [*]; done)), H', ⟨Nat.le_refl _⟩, by repeat (first | exact Drawn0.refl _ | apply Drawn0.step)⟩
    case round =>
      clear H'
      try clear c1
      try clear p2
      try clear c3
      try clear c3b0
      try clear c3b1
      try clear c3b2
      obtain ⟨x5_1, rfl, HA, HK1, ⟨m1, rfl⟩⟩ := hrel
      cases gk with
      | zero => exact absurd HA.out (by first | (intro h_; cases h_; done) | simp [bobbinref01_Same.l0])
      | succ k1 =>
        have H := HA.out
        clear HA
        rw [bobbinref01_Same.l0_eq] at H
        by_cases c4 : x5_1 < (l0.length : Int)
        · rw [if_pos c4] at H
          have c4b0 : decide (x5_1 < (l0.length : Int)) = true := decide_eq_true c4
          clear c4
          by_cases c5 : 0 ≤ x5_1
          · rw [if_pos c5] at H
            have c5b0 : decide (0 ≤ x5_1) = true := decide_eq_true c5
            clear c5
            by_cases c6 : x5_1 < (l1.length : Int)
            · rw [if_pos c6] at H
              have c6b0 : decide (x5_1 < (l1.length : Int)) = true := decide_eq_true c6
              clear c6
              by_cases c7 : (rd l0 x5_1) = (rd l1 x5_1)
              · rw [if_pos c7] at H
                have c7b0 : ((rd l0 x5_1) == (rd l1 x5_1)) = true := beq_iff_eq.mpr c7
                have c7b1 : ((rd l0 x5_1) != (rd l1 x5_1)) = false := bne_eq_false_iff_eq.mpr c7
                clear c7
                have H' := Aside0.mk H
                clear H
                have p137 : 0 ≤ (x5_1 : Int) := of_decide_eq_true (by first | (with_reducible assumption) | assumption)
                have q137 : x5_1 < (l0.length : Int) := of_decide_eq_true (by first | (with_reducible assumption) | assumption)
                obtain ⟨ad137, e137, hx137_0⟩ := Kd.at_int HR0.out x5_1 p137 q137
                cases e137
                replace p137 := eq_true p137
                replace q137 := eq_true q137
                have p138 : 0 ≤ (x5_1 : Int) := of_decide_eq_true (by first | (with_reducible assumption) | assumption)
                have q138 : x5_1 < (l1.length : Int) := of_decide_eq_true (by first | (with_reducible assumption) | assumption)
                obtain ⟨ad138, e138, hx138_0⟩ := Kd.at_int HR1.out x5_1 p138 q138
                cases e138
                replace p138 := eq_true p138
                replace q138 := eq_true q138
                go_wp2
                repeat (go_quiet (fail); try go_wp2)
                go_roundg k1
                case measure => have := HK1.out; omega
                case rel => exact ⟨(wrap64 (x5_1 + 1)), (by first | rfl | (simp; done) | (simp [*]; done)), H', ⟨by have := HK1.out; omega⟩, by repeat (first | exact Drawn0.refl _ | apply Drawn0.step)⟩
              · rw [if_neg c7] at H
                have c7b0 : ((rd l0 x5_1) == (rd l1 x5_1)) = false := beq_eq_false_iff_ne.mpr c7
                have c7b1 : ((rd l0 x5_1) != (rd l1 x5_1)) = true := bne_iff_ne.mpr c7
                obtain rfl := Option.some.inj H
                have p137 : 0 ≤ (x5_1 : Int) := of_decide_eq_true (by first | (with_reducible assumption) | assumption)
                have q137 : x5_1 < (l0.length : Int) := of_decide_eq_true (by first | (with_reducible assumption) | assumption)
                obtain ⟨ad137, e137, hx137_0⟩ := Kd.at_int HR0.out x5_1 p137 q137
                cases e137
                replace p137 := eq_true p137
                replace q137 := eq_true q137
                have p138 : 0 ≤ (x5_1 : Int) := of_decide_eq_true (by first | (with_reducible assumption) | assumption)
                have q138 : x5_1 < (l1.length : Int) := of_decide_eq_true (by first | (with_reducible assumption) | assumption)
                obtain ⟨ad138, e138, hx138_0⟩ := Kd.at_int HR1.out x5_1 p138 q138
                cases e138
                replace p138 := eq_true p138
                replace q138 := eq_true q138
                go_wp2
                repeat (go_quiet (fail); try go_wp2)
                go_ret
                exact ⟨by first | rfl | (simp; done) | (simp [*]; done), by repeat (first | exact Drawn0.refl _ | apply Drawn0.step)⟩
            · rw [if_neg c6] at H
              exact absurd H (by simp)
          · rw [if_neg c5] at H
            exact absurd H (by simp)
        · rw [if_neg c4] at H
          have c4b0 : decide (x5_1 < (l0.length : Int)) = false := decide_eq_false c4
          clear c4
          obtain rfl := Option.some.inj H
          go_wp2
          repeat (go_quiet (fail); try go_wp2)
          go_ret
          exact ⟨by first | rfl | (simp; done) | (simp [*]; done), by repeat (first | exact Drawn0.refl _ | apply Drawn0.step)⟩
  · rw [if_neg c3] at H
    have c3b0 : ((l0.length : Int) == (l1.length : Int)) = false := beq_eq_false_iff_ne.mpr c3
    have c3b1 : ((l0.length : Int) != (l1.length : Int)) = true := bne_iff_ne.mpr c3
    have c3b2 : (l0.length == l1.length) = false := by first | simpa using c3 | (simp at c3 ⊢; omega)
    obtain rfl := Option.some.inj H
    go_enter Try.func13, Try.ntmps13
    go_wp2
    repeat (go_quiet (fail); try go_wp2)
    go_ret
    exact ⟨by first | rfl | (simp; done) | (simp [*]; done), by repeat (first | exact Drawn0.refl _ | apply Drawn0.step)⟩

/-! ### bobbinlaw02_FrameSeals: function 3 -/
def bobbinlaw02_FrameSeals.j0 : Nat → Int → List Int → Bool → Bool → Option (Bool)
  | 0, _, _, _, _ => none
  | k + 1, x0, x1, x5, x18 => if x18 = true then (some x5) else ((frame_Seal.f x0 x1).bind fun bt140 => ((bobbinref02_Seal.f k x0 x1).bind fun bt144 => ((bobbinref01_Same.f k bt140.1 bt144.1).bind fun t148 => (if t148 = true then (some (bt140.2 == bt144.2)) else (some false)))))
theorem bobbinlaw02_FrameSeals.j0_eq : ∀ (k : Nat) x0 x1 x5 x18, bobbinlaw02_FrameSeals.j0 (k + 1) x0 x1 x5 x18 = (if x18 = true then (some x5) else ((frame_Seal.f x0 x1).bind fun bt140 => ((bobbinref02_Seal.f k x0 x1).bind fun bt144 => ((bobbinref01_Same.f k bt140.1 bt144.1).bind fun t148 => (if t148 = true then (some (bt140.2 == bt144.2)) else (some false)))))) := fun _ _ _ _ _ => rfl
def bobbinlaw02_FrameSeals.f (k : Nat) (a0 : Int) (l1 : List Int) : Option (Bool) := (bobbinlaw02_awake.f).bind fun t139 => (if t139 = true then (bobbinlaw02_FrameSeals.j0 k a0 l1 t139 (decide ((l1.length : Int) > 2000))) else (bobbinlaw02_FrameSeals.j0 k a0 l1 t139 true))
theorem bobbinlaw02_FrameSeals.mono_l : ∀ k, (∀ y0 y1 y2 y3, LeO (bobbinlaw02_FrameSeals.j0 k y0 y1 y2 y3) (bobbinlaw02_FrameSeals.j0 (k + 1) y0 y1 y2 y3))
  | 0 => fun _ _ _ _ r h => by first | (cases h; done) | simp [bobbinlaw02_FrameSeals.j0] at h
  | k + 1 => by
    have ih0 := bobbinlaw02_FrameSeals.mono_l k
    · intro y0 y1 y2 y3
      unfold bobbinlaw02_FrameSeals.j0
      repeat' first
      | (with_reducible exact ih0 _ _ _ _)
      | (with_reducible exact bobbinref01_Same.mono _ _ _)
      | (with_reducible exact bobbinref02_Seal.mono _ _ _)
      | (with_reducible exact LeO.refl _)
      | (with_reducible exact LeO.none _)
      | (with_reducible refine LeO.ite ?_ ?_)
      | (with_reducible refine LeO.bind ?_ (fun _ => ?_))
      | exact ih0 _ _ _ _
      | exact bobbinref01_Same.mono _ _ _
      | exact bobbinref02_Seal.mono _ _ _
      | exact LeO.none _
      | refine LeO.ite ?_ ?_
      | refine LeO.bind ?_ (fun _ => ?_)
theorem bobbinlaw02_FrameSeals.mono : ∀ a0 a1 k, LeO (bobbinlaw02_FrameSeals.f k a0 a1) (bobbinlaw02_FrameSeals.f (k + 1) a0 a1) := by
  intro a0 a1 k
  have ih0 := bobbinlaw02_FrameSeals.mono_l k
  unfold bobbinlaw02_FrameSeals.f
  repeat' first
      | (with_reducible exact ih0 _ _ _ _)
      | (with_reducible exact bobbinref01_Same.mono _ _ _)
      | (with_reducible exact bobbinref02_Seal.mono _ _ _)
      | (with_reducible exact LeO.refl _)
      | (with_reducible exact LeO.none _)
      | (with_reducible refine LeO.ite ?_ ?_)
      | (with_reducible refine LeO.bind ?_ (fun _ => ?_))
      | exact ih0 _ _ _ _
      | exact bobbinref01_Same.mono _ _ _
      | exact bobbinref02_Seal.mono _ _ _
      | exact LeO.none _
      | refine LeO.ite ?_ ?_
      | refine LeO.bind ?_ (fun _ => ?_)
set_option maxHeartbeats 8000000 in
set_option maxRecDepth 100000 in
theorem bobbinlaw02_FrameSeals.calls (k : Nat) (a0 : Int) (A1 : Option Addr) (c1 : Nat) (l1 : List Int) (r : Bool) (w : World) (hr1 : Kd.C (Kd.int .u8) w A1 l1.length l1) (hc1 : l1.length ≤ c1) (h : bobbinlaw02_FrameSeals.f k a0 l1 = some r) :
    Calls Try.prog 3 #[.int .i64 a0, .slice A1 l1.length c1] w fun e w' => e = .returned (.bool r) ∧ Below w.heap.size w w' := by
  have HR1 := Aside0.mk hr1
  have HC1 := Aside0.mk hc1
  clear hr1 hc1
  have HB := Aside0.mk (Below.refl w.heap.size w)
  have H : ((bobbinlaw02_awake.f).bind fun t139 => (if t139 = true then (bobbinlaw02_FrameSeals.j0 k a0 l1 t139 (decide ((l1.length : Int) > 2000))) else (bobbinlaw02_FrameSeals.j0 k a0 l1 t139 true))) = some r := h
  clear h
  replace H := Option.bind_eq_some_iff.mp H
  obtain ⟨t139, A30, H⟩ := H
  replace H : (if t139 = true then (bobbinlaw02_FrameSeals.j0 k a0 l1 t139 (decide ((l1.length : Int) > 2000))) else (bobbinlaw02_FrameSeals.j0 k a0 l1 t139 true)) = some r := H
  have A3 := Aside0.mk A30
  clear A30
  have HC4 := Aside0.mk H
  clear H
  go_enter Try.func3, Try.ntmps3
  go_upto_region 2 with (first | ((with_reducible refine gate_callee (f := 10) rfl ?_); refine goesL_ (some 11) rfl rfl Try.func10 (by kernel_rfl) rfl #[] rfl (by (try simp only [List.map_toArray, List.map_cons, List.map_nil]); first | done | rfl | (simp only [List.length_drop, List.length_take]; rfl)) ?_; (with_reducible refine (bobbinlaw02_awake.calls  t139 _ A3.out).mono ?_); rintro e w5 ⟨rfl, hb⟩; refine ⟨_, rfl, ?_⟩; have n0_ := Aside0.mk (below_step (by repeat (first | (with_reducible first | exact HB.out | apply below_alloc | apply pw_below_drewN | apply below_drew1) | exact HB.out)) hb); clear HB; have HB := n0_; clear n0_; (try clear hb); (try clear hb2); (try clear hk); (try clear hi)))
  (try simp only [Act.put, List.setIfInBounds_toArray, List.set_cons_zero, List.set_cons_succ])
  go_cut [18] (fun v18 wc => ∃ (kq : Nat) (x18_3 : Bool), v18 = .bool x18_3 ∧ Aside0 (bobbinlaw02_FrameSeals.j0 kq a0 l1 t139 x18_3 = some r) ∧ Aside0 (kq ≤ k) ∧ Aside0 (Below w.heap.size w wc))
  case first =>
    have H := HC4.out
    clear HC4
    by_cases c6 : t139 = true
    · subst c6
      have H1 : (bobbinlaw02_FrameSeals.j0 k a0 l1 true (decide ((l1.length : Int) > 2000))) = some r := by rw [if_pos rfl] at H; exact H
      clear H
      have H := H1
      clear H1
      have H' := Aside0.mk H
      clear H
      go_wp2
      go_meet
      case rel => exact ⟨_, (decide ((l1.length : Int) > 2000)), (by first | rfl | (simp; done) | (simp [*]; done)), H', ⟨by first | omega | exact Nat.le_refl _⟩, ⟨by repeat (first | (with_reducible first | exact HB.out | apply below_alloc | apply pw_below_drewN | apply below_drew1) | exact HB.out)⟩⟩
    · replace c6 := Bool.eq_false_iff.mpr c6
      subst c6
      have H1 : (bobbinlaw02_FrameSeals.j0 k a0 l1 false true) = some r := by rw [if_neg (show ¬ (false = true) by decide)] at H; exact H
      clear H
      have H := H1
      clear H1
      have H' := Aside0.mk H
      clear H
      go_wp2
      go_meet
      case rel => exact ⟨_, (true), (by first | rfl | (simp; done) | (simp [*]; done)), H', ⟨by first | omega | exact Nat.le_refl _⟩, ⟨by repeat (first | (with_reducible first | exact HB.out | apply below_alloc | apply pw_below_drewN | apply below_drew1) | exact HB.out)⟩⟩
  case rest =>
    clear HC4
    try clear c1
    try clear p2
    try clear c3
    try clear c6
    obtain ⟨kq, x18_3, rfl, HA, HJ3, HB⟩ := hcut
    cases kq with
    | zero => exact absurd HA.out (by first | (intro h_; cases h_; done) | simp [bobbinlaw02_FrameSeals.j0])
    | succ kj3 =>
      have H := HA.out
      clear HA
      rw [bobbinlaw02_FrameSeals.j0_eq] at H
      by_cases c7 : x18_3 = true
      · subst c7
        have H1 : (some t139) = some r := by rw [if_pos rfl] at H; exact H
        clear H
        have H := H1
        clear H1
        obtain rfl := Option.some.inj H
        go_wp2
        go_ret
        exact ⟨by first | rfl | (simp [errW_none, errW_some] <;> rfl) | (simp [*, errW_none, errW_some] <;> rfl), by repeat (first | (with_reducible first | exact HB.out | apply below_alloc | apply pw_below_drewN | apply below_drew1) | exact HB.out)⟩
      · replace c7 := Bool.eq_false_iff.mpr c7
        subst c7
        have H1 : ((frame_Seal.f a0 l1).bind fun bt140 => ((bobbinref02_Seal.f kj3 a0 l1).bind fun bt144 => ((bobbinref01_Same.f kj3 bt140.1 bt144.1).bind fun t148 => (if t148 = true then (some (bt140.2 == bt144.2)) else (some false))))) = some r := by rw [if_neg (show ¬ (false = true) by decide)] at H; exact H
        clear H
        have H := H1
        clear H1
        replace H := Option.bind_eq_some_iff.mp H
        obtain ⟨⟨t140, t143⟩, A80, H⟩ := H
        replace H : ((bobbinref02_Seal.f kj3 a0 l1).bind fun bt144 => ((bobbinref01_Same.f kj3 t140 bt144.1).bind fun t148 => (if t148 = true then (some (t143 == bt144.2)) else (some false)))) = some r := H
        have A8 := Aside0.mk A80
        clear A80
        replace H := Option.bind_eq_some_iff.mp H
        obtain ⟨⟨t144, t145⟩, A90, H⟩ := H
        replace H : ((bobbinref01_Same.f kj3 t140 t144).bind fun t148 => (if t148 = true then (some (t143 == t145)) else (some false))) = some r := H
        have A9 := Aside0.mk A90
        clear A90
        replace H := Option.bind_eq_some_iff.mp H
        obtain ⟨t148, A100, H⟩ := H
        replace H : (if t148 = true then (some (t143 == t145)) else (some false)) = some r := H
        have A10 := Aside0.mk A100
        clear A100
        by_cases c11 : t148 = true
        · subst c11
          have H1 : (some (t143 == t145)) = some r := by rw [if_pos rfl] at H; exact H
          clear H
          have H := H1
          clear H1
          obtain rfl := Option.some.inj H
          go_wp2_with (first | ((with_reducible refine gate_callee (f := 11) rfl ?_); refine goesL_ (some 23) rfl rfl Try.func11 (by kernel_rfl) rfl #[.int .i64 a0, .slice A1 l1.length c1] rfl (by (try simp only [List.map_toArray, List.map_cons, List.map_nil]); first | done | rfl | (simp only [List.length_drop, List.length_take]; rfl)) ?_; (with_reducible refine (frame_Seal.calls a0 _ _ l1 t140 t143 _ ?side1 ?side2 A8.out).mono ?_); (case side1 => repeat (first | exact (Kd.C_below HR1.out HB.out) | (with_reducible refine Kd.C_alloc ?_ _) | (with_reducible refine Kd.C_drewN ?_ _) | (with_reducible refine Kd.C_drew ?_))); (case side2 => exact HC1.out); rintro e w12 ⟨v141, rfl, ho0, hb⟩; refine ⟨_, rfl, ?_⟩; have n0_ := Aside0.mk (Kd.V_lower (Kd.V_mono (ok' := fun k_ => True) ho0 (fun k_ hk_ => trivial)) (below_size (by repeat (first | (with_reducible first | exact HB.out | apply below_alloc | apply pw_below_drewN | apply below_drew1) | exact HB.out)))); have n1_ := Aside0.mk (below_step (by repeat (first | (with_reducible first | exact HB.out | apply below_alloc | apply pw_below_drewN | apply below_drew1) | exact HB.out)) hb); clear HB; have HO142 := n0_; have HB := n1_; clear n0_ n1_; (try clear hb); (try clear hb2); (try clear hk); (try clear hi); (try clear ho0)) | ((with_reducible refine gate_callee (f := 12) rfl ?_); refine goesL_ (some 29) rfl rfl Try.func12 (by kernel_rfl) rfl #[.int .i64 a0, .slice A1 l1.length c1] rfl (by (try simp only [List.map_toArray, List.map_cons, List.map_nil]); first | done | rfl | (simp only [List.length_drop, List.length_take]; rfl)) ?_; (with_reducible refine (bobbinref02_Seal.calls kj3 a0 _ _ l1 t144 t145 _ ?side1 ?side2 A9.out).mono ?_); (case side1 => repeat (first | exact (Kd.C_below HR1.out HB.out) | (with_reducible refine Kd.C_alloc ?_ _) | (with_reducible refine Kd.C_drewN ?_ _) | (with_reducible refine Kd.C_drew ?_))); (case side2 => exact HC1.out); rintro e w13 ⟨v146, rfl, ho0, hb⟩; refine ⟨_, rfl, ?_⟩; have n0_ := Aside0.mk (Kd.V_elder' (by (with_reducible repeat (first | apply Kd.V_alloc | apply Kd.V_drewN | apply Kd.V_drew)); exact HO142.out) (Kd.R_base ho0) hb); have n1_ := Aside0.mk (Kd.R_lower ho0 (below_size (by repeat (first | (with_reducible first | exact HB.out | apply below_alloc | apply pw_below_drewN | apply below_drew1) | exact HB.out)))); have n2_ := Aside0.mk (below_step (by repeat (first | (with_reducible first | exact HB.out | apply below_alloc | apply pw_below_drewN | apply below_drew1) | exact HB.out)) hb); clear HO142; clear HB; have HO142 := n0_; have HO147 := n1_; have HB := n2_; clear n0_ n1_ n2_; (try clear hb); (try clear hb2); (try clear hk); (try clear hi); (try clear ho0); obtain ⟨Ao14, co14, eo14⟩ := Kd.V_slice HO142.out; subst eo14; obtain ⟨Ao15, co15, eo15⟩ := Kd.R_slice HO147.out; subst eo15) | ((with_reducible refine gate_callee (f := 13) rfl ?_); refine goesL_ (some 34) rfl rfl Try.func13 (by kernel_rfl) rfl #[.slice Ao14 t140.length co14, .slice Ao15 t144.length co15] rfl (by (try simp only [List.map_toArray, List.map_cons, List.map_nil]); first | done | rfl | (simp only [List.length_drop, List.length_take]; rfl)) ?_; (with_reducible refine (bobbinref01_Same.calls kj3 _ _ t140 _ _ t144 true _ ?side1 ?side2 ?side3 ?side4 A10.out).mono ?_); (case side1 => repeat (first | exact (Kd.V_reads' HO142.out).2.2 | (with_reducible refine Kd.C_alloc ?_ _) | (with_reducible refine Kd.C_drewN ?_ _) | (with_reducible refine Kd.C_drew ?_))); (case side2 => exact (Kd.V_reads' HO142.out).2.1); (case side3 => repeat (first | exact (Kd.R_reads' HO147.out).2.2 | (with_reducible refine Kd.C_alloc ?_ _) | (with_reducible refine Kd.C_drewN ?_ _) | (with_reducible refine Kd.C_drew ?_))); (case side4 => exact (Kd.R_reads' HO147.out).2.1); rintro e w' ⟨rfl, ⟨nd, rfl⟩⟩; refine ⟨_, rfl, ?_⟩))
          go_ret
          exact ⟨by first | rfl | (simp [errW_none, errW_some] <;> rfl) | (simp [*, errW_none, errW_some] <;> rfl), by repeat (first | (with_reducible first | exact HB.out | apply below_alloc | apply pw_below_drewN | apply below_drew1) | exact HB.out)⟩
        · replace c11 := Bool.eq_false_iff.mpr c11
          subst c11
          have H1 : (some false) = some r := by rw [if_neg (show ¬ (false = true) by decide)] at H; exact H
          clear H
          have H := H1
          clear H1
          obtain rfl := Option.some.inj H
          go_wp2_with (first | ((with_reducible refine gate_callee (f := 11) rfl ?_); refine goesL_ (some 23) rfl rfl Try.func11 (by kernel_rfl) rfl #[.int .i64 a0, .slice A1 l1.length c1] rfl (by (try simp only [List.map_toArray, List.map_cons, List.map_nil]); first | done | rfl | (simp only [List.length_drop, List.length_take]; rfl)) ?_; (with_reducible refine (frame_Seal.calls a0 _ _ l1 t140 t143 _ ?side1 ?side2 A8.out).mono ?_); (case side1 => repeat (first | exact (Kd.C_below HR1.out HB.out) | (with_reducible refine Kd.C_alloc ?_ _) | (with_reducible refine Kd.C_drewN ?_ _) | (with_reducible refine Kd.C_drew ?_))); (case side2 => exact HC1.out); rintro e w16 ⟨v141, rfl, ho0, hb⟩; refine ⟨_, rfl, ?_⟩; have n0_ := Aside0.mk (Kd.V_lower (Kd.V_mono (ok' := fun k_ => True) ho0 (fun k_ hk_ => trivial)) (below_size (by repeat (first | (with_reducible first | exact HB.out | apply below_alloc | apply pw_below_drewN | apply below_drew1) | exact HB.out)))); have n1_ := Aside0.mk (below_step (by repeat (first | (with_reducible first | exact HB.out | apply below_alloc | apply pw_below_drewN | apply below_drew1) | exact HB.out)) hb); clear HB; have HO142 := n0_; have HB := n1_; clear n0_ n1_; (try clear hb); (try clear hb2); (try clear hk); (try clear hi); (try clear ho0)) | ((with_reducible refine gate_callee (f := 12) rfl ?_); refine goesL_ (some 29) rfl rfl Try.func12 (by kernel_rfl) rfl #[.int .i64 a0, .slice A1 l1.length c1] rfl (by (try simp only [List.map_toArray, List.map_cons, List.map_nil]); first | done | rfl | (simp only [List.length_drop, List.length_take]; rfl)) ?_; (with_reducible refine (bobbinref02_Seal.calls kj3 a0 _ _ l1 t144 t145 _ ?side1 ?side2 A9.out).mono ?_); (case side1 => repeat (first | exact (Kd.C_below HR1.out HB.out) | (with_reducible refine Kd.C_alloc ?_ _) | (with_reducible refine Kd.C_drewN ?_ _) | (with_reducible refine Kd.C_drew ?_))); (case side2 => exact HC1.out); rintro e w17 ⟨v146, rfl, ho0, hb⟩; refine ⟨_, rfl, ?_⟩; have n0_ := Aside0.mk (Kd.V_elder' (by (with_reducible repeat (first | apply Kd.V_alloc | apply Kd.V_drewN | apply Kd.V_drew)); exact HO142.out) (Kd.R_base ho0) hb); have n1_ := Aside0.mk (Kd.R_lower ho0 (below_size (by repeat (first | (with_reducible first | exact HB.out | apply below_alloc | apply pw_below_drewN | apply below_drew1) | exact HB.out)))); have n2_ := Aside0.mk (below_step (by repeat (first | (with_reducible first | exact HB.out | apply below_alloc | apply pw_below_drewN | apply below_drew1) | exact HB.out)) hb); clear HO142; clear HB; have HO142 := n0_; have HO147 := n1_; have HB := n2_; clear n0_ n1_ n2_; (try clear hb); (try clear hb2); (try clear hk); (try clear hi); (try clear ho0); obtain ⟨Ao18, co18, eo18⟩ := Kd.V_slice HO142.out; subst eo18; obtain ⟨Ao19, co19, eo19⟩ := Kd.R_slice HO147.out; subst eo19) | ((with_reducible refine gate_callee (f := 13) rfl ?_); refine goesL_ (some 34) rfl rfl Try.func13 (by kernel_rfl) rfl #[.slice Ao18 t140.length co18, .slice Ao19 t144.length co19] rfl (by (try simp only [List.map_toArray, List.map_cons, List.map_nil]); first | done | rfl | (simp only [List.length_drop, List.length_take]; rfl)) ?_; (with_reducible refine (bobbinref01_Same.calls kj3 _ _ t140 _ _ t144 false _ ?side1 ?side2 ?side3 ?side4 A10.out).mono ?_); (case side1 => repeat (first | exact (Kd.V_reads' HO142.out).2.2 | (with_reducible refine Kd.C_alloc ?_ _) | (with_reducible refine Kd.C_drewN ?_ _) | (with_reducible refine Kd.C_drew ?_))); (case side2 => exact (Kd.V_reads' HO142.out).2.1); (case side3 => repeat (first | exact (Kd.R_reads' HO147.out).2.2 | (with_reducible refine Kd.C_alloc ?_ _) | (with_reducible refine Kd.C_drewN ?_ _) | (with_reducible refine Kd.C_drew ?_))); (case side4 => exact (Kd.R_reads' HO147.out).2.1); rintro e w' ⟨rfl, ⟨nd, rfl⟩⟩; refine ⟨_, rfl, ?_⟩))
          go_ret
          exact ⟨by first | rfl | (simp [errW_none, errW_some] <;> rfl) | (simp [*, errW_none, errW_some] <;> rfl), by repeat (first | (with_reducible first | exact HB.out | apply below_alloc | apply pw_below_drewN | apply below_drew1) | exact HB.out)⟩

/-- THE ONE PURE STATEMENT of bobbinlaw02_FrameSeals: yours. -/
def bobbinlaw02_FrameSeals.Pure : Prop := ∀ (a0 : Int) (l1 : List Int), (Lit.int .i64 a0).wf = true → l1.length ≤ maxLen → l1.length * 1 ≤ 140737488351232 → (∀ x ∈ l1, (Lit.int .u8 x).wf = true) → ∃ k, bobbinlaw02_FrameSeals.f k a0 l1 = some true
theorem bobbinlaw02_FrameSeals.walk (P : bobbinlaw02_FrameSeals.Pure) (a0 : Int) (a1 : Option Addr) (len1 cap1 : Nat) (z1 : List Int) (w : World) (w0 : (Lit.int .i64 a0).wf = true) (w1 : (a1 = none ∧ len1 = 0 ∧ cap1 = 0 ∧ z1 = []) ∨ ∃ x, a1 = some x ∧ len1 ≤ cap1 ∧ cap1 ≤ maxLen ∧ z1.length = cap1 ∧ (∀ i, i < z1.length → w.cell? (x.add i) = some (.int .u8 (z1.getD i 0))) ∧ ∀ n ∈ z1, (Lit.int .u8 n).wf = true) (y1 : len1 * 1 ≤ 140737488351232) :
    Calls Try.prog 3 #[.int .i64 a0, .slice a1 len1 cap1] w fun e w' => e = .returned (.bool true) ∧ Below w.heap.size w w' := by
  obtain ⟨l1, rfl, hr1, hm1, hw1, hc1⟩ := ReadsInt.ofRowC w1
  obtain ⟨k, h⟩ := P a0 l1 w0 hm1 y1 hw1
  refine (bobbinlaw02_FrameSeals.calls k a0 _ _ l1 true w (Kd.C_of_reads (d := (0 : Int)) (h1 := fun _ => rfl) hr1) hc1 h).mono ?_
  rintro e w' ⟨rfl, hd⟩
  exact ⟨rfl, hd⟩

/-! ### bobbinlaw02_FrameStamps: function 4 -/
mutual
def bobbinlaw02_FrameStamps.j0 : Nat → Int → Int → List Int → Bool → Bool → Option (Bool)
  | 0, _, _, _, _, _ => none
  | k + 1, x0, x1, x2, x7, x38 => if x38 = true then (some x7) else ((frame_Seal.f x0 x2).bind fun bt150 => ((frame_Seal.f x1 x2).bind fun bt154 => (if bt150.2 = 0 then (if bt154.2 = 0 then (if (bt150.1.length : Int) = 256 then (bobbinlaw02_FrameStamps.j1 k x0 x1 bt150.1 bt154.1 ((bt154.1.length : Int) != 256)) else (bobbinlaw02_FrameStamps.j1 k x0 x1 bt150.1 bt154.1 true)) else (bobbinlaw02_FrameStamps.j1 k x0 x1 bt150.1 bt154.1 true)) else (bobbinlaw02_FrameStamps.j1 k x0 x1 bt150.1 bt154.1 true))))
def bobbinlaw02_FrameStamps.j1 : Nat → Int → Int → List Int → List Int → Bool → Option (Bool)
  | 0, _, _, _, _, _ => none
  | k + 1, x0, x1, x8, x10, x67 => if x67 = true then (some false) else (if 4 ≤ 252 then (if 252 ≤ (x8.length : Int) then (if 252 ≤ (x10.length : Int) then ((bobbinref01_Same.f k ((x8.take 252).drop 4) ((x10.take 252).drop 4)).bind fun t168 => ((bobbinref01_Same.f k x8 x10).bind fun t169 => (if 4 ≤ (x8.length : Int) then ((bobbinref01_Same.f k (x8.take 4) (x8.drop 252)).bind fun t180 => (if t168 = true then (if t180 = true then (some (t169 == (x0 == x1))) else (some false)) else (some false))) else (none)))) else (none)) else (none)) else (none))
end
theorem bobbinlaw02_FrameStamps.j0_eq : ∀ (k : Nat) x0 x1 x2 x7 x38, bobbinlaw02_FrameStamps.j0 (k + 1) x0 x1 x2 x7 x38 = (if x38 = true then (some x7) else ((frame_Seal.f x0 x2).bind fun bt150 => ((frame_Seal.f x1 x2).bind fun bt154 => (if bt150.2 = 0 then (if bt154.2 = 0 then (if (bt150.1.length : Int) = 256 then (bobbinlaw02_FrameStamps.j1 k x0 x1 bt150.1 bt154.1 ((bt154.1.length : Int) != 256)) else (bobbinlaw02_FrameStamps.j1 k x0 x1 bt150.1 bt154.1 true)) else (bobbinlaw02_FrameStamps.j1 k x0 x1 bt150.1 bt154.1 true)) else (bobbinlaw02_FrameStamps.j1 k x0 x1 bt150.1 bt154.1 true))))) := fun _ _ _ _ _ _ => rfl
theorem bobbinlaw02_FrameStamps.j1_eq : ∀ (k : Nat) x0 x1 x8 x10 x67, bobbinlaw02_FrameStamps.j1 (k + 1) x0 x1 x8 x10 x67 = (if x67 = true then (some false) else (if 4 ≤ 252 then (if 252 ≤ (x8.length : Int) then (if 252 ≤ (x10.length : Int) then ((bobbinref01_Same.f k ((x8.take 252).drop 4) ((x10.take 252).drop 4)).bind fun t168 => ((bobbinref01_Same.f k x8 x10).bind fun t169 => (if 4 ≤ (x8.length : Int) then ((bobbinref01_Same.f k (x8.take 4) (x8.drop 252)).bind fun t180 => (if t168 = true then (if t180 = true then (some (t169 == (x0 == x1))) else (some false)) else (some false))) else (none)))) else (none)) else (none)) else (none))) := fun _ _ _ _ _ _ => rfl
def bobbinlaw02_FrameStamps.f (k : Nat) (a0 : Int) (a1 : Int) (l2 : List Int) : Option (Bool) := (bobbinlaw02_awake.f).bind fun t149 => (if t149 = true then (if (l2.length : Int) > 248 then (bobbinlaw02_FrameStamps.j0 k a0 a1 l2 t149 true) else (if a0 < 0 then (bobbinlaw02_FrameStamps.j0 k a0 a1 l2 t149 true) else (if a1 < 0 then (bobbinlaw02_FrameStamps.j0 k a0 a1 l2 t149 true) else (if a0 > 4294967295 then (bobbinlaw02_FrameStamps.j0 k a0 a1 l2 t149 true) else (bobbinlaw02_FrameStamps.j0 k a0 a1 l2 t149 (decide (a1 > 4294967295))))))) else (bobbinlaw02_FrameStamps.j0 k a0 a1 l2 t149 true))
theorem bobbinlaw02_FrameStamps.mono_l : ∀ k, (∀ y0 y1 y2 y3 y4, LeO (bobbinlaw02_FrameStamps.j0 k y0 y1 y2 y3 y4) (bobbinlaw02_FrameStamps.j0 (k + 1) y0 y1 y2 y3 y4)) ∧ (∀ y0 y1 y2 y3 y4, LeO (bobbinlaw02_FrameStamps.j1 k y0 y1 y2 y3 y4) (bobbinlaw02_FrameStamps.j1 (k + 1) y0 y1 y2 y3 y4))
  | 0 => ⟨fun _ _ _ _ _ r h => by first | (cases h; done) | simp [bobbinlaw02_FrameStamps.j0] at h, fun _ _ _ _ _ r h => by first | (cases h; done) | simp [bobbinlaw02_FrameStamps.j1] at h⟩
  | k + 1 => by
    obtain ⟨ih0, ih1⟩ := bobbinlaw02_FrameStamps.mono_l k
    refine ⟨?_, ?_⟩
    · intro y0 y1 y2 y3 y4
      unfold bobbinlaw02_FrameStamps.j0
      repeat' first
      | (with_reducible exact ih0 _ _ _ _ _)
      | (with_reducible exact ih1 _ _ _ _ _)
      | (with_reducible exact bobbinref01_Same.mono _ _ _)
      | (with_reducible exact LeO.refl _)
      | (with_reducible exact LeO.none _)
      | (with_reducible refine LeO.ite ?_ ?_)
      | (with_reducible refine LeO.bind ?_ (fun _ => ?_))
      | exact ih0 _ _ _ _ _
      | exact ih1 _ _ _ _ _
      | exact bobbinref01_Same.mono _ _ _
      | exact LeO.none _
      | refine LeO.ite ?_ ?_
      | refine LeO.bind ?_ (fun _ => ?_)
    · intro y0 y1 y2 y3 y4
      unfold bobbinlaw02_FrameStamps.j1
      repeat' first
      | (with_reducible exact ih0 _ _ _ _ _)
      | (with_reducible exact ih1 _ _ _ _ _)
      | (with_reducible exact bobbinref01_Same.mono _ _ _)
      | (with_reducible exact LeO.refl _)
      | (with_reducible exact LeO.none _)
      | (with_reducible refine LeO.ite ?_ ?_)
      | (with_reducible refine LeO.bind ?_ (fun _ => ?_))
      | exact ih0 _ _ _ _ _
      | exact ih1 _ _ _ _ _
      | exact bobbinref01_Same.mono _ _ _
      | exact LeO.none _
      | refine LeO.ite ?_ ?_
      | refine LeO.bind ?_ (fun _ => ?_)
theorem bobbinlaw02_FrameStamps.mono : ∀ a0 a1 a2 k, LeO (bobbinlaw02_FrameStamps.f k a0 a1 a2) (bobbinlaw02_FrameStamps.f (k + 1) a0 a1 a2) := by
  intro a0 a1 a2 k
  obtain ⟨ih0, ih1⟩ := bobbinlaw02_FrameStamps.mono_l k
  unfold bobbinlaw02_FrameStamps.f
  repeat' first
      | (with_reducible exact ih0 _ _ _ _ _)
      | (with_reducible exact ih1 _ _ _ _ _)
      | (with_reducible exact bobbinref01_Same.mono _ _ _)
      | (with_reducible exact LeO.refl _)
      | (with_reducible exact LeO.none _)
      | (with_reducible refine LeO.ite ?_ ?_)
      | (with_reducible refine LeO.bind ?_ (fun _ => ?_))
      | exact ih0 _ _ _ _ _
      | exact ih1 _ _ _ _ _
      | exact bobbinref01_Same.mono _ _ _
      | exact LeO.none _
      | refine LeO.ite ?_ ?_
      | refine LeO.bind ?_ (fun _ => ?_)
set_option maxHeartbeats 8000000 in
set_option maxRecDepth 100000 in
theorem bobbinlaw02_FrameStamps.calls (k : Nat) (a0 : Int) (a1 : Int) (A2 : Option Addr) (c2 : Nat) (l2 : List Int) (r : Bool) (w : World) (hr2 : Kd.C (Kd.int .u8) w A2 l2.length l2) (hc2 : l2.length ≤ c2) (h : bobbinlaw02_FrameStamps.f k a0 a1 l2 = some r) :
    Calls Try.prog 4 #[.int .i64 a0, .int .i64 a1, .slice A2 l2.length c2] w fun e w' => e = .returned (.bool r) ∧ Below w.heap.size w w' := by
  have HR2 := Aside0.mk hr2
  have HC2 := Aside0.mk hc2
  clear hr2 hc2
  have HB := Aside0.mk (Below.refl w.heap.size w)
  have H : ((bobbinlaw02_awake.f).bind fun t149 => (if t149 = true then (if (l2.length : Int) > 248 then (bobbinlaw02_FrameStamps.j0 k a0 a1 l2 t149 true) else (if a0 < 0 then (bobbinlaw02_FrameStamps.j0 k a0 a1 l2 t149 true) else (if a1 < 0 then (bobbinlaw02_FrameStamps.j0 k a0 a1 l2 t149 true) else (if a0 > 4294967295 then (bobbinlaw02_FrameStamps.j0 k a0 a1 l2 t149 true) else (bobbinlaw02_FrameStamps.j0 k a0 a1 l2 t149 (decide (a1 > 4294967295))))))) else (bobbinlaw02_FrameStamps.j0 k a0 a1 l2 t149 true))) = some r := h
  clear h
  replace H := Option.bind_eq_some_iff.mp H
  obtain ⟨t149, A40, H⟩ := H
  replace H : (if t149 = true then (if (l2.length : Int) > 248 then (bobbinlaw02_FrameStamps.j0 k a0 a1 l2 t149 true) else (if a0 < 0 then (bobbinlaw02_FrameStamps.j0 k a0 a1 l2 t149 true) else (if a1 < 0 then (bobbinlaw02_FrameStamps.j0 k a0 a1 l2 t149 true) else (if a0 > 4294967295 then (bobbinlaw02_FrameStamps.j0 k a0 a1 l2 t149 true) else (bobbinlaw02_FrameStamps.j0 k a0 a1 l2 t149 (decide (a1 > 4294967295))))))) else (bobbinlaw02_FrameStamps.j0 k a0 a1 l2 t149 true)) = some r := H
  have A4 := Aside0.mk A40
  clear A40
  have HC5 := Aside0.mk H
  clear H
  go_enter Try.func4, Try.ntmps4
  go_upto_region 2 with (first | (go_at_call 10; (with_reducible refine (bobbinlaw02_awake.calls  t149 _ A4.out).mono ?_); rintro e w6 ⟨rfl, hb⟩; have n0_ := Aside0.mk (below_step (by repeat (first | (with_reducible first | exact HB.out | apply below_alloc | apply pw_below_drewN | apply below_drew1) | exact HB.out)) hb); clear HB; have HB := n0_; clear n0_; (try clear hb); (try clear hb2); (try clear hk); (try clear hi)))
  repeat (go_quiet (first | (go_at_call 10; (with_reducible refine (bobbinlaw02_awake.calls  t149 _ A4.out).mono ?_); rintro e w6 ⟨rfl, hb⟩; have n0_ := Aside0.mk (below_step (by repeat (first | (with_reducible first | exact HB.out | apply below_alloc | apply pw_below_drewN | apply below_drew1) | exact HB.out)) hb); clear HB; have HB := n0_; clear n0_; (try clear hb); (try clear hb2); (try clear hk); (try clear hi))); go_upto_region 2 with (first | (go_at_call 10; (with_reducible refine (bobbinlaw02_awake.calls  t149 _ A4.out).mono ?_); rintro e w6 ⟨rfl, hb⟩; have n0_ := Aside0.mk (below_step (by repeat (first | (with_reducible first | exact HB.out | apply below_alloc | apply pw_below_drewN | apply below_drew1) | exact HB.out)) hb); clear HB; have HB := n0_; clear n0_; (try clear hb); (try clear hb2); (try clear hk); (try clear hi))))
  (try simp only [Act.put, List.setIfInBounds_toArray, List.set_cons_zero, List.set_cons_succ])
  go_cut [38] (fun v38 wc => ∃ (kq : Nat) (x38_4 : Bool), v38 = .bool x38_4 ∧ Aside0 (bobbinlaw02_FrameStamps.j0 kq a0 a1 l2 t149 x38_4 = some r) ∧ Aside0 (kq ≤ k) ∧ Aside0 (Below w.heap.size w wc))
  case first =>
    have H := HC5.out
    clear HC5
    by_cases c7 : t149 = true
    · subst c7
      have H1 : (if (l2.length : Int) > 248 then (bobbinlaw02_FrameStamps.j0 k a0 a1 l2 true true) else (if a0 < 0 then (bobbinlaw02_FrameStamps.j0 k a0 a1 l2 true true) else (if a1 < 0 then (bobbinlaw02_FrameStamps.j0 k a0 a1 l2 true true) else (if a0 > 4294967295 then (bobbinlaw02_FrameStamps.j0 k a0 a1 l2 true true) else (bobbinlaw02_FrameStamps.j0 k a0 a1 l2 true (decide (a1 > 4294967295))))))) = some r := by rw [if_pos rfl] at H; exact H
      clear H
      have H := H1
      clear H1
      by_cases c8 : (l2.length : Int) > 248
      · rw [if_pos c8] at H
        have c8b0 : decide (248 < (l2.length : Int)) = true := decide_eq_true c8
        have c8b1 : decide (248 < l2.length) = true := decide_eq_true (by omega)
        clear c8
        (first | rw [c8b0] | (simp only [i64_w, i32_w]; rw [c8b0]) | skip)
        have H' := Aside0.mk H
        clear H
        go_wp2
        repeat (go_quiet (fail); try go_wp2)
        go_meet
        case rel => exact ⟨_, (true), (by first | rfl | (simp; done) | (simp [*]; done)), H', ⟨by first | omega | exact Nat.le_refl _⟩, ⟨by repeat (first | (with_reducible first | exact HB.out | apply below_alloc | apply pw_below_drewN | apply below_drew1) | exact HB.out)⟩⟩
      · rw [if_neg c8] at H
        have c8b0 : decide (248 < (l2.length : Int)) = false := decide_eq_false c8
        have c8b1 : decide (248 < l2.length) = false := decide_eq_false (by omega)
        clear c8
        (first | rw [c8b0] | (simp only [i64_w, i32_w]; rw [c8b0]) | skip)
        by_cases c9 : a0 < 0
        · rw [if_pos c9] at H
          have c9b0 : decide (a0 < 0) = true := decide_eq_true c9
          clear c9
          have H' := Aside0.mk H
          clear H
          go_wp2
          repeat (go_quiet (fail); try go_wp2)
          go_meet
          case rel => exact ⟨_, (true), (by first | rfl | (simp; done) | (simp [*]; done)), H', ⟨by first | omega | exact Nat.le_refl _⟩, ⟨by repeat (first | (with_reducible first | exact HB.out | apply below_alloc | apply pw_below_drewN | apply below_drew1) | exact HB.out)⟩⟩
        · rw [if_neg c9] at H
          have c9b0 : decide (a0 < 0) = false := decide_eq_false c9
          clear c9
          by_cases c10 : a1 < 0
          · rw [if_pos c10] at H
            have c10b0 : decide (a1 < 0) = true := decide_eq_true c10
            clear c10
            have H' := Aside0.mk H
            clear H
            go_wp2
            repeat (go_quiet (fail); try go_wp2)
            go_meet
            case rel => exact ⟨_, (true), (by first | rfl | (simp; done) | (simp [*]; done)), H', ⟨by first | omega | exact Nat.le_refl _⟩, ⟨by repeat (first | (with_reducible first | exact HB.out | apply below_alloc | apply pw_below_drewN | apply below_drew1) | exact HB.out)⟩⟩
          · rw [if_neg c10] at H
            have c10b0 : decide (a1 < 0) = false := decide_eq_false c10
            clear c10
            by_cases c11 : a0 > 4294967295
            · rw [if_pos c11] at H
              have c11b0 : decide (4294967295 < a0) = true := decide_eq_true c11
              clear c11
              have H' := Aside0.mk H
              clear H
              go_wp2
              repeat (go_quiet (fail); try go_wp2)
              go_meet
              case rel => exact ⟨_, (true), (by first | rfl | (simp; done) | (simp [*]; done)), H', ⟨by first | omega | exact Nat.le_refl _⟩, ⟨by repeat (first | (with_reducible first | exact HB.out | apply below_alloc | apply pw_below_drewN | apply below_drew1) | exact HB.out)⟩⟩
            · rw [if_neg c11] at H
              have c11b0 : decide (4294967295 < a0) = false := decide_eq_false c11
              clear c11
              have H' := Aside0.mk H
              clear H
              go_wp2
              repeat (go_quiet (fail); try go_wp2)
              go_meet
              case rel => exact ⟨_, (decide (a1 > 4294967295)), (by first | rfl | (simp; done) | (simp [*]; done)), H', ⟨by first | omega | exact Nat.le_refl _⟩, ⟨by repeat (first | (with_reducible first | exact HB.out | apply below_alloc | apply pw_below_drewN | apply below_drew1) | exact HB.out)⟩⟩
    · replace c7 := Bool.eq_false_iff.mpr c7
      subst c7
      have H1 : (bobbinlaw02_FrameStamps.j0 k a0 a1 l2 false true) = some r := by rw [if_neg (show ¬ (false = true) by decide)] at H; exact H
      clear H
      have H := H1
      clear H1
      have H' := Aside0.mk H
      clear H
      go_wp2
      repeat (go_quiet (fail); try go_wp2)
      go_meet
      case rel => exact ⟨_, (true), (by first | rfl | (simp; done) | (simp [*]; done)), H', ⟨by first | omega | exact Nat.le_refl _⟩, ⟨by repeat (first | (with_reducible first | exact HB.out | apply below_alloc | apply pw_below_drewN | apply below_drew1) | exact HB.out)⟩⟩
  case rest =>
    clear HC5
    try clear c1
    try clear c2
    try clear p2
    try clear c4
    try clear c7
    try clear c8
    try clear c8b0
    try clear c8b1
    try clear c9
    try clear c9b0
    try clear c10
    try clear c10b0
    try clear c11
    try clear c11b0
    obtain ⟨kq, x38_4, rfl, HA, HJ4, HB⟩ := hcut
    cases kq with
    | zero => exact absurd HA.out (by first | (intro h_; cases h_; done) | simp [bobbinlaw02_FrameStamps.j0])
    | succ kj4 =>
      have H := HA.out
      clear HA
      rw [bobbinlaw02_FrameStamps.j0_eq] at H
      by_cases c12 : x38_4 = true
      · subst c12
        have H1 : (some t149) = some r := by rw [if_pos rfl] at H; exact H
        clear H
        have H := H1
        clear H1
        obtain rfl := Option.some.inj H
        go_wp2
        repeat (go_quiet (fail); try go_wp2)
        go_ret
        exact ⟨by first | rfl | (simp [errW_none, errW_some] <;> rfl) | (simp [*, errW_none, errW_some] <;> rfl), by repeat (first | (with_reducible first | exact HB.out | apply below_alloc | apply pw_below_drewN | apply below_drew1) | exact HB.out)⟩
      · replace c12 := Bool.eq_false_iff.mpr c12
        subst c12
        have H1 : ((frame_Seal.f a0 l2).bind fun bt150 => ((frame_Seal.f a1 l2).bind fun bt154 => (if bt150.2 = 0 then (if bt154.2 = 0 then (if (bt150.1.length : Int) = 256 then (bobbinlaw02_FrameStamps.j1 kj4 a0 a1 bt150.1 bt154.1 ((bt154.1.length : Int) != 256)) else (bobbinlaw02_FrameStamps.j1 kj4 a0 a1 bt150.1 bt154.1 true)) else (bobbinlaw02_FrameStamps.j1 kj4 a0 a1 bt150.1 bt154.1 true)) else (bobbinlaw02_FrameStamps.j1 kj4 a0 a1 bt150.1 bt154.1 true)))) = some r := by rw [if_neg (show ¬ (false = true) by decide)] at H; exact H
        clear H
        have H := H1
        clear H1
        replace H := Option.bind_eq_some_iff.mp H
        obtain ⟨⟨t150, t153⟩, A130, H⟩ := H
        replace H : ((frame_Seal.f a1 l2).bind fun bt154 => (if t153 = 0 then (if bt154.2 = 0 then (if (t150.length : Int) = 256 then (bobbinlaw02_FrameStamps.j1 kj4 a0 a1 t150 bt154.1 ((bt154.1.length : Int) != 256)) else (bobbinlaw02_FrameStamps.j1 kj4 a0 a1 t150 bt154.1 true)) else (bobbinlaw02_FrameStamps.j1 kj4 a0 a1 t150 bt154.1 true)) else (bobbinlaw02_FrameStamps.j1 kj4 a0 a1 t150 bt154.1 true))) = some r := H
        have A13 := Aside0.mk A130
        clear A130
        replace H := Option.bind_eq_some_iff.mp H
        obtain ⟨⟨t154, t157⟩, A140, H⟩ := H
        replace H : (if t153 = 0 then (if t157 = 0 then (if (t150.length : Int) = 256 then (bobbinlaw02_FrameStamps.j1 kj4 a0 a1 t150 t154 ((t154.length : Int) != 256)) else (bobbinlaw02_FrameStamps.j1 kj4 a0 a1 t150 t154 true)) else (bobbinlaw02_FrameStamps.j1 kj4 a0 a1 t150 t154 true)) else (bobbinlaw02_FrameStamps.j1 kj4 a0 a1 t150 t154 true)) = some r := H
        have A14 := Aside0.mk A140
        clear A140
        have HC15 := Aside0.mk H
        clear H
        go_upto_region 6 with (first | (go_at_call 11; (with_reducible refine (frame_Seal.calls a0 _ _ l2 t150 t153 _ ?side1 ?side2 A13.out).mono ?_); (case side1 => repeat (first | exact (Kd.C_below HR2.out HB.out) | (with_reducible refine Kd.C_alloc ?_ _) | (with_reducible refine Kd.C_drewN ?_ _) | (with_reducible refine Kd.C_drew ?_))); (case side2 => exact HC2.out); rintro e w16 ⟨v151, rfl, ho0, hb⟩; have n0_ := Aside0.mk (Kd.V_lower (Kd.V_mono (ok' := fun k_ => True) ho0 (fun k_ hk_ => trivial)) (below_size (by repeat (first | (with_reducible first | exact HB.out | apply below_alloc | apply pw_below_drewN | apply below_drew1) | exact HB.out)))); have n1_ := Aside0.mk (below_step (by repeat (first | (with_reducible first | exact HB.out | apply below_alloc | apply pw_below_drewN | apply below_drew1) | exact HB.out)) hb); clear HB; have HO152 := n0_; have HB := n1_; clear n0_ n1_; (try clear hb); (try clear hb2); (try clear hk); (try clear hi); (try clear ho0)) | (go_at_call 11; (with_reducible refine (frame_Seal.calls a1 _ _ l2 t154 t157 _ ?side1 ?side2 A14.out).mono ?_); (case side1 => repeat (first | exact (Kd.C_below HR2.out HB.out) | (with_reducible refine Kd.C_alloc ?_ _) | (with_reducible refine Kd.C_drewN ?_ _) | (with_reducible refine Kd.C_drew ?_))); (case side2 => exact HC2.out); rintro e w17 ⟨v155, rfl, ho0, hb⟩; have n0_ := Aside0.mk (Kd.V_below (by (with_reducible repeat (first | apply Kd.V_alloc | apply Kd.V_drewN | apply Kd.V_drew)); exact HO152.out) hb); have n1_ := Aside0.mk (Kd.V_lower (Kd.V_mono (ok' := fun k_ => True) ho0 (fun k_ hk_ => trivial)) (below_size (by repeat (first | (with_reducible first | exact HB.out | apply below_alloc | apply pw_below_drewN | apply below_drew1) | exact HB.out)))); have n2_ := Aside0.mk (below_step (by repeat (first | (with_reducible first | exact HB.out | apply below_alloc | apply pw_below_drewN | apply below_drew1) | exact HB.out)) hb); clear HO152; clear HB; have HO152 := n0_; have HO156 := n1_; have HB := n2_; clear n0_ n1_ n2_; (try clear hb); (try clear hb2); (try clear hk); (try clear hi); (try clear ho0)))
        repeat (go_quiet (first | (go_at_call 11; (with_reducible refine (frame_Seal.calls a0 _ _ l2 t150 t153 _ ?side1 ?side2 A13.out).mono ?_); (case side1 => repeat (first | exact (Kd.C_below HR2.out HB.out) | (with_reducible refine Kd.C_alloc ?_ _) | (with_reducible refine Kd.C_drewN ?_ _) | (with_reducible refine Kd.C_drew ?_))); (case side2 => exact HC2.out); rintro e w16 ⟨v151, rfl, ho0, hb⟩; have n0_ := Aside0.mk (Kd.V_lower (Kd.V_mono (ok' := fun k_ => True) ho0 (fun k_ hk_ => trivial)) (below_size (by repeat (first | (with_reducible first | exact HB.out | apply below_alloc | apply pw_below_drewN | apply below_drew1) | exact HB.out)))); have n1_ := Aside0.mk (below_step (by repeat (first | (with_reducible first | exact HB.out | apply below_alloc | apply pw_below_drewN | apply below_drew1) | exact HB.out)) hb); clear HB; have HO152 := n0_; have HB := n1_; clear n0_ n1_; (try clear hb); (try clear hb2); (try clear hk); (try clear hi); (try clear ho0)) | (go_at_call 11; (with_reducible refine (frame_Seal.calls a1 _ _ l2 t154 t157 _ ?side1 ?side2 A14.out).mono ?_); (case side1 => repeat (first | exact (Kd.C_below HR2.out HB.out) | (with_reducible refine Kd.C_alloc ?_ _) | (with_reducible refine Kd.C_drewN ?_ _) | (with_reducible refine Kd.C_drew ?_))); (case side2 => exact HC2.out); rintro e w17 ⟨v155, rfl, ho0, hb⟩; have n0_ := Aside0.mk (Kd.V_below (by (with_reducible repeat (first | apply Kd.V_alloc | apply Kd.V_drewN | apply Kd.V_drew)); exact HO152.out) hb); have n1_ := Aside0.mk (Kd.V_lower (Kd.V_mono (ok' := fun k_ => True) ho0 (fun k_ hk_ => trivial)) (below_size (by repeat (first | (with_reducible first | exact HB.out | apply below_alloc | apply pw_below_drewN | apply below_drew1) | exact HB.out)))); have n2_ := Aside0.mk (below_step (by repeat (first | (with_reducible first | exact HB.out | apply below_alloc | apply pw_below_drewN | apply below_drew1) | exact HB.out)) hb); clear HO152; clear HB; have HO152 := n0_; have HO156 := n1_; have HB := n2_; clear n0_ n1_ n2_; (try clear hb); (try clear hb2); (try clear hk); (try clear hi); (try clear ho0))); go_upto_region 6 with (first | (go_at_call 11; (with_reducible refine (frame_Seal.calls a0 _ _ l2 t150 t153 _ ?side1 ?side2 A13.out).mono ?_); (case side1 => repeat (first | exact (Kd.C_below HR2.out HB.out) | (with_reducible refine Kd.C_alloc ?_ _) | (with_reducible refine Kd.C_drewN ?_ _) | (with_reducible refine Kd.C_drew ?_))); (case side2 => exact HC2.out); rintro e w16 ⟨v151, rfl, ho0, hb⟩; have n0_ := Aside0.mk (Kd.V_lower (Kd.V_mono (ok' := fun k_ => True) ho0 (fun k_ hk_ => trivial)) (below_size (by repeat (first | (with_reducible first | exact HB.out | apply below_alloc | apply pw_below_drewN | apply below_drew1) | exact HB.out)))); have n1_ := Aside0.mk (below_step (by repeat (first | (with_reducible first | exact HB.out | apply below_alloc | apply pw_below_drewN | apply below_drew1) | exact HB.out)) hb); clear HB; have HO152 := n0_; have HB := n1_; clear n0_ n1_; (try clear hb); (try clear hb2); (try clear hk); (try clear hi); (try clear ho0)) | (go_at_call 11; (with_reducible refine (frame_Seal.calls a1 _ _ l2 t154 t157 _ ?side1 ?side2 A14.out).mono ?_); (case side1 => repeat (first | exact (Kd.C_below HR2.out HB.out) | (with_reducible refine Kd.C_alloc ?_ _) | (with_reducible refine Kd.C_drewN ?_ _) | (with_reducible refine Kd.C_drew ?_))); (case side2 => exact HC2.out); rintro e w17 ⟨v155, rfl, ho0, hb⟩; have n0_ := Aside0.mk (Kd.V_below (by (with_reducible repeat (first | apply Kd.V_alloc | apply Kd.V_drewN | apply Kd.V_drew)); exact HO152.out) hb); have n1_ := Aside0.mk (Kd.V_lower (Kd.V_mono (ok' := fun k_ => True) ho0 (fun k_ hk_ => trivial)) (below_size (by repeat (first | (with_reducible first | exact HB.out | apply below_alloc | apply pw_below_drewN | apply below_drew1) | exact HB.out)))); have n2_ := Aside0.mk (below_step (by repeat (first | (with_reducible first | exact HB.out | apply below_alloc | apply pw_below_drewN | apply below_drew1) | exact HB.out)) hb); clear HO152; clear HB; have HO152 := n0_; have HO156 := n1_; have HB := n2_; clear n0_ n1_ n2_; (try clear hb); (try clear hb2); (try clear hk); (try clear hi); (try clear ho0))))
        (try simp only [Act.put, List.setIfInBounds_toArray, List.set_cons_zero, List.set_cons_succ])
        go_cut [67] (fun v67 wc => ∃ (kq : Nat) (x67_14 : Bool), v67 = .bool x67_14 ∧ Aside0 (bobbinlaw02_FrameStamps.j1 kq a0 a1 t150 t154 x67_14 = some r) ∧ Aside0 (kq ≤ kj4) ∧ Aside0 (Kd.V (Kd.int .u8) 5 wc w.heap.size (fun _ => True) v151 t150) ∧ Aside0 (Kd.V (Kd.int .u8) 5 wc w.heap.size (fun _ => True) v155 t154) ∧ Aside0 (Below w.heap.size w wc))
        case first =>
          have H := HC15.out
          clear HC15
          by_cases c18 : t153 = 0
          · rw [if_pos c18] at H
            have c18b0 : (t153 == 0) = true := beq_iff_eq.mpr c18
            have c18b1 : (t153 != 0) = false := bne_eq_false_iff_eq.mpr c18
            clear c18
            (first | rw [c18b0] | (simp only [i64_w, i32_w]; rw [c18b0]) | skip)
            by_cases c19 : t157 = 0
            · rw [if_pos c19] at H
              have c19b0 : (t157 == 0) = true := beq_iff_eq.mpr c19
              have c19b1 : (t157 != 0) = false := bne_eq_false_iff_eq.mpr c19
              clear c19
              by_cases c20 : (t150.length : Int) = 256
              · rw [if_pos c20] at H
                have c20b0 : ((t150.length : Int) == 256) = true := beq_iff_eq.mpr c20
                have c20b1 : ((t150.length : Int) != 256) = false := bne_eq_false_iff_eq.mpr c20
                clear c20
                have H' := Aside0.mk H
                clear H
                obtain ⟨Ao21, co21, eo21⟩ := Kd.V_slice HO152.out
                subst eo21
                obtain ⟨Ao22, co22, eo22⟩ := Kd.V_slice HO156.out
                subst eo22
                go_wp2
                repeat (go_quiet (fail); try go_wp2)
                go_meet
                case rel => exact ⟨_, (((t154.length : Int) != 256)), (by first | rfl | (simp; done) | (simp [*]; done)), H', ⟨by have := HJ4.out; first | omega | exact Nat.le_refl _⟩, ⟨by (with_reducible repeat (first | apply Kd.V_alloc | apply Kd.V_drewN | apply Kd.V_drew)); exact HO152.out⟩, ⟨by (with_reducible repeat (first | apply Kd.V_alloc | apply Kd.V_drewN | apply Kd.V_drew)); exact HO156.out⟩, ⟨by repeat (first | (with_reducible first | exact HB.out | apply below_alloc | apply pw_below_drewN | apply below_drew1) | exact HB.out)⟩⟩
              · rw [if_neg c20] at H
                have c20b0 : ((t150.length : Int) == 256) = false := beq_eq_false_iff_ne.mpr c20
                have c20b1 : ((t150.length : Int) != 256) = true := bne_iff_ne.mpr c20
                have H' := Aside0.mk H
                clear H
                obtain ⟨Ao23, co23, eo23⟩ := Kd.V_slice HO152.out
                subst eo23
                go_wp2
                repeat (go_quiet (fail); try go_wp2)
                go_meet
                case rel => exact ⟨_, (true), (by first | rfl | (simp; done) | (simp [*]; done)), H', ⟨by have := HJ4.out; first | omega | exact Nat.le_refl _⟩, ⟨by (with_reducible repeat (first | apply Kd.V_alloc | apply Kd.V_drewN | apply Kd.V_drew)); exact HO152.out⟩, ⟨by (with_reducible repeat (first | apply Kd.V_alloc | apply Kd.V_drewN | apply Kd.V_drew)); exact HO156.out⟩, ⟨by repeat (first | (with_reducible first | exact HB.out | apply below_alloc | apply pw_below_drewN | apply below_drew1) | exact HB.out)⟩⟩
            · rw [if_neg c19] at H
              have c19b0 : (t157 == 0) = false := beq_eq_false_iff_ne.mpr c19
              have c19b1 : (t157 != 0) = true := bne_iff_ne.mpr c19
              have H' := Aside0.mk H
              clear H
              go_wp2
              repeat (go_quiet (fail); try go_wp2)
              go_meet
              case rel => exact ⟨_, (true), (by first | rfl | (simp; done) | (simp [*]; done)), H', ⟨by have := HJ4.out; first | omega | exact Nat.le_refl _⟩, ⟨by (with_reducible repeat (first | apply Kd.V_alloc | apply Kd.V_drewN | apply Kd.V_drew)); exact HO152.out⟩, ⟨by (with_reducible repeat (first | apply Kd.V_alloc | apply Kd.V_drewN | apply Kd.V_drew)); exact HO156.out⟩, ⟨by repeat (first | (with_reducible first | exact HB.out | apply below_alloc | apply pw_below_drewN | apply below_drew1) | exact HB.out)⟩⟩
          · rw [if_neg c18] at H
            have c18b0 : (t153 == 0) = false := beq_eq_false_iff_ne.mpr c18
            have c18b1 : (t153 != 0) = true := bne_iff_ne.mpr c18
            (first | rw [c18b0] | (simp only [i64_w, i32_w]; rw [c18b0]) | skip)
            have H' := Aside0.mk H
            clear H
            go_wp2
            repeat (go_quiet (fail); try go_wp2)
            go_meet
            case rel => exact ⟨_, (true), (by first | rfl | (simp; done) | (simp [*]; done)), H', ⟨by have := HJ4.out; first | omega | exact Nat.le_refl _⟩, ⟨by (with_reducible repeat (first | apply Kd.V_alloc | apply Kd.V_drewN | apply Kd.V_drew)); exact HO152.out⟩, ⟨by (with_reducible repeat (first | apply Kd.V_alloc | apply Kd.V_drewN | apply Kd.V_drew)); exact HO156.out⟩, ⟨by repeat (first | (with_reducible first | exact HB.out | apply below_alloc | apply pw_below_drewN | apply below_drew1) | exact HB.out)⟩⟩
        case rest =>
          clear HC15
          try clear c1
          try clear c2
          try clear p2
          try clear c4
          try clear c7
          try clear c8
          try clear c8b0
          try clear c8b1
          try clear c9
          try clear c9b0
          try clear c10
          try clear c10b0
          try clear c11
          try clear c11b0
          try clear c12
          try clear c18
          try clear c18b0
          try clear c18b1
          try clear c19
          try clear c19b0
          try clear c19b1
          try clear c20
          try clear c20b0
          try clear c20b1
          try clear p2
          obtain ⟨kq, x67_14, rfl, HA, HJ14, HO_8, HO_10, HB⟩ := hcut
          cases kq with
          | zero => exact absurd HA.out (by first | (intro h_; cases h_; done) | simp [bobbinlaw02_FrameStamps.j1])
          | succ kj14 =>
            have H := HA.out
            clear HA
            rw [bobbinlaw02_FrameStamps.j1_eq] at H
            by_cases c24 : x67_14 = true
            · subst c24
              have H1 : (some false) = some r := by rw [if_pos rfl] at H; exact H
              clear H
              have H := H1
              clear H1
              obtain rfl := Option.some.inj H
              go_wp2
              repeat (go_quiet (fail); try go_wp2)
              go_ret
              exact ⟨by first | rfl | (simp [errW_none, errW_some] <;> rfl) | (simp [*, errW_none, errW_some] <;> rfl), by repeat (first | (with_reducible first | exact HB.out | apply below_alloc | apply pw_below_drewN | apply below_drew1) | exact HB.out)⟩
            · replace c24 := Bool.eq_false_iff.mpr c24
              subst c24
              have H1 : (if 4 ≤ 252 then (if 252 ≤ (t150.length : Int) then (if 252 ≤ (t154.length : Int) then ((bobbinref01_Same.f kj14 ((t150.take 252).drop 4) ((t154.take 252).drop 4)).bind fun t168 => ((bobbinref01_Same.f kj14 t150 t154).bind fun t169 => (if 4 ≤ (t150.length : Int) then ((bobbinref01_Same.f kj14 (t150.take 4) (t150.drop 252)).bind fun t180 => (if t168 = true then (if t180 = true then (some (t169 == (a0 == a1))) else (some false)) else (some false))) else (none)))) else (none)) else (none)) else (none)) = some r := by rw [if_neg (show ¬ (false = true) by decide)] at H; exact H
              clear H
              have H := H1
              clear H1
              by_cases c25 : 4 ≤ 252
              · rw [if_pos c25] at H
                have c25b0 := eq_true c25
                have c25b1 : decide (4 ≤ 252) = true := decide_eq_true c25
                clear c25
                by_cases c26 : 252 ≤ (t150.length : Int)
                · rw [if_pos c26] at H
                  have c26b0 := eq_true c26
                  have c26b1 : decide (252 ≤ (t150.length : Int)) = true := decide_eq_true c26
                  clear c26
                  obtain ⟨y158, hy158⟩ : ∃ y_ : List Int, y_ = ((t150.take 252).drop 4) := ⟨_, rfl⟩
                  replace H : (if 252 ≤ (t154.length : Int) then ((bobbinref01_Same.f kj14 y158 ((t154.take 252).drop 4)).bind fun t168 => ((bobbinref01_Same.f kj14 t150 t154).bind fun t169 => (if 4 ≤ (t150.length : Int) then ((bobbinref01_Same.f kj14 (t150.take 4) (t150.drop 252)).bind fun t180 => (if t168 = true then (if t180 = true then (some (t169 == (a0 == a1))) else (some false)) else (some false))) else (none)))) else (none)) = some r := by first | (rw [hy158]; with_reducible exact H) | (have H2_ := (Option.bind_some _ _).symm.trans H; rw [hy158]; with_reducible exact H2_) | (have H2_ := (Option.bind_some _ _).symm.trans H; with_reducible exact H2_) | with_reducible exact H | (rw [hy158]; exact H) | exact H
                  have Ny158 := Aside0.mk hy158
                  clear hy158
                  have c27b0 := eq_true (of_decide_eq_true (by first | (with_reducible assumption) | assumption) : 4 ≤ 252)
                  by_cases c28 : 252 ≤ (t154.length : Int)
                  · rw [if_pos c28] at H
                    have c28b0 := eq_true c28
                    have c28b1 : decide (252 ≤ (t154.length : Int)) = true := decide_eq_true c28
                    clear c28
                    obtain ⟨y163, hy163⟩ : ∃ y_ : List Int, y_ = ((t154.take 252).drop 4) := ⟨_, rfl⟩
                    replace H : ((bobbinref01_Same.f kj14 y158 y163).bind fun t168 => ((bobbinref01_Same.f kj14 t150 t154).bind fun t169 => (if 4 ≤ (t150.length : Int) then ((bobbinref01_Same.f kj14 (t150.take 4) (t150.drop 252)).bind fun t180 => (if t168 = true then (if t180 = true then (some (t169 == (a0 == a1))) else (some false)) else (some false))) else (none)))) = some r := by first | (rw [hy163]; with_reducible exact H) | (have H2_ := (Option.bind_some _ _).symm.trans H; rw [hy163]; with_reducible exact H2_) | (have H2_ := (Option.bind_some _ _).symm.trans H; with_reducible exact H2_) | with_reducible exact H | (rw [hy163]; exact H) | exact H
                    have Ny163 := Aside0.mk hy163
                    clear hy163
                    replace H := Option.bind_eq_some_iff.mp H
                    obtain ⟨t168, A290, H⟩ := H
                    replace H : ((bobbinref01_Same.f kj14 t150 t154).bind fun t169 => (if 4 ≤ (t150.length : Int) then ((bobbinref01_Same.f kj14 (t150.take 4) (t150.drop 252)).bind fun t180 => (if t168 = true then (if t180 = true then (some (t169 == (a0 == a1))) else (some false)) else (some false))) else (none))) = some r := H
                    have A29 := Aside0.mk A290
                    clear A290
                    replace H := Option.bind_eq_some_iff.mp H
                    obtain ⟨t169, A300, H⟩ := H
                    replace H : (if 4 ≤ (t150.length : Int) then ((bobbinref01_Same.f kj14 (t150.take 4) (t150.drop 252)).bind fun t180 => (if t168 = true then (if t180 = true then (some (t169 == (a0 == a1))) else (some false)) else (some false))) else (none)) = some r := H
                    have A30 := Aside0.mk A300
                    clear A300
                    by_cases c31 : 4 ≤ (t150.length : Int)
                    · rw [if_pos c31] at H
                      have c31b0 := eq_true c31
                      have c31b1 : decide (4 ≤ (t150.length : Int)) = true := decide_eq_true c31
                      clear c31
                      obtain ⟨y170, hy170⟩ : ∃ y_ : List Int, y_ = (t150.take 4) := ⟨_, rfl⟩
                      replace H : ((bobbinref01_Same.f kj14 y170 (t150.drop 252)).bind fun t180 => (if t168 = true then (if t180 = true then (some (t169 == (a0 == a1))) else (some false)) else (some false))) = some r := by first | (rw [hy170]; with_reducible exact H) | (have H2_ := (Option.bind_some _ _).symm.trans H; rw [hy170]; with_reducible exact H2_) | (have H2_ := (Option.bind_some _ _).symm.trans H; with_reducible exact H2_) | with_reducible exact H | (rw [hy170]; exact H) | exact H
                      have Ny170 := Aside0.mk hy170
                      clear hy170
                      have c32b0 := eq_true (of_decide_eq_true (by first | (with_reducible assumption) | assumption) : 252 ≤ (t150.length : Int))
                      obtain ⟨y175, hy175⟩ : ∃ y_ : List Int, y_ = (t150.drop 252) := ⟨_, rfl⟩
                      replace H : ((bobbinref01_Same.f kj14 y170 y175).bind fun t180 => (if t168 = true then (if t180 = true then (some (t169 == (a0 == a1))) else (some false)) else (some false))) = some r := by first | (rw [hy175]; with_reducible exact H) | (have H2_ := (Option.bind_some _ _).symm.trans H; rw [hy175]; with_reducible exact H2_) | (have H2_ := (Option.bind_some _ _).symm.trans H; with_reducible exact H2_) | with_reducible exact H | (rw [hy175]; exact H) | exact H
                      have Ny175 := Aside0.mk hy175
                      clear hy175
                      replace H := Option.bind_eq_some_iff.mp H
                      obtain ⟨t180, A330, H⟩ := H
                      replace H : (if t168 = true then (if t180 = true then (some (t169 == (a0 == a1))) else (some false)) else (some false)) = some r := H
                      have A33 := Aside0.mk A330
                      clear A330
                      by_cases c34 : t168 = true
                      · subst c34
                        have H1 : (if t180 = true then (some (t169 == (a0 == a1))) else (some false)) = some r := by rw [if_pos rfl] at H; exact H
                        clear H
                        have H := H1
                        clear H1
                        by_cases c35 : t180 = true
                        · subst c35
                          have H1 : (some (t169 == (a0 == a1))) = some r := by rw [if_pos rfl] at H; exact H
                          clear H
                          have H := H1
                          clear H1
                          obtain rfl := Option.some.inj H
                          obtain ⟨Ao37, co37, eo37⟩ := Kd.V_slice HO_8.out
                          subst eo37
                          have q36 : (252 : Int) ≤ ((t150.length : Int) : Int) := of_decide_eq_true (by first | (with_reducible assumption) | assumption)
                          obtain ⟨i036, hi036, _, hsz36, _⟩ := info_parts info5
                          have hroom36 : t150.length ≤ co37 := (Kd.V_reads' HO_8.out).2.1
                          have hC36 : Kd.F (Kd.int .u8) _ _ Ao37 t150.length t150 := (Kd.V_at (base := w.heap.size) HO_8.out).2.2
                          have ql36 : (4 : Int) ≤ (252 : Int) := (by omega)
                          have hcut36 := cut_mid (P := Try.prog) 22 5 .i64 .i64 Try.underlying22 hi036 1 hsz36 Ao37 t150.length co37 4 252 (by omega) ql36 q36 hroom36
                          have hr36 := Kd.F_mid (lo := (4 : Int).toNat) (hi := (252 : Int).toNat) (c := co37) hC36 (by omega) (by omega) hroom36
                          obtain ⟨A36, hA36⟩ : ∃ A1, A1 = (if co37 = (4 : Int).toNat then Ao37 else (Ao37 : Option Addr).map (·.add ((4 : Int).toNat * 1))) := ⟨_, rfl⟩
                          obtain ⟨c36, hc36⟩ : ∃ c1, c1 = co37 - (4 : Int).toNat := ⟨_, rfl⟩
                          have hy36 : y158.length = (252 : Int).toNat - (4 : Int).toNat := (by rw [Ny158.out, List.length_drop, List.length_take] <;> omega)
                          rw [show ((t150).take (252 : Int).toNat).drop (4 : Int).toNat = y158 from Ny158.out.symm] at hr36
                          replace hr36 : Kd.F (Kd.int .u8) _ _ A36 y158.length y158 := (by rw [hA36]; exact hr36)
                          rw [← hy36, ← hA36, ← hc36] at hcut36
                          have HO162 := Aside0.mk (show Kd.V (Kd.int .u8) 5 _ w.heap.size _ (.slice A36 y158.length c36) y158 from Kd.V_mk (by rw [hy36, hc36]; exact Nat.sub_le_sub_right (Nat.le_trans (by omega) hroom36) _) hr36)
                          have HC162 := Aside0.mk (show y158.length ≤ c36 from by rw [hy36, hc36]; exact Nat.sub_le_sub_right (Nat.le_trans (by omega) hroom36) _)
                          clear hr36 hC36 hroom36 hi036 hsz36 hc36
                          have KY36 := Aside0.mk hy36
                          have KA36 := Aside0.mk hA36
                          clear hy36 hA36
                          replace q36 := eq_true q36
                          obtain ⟨Ao39, co39, eo39⟩ := Kd.V_slice HO_10.out
                          subst eo39
                          have q38 : (252 : Int) ≤ ((t154.length : Int) : Int) := of_decide_eq_true (by first | (with_reducible assumption) | assumption)
                          obtain ⟨i038, hi038, _, hsz38, _⟩ := info_parts info5
                          have hroom38 : t154.length ≤ co39 := (Kd.V_reads' HO_10.out).2.1
                          have hC38 : Kd.F (Kd.int .u8) _ _ Ao39 t154.length t154 := (Kd.V_at (base := w.heap.size) HO_10.out).2.2
                          have ql38 : (4 : Int) ≤ (252 : Int) := (by omega)
                          have hcut38 := cut_mid (P := Try.prog) 22 5 .i64 .i64 Try.underlying22 hi038 1 hsz38 Ao39 t154.length co39 4 252 (by omega) ql38 q38 hroom38
                          have hr38 := Kd.F_mid (lo := (4 : Int).toNat) (hi := (252 : Int).toNat) (c := co39) hC38 (by omega) (by omega) hroom38
                          obtain ⟨A38, hA38⟩ : ∃ A1, A1 = (if co39 = (4 : Int).toNat then Ao39 else (Ao39 : Option Addr).map (·.add ((4 : Int).toNat * 1))) := ⟨_, rfl⟩
                          obtain ⟨c38, hc38⟩ : ∃ c1, c1 = co39 - (4 : Int).toNat := ⟨_, rfl⟩
                          have hy38 : y163.length = (252 : Int).toNat - (4 : Int).toNat := (by rw [Ny163.out, List.length_drop, List.length_take] <;> omega)
                          rw [show ((t154).take (252 : Int).toNat).drop (4 : Int).toNat = y163 from Ny163.out.symm] at hr38
                          replace hr38 : Kd.F (Kd.int .u8) _ _ A38 y163.length y163 := (by rw [hA38]; exact hr38)
                          rw [← hy38, ← hA38, ← hc38] at hcut38
                          have HO167 := Aside0.mk (show Kd.V (Kd.int .u8) 5 _ w.heap.size _ (.slice A38 y163.length c38) y163 from Kd.V_mk (by rw [hy38, hc38]; exact Nat.sub_le_sub_right (Nat.le_trans (by omega) hroom38) _) hr38)
                          have HC167 := Aside0.mk (show y163.length ≤ c38 from by rw [hy38, hc38]; exact Nat.sub_le_sub_right (Nat.le_trans (by omega) hroom38) _)
                          clear hr38 hC38 hroom38 hi038 hsz38 hc38
                          have KY38 := Aside0.mk hy38
                          have KA38 := Aside0.mk hA38
                          clear hy38 hA38
                          replace q38 := eq_true q38
                          go_wp2_with (first | (go_at_call 13; (with_reducible refine (bobbinref01_Same.calls kj14 _ _ y158 _ _ y163 true _ ?side1 ?side2 ?side3 ?side4 A29.out).mono ?_); (case side1 => repeat (first | exact (Kd.V_reads' HO162.out).2.2 | (with_reducible refine Kd.C_alloc ?_ _) | (with_reducible refine Kd.C_drewN ?_ _) | (with_reducible refine Kd.C_drew ?_))); (case side2 => exact (Kd.V_reads' HO162.out).2.1); (case side3 => repeat (first | exact (Kd.V_reads' HO167.out).2.2 | (with_reducible refine Kd.C_alloc ?_ _) | (with_reducible refine Kd.C_drewN ?_ _) | (with_reducible refine Kd.C_drew ?_))); (case side4 => exact (Kd.V_reads' HO167.out).2.1); rintro e w' ⟨rfl, ⟨nd, rfl⟩⟩; (try first | exact ⟨rfl, _, World.drewN_drewN _ _ _⟩ | exact ⟨rfl, _, Eq.trans (World.drewN_drewN _ _ _) (congrArg (World.drewN _) (Nat.add_assoc _ _ _))⟩)) | (go_at_call 13; (with_reducible refine (bobbinref01_Same.calls kj14 _ _ t150 _ _ t154 t169 _ ?side1 ?side2 ?side3 ?side4 A30.out).mono ?_); (case side1 => repeat (first | exact (Kd.V_reads' HO_8.out).2.2 | (with_reducible refine Kd.C_alloc ?_ _) | (with_reducible refine Kd.C_drewN ?_ _) | (with_reducible refine Kd.C_drew ?_))); (case side2 => exact (Kd.V_reads' HO_8.out).2.1); (case side3 => repeat (first | exact (Kd.V_reads' HO_10.out).2.2 | (with_reducible refine Kd.C_alloc ?_ _) | (with_reducible refine Kd.C_drewN ?_ _) | (with_reducible refine Kd.C_drew ?_))); (case side4 => exact (Kd.V_reads' HO_10.out).2.1); rintro e w' ⟨rfl, ⟨nd, rfl⟩⟩; (try first | exact ⟨rfl, _, World.drewN_drewN _ _ _⟩ | exact ⟨rfl, _, Eq.trans (World.drewN_drewN _ _ _) (congrArg (World.drewN _) (Nat.add_assoc _ _ _))⟩); have q40 : (4 : Int) ≤ ((t150.length : Int) : Int) := of_decide_eq_true (by first | (with_reducible assumption) | assumption); obtain ⟨i040, hi040, _, hsz40, _⟩ := info_parts info5; have hroom40 : t150.length ≤ co37 := (Kd.V_reads' HO_8.out).2.1; have hC40 : Kd.F (Kd.int .u8) _ _ Ao37 t150.length t150 := (Kd.V_at (base := w.heap.size) HO_8.out).2.2; have hcut40 := cut_to (P := Try.prog) 22 5 .i64 Try.underlying22 hi040 Ao37 t150.length co37 4 (by omega) q40 hroom40; have hr40 := Kd.F_take (m := 4) hC40 (by omega); have hy40 : y170.length = (4 : Int).toNat := (by rw [Ny170.out, List.length_take]; omega); rw [← Ny170.out] at hr40; rw [← hy40] at hcut40; have HO174 := Aside0.mk (show Kd.V (Kd.int .u8) 5 _ w.heap.size _ (.slice Ao37 y170.length co37) y170 from Kd.V_mk (by omega) hr40); have HC174 := Aside0.mk (show y170.length ≤ co37 from by omega); clear hr40 hC40 hroom40 hi040 hsz40; have KY40 := Aside0.mk hy40; clear hy40; replace q40 := eq_true q40; have q41 : (252 : Int) ≤ ((t150.length : Int) : Int) := of_decide_eq_true (by first | (with_reducible assumption) | assumption); obtain ⟨i041, hi041, _, hsz41, _⟩ := info_parts info5; have hroom41 : t150.length ≤ co37 := (Kd.V_reads' HO_8.out).2.1; have hC41 : Kd.F (Kd.int .u8) _ _ Ao37 t150.length t150 := (Kd.V_at (base := w.heap.size) HO_8.out).2.2; have hcut41 := cut_from (P := Try.prog) 22 5 .i64 Try.underlying22 hi041 1 hsz41 Ao37 t150.length co37 252 (by omega) q41; have hr41 := Kd.F_cut (m := (252 : Int).toNat) (c := co37) hC41 (by omega) hroom41; obtain ⟨A41, hA41⟩ : ∃ A1, A1 = (if co37 = (252 : Int).toNat then Ao37 else (Ao37 : Option Addr).map (·.add ((252 : Int).toNat * 1))) := ⟨_, rfl⟩; obtain ⟨c41, hc41⟩ : ∃ c1, c1 = co37 - (252 : Int).toNat := ⟨_, rfl⟩; have hy41 : y175.length = t150.length - (252 : Int).toNat := (by rw [Ny175.out, List.length_drop] <;> omega); rw [show (t150).drop (252 : Int).toNat = y175 from Ny175.out.symm] at hr41; replace hr41 : Kd.F (Kd.int .u8) _ _ A41 y175.length y175 := (by rw [hA41]; exact hr41); rw [← hy41, ← hA41, ← hc41] at hcut41; have HO179 := Aside0.mk (show Kd.V (Kd.int .u8) 5 _ w.heap.size _ (.slice A41 y175.length c41) y175 from Kd.V_mk (by rw [hy41, hc41]; exact Nat.sub_le_sub_right hroom41 _) hr41); have HC179 := Aside0.mk (show y175.length ≤ c41 from by rw [hy41, hc41]; exact Nat.sub_le_sub_right hroom41 _); clear hr41 hC41 hroom41 hi041 hsz41 hc41; have KY41 := Aside0.mk hy41; have KA41 := Aside0.mk hA41; clear hy41 hA41; replace q41 := eq_true q41) | (go_at_call 13; (with_reducible refine (bobbinref01_Same.calls kj14 _ _ y170 _ _ y175 true _ ?side1 ?side2 ?side3 ?side4 A33.out).mono ?_); (case side1 => repeat (first | exact (Kd.V_reads' HO174.out).2.2 | (with_reducible refine Kd.C_alloc ?_ _) | (with_reducible refine Kd.C_drewN ?_ _) | (with_reducible refine Kd.C_drew ?_))); (case side2 => exact (Kd.V_reads' HO174.out).2.1); (case side3 => repeat (first | exact (Kd.V_reads' HO179.out).2.2 | (with_reducible refine Kd.C_alloc ?_ _) | (with_reducible refine Kd.C_drewN ?_ _) | (with_reducible refine Kd.C_drew ?_))); (case side4 => exact (Kd.V_reads' HO179.out).2.1); rintro e w' ⟨rfl, ⟨nd, rfl⟩⟩; (try first | exact ⟨rfl, _, World.drewN_drewN _ _ _⟩ | exact ⟨rfl, _, Eq.trans (World.drewN_drewN _ _ _) (congrArg (World.drewN _) (Nat.add_assoc _ _ _))⟩)))
                          repeat (go_quiet (first | (go_at_call 13; (with_reducible refine (bobbinref01_Same.calls kj14 _ _ y158 _ _ y163 true _ ?side1 ?side2 ?side3 ?side4 A29.out).mono ?_); (case side1 => repeat (first | exact (Kd.V_reads' HO162.out).2.2 | (with_reducible refine Kd.C_alloc ?_ _) | (with_reducible refine Kd.C_drewN ?_ _) | (with_reducible refine Kd.C_drew ?_))); (case side2 => exact (Kd.V_reads' HO162.out).2.1); (case side3 => repeat (first | exact (Kd.V_reads' HO167.out).2.2 | (with_reducible refine Kd.C_alloc ?_ _) | (with_reducible refine Kd.C_drewN ?_ _) | (with_reducible refine Kd.C_drew ?_))); (case side4 => exact (Kd.V_reads' HO167.out).2.1); rintro e w' ⟨rfl, ⟨nd, rfl⟩⟩; (try first | exact ⟨rfl, _, World.drewN_drewN _ _ _⟩ | exact ⟨rfl, _, Eq.trans (World.drewN_drewN _ _ _) (congrArg (World.drewN _) (Nat.add_assoc _ _ _))⟩)) | (go_at_call 13; (with_reducible refine (bobbinref01_Same.calls kj14 _ _ t150 _ _ t154 t169 _ ?side1 ?side2 ?side3 ?side4 A30.out).mono ?_); (case side1 => repeat (first | exact (Kd.V_reads' HO_8.out).2.2 | (with_reducible refine Kd.C_alloc ?_ _) | (with_reducible refine Kd.C_drewN ?_ _) | (with_reducible refine Kd.C_drew ?_))); (case side2 => exact (Kd.V_reads' HO_8.out).2.1); (case side3 => repeat (first | exact (Kd.V_reads' HO_10.out).2.2 | (with_reducible refine Kd.C_alloc ?_ _) | (with_reducible refine Kd.C_drewN ?_ _) | (with_reducible refine Kd.C_drew ?_))); (case side4 => exact (Kd.V_reads' HO_10.out).2.1); rintro e w' ⟨rfl, ⟨nd, rfl⟩⟩; (try first | exact ⟨rfl, _, World.drewN_drewN _ _ _⟩ | exact ⟨rfl, _, Eq.trans (World.drewN_drewN _ _ _) (congrArg (World.drewN _) (Nat.add_assoc _ _ _))⟩); have q40 : (4 : Int) ≤ ((t150.length : Int) : Int) := of_decide_eq_true (by first | (with_reducible assumption) | assumption); obtain ⟨i040, hi040, _, hsz40, _⟩ := info_parts info5; have hroom40 : t150.length ≤ co37 := (Kd.V_reads' HO_8.out).2.1; have hC40 : Kd.F (Kd.int .u8) _ _ Ao37 t150.length t150 := (Kd.V_at (base := w.heap.size) HO_8.out).2.2; have hcut40 := cut_to (P := Try.prog) 22 5 .i64 Try.underlying22 hi040 Ao37 t150.length co37 4 (by omega) q40 hroom40; have hr40 := Kd.F_take (m := 4) hC40 (by omega); have hy40 : y170.length = (4 : Int).toNat := (by rw [Ny170.out, List.length_take]; omega); rw [← Ny170.out] at hr40; rw [← hy40] at hcut40; have HO174 := Aside0.mk (show Kd.V (Kd.int .u8) 5 _ w.heap.size _ (.slice Ao37 y170.length co37) y170 from Kd.V_mk (by omega) hr40); have HC174 := Aside0.mk (show y170.length ≤ co37 from by omega); clear hr40 hC40 hroom40 hi040 hsz40; have KY40 := Aside0.mk hy40; clear hy40; replace q40 := eq_true q40; have q41 : (252 : Int) ≤ ((t150.length : Int) : Int) := of_decide_eq_true (by first | (with_reducible assumption) | assumption); obtain ⟨i041, hi041, _, hsz41, _⟩ := info_parts info5; have hroom41 : t150.length ≤ co37 := (Kd.V_reads' HO_8.out).2.1; have hC41 : Kd.F (Kd.int .u8) _ _ Ao37 t150.length t150 := (Kd.V_at (base := w.heap.size) HO_8.out).2.2; have hcut41 := cut_from (P := Try.prog) 22 5 .i64 Try.underlying22 hi041 1 hsz41 Ao37 t150.length co37 252 (by omega) q41; have hr41 := Kd.F_cut (m := (252 : Int).toNat) (c := co37) hC41 (by omega) hroom41; obtain ⟨A41, hA41⟩ : ∃ A1, A1 = (if co37 = (252 : Int).toNat then Ao37 else (Ao37 : Option Addr).map (·.add ((252 : Int).toNat * 1))) := ⟨_, rfl⟩; obtain ⟨c41, hc41⟩ : ∃ c1, c1 = co37 - (252 : Int).toNat := ⟨_, rfl⟩; have hy41 : y175.length = t150.length - (252 : Int).toNat := (by rw [Ny175.out, List.length_drop] <;> omega); rw [show (t150).drop (252 : Int).toNat = y175 from Ny175.out.symm] at hr41; replace hr41 : Kd.F (Kd.int .u8) _ _ A41 y175.length y175 := (by rw [hA41]; exact hr41); rw [← hy41, ← hA41, ← hc41] at hcut41; have HO179 := Aside0.mk (show Kd.V (Kd.int .u8) 5 _ w.heap.size _ (.slice A41 y175.length c41) y175 from Kd.V_mk (by rw [hy41, hc41]; exact Nat.sub_le_sub_right hroom41 _) hr41); have HC179 := Aside0.mk (show y175.length ≤ c41 from by rw [hy41, hc41]; exact Nat.sub_le_sub_right hroom41 _); clear hr41 hC41 hroom41 hi041 hsz41 hc41; have KY41 := Aside0.mk hy41; have KA41 := Aside0.mk hA41; clear hy41 hA41; replace q41 := eq_true q41) | (go_at_call 13; (with_reducible refine (bobbinref01_Same.calls kj14 _ _ y170 _ _ y175 true _ ?side1 ?side2 ?side3 ?side4 A33.out).mono ?_); (case side1 => repeat (first | exact (Kd.V_reads' HO174.out).2.2 | (with_reducible refine Kd.C_alloc ?_ _) | (with_reducible refine Kd.C_drewN ?_ _) | (with_reducible refine Kd.C_drew ?_))); (case side2 => exact (Kd.V_reads' HO174.out).2.1); (case side3 => repeat (first | exact (Kd.V_reads' HO179.out).2.2 | (with_reducible refine Kd.C_alloc ?_ _) | (with_reducible refine Kd.C_drewN ?_ _) | (with_reducible refine Kd.C_drew ?_))); (case side4 => exact (Kd.V_reads' HO179.out).2.1); rintro e w' ⟨rfl, ⟨nd, rfl⟩⟩; (try first | exact ⟨rfl, _, World.drewN_drewN _ _ _⟩ | exact ⟨rfl, _, Eq.trans (World.drewN_drewN _ _ _) (congrArg (World.drewN _) (Nat.add_assoc _ _ _))⟩))); try go_wp2_with (first | (go_at_call 13; (with_reducible refine (bobbinref01_Same.calls kj14 _ _ y158 _ _ y163 true _ ?side1 ?side2 ?side3 ?side4 A29.out).mono ?_); (case side1 => repeat (first | exact (Kd.V_reads' HO162.out).2.2 | (with_reducible refine Kd.C_alloc ?_ _) | (with_reducible refine Kd.C_drewN ?_ _) | (with_reducible refine Kd.C_drew ?_))); (case side2 => exact (Kd.V_reads' HO162.out).2.1); (case side3 => repeat (first | exact (Kd.V_reads' HO167.out).2.2 | (with_reducible refine Kd.C_alloc ?_ _) | (with_reducible refine Kd.C_drewN ?_ _) | (with_reducible refine Kd.C_drew ?_))); (case side4 => exact (Kd.V_reads' HO167.out).2.1); rintro e w' ⟨rfl, ⟨nd, rfl⟩⟩; (try first | exact ⟨rfl, _, World.drewN_drewN _ _ _⟩ | exact ⟨rfl, _, Eq.trans (World.drewN_drewN _ _ _) (congrArg (World.drewN _) (Nat.add_assoc _ _ _))⟩)) | (go_at_call 13; (with_reducible refine (bobbinref01_Same.calls kj14 _ _ t150 _ _ t154 t169 _ ?side1 ?side2 ?side3 ?side4 A30.out).mono ?_); (case side1 => repeat (first | exact (Kd.V_reads' HO_8.out).2.2 | (with_reducible refine Kd.C_alloc ?_ _) | (with_reducible refine Kd.C_drewN ?_ _) | (with_reducible refine Kd.C_drew ?_))); (case side2 => exact (Kd.V_reads' HO_8.out).2.1); (case side3 => repeat (first | exact (Kd.V_reads' HO_10.out).2.2 | (with_reducible refine Kd.C_alloc ?_ _) | (with_reducible refine Kd.C_drewN ?_ _) | (with_reducible refine Kd.C_drew ?_))); (case side4 => exact (Kd.V_reads' HO_10.out).2.1); rintro e w' ⟨rfl, ⟨nd, rfl⟩⟩; (try first | exact ⟨rfl, _, World.drewN_drewN _ _ _⟩ | exact ⟨rfl, _, Eq.trans (World.drewN_drewN _ _ _) (congrArg (World.drewN _) (Nat.add_assoc _ _ _))⟩); have q40 : (4 : Int) ≤ ((t150.length : Int) : Int) := of_decide_eq_true (by first | (with_reducible assumption) | assumption); obtain ⟨i040, hi040, _, hsz40, _⟩ := info_parts info5; have hroom40 : t150.length ≤ co37 := (Kd.V_reads' HO_8.out).2.1; have hC40 : Kd.F (Kd.int .u8) _ _ Ao37 t150.length t150 := (Kd.V_at (base := w.heap.size) HO_8.out).2.2; have hcut40 := cut_to (P := Try.prog) 22 5 .i64 Try.underlying22 hi040 Ao37 t150.length co37 4 (by omega) q40 hroom40; have hr40 := Kd.F_take (m := 4) hC40 (by omega); have hy40 : y170.length = (4 : Int).toNat := (by rw [Ny170.out, List.length_take]; omega); rw [← Ny170.out] at hr40; rw [← hy40] at hcut40; have HO174 := Aside0.mk (show Kd.V (Kd.int .u8) 5 _ w.heap.size _ (.slice Ao37 y170.length co37) y170 from Kd.V_mk (by omega) hr40); have HC174 := Aside0.mk (show y170.length ≤ co37 from by omega); clear hr40 hC40 hroom40 hi040 hsz40; have KY40 := Aside0.mk hy40; clear hy40; replace q40 := eq_true q40; have q41 : (252 : Int) ≤ ((t150.length : Int) : Int) := of_decide_eq_true (by first | (with_reducible assumption) | assumption); obtain ⟨i041, hi041, _, hsz41, _⟩ := info_parts info5; have hroom41 : t150.length ≤ co37 := (Kd.V_reads' HO_8.out).2.1; have hC41 : Kd.F (Kd.int .u8) _ _ Ao37 t150.length t150 := (Kd.V_at (base := w.heap.size) HO_8.out).2.2; have hcut41 := cut_from (P := Try.prog) 22 5 .i64 Try.underlying22 hi041 1 hsz41 Ao37 t150.length co37 252 (by omega) q41; have hr41 := Kd.F_cut (m := (252 : Int).toNat) (c := co37) hC41 (by omega) hroom41; obtain ⟨A41, hA41⟩ : ∃ A1, A1 = (if co37 = (252 : Int).toNat then Ao37 else (Ao37 : Option Addr).map (·.add ((252 : Int).toNat * 1))) := ⟨_, rfl⟩; obtain ⟨c41, hc41⟩ : ∃ c1, c1 = co37 - (252 : Int).toNat := ⟨_, rfl⟩; have hy41 : y175.length = t150.length - (252 : Int).toNat := (by rw [Ny175.out, List.length_drop] <;> omega); rw [show (t150).drop (252 : Int).toNat = y175 from Ny175.out.symm] at hr41; replace hr41 : Kd.F (Kd.int .u8) _ _ A41 y175.length y175 := (by rw [hA41]; exact hr41); rw [← hy41, ← hA41, ← hc41] at hcut41; have HO179 := Aside0.mk (show Kd.V (Kd.int .u8) 5 _ w.heap.size _ (.slice A41 y175.length c41) y175 from Kd.V_mk (by rw [hy41, hc41]; exact Nat.sub_le_sub_right hroom41 _) hr41); have HC179 := Aside0.mk (show y175.length ≤ c41 from by rw [hy41, hc41]; exact Nat.sub_le_sub_right hroom41 _); clear hr41 hC41 hroom41 hi041 hsz41 hc41; have KY41 := Aside0.mk hy41; have KA41 := Aside0.mk hA41; clear hy41 hA41; replace q41 := eq_true q41) | (go_at_call 13; (with_reducible refine (bobbinref01_Same.calls kj14 _ _ y170 _ _ y175 true _ ?side1 ?side2 ?side3 ?side4 A33.out).mono ?_); (case side1 => repeat (first | exact (Kd.V_reads' HO174.out).2.2 | (with_reducible refine Kd.C_alloc ?_ _) | (with_reducible refine Kd.C_drewN ?_ _) | (with_reducible refine Kd.C_drew ?_))); (case side2 => exact (Kd.V_reads' HO174.out).2.1); (case side3 => repeat (first | exact (Kd.V_reads' HO179.out).2.2 | (with_reducible refine Kd.C_alloc ?_ _) | (with_reducible refine Kd.C_drewN ?_ _) | (with_reducible refine Kd.C_drew ?_))); (case side4 => exact (Kd.V_reads' HO179.out).2.1); rintro e w' ⟨rfl, ⟨nd, rfl⟩⟩; (try first | exact ⟨rfl, _, World.drewN_drewN _ _ _⟩ | exact ⟨rfl, _, Eq.trans (World.drewN_drewN _ _ _) (congrArg (World.drewN _) (Nat.add_assoc _ _ _))⟩))))
                          go_ret
                          exact ⟨by first | rfl | (simp [errW_none, errW_some] <;> rfl) | (simp [*, errW_none, errW_some] <;> rfl), by repeat (first | (with_reducible first | exact HB.out | apply below_alloc | apply pw_below_drewN | apply below_drew1) | exact HB.out)⟩
                        · replace c35 := Bool.eq_false_iff.mpr c35
                          subst c35
                          have H1 : (some false) = some r := by rw [if_neg (show ¬ (false = true) by decide)] at H; exact H
                          clear H
                          have H := H1
                          clear H1
                          obtain rfl := Option.some.inj H
                          obtain ⟨Ao43, co43, eo43⟩ := Kd.V_slice HO_8.out
                          subst eo43
                          have q42 : (252 : Int) ≤ ((t150.length : Int) : Int) := of_decide_eq_true (by first | (with_reducible assumption) | assumption)
                          obtain ⟨i042, hi042, _, hsz42, _⟩ := info_parts info5
                          have hroom42 : t150.length ≤ co43 := (Kd.V_reads' HO_8.out).2.1
                          have hC42 : Kd.F (Kd.int .u8) _ _ Ao43 t150.length t150 := (Kd.V_at (base := w.heap.size) HO_8.out).2.2
                          have ql42 : (4 : Int) ≤ (252 : Int) := (by omega)
                          have hcut42 := cut_mid (P := Try.prog) 22 5 .i64 .i64 Try.underlying22 hi042 1 hsz42 Ao43 t150.length co43 4 252 (by omega) ql42 q42 hroom42
                          have hr42 := Kd.F_mid (lo := (4 : Int).toNat) (hi := (252 : Int).toNat) (c := co43) hC42 (by omega) (by omega) hroom42
                          obtain ⟨A42, hA42⟩ : ∃ A1, A1 = (if co43 = (4 : Int).toNat then Ao43 else (Ao43 : Option Addr).map (·.add ((4 : Int).toNat * 1))) := ⟨_, rfl⟩
                          obtain ⟨c42, hc42⟩ : ∃ c1, c1 = co43 - (4 : Int).toNat := ⟨_, rfl⟩
                          have hy42 : y158.length = (252 : Int).toNat - (4 : Int).toNat := (by rw [Ny158.out, List.length_drop, List.length_take] <;> omega)
                          rw [show ((t150).take (252 : Int).toNat).drop (4 : Int).toNat = y158 from Ny158.out.symm] at hr42
                          replace hr42 : Kd.F (Kd.int .u8) _ _ A42 y158.length y158 := (by rw [hA42]; exact hr42)
                          rw [← hy42, ← hA42, ← hc42] at hcut42
                          have HO162 := Aside0.mk (show Kd.V (Kd.int .u8) 5 _ w.heap.size _ (.slice A42 y158.length c42) y158 from Kd.V_mk (by rw [hy42, hc42]; exact Nat.sub_le_sub_right (Nat.le_trans (by omega) hroom42) _) hr42)
                          have HC162 := Aside0.mk (show y158.length ≤ c42 from by rw [hy42, hc42]; exact Nat.sub_le_sub_right (Nat.le_trans (by omega) hroom42) _)
                          clear hr42 hC42 hroom42 hi042 hsz42 hc42
                          have KY42 := Aside0.mk hy42
                          have KA42 := Aside0.mk hA42
                          clear hy42 hA42
                          replace q42 := eq_true q42
                          obtain ⟨Ao45, co45, eo45⟩ := Kd.V_slice HO_10.out
                          subst eo45
                          have q44 : (252 : Int) ≤ ((t154.length : Int) : Int) := of_decide_eq_true (by first | (with_reducible assumption) | assumption)
                          obtain ⟨i044, hi044, _, hsz44, _⟩ := info_parts info5
                          have hroom44 : t154.length ≤ co45 := (Kd.V_reads' HO_10.out).2.1
                          have hC44 : Kd.F (Kd.int .u8) _ _ Ao45 t154.length t154 := (Kd.V_at (base := w.heap.size) HO_10.out).2.2
                          have ql44 : (4 : Int) ≤ (252 : Int) := (by omega)
                          have hcut44 := cut_mid (P := Try.prog) 22 5 .i64 .i64 Try.underlying22 hi044 1 hsz44 Ao45 t154.length co45 4 252 (by omega) ql44 q44 hroom44
                          have hr44 := Kd.F_mid (lo := (4 : Int).toNat) (hi := (252 : Int).toNat) (c := co45) hC44 (by omega) (by omega) hroom44
                          obtain ⟨A44, hA44⟩ : ∃ A1, A1 = (if co45 = (4 : Int).toNat then Ao45 else (Ao45 : Option Addr).map (·.add ((4 : Int).toNat * 1))) := ⟨_, rfl⟩
                          obtain ⟨c44, hc44⟩ : ∃ c1, c1 = co45 - (4 : Int).toNat := ⟨_, rfl⟩
                          have hy44 : y163.length = (252 : Int).toNat - (4 : Int).toNat := (by rw [Ny163.out, List.length_drop, List.length_take] <;> omega)
                          rw [show ((t154).take (252 : Int).toNat).drop (4 : Int).toNat = y163 from Ny163.out.symm] at hr44
                          replace hr44 : Kd.F (Kd.int .u8) _ _ A44 y163.length y163 := (by rw [hA44]; exact hr44)
                          rw [← hy44, ← hA44, ← hc44] at hcut44
                          have HO167 := Aside0.mk (show Kd.V (Kd.int .u8) 5 _ w.heap.size _ (.slice A44 y163.length c44) y163 from Kd.V_mk (by rw [hy44, hc44]; exact Nat.sub_le_sub_right (Nat.le_trans (by omega) hroom44) _) hr44)
                          have HC167 := Aside0.mk (show y163.length ≤ c44 from by rw [hy44, hc44]; exact Nat.sub_le_sub_right (Nat.le_trans (by omega) hroom44) _)
                          clear hr44 hC44 hroom44 hi044 hsz44 hc44
                          have KY44 := Aside0.mk hy44
                          have KA44 := Aside0.mk hA44
                          clear hy44 hA44
                          replace q44 := eq_true q44
                          go_wp2_with (first | (go_at_call 13; (with_reducible refine (bobbinref01_Same.calls kj14 _ _ y158 _ _ y163 true _ ?side1 ?side2 ?side3 ?side4 A29.out).mono ?_); (case side1 => repeat (first | exact (Kd.V_reads' HO162.out).2.2 | (with_reducible refine Kd.C_alloc ?_ _) | (with_reducible refine Kd.C_drewN ?_ _) | (with_reducible refine Kd.C_drew ?_))); (case side2 => exact (Kd.V_reads' HO162.out).2.1); (case side3 => repeat (first | exact (Kd.V_reads' HO167.out).2.2 | (with_reducible refine Kd.C_alloc ?_ _) | (with_reducible refine Kd.C_drewN ?_ _) | (with_reducible refine Kd.C_drew ?_))); (case side4 => exact (Kd.V_reads' HO167.out).2.1); rintro e w' ⟨rfl, ⟨nd, rfl⟩⟩; (try first | exact ⟨rfl, _, World.drewN_drewN _ _ _⟩ | exact ⟨rfl, _, Eq.trans (World.drewN_drewN _ _ _) (congrArg (World.drewN _) (Nat.add_assoc _ _ _))⟩)) | (go_at_call 13; (with_reducible refine (bobbinref01_Same.calls kj14 _ _ t150 _ _ t154 t169 _ ?side1 ?side2 ?side3 ?side4 A30.out).mono ?_); (case side1 => repeat (first | exact (Kd.V_reads' HO_8.out).2.2 | (with_reducible refine Kd.C_alloc ?_ _) | (with_reducible refine Kd.C_drewN ?_ _) | (with_reducible refine Kd.C_drew ?_))); (case side2 => exact (Kd.V_reads' HO_8.out).2.1); (case side3 => repeat (first | exact (Kd.V_reads' HO_10.out).2.2 | (with_reducible refine Kd.C_alloc ?_ _) | (with_reducible refine Kd.C_drewN ?_ _) | (with_reducible refine Kd.C_drew ?_))); (case side4 => exact (Kd.V_reads' HO_10.out).2.1); rintro e w' ⟨rfl, ⟨nd, rfl⟩⟩; (try first | exact ⟨rfl, _, World.drewN_drewN _ _ _⟩ | exact ⟨rfl, _, Eq.trans (World.drewN_drewN _ _ _) (congrArg (World.drewN _) (Nat.add_assoc _ _ _))⟩); have q46 : (4 : Int) ≤ ((t150.length : Int) : Int) := of_decide_eq_true (by first | (with_reducible assumption) | assumption); obtain ⟨i046, hi046, _, hsz46, _⟩ := info_parts info5; have hroom46 : t150.length ≤ co43 := (Kd.V_reads' HO_8.out).2.1; have hC46 : Kd.F (Kd.int .u8) _ _ Ao43 t150.length t150 := (Kd.V_at (base := w.heap.size) HO_8.out).2.2; have hcut46 := cut_to (P := Try.prog) 22 5 .i64 Try.underlying22 hi046 Ao43 t150.length co43 4 (by omega) q46 hroom46; have hr46 := Kd.F_take (m := 4) hC46 (by omega); have hy46 : y170.length = (4 : Int).toNat := (by rw [Ny170.out, List.length_take]; omega); rw [← Ny170.out] at hr46; rw [← hy46] at hcut46; have HO174 := Aside0.mk (show Kd.V (Kd.int .u8) 5 _ w.heap.size _ (.slice Ao43 y170.length co43) y170 from Kd.V_mk (by omega) hr46); have HC174 := Aside0.mk (show y170.length ≤ co43 from by omega); clear hr46 hC46 hroom46 hi046 hsz46; have KY46 := Aside0.mk hy46; clear hy46; replace q46 := eq_true q46; have q47 : (252 : Int) ≤ ((t150.length : Int) : Int) := of_decide_eq_true (by first | (with_reducible assumption) | assumption); obtain ⟨i047, hi047, _, hsz47, _⟩ := info_parts info5; have hroom47 : t150.length ≤ co43 := (Kd.V_reads' HO_8.out).2.1; have hC47 : Kd.F (Kd.int .u8) _ _ Ao43 t150.length t150 := (Kd.V_at (base := w.heap.size) HO_8.out).2.2; have hcut47 := cut_from (P := Try.prog) 22 5 .i64 Try.underlying22 hi047 1 hsz47 Ao43 t150.length co43 252 (by omega) q47; have hr47 := Kd.F_cut (m := (252 : Int).toNat) (c := co43) hC47 (by omega) hroom47; obtain ⟨A47, hA47⟩ : ∃ A1, A1 = (if co43 = (252 : Int).toNat then Ao43 else (Ao43 : Option Addr).map (·.add ((252 : Int).toNat * 1))) := ⟨_, rfl⟩; obtain ⟨c47, hc47⟩ : ∃ c1, c1 = co43 - (252 : Int).toNat := ⟨_, rfl⟩; have hy47 : y175.length = t150.length - (252 : Int).toNat := (by rw [Ny175.out, List.length_drop] <;> omega); rw [show (t150).drop (252 : Int).toNat = y175 from Ny175.out.symm] at hr47; replace hr47 : Kd.F (Kd.int .u8) _ _ A47 y175.length y175 := (by rw [hA47]; exact hr47); rw [← hy47, ← hA47, ← hc47] at hcut47; have HO179 := Aside0.mk (show Kd.V (Kd.int .u8) 5 _ w.heap.size _ (.slice A47 y175.length c47) y175 from Kd.V_mk (by rw [hy47, hc47]; exact Nat.sub_le_sub_right hroom47 _) hr47); have HC179 := Aside0.mk (show y175.length ≤ c47 from by rw [hy47, hc47]; exact Nat.sub_le_sub_right hroom47 _); clear hr47 hC47 hroom47 hi047 hsz47 hc47; have KY47 := Aside0.mk hy47; have KA47 := Aside0.mk hA47; clear hy47 hA47; replace q47 := eq_true q47) | (go_at_call 13; (with_reducible refine (bobbinref01_Same.calls kj14 _ _ y170 _ _ y175 false _ ?side1 ?side2 ?side3 ?side4 A33.out).mono ?_); (case side1 => repeat (first | exact (Kd.V_reads' HO174.out).2.2 | (with_reducible refine Kd.C_alloc ?_ _) | (with_reducible refine Kd.C_drewN ?_ _) | (with_reducible refine Kd.C_drew ?_))); (case side2 => exact (Kd.V_reads' HO174.out).2.1); (case side3 => repeat (first | exact (Kd.V_reads' HO179.out).2.2 | (with_reducible refine Kd.C_alloc ?_ _) | (with_reducible refine Kd.C_drewN ?_ _) | (with_reducible refine Kd.C_drew ?_))); (case side4 => exact (Kd.V_reads' HO179.out).2.1); rintro e w' ⟨rfl, ⟨nd, rfl⟩⟩; (try first | exact ⟨rfl, _, World.drewN_drewN _ _ _⟩ | exact ⟨rfl, _, Eq.trans (World.drewN_drewN _ _ _) (congrArg (World.drewN _) (Nat.add_assoc _ _ _))⟩)))
                          repeat (go_quiet (first | (go_at_call 13; (with_reducible refine (bobbinref01_Same.calls kj14 _ _ y158 _ _ y163 true _ ?side1 ?side2 ?side3 ?side4 A29.out).mono ?_); (case side1 => repeat (first | exact (Kd.V_reads' HO162.out).2.2 | (with_reducible refine Kd.C_alloc ?_ _) | (with_reducible refine Kd.C_drewN ?_ _) | (with_reducible refine Kd.C_drew ?_))); (case side2 => exact (Kd.V_reads' HO162.out).2.1); (case side3 => repeat (first | exact (Kd.V_reads' HO167.out).2.2 | (with_reducible refine Kd.C_alloc ?_ _) | (with_reducible refine Kd.C_drewN ?_ _) | (with_reducible refine Kd.C_drew ?_))); (case side4 => exact (Kd.V_reads' HO167.out).2.1); rintro e w' ⟨rfl, ⟨nd, rfl⟩⟩; (try first | exact ⟨rfl, _, World.drewN_drewN _ _ _⟩ | exact ⟨rfl, _, Eq.trans (World.drewN_drewN _ _ _) (congrArg (World.drewN _) (Nat.add_assoc _ _ _))⟩)) | (go_at_call 13; (with_reducible refine (bobbinref01_Same.calls kj14 _ _ t150 _ _ t154 t169 _ ?side1 ?side2 ?side3 ?side4 A30.out).mono ?_); (case side1 => repeat (first | exact (Kd.V_reads' HO_8.out).2.2 | (with_reducible refine Kd.C_alloc ?_ _) | (with_reducible refine Kd.C_drewN ?_ _) | (with_reducible refine Kd.C_drew ?_))); (case side2 => exact (Kd.V_reads' HO_8.out).2.1); (case side3 => repeat (first | exact (Kd.V_reads' HO_10.out).2.2 | (with_reducible refine Kd.C_alloc ?_ _) | (with_reducible refine Kd.C_drewN ?_ _) | (with_reducible refine Kd.C_drew ?_))); (case side4 => exact (Kd.V_reads' HO_10.out).2.1); rintro e w' ⟨rfl, ⟨nd, rfl⟩⟩; (try first | exact ⟨rfl, _, World.drewN_drewN _ _ _⟩ | exact ⟨rfl, _, Eq.trans (World.drewN_drewN _ _ _) (congrArg (World.drewN _) (Nat.add_assoc _ _ _))⟩); have q46 : (4 : Int) ≤ ((t150.length : Int) : Int) := of_decide_eq_true (by first | (with_reducible assumption) | assumption); obtain ⟨i046, hi046, _, hsz46, _⟩ := info_parts info5; have hroom46 : t150.length ≤ co43 := (Kd.V_reads' HO_8.out).2.1; have hC46 : Kd.F (Kd.int .u8) _ _ Ao43 t150.length t150 := (Kd.V_at (base := w.heap.size) HO_8.out).2.2; have hcut46 := cut_to (P := Try.prog) 22 5 .i64 Try.underlying22 hi046 Ao43 t150.length co43 4 (by omega) q46 hroom46; have hr46 := Kd.F_take (m := 4) hC46 (by omega); have hy46 : y170.length = (4 : Int).toNat := (by rw [Ny170.out, List.length_take]; omega); rw [← Ny170.out] at hr46; rw [← hy46] at hcut46; have HO174 := Aside0.mk (show Kd.V (Kd.int .u8) 5 _ w.heap.size _ (.slice Ao43 y170.length co43) y170 from Kd.V_mk (by omega) hr46); have HC174 := Aside0.mk (show y170.length ≤ co43 from by omega); clear hr46 hC46 hroom46 hi046 hsz46; have KY46 := Aside0.mk hy46; clear hy46; replace q46 := eq_true q46; have q47 : (252 : Int) ≤ ((t150.length : Int) : Int) := of_decide_eq_true (by first | (with_reducible assumption) | assumption); obtain ⟨i047, hi047, _, hsz47, _⟩ := info_parts info5; have hroom47 : t150.length ≤ co43 := (Kd.V_reads' HO_8.out).2.1; have hC47 : Kd.F (Kd.int .u8) _ _ Ao43 t150.length t150 := (Kd.V_at (base := w.heap.size) HO_8.out).2.2; have hcut47 := cut_from (P := Try.prog) 22 5 .i64 Try.underlying22 hi047 1 hsz47 Ao43 t150.length co43 252 (by omega) q47; have hr47 := Kd.F_cut (m := (252 : Int).toNat) (c := co43) hC47 (by omega) hroom47; obtain ⟨A47, hA47⟩ : ∃ A1, A1 = (if co43 = (252 : Int).toNat then Ao43 else (Ao43 : Option Addr).map (·.add ((252 : Int).toNat * 1))) := ⟨_, rfl⟩; obtain ⟨c47, hc47⟩ : ∃ c1, c1 = co43 - (252 : Int).toNat := ⟨_, rfl⟩; have hy47 : y175.length = t150.length - (252 : Int).toNat := (by rw [Ny175.out, List.length_drop] <;> omega); rw [show (t150).drop (252 : Int).toNat = y175 from Ny175.out.symm] at hr47; replace hr47 : Kd.F (Kd.int .u8) _ _ A47 y175.length y175 := (by rw [hA47]; exact hr47); rw [← hy47, ← hA47, ← hc47] at hcut47; have HO179 := Aside0.mk (show Kd.V (Kd.int .u8) 5 _ w.heap.size _ (.slice A47 y175.length c47) y175 from Kd.V_mk (by rw [hy47, hc47]; exact Nat.sub_le_sub_right hroom47 _) hr47); have HC179 := Aside0.mk (show y175.length ≤ c47 from by rw [hy47, hc47]; exact Nat.sub_le_sub_right hroom47 _); clear hr47 hC47 hroom47 hi047 hsz47 hc47; have KY47 := Aside0.mk hy47; have KA47 := Aside0.mk hA47; clear hy47 hA47; replace q47 := eq_true q47) | (go_at_call 13; (with_reducible refine (bobbinref01_Same.calls kj14 _ _ y170 _ _ y175 false _ ?side1 ?side2 ?side3 ?side4 A33.out).mono ?_); (case side1 => repeat (first | exact (Kd.V_reads' HO174.out).2.2 | (with_reducible refine Kd.C_alloc ?_ _) | (with_reducible refine Kd.C_drewN ?_ _) | (with_reducible refine Kd.C_drew ?_))); (case side2 => exact (Kd.V_reads' HO174.out).2.1); (case side3 => repeat (first | exact (Kd.V_reads' HO179.out).2.2 | (with_reducible refine Kd.C_alloc ?_ _) | (with_reducible refine Kd.C_drewN ?_ _) | (with_reducible refine Kd.C_drew ?_))); (case side4 => exact (Kd.V_reads' HO179.out).2.1); rintro e w' ⟨rfl, ⟨nd, rfl⟩⟩; (try first | exact ⟨rfl, _, World.drewN_drewN _ _ _⟩ | exact ⟨rfl, _, Eq.trans (World.drewN_drewN _ _ _) (congrArg (World.drewN _) (Nat.add_assoc _ _ _))⟩))); try go_wp2_with (first | (go_at_call 13; (with_reducible refine (bobbinref01_Same.calls kj14 _ _ y158 _ _ y163 true _ ?side1 ?side2 ?side3 ?side4 A29.out).mono ?_); (case side1 => repeat (first | exact (Kd.V_reads' HO162.out).2.2 | (with_reducible refine Kd.C_alloc ?_ _) | (with_reducible refine Kd.C_drewN ?_ _) | (with_reducible refine Kd.C_drew ?_))); (case side2 => exact (Kd.V_reads' HO162.out).2.1); (case side3 => repeat (first | exact (Kd.V_reads' HO167.out).2.2 | (with_reducible refine Kd.C_alloc ?_ _) | (with_reducible refine Kd.C_drewN ?_ _) | (with_reducible refine Kd.C_drew ?_))); (case side4 => exact (Kd.V_reads' HO167.out).2.1); rintro e w' ⟨rfl, ⟨nd, rfl⟩⟩; (try first | exact ⟨rfl, _, World.drewN_drewN _ _ _⟩ | exact ⟨rfl, _, Eq.trans (World.drewN_drewN _ _ _) (congrArg (World.drewN _) (Nat.add_assoc _ _ _))⟩)) | (go_at_call 13; (with_reducible refine (bobbinref01_Same.calls kj14 _ _ t150 _ _ t154 t169 _ ?side1 ?side2 ?side3 ?side4 A30.out).mono ?_); (case side1 => repeat (first | exact (Kd.V_reads' HO_8.out).2.2 | (with_reducible refine Kd.C_alloc ?_ _) | (with_reducible refine Kd.C_drewN ?_ _) | (with_reducible refine Kd.C_drew ?_))); (case side2 => exact (Kd.V_reads' HO_8.out).2.1); (case side3 => repeat (first | exact (Kd.V_reads' HO_10.out).2.2 | (with_reducible refine Kd.C_alloc ?_ _) | (with_reducible refine Kd.C_drewN ?_ _) | (with_reducible refine Kd.C_drew ?_))); (case side4 => exact (Kd.V_reads' HO_10.out).2.1); rintro e w' ⟨rfl, ⟨nd, rfl⟩⟩; (try first | exact ⟨rfl, _, World.drewN_drewN _ _ _⟩ | exact ⟨rfl, _, Eq.trans (World.drewN_drewN _ _ _) (congrArg (World.drewN _) (Nat.add_assoc _ _ _))⟩); have q46 : (4 : Int) ≤ ((t150.length : Int) : Int) := of_decide_eq_true (by first | (with_reducible assumption) | assumption); obtain ⟨i046, hi046, _, hsz46, _⟩ := info_parts info5; have hroom46 : t150.length ≤ co43 := (Kd.V_reads' HO_8.out).2.1; have hC46 : Kd.F (Kd.int .u8) _ _ Ao43 t150.length t150 := (Kd.V_at (base := w.heap.size) HO_8.out).2.2; have hcut46 := cut_to (P := Try.prog) 22 5 .i64 Try.underlying22 hi046 Ao43 t150.length co43 4 (by omega) q46 hroom46; have hr46 := Kd.F_take (m := 4) hC46 (by omega); have hy46 : y170.length = (4 : Int).toNat := (by rw [Ny170.out, List.length_take]; omega); rw [← Ny170.out] at hr46; rw [← hy46] at hcut46; have HO174 := Aside0.mk (show Kd.V (Kd.int .u8) 5 _ w.heap.size _ (.slice Ao43 y170.length co43) y170 from Kd.V_mk (by omega) hr46); have HC174 := Aside0.mk (show y170.length ≤ co43 from by omega); clear hr46 hC46 hroom46 hi046 hsz46; have KY46 := Aside0.mk hy46; clear hy46; replace q46 := eq_true q46; have q47 : (252 : Int) ≤ ((t150.length : Int) : Int) := of_decide_eq_true (by first | (with_reducible assumption) | assumption); obtain ⟨i047, hi047, _, hsz47, _⟩ := info_parts info5; have hroom47 : t150.length ≤ co43 := (Kd.V_reads' HO_8.out).2.1; have hC47 : Kd.F (Kd.int .u8) _ _ Ao43 t150.length t150 := (Kd.V_at (base := w.heap.size) HO_8.out).2.2; have hcut47 := cut_from (P := Try.prog) 22 5 .i64 Try.underlying22 hi047 1 hsz47 Ao43 t150.length co43 252 (by omega) q47; have hr47 := Kd.F_cut (m := (252 : Int).toNat) (c := co43) hC47 (by omega) hroom47; obtain ⟨A47, hA47⟩ : ∃ A1, A1 = (if co43 = (252 : Int).toNat then Ao43 else (Ao43 : Option Addr).map (·.add ((252 : Int).toNat * 1))) := ⟨_, rfl⟩; obtain ⟨c47, hc47⟩ : ∃ c1, c1 = co43 - (252 : Int).toNat := ⟨_, rfl⟩; have hy47 : y175.length = t150.length - (252 : Int).toNat := (by rw [Ny175.out, List.length_drop] <;> omega); rw [show (t150).drop (252 : Int).toNat = y175 from Ny175.out.symm] at hr47; replace hr47 : Kd.F (Kd.int .u8) _ _ A47 y175.length y175 := (by rw [hA47]; exact hr47); rw [← hy47, ← hA47, ← hc47] at hcut47; have HO179 := Aside0.mk (show Kd.V (Kd.int .u8) 5 _ w.heap.size _ (.slice A47 y175.length c47) y175 from Kd.V_mk (by rw [hy47, hc47]; exact Nat.sub_le_sub_right hroom47 _) hr47); have HC179 := Aside0.mk (show y175.length ≤ c47 from by rw [hy47, hc47]; exact Nat.sub_le_sub_right hroom47 _); clear hr47 hC47 hroom47 hi047 hsz47 hc47; have KY47 := Aside0.mk hy47; have KA47 := Aside0.mk hA47; clear hy47 hA47; replace q47 := eq_true q47) | (go_at_call 13; (with_reducible refine (bobbinref01_Same.calls kj14 _ _ y170 _ _ y175 false _ ?side1 ?side2 ?side3 ?side4 A33.out).mono ?_); (case side1 => repeat (first | exact (Kd.V_reads' HO174.out).2.2 | (with_reducible refine Kd.C_alloc ?_ _) | (with_reducible refine Kd.C_drewN ?_ _) | (with_reducible refine Kd.C_drew ?_))); (case side2 => exact (Kd.V_reads' HO174.out).2.1); (case side3 => repeat (first | exact (Kd.V_reads' HO179.out).2.2 | (with_reducible refine Kd.C_alloc ?_ _) | (with_reducible refine Kd.C_drewN ?_ _) | (with_reducible refine Kd.C_drew ?_))); (case side4 => exact (Kd.V_reads' HO179.out).2.1); rintro e w' ⟨rfl, ⟨nd, rfl⟩⟩; (try first | exact ⟨rfl, _, World.drewN_drewN _ _ _⟩ | exact ⟨rfl, _, Eq.trans (World.drewN_drewN _ _ _) (congrArg (World.drewN _) (Nat.add_assoc _ _ _))⟩))))
                          go_ret
                          exact ⟨by first | rfl | (simp [errW_none, errW_some] <;> rfl) | (simp [*, errW_none, errW_some] <;> rfl), by repeat (first | (with_reducible first | exact HB.out | apply below_alloc | apply pw_below_drewN | apply below_drew1) | exact HB.out)⟩
                      · replace c34 := Bool.eq_false_iff.mpr c34
                        subst c34
                        have H1 : (some false) = some r := by rw [if_neg (show ¬ (false = true) by decide)] at H; exact H
                        clear H
                        have H := H1
                        clear H1
                        obtain rfl := Option.some.inj H
                        obtain ⟨Ao49, co49, eo49⟩ := Kd.V_slice HO_8.out
                        subst eo49
                        have q48 : (252 : Int) ≤ ((t150.length : Int) : Int) := of_decide_eq_true (by first | (with_reducible assumption) | assumption)
                        obtain ⟨i048, hi048, _, hsz48, _⟩ := info_parts info5
                        have hroom48 : t150.length ≤ co49 := (Kd.V_reads' HO_8.out).2.1
                        have hC48 : Kd.F (Kd.int .u8) _ _ Ao49 t150.length t150 := (Kd.V_at (base := w.heap.size) HO_8.out).2.2
                        have ql48 : (4 : Int) ≤ (252 : Int) := (by omega)
                        have hcut48 := cut_mid (P := Try.prog) 22 5 .i64 .i64 Try.underlying22 hi048 1 hsz48 Ao49 t150.length co49 4 252 (by omega) ql48 q48 hroom48
                        have hr48 := Kd.F_mid (lo := (4 : Int).toNat) (hi := (252 : Int).toNat) (c := co49) hC48 (by omega) (by omega) hroom48
                        obtain ⟨A48, hA48⟩ : ∃ A1, A1 = (if co49 = (4 : Int).toNat then Ao49 else (Ao49 : Option Addr).map (·.add ((4 : Int).toNat * 1))) := ⟨_, rfl⟩
                        obtain ⟨c48, hc48⟩ : ∃ c1, c1 = co49 - (4 : Int).toNat := ⟨_, rfl⟩
                        have hy48 : y158.length = (252 : Int).toNat - (4 : Int).toNat := (by rw [Ny158.out, List.length_drop, List.length_take] <;> omega)
                        rw [show ((t150).take (252 : Int).toNat).drop (4 : Int).toNat = y158 from Ny158.out.symm] at hr48
                        replace hr48 : Kd.F (Kd.int .u8) _ _ A48 y158.length y158 := (by rw [hA48]; exact hr48)
                        rw [← hy48, ← hA48, ← hc48] at hcut48
                        have HO162 := Aside0.mk (show Kd.V (Kd.int .u8) 5 _ w.heap.size _ (.slice A48 y158.length c48) y158 from Kd.V_mk (by rw [hy48, hc48]; exact Nat.sub_le_sub_right (Nat.le_trans (by omega) hroom48) _) hr48)
                        have HC162 := Aside0.mk (show y158.length ≤ c48 from by rw [hy48, hc48]; exact Nat.sub_le_sub_right (Nat.le_trans (by omega) hroom48) _)
                        clear hr48 hC48 hroom48 hi048 hsz48 hc48
                        have KY48 := Aside0.mk hy48
                        have KA48 := Aside0.mk hA48
                        clear hy48 hA48
                        replace q48 := eq_true q48
                        obtain ⟨Ao51, co51, eo51⟩ := Kd.V_slice HO_10.out
                        subst eo51
                        have q50 : (252 : Int) ≤ ((t154.length : Int) : Int) := of_decide_eq_true (by first | (with_reducible assumption) | assumption)
                        obtain ⟨i050, hi050, _, hsz50, _⟩ := info_parts info5
                        have hroom50 : t154.length ≤ co51 := (Kd.V_reads' HO_10.out).2.1
                        have hC50 : Kd.F (Kd.int .u8) _ _ Ao51 t154.length t154 := (Kd.V_at (base := w.heap.size) HO_10.out).2.2
                        have ql50 : (4 : Int) ≤ (252 : Int) := (by omega)
                        have hcut50 := cut_mid (P := Try.prog) 22 5 .i64 .i64 Try.underlying22 hi050 1 hsz50 Ao51 t154.length co51 4 252 (by omega) ql50 q50 hroom50
                        have hr50 := Kd.F_mid (lo := (4 : Int).toNat) (hi := (252 : Int).toNat) (c := co51) hC50 (by omega) (by omega) hroom50
                        obtain ⟨A50, hA50⟩ : ∃ A1, A1 = (if co51 = (4 : Int).toNat then Ao51 else (Ao51 : Option Addr).map (·.add ((4 : Int).toNat * 1))) := ⟨_, rfl⟩
                        obtain ⟨c50, hc50⟩ : ∃ c1, c1 = co51 - (4 : Int).toNat := ⟨_, rfl⟩
                        have hy50 : y163.length = (252 : Int).toNat - (4 : Int).toNat := (by rw [Ny163.out, List.length_drop, List.length_take] <;> omega)
                        rw [show ((t154).take (252 : Int).toNat).drop (4 : Int).toNat = y163 from Ny163.out.symm] at hr50
                        replace hr50 : Kd.F (Kd.int .u8) _ _ A50 y163.length y163 := (by rw [hA50]; exact hr50)
                        rw [← hy50, ← hA50, ← hc50] at hcut50
                        have HO167 := Aside0.mk (show Kd.V (Kd.int .u8) 5 _ w.heap.size _ (.slice A50 y163.length c50) y163 from Kd.V_mk (by rw [hy50, hc50]; exact Nat.sub_le_sub_right (Nat.le_trans (by omega) hroom50) _) hr50)
                        have HC167 := Aside0.mk (show y163.length ≤ c50 from by rw [hy50, hc50]; exact Nat.sub_le_sub_right (Nat.le_trans (by omega) hroom50) _)
                        clear hr50 hC50 hroom50 hi050 hsz50 hc50
                        have KY50 := Aside0.mk hy50
                        have KA50 := Aside0.mk hA50
                        clear hy50 hA50
                        replace q50 := eq_true q50
                        go_wp2_with (first | (go_at_call 13; (with_reducible refine (bobbinref01_Same.calls kj14 _ _ y158 _ _ y163 false _ ?side1 ?side2 ?side3 ?side4 A29.out).mono ?_); (case side1 => repeat (first | exact (Kd.V_reads' HO162.out).2.2 | (with_reducible refine Kd.C_alloc ?_ _) | (with_reducible refine Kd.C_drewN ?_ _) | (with_reducible refine Kd.C_drew ?_))); (case side2 => exact (Kd.V_reads' HO162.out).2.1); (case side3 => repeat (first | exact (Kd.V_reads' HO167.out).2.2 | (with_reducible refine Kd.C_alloc ?_ _) | (with_reducible refine Kd.C_drewN ?_ _) | (with_reducible refine Kd.C_drew ?_))); (case side4 => exact (Kd.V_reads' HO167.out).2.1); rintro e w' ⟨rfl, ⟨nd, rfl⟩⟩; (try first | exact ⟨rfl, _, World.drewN_drewN _ _ _⟩ | exact ⟨rfl, _, Eq.trans (World.drewN_drewN _ _ _) (congrArg (World.drewN _) (Nat.add_assoc _ _ _))⟩)) | (go_at_call 13; (with_reducible refine (bobbinref01_Same.calls kj14 _ _ t150 _ _ t154 t169 _ ?side1 ?side2 ?side3 ?side4 A30.out).mono ?_); (case side1 => repeat (first | exact (Kd.V_reads' HO_8.out).2.2 | (with_reducible refine Kd.C_alloc ?_ _) | (with_reducible refine Kd.C_drewN ?_ _) | (with_reducible refine Kd.C_drew ?_))); (case side2 => exact (Kd.V_reads' HO_8.out).2.1); (case side3 => repeat (first | exact (Kd.V_reads' HO_10.out).2.2 | (with_reducible refine Kd.C_alloc ?_ _) | (with_reducible refine Kd.C_drewN ?_ _) | (with_reducible refine Kd.C_drew ?_))); (case side4 => exact (Kd.V_reads' HO_10.out).2.1); rintro e w' ⟨rfl, ⟨nd, rfl⟩⟩; (try first | exact ⟨rfl, _, World.drewN_drewN _ _ _⟩ | exact ⟨rfl, _, Eq.trans (World.drewN_drewN _ _ _) (congrArg (World.drewN _) (Nat.add_assoc _ _ _))⟩); have q52 : (4 : Int) ≤ ((t150.length : Int) : Int) := of_decide_eq_true (by first | (with_reducible assumption) | assumption); obtain ⟨i052, hi052, _, hsz52, _⟩ := info_parts info5; have hroom52 : t150.length ≤ co49 := (Kd.V_reads' HO_8.out).2.1; have hC52 : Kd.F (Kd.int .u8) _ _ Ao49 t150.length t150 := (Kd.V_at (base := w.heap.size) HO_8.out).2.2; have hcut52 := cut_to (P := Try.prog) 22 5 .i64 Try.underlying22 hi052 Ao49 t150.length co49 4 (by omega) q52 hroom52; have hr52 := Kd.F_take (m := 4) hC52 (by omega); have hy52 : y170.length = (4 : Int).toNat := (by rw [Ny170.out, List.length_take]; omega); rw [← Ny170.out] at hr52; rw [← hy52] at hcut52; have HO174 := Aside0.mk (show Kd.V (Kd.int .u8) 5 _ w.heap.size _ (.slice Ao49 y170.length co49) y170 from Kd.V_mk (by omega) hr52); have HC174 := Aside0.mk (show y170.length ≤ co49 from by omega); clear hr52 hC52 hroom52 hi052 hsz52; have KY52 := Aside0.mk hy52; clear hy52; replace q52 := eq_true q52; have q53 : (252 : Int) ≤ ((t150.length : Int) : Int) := of_decide_eq_true (by first | (with_reducible assumption) | assumption); obtain ⟨i053, hi053, _, hsz53, _⟩ := info_parts info5; have hroom53 : t150.length ≤ co49 := (Kd.V_reads' HO_8.out).2.1; have hC53 : Kd.F (Kd.int .u8) _ _ Ao49 t150.length t150 := (Kd.V_at (base := w.heap.size) HO_8.out).2.2; have hcut53 := cut_from (P := Try.prog) 22 5 .i64 Try.underlying22 hi053 1 hsz53 Ao49 t150.length co49 252 (by omega) q53; have hr53 := Kd.F_cut (m := (252 : Int).toNat) (c := co49) hC53 (by omega) hroom53; obtain ⟨A53, hA53⟩ : ∃ A1, A1 = (if co49 = (252 : Int).toNat then Ao49 else (Ao49 : Option Addr).map (·.add ((252 : Int).toNat * 1))) := ⟨_, rfl⟩; obtain ⟨c53, hc53⟩ : ∃ c1, c1 = co49 - (252 : Int).toNat := ⟨_, rfl⟩; have hy53 : y175.length = t150.length - (252 : Int).toNat := (by rw [Ny175.out, List.length_drop] <;> omega); rw [show (t150).drop (252 : Int).toNat = y175 from Ny175.out.symm] at hr53; replace hr53 : Kd.F (Kd.int .u8) _ _ A53 y175.length y175 := (by rw [hA53]; exact hr53); rw [← hy53, ← hA53, ← hc53] at hcut53; have HO179 := Aside0.mk (show Kd.V (Kd.int .u8) 5 _ w.heap.size _ (.slice A53 y175.length c53) y175 from Kd.V_mk (by rw [hy53, hc53]; exact Nat.sub_le_sub_right hroom53 _) hr53); have HC179 := Aside0.mk (show y175.length ≤ c53 from by rw [hy53, hc53]; exact Nat.sub_le_sub_right hroom53 _); clear hr53 hC53 hroom53 hi053 hsz53 hc53; have KY53 := Aside0.mk hy53; have KA53 := Aside0.mk hA53; clear hy53 hA53; replace q53 := eq_true q53) | (go_at_call 13; (with_reducible refine (bobbinref01_Same.calls kj14 _ _ y170 _ _ y175 t180 _ ?side1 ?side2 ?side3 ?side4 A33.out).mono ?_); (case side1 => repeat (first | exact (Kd.V_reads' HO174.out).2.2 | (with_reducible refine Kd.C_alloc ?_ _) | (with_reducible refine Kd.C_drewN ?_ _) | (with_reducible refine Kd.C_drew ?_))); (case side2 => exact (Kd.V_reads' HO174.out).2.1); (case side3 => repeat (first | exact (Kd.V_reads' HO179.out).2.2 | (with_reducible refine Kd.C_alloc ?_ _) | (with_reducible refine Kd.C_drewN ?_ _) | (with_reducible refine Kd.C_drew ?_))); (case side4 => exact (Kd.V_reads' HO179.out).2.1); rintro e w' ⟨rfl, ⟨nd, rfl⟩⟩; (try first | exact ⟨rfl, _, World.drewN_drewN _ _ _⟩ | exact ⟨rfl, _, Eq.trans (World.drewN_drewN _ _ _) (congrArg (World.drewN _) (Nat.add_assoc _ _ _))⟩)))
                        repeat (go_quiet (first | (go_at_call 13; (with_reducible refine (bobbinref01_Same.calls kj14 _ _ y158 _ _ y163 false _ ?side1 ?side2 ?side3 ?side4 A29.out).mono ?_); (case side1 => repeat (first | exact (Kd.V_reads' HO162.out).2.2 | (with_reducible refine Kd.C_alloc ?_ _) | (with_reducible refine Kd.C_drewN ?_ _) | (with_reducible refine Kd.C_drew ?_))); (case side2 => exact (Kd.V_reads' HO162.out).2.1); (case side3 => repeat (first | exact (Kd.V_reads' HO167.out).2.2 | (with_reducible refine Kd.C_alloc ?_ _) | (with_reducible refine Kd.C_drewN ?_ _) | (with_reducible refine Kd.C_drew ?_))); (case side4 => exact (Kd.V_reads' HO167.out).2.1); rintro e w' ⟨rfl, ⟨nd, rfl⟩⟩; (try first | exact ⟨rfl, _, World.drewN_drewN _ _ _⟩ | exact ⟨rfl, _, Eq.trans (World.drewN_drewN _ _ _) (congrArg (World.drewN _) (Nat.add_assoc _ _ _))⟩)) | (go_at_call 13; (with_reducible refine (bobbinref01_Same.calls kj14 _ _ t150 _ _ t154 t169 _ ?side1 ?side2 ?side3 ?side4 A30.out).mono ?_); (case side1 => repeat (first | exact (Kd.V_reads' HO_8.out).2.2 | (with_reducible refine Kd.C_alloc ?_ _) | (with_reducible refine Kd.C_drewN ?_ _) | (with_reducible refine Kd.C_drew ?_))); (case side2 => exact (Kd.V_reads' HO_8.out).2.1); (case side3 => repeat (first | exact (Kd.V_reads' HO_10.out).2.2 | (with_reducible refine Kd.C_alloc ?_ _) | (with_reducible refine Kd.C_drewN ?_ _) | (with_reducible refine Kd.C_drew ?_))); (case side4 => exact (Kd.V_reads' HO_10.out).2.1); rintro e w' ⟨rfl, ⟨nd, rfl⟩⟩; (try first | exact ⟨rfl, _, World.drewN_drewN _ _ _⟩ | exact ⟨rfl, _, Eq.trans (World.drewN_drewN _ _ _) (congrArg (World.drewN _) (Nat.add_assoc _ _ _))⟩); have q52 : (4 : Int) ≤ ((t150.length : Int) : Int) := of_decide_eq_true (by first | (with_reducible assumption) | assumption); obtain ⟨i052, hi052, _, hsz52, _⟩ := info_parts info5; have hroom52 : t150.length ≤ co49 := (Kd.V_reads' HO_8.out).2.1; have hC52 : Kd.F (Kd.int .u8) _ _ Ao49 t150.length t150 := (Kd.V_at (base := w.heap.size) HO_8.out).2.2; have hcut52 := cut_to (P := Try.prog) 22 5 .i64 Try.underlying22 hi052 Ao49 t150.length co49 4 (by omega) q52 hroom52; have hr52 := Kd.F_take (m := 4) hC52 (by omega); have hy52 : y170.length = (4 : Int).toNat := (by rw [Ny170.out, List.length_take]; omega); rw [← Ny170.out] at hr52; rw [← hy52] at hcut52; have HO174 := Aside0.mk (show Kd.V (Kd.int .u8) 5 _ w.heap.size _ (.slice Ao49 y170.length co49) y170 from Kd.V_mk (by omega) hr52); have HC174 := Aside0.mk (show y170.length ≤ co49 from by omega); clear hr52 hC52 hroom52 hi052 hsz52; have KY52 := Aside0.mk hy52; clear hy52; replace q52 := eq_true q52; have q53 : (252 : Int) ≤ ((t150.length : Int) : Int) := of_decide_eq_true (by first | (with_reducible assumption) | assumption); obtain ⟨i053, hi053, _, hsz53, _⟩ := info_parts info5; have hroom53 : t150.length ≤ co49 := (Kd.V_reads' HO_8.out).2.1; have hC53 : Kd.F (Kd.int .u8) _ _ Ao49 t150.length t150 := (Kd.V_at (base := w.heap.size) HO_8.out).2.2; have hcut53 := cut_from (P := Try.prog) 22 5 .i64 Try.underlying22 hi053 1 hsz53 Ao49 t150.length co49 252 (by omega) q53; have hr53 := Kd.F_cut (m := (252 : Int).toNat) (c := co49) hC53 (by omega) hroom53; obtain ⟨A53, hA53⟩ : ∃ A1, A1 = (if co49 = (252 : Int).toNat then Ao49 else (Ao49 : Option Addr).map (·.add ((252 : Int).toNat * 1))) := ⟨_, rfl⟩; obtain ⟨c53, hc53⟩ : ∃ c1, c1 = co49 - (252 : Int).toNat := ⟨_, rfl⟩; have hy53 : y175.length = t150.length - (252 : Int).toNat := (by rw [Ny175.out, List.length_drop] <;> omega); rw [show (t150).drop (252 : Int).toNat = y175 from Ny175.out.symm] at hr53; replace hr53 : Kd.F (Kd.int .u8) _ _ A53 y175.length y175 := (by rw [hA53]; exact hr53); rw [← hy53, ← hA53, ← hc53] at hcut53; have HO179 := Aside0.mk (show Kd.V (Kd.int .u8) 5 _ w.heap.size _ (.slice A53 y175.length c53) y175 from Kd.V_mk (by rw [hy53, hc53]; exact Nat.sub_le_sub_right hroom53 _) hr53); have HC179 := Aside0.mk (show y175.length ≤ c53 from by rw [hy53, hc53]; exact Nat.sub_le_sub_right hroom53 _); clear hr53 hC53 hroom53 hi053 hsz53 hc53; have KY53 := Aside0.mk hy53; have KA53 := Aside0.mk hA53; clear hy53 hA53; replace q53 := eq_true q53) | (go_at_call 13; (with_reducible refine (bobbinref01_Same.calls kj14 _ _ y170 _ _ y175 t180 _ ?side1 ?side2 ?side3 ?side4 A33.out).mono ?_); (case side1 => repeat (first | exact (Kd.V_reads' HO174.out).2.2 | (with_reducible refine Kd.C_alloc ?_ _) | (with_reducible refine Kd.C_drewN ?_ _) | (with_reducible refine Kd.C_drew ?_))); (case side2 => exact (Kd.V_reads' HO174.out).2.1); (case side3 => repeat (first | exact (Kd.V_reads' HO179.out).2.2 | (with_reducible refine Kd.C_alloc ?_ _) | (with_reducible refine Kd.C_drewN ?_ _) | (with_reducible refine Kd.C_drew ?_))); (case side4 => exact (Kd.V_reads' HO179.out).2.1); rintro e w' ⟨rfl, ⟨nd, rfl⟩⟩; (try first | exact ⟨rfl, _, World.drewN_drewN _ _ _⟩ | exact ⟨rfl, _, Eq.trans (World.drewN_drewN _ _ _) (congrArg (World.drewN _) (Nat.add_assoc _ _ _))⟩))); try go_wp2_with (first | (go_at_call 13; (with_reducible refine (bobbinref01_Same.calls kj14 _ _ y158 _ _ y163 false _ ?side1 ?side2 ?side3 ?side4 A29.out).mono ?_); (case side1 => repeat (first | exact (Kd.V_reads' HO162.out).2.2 | (with_reducible refine Kd.C_alloc ?_ _) | (with_reducible refine Kd.C_drewN ?_ _) | (with_reducible refine Kd.C_drew ?_))); (case side2 => exact (Kd.V_reads' HO162.out).2.1); (case side3 => repeat (first | exact (Kd.V_reads' HO167.out).2.2 | (with_reducible refine Kd.C_alloc ?_ _) | (with_reducible refine Kd.C_drewN ?_ _) | (with_reducible refine Kd.C_drew ?_))); (case side4 => exact (Kd.V_reads' HO167.out).2.1); rintro e w' ⟨rfl, ⟨nd, rfl⟩⟩; (try first | exact ⟨rfl, _, World.drewN_drewN _ _ _⟩ | exact ⟨rfl, _, Eq.trans (World.drewN_drewN _ _ _) (congrArg (World.drewN _) (Nat.add_assoc _ _ _))⟩)) | (go_at_call 13; (with_reducible refine (bobbinref01_Same.calls kj14 _ _ t150 _ _ t154 t169 _ ?side1 ?side2 ?side3 ?side4 A30.out).mono ?_); (case side1 => repeat (first | exact (Kd.V_reads' HO_8.out).2.2 | (with_reducible refine Kd.C_alloc ?_ _) | (with_reducible refine Kd.C_drewN ?_ _) | (with_reducible refine Kd.C_drew ?_))); (case side2 => exact (Kd.V_reads' HO_8.out).2.1); (case side3 => repeat (first | exact (Kd.V_reads' HO_10.out).2.2 | (with_reducible refine Kd.C_alloc ?_ _) | (with_reducible refine Kd.C_drewN ?_ _) | (with_reducible refine Kd.C_drew ?_))); (case side4 => exact (Kd.V_reads' HO_10.out).2.1); rintro e w' ⟨rfl, ⟨nd, rfl⟩⟩; (try first | exact ⟨rfl, _, World.drewN_drewN _ _ _⟩ | exact ⟨rfl, _, Eq.trans (World.drewN_drewN _ _ _) (congrArg (World.drewN _) (Nat.add_assoc _ _ _))⟩); have q52 : (4 : Int) ≤ ((t150.length : Int) : Int) := of_decide_eq_true (by first | (with_reducible assumption) | assumption); obtain ⟨i052, hi052, _, hsz52, _⟩ := info_parts info5; have hroom52 : t150.length ≤ co49 := (Kd.V_reads' HO_8.out).2.1; have hC52 : Kd.F (Kd.int .u8) _ _ Ao49 t150.length t150 := (Kd.V_at (base := w.heap.size) HO_8.out).2.2; have hcut52 := cut_to (P := Try.prog) 22 5 .i64 Try.underlying22 hi052 Ao49 t150.length co49 4 (by omega) q52 hroom52; have hr52 := Kd.F_take (m := 4) hC52 (by omega); have hy52 : y170.length = (4 : Int).toNat := (by rw [Ny170.out, List.length_take]; omega); rw [← Ny170.out] at hr52; rw [← hy52] at hcut52; have HO174 := Aside0.mk (show Kd.V (Kd.int .u8) 5 _ w.heap.size _ (.slice Ao49 y170.length co49) y170 from Kd.V_mk (by omega) hr52); have HC174 := Aside0.mk (show y170.length ≤ co49 from by omega); clear hr52 hC52 hroom52 hi052 hsz52; have KY52 := Aside0.mk hy52; clear hy52; replace q52 := eq_true q52; have q53 : (252 : Int) ≤ ((t150.length : Int) : Int) := of_decide_eq_true (by first | (with_reducible assumption) | assumption); obtain ⟨i053, hi053, _, hsz53, _⟩ := info_parts info5; have hroom53 : t150.length ≤ co49 := (Kd.V_reads' HO_8.out).2.1; have hC53 : Kd.F (Kd.int .u8) _ _ Ao49 t150.length t150 := (Kd.V_at (base := w.heap.size) HO_8.out).2.2; have hcut53 := cut_from (P := Try.prog) 22 5 .i64 Try.underlying22 hi053 1 hsz53 Ao49 t150.length co49 252 (by omega) q53; have hr53 := Kd.F_cut (m := (252 : Int).toNat) (c := co49) hC53 (by omega) hroom53; obtain ⟨A53, hA53⟩ : ∃ A1, A1 = (if co49 = (252 : Int).toNat then Ao49 else (Ao49 : Option Addr).map (·.add ((252 : Int).toNat * 1))) := ⟨_, rfl⟩; obtain ⟨c53, hc53⟩ : ∃ c1, c1 = co49 - (252 : Int).toNat := ⟨_, rfl⟩; have hy53 : y175.length = t150.length - (252 : Int).toNat := (by rw [Ny175.out, List.length_drop] <;> omega); rw [show (t150).drop (252 : Int).toNat = y175 from Ny175.out.symm] at hr53; replace hr53 : Kd.F (Kd.int .u8) _ _ A53 y175.length y175 := (by rw [hA53]; exact hr53); rw [← hy53, ← hA53, ← hc53] at hcut53; have HO179 := Aside0.mk (show Kd.V (Kd.int .u8) 5 _ w.heap.size _ (.slice A53 y175.length c53) y175 from Kd.V_mk (by rw [hy53, hc53]; exact Nat.sub_le_sub_right hroom53 _) hr53); have HC179 := Aside0.mk (show y175.length ≤ c53 from by rw [hy53, hc53]; exact Nat.sub_le_sub_right hroom53 _); clear hr53 hC53 hroom53 hi053 hsz53 hc53; have KY53 := Aside0.mk hy53; have KA53 := Aside0.mk hA53; clear hy53 hA53; replace q53 := eq_true q53) | (go_at_call 13; (with_reducible refine (bobbinref01_Same.calls kj14 _ _ y170 _ _ y175 t180 _ ?side1 ?side2 ?side3 ?side4 A33.out).mono ?_); (case side1 => repeat (first | exact (Kd.V_reads' HO174.out).2.2 | (with_reducible refine Kd.C_alloc ?_ _) | (with_reducible refine Kd.C_drewN ?_ _) | (with_reducible refine Kd.C_drew ?_))); (case side2 => exact (Kd.V_reads' HO174.out).2.1); (case side3 => repeat (first | exact (Kd.V_reads' HO179.out).2.2 | (with_reducible refine Kd.C_alloc ?_ _) | (with_reducible refine Kd.C_drewN ?_ _) | (with_reducible refine Kd.C_drew ?_))); (case side4 => exact (Kd.V_reads' HO179.out).2.1); rintro e w' ⟨rfl, ⟨nd, rfl⟩⟩; (try first | exact ⟨rfl, _, World.drewN_drewN _ _ _⟩ | exact ⟨rfl, _, Eq.trans (World.drewN_drewN _ _ _) (congrArg (World.drewN _) (Nat.add_assoc _ _ _))⟩))))
                        go_ret
                        exact ⟨by first | rfl | (simp [errW_none, errW_some] <;> rfl) | (simp [*, errW_none, errW_some] <;> rfl), by repeat (first | (with_reducible first | exact HB.out | apply below_alloc | apply pw_below_drewN | apply below_drew1) | exact HB.out)⟩
                    · rw [if_neg c31] at H
                      exact absurd H (by simp)
                  · rw [if_neg c28] at H
                    exact absurd H (by simp)
                · rw [if_neg c26] at H
                  exact absurd H (by simp)
              · rw [if_neg c25] at H
                exact absurd H (by simp)

/-- THE ONE PURE STATEMENT of bobbinlaw02_FrameStamps: yours. -/
def bobbinlaw02_FrameStamps.Pure : Prop := ∀ (a0 : Int) (a1 : Int) (l2 : List Int), (Lit.int .i64 a0).wf = true → (Lit.int .i64 a1).wf = true → l2.length ≤ maxLen → l2.length * 1 ≤ 140737488351232 → (∀ x ∈ l2, (Lit.int .u8 x).wf = true) → ∃ k, bobbinlaw02_FrameStamps.f k a0 a1 l2 = some true
theorem bobbinlaw02_FrameStamps.walk (P : bobbinlaw02_FrameStamps.Pure) (a0 : Int) (a1 : Int) (a2 : Option Addr) (len2 cap2 : Nat) (z2 : List Int) (w : World) (w0 : (Lit.int .i64 a0).wf = true) (w1 : (Lit.int .i64 a1).wf = true) (w2 : (a2 = none ∧ len2 = 0 ∧ cap2 = 0 ∧ z2 = []) ∨ ∃ x, a2 = some x ∧ len2 ≤ cap2 ∧ cap2 ≤ maxLen ∧ z2.length = cap2 ∧ (∀ i, i < z2.length → w.cell? (x.add i) = some (.int .u8 (z2.getD i 0))) ∧ ∀ n ∈ z2, (Lit.int .u8 n).wf = true) (y2 : len2 * 1 ≤ 140737488351232) :
    Calls Try.prog 4 #[.int .i64 a0, .int .i64 a1, .slice a2 len2 cap2] w fun e w' => e = .returned (.bool true) ∧ Below w.heap.size w w' := by
  obtain ⟨l2, rfl, hr2, hm2, hw2, hc2⟩ := ReadsInt.ofRowC w2
  obtain ⟨k, h⟩ := P a0 a1 l2 w0 w1 hm2 y2 hw2
  refine (bobbinlaw02_FrameStamps.calls k a0 a1 _ _ l2 true w (Kd.C_of_reads (d := (0 : Int)) (h1 := fun _ => rfl) hr2) hc2 h).mono ?_
  rintro e w' ⟨rfl, hd⟩
  exact ⟨rfl, hd⟩

end Go.Proofs.Ytckmagmfanemiaa.Print
