-- Written by a program of this session (myprint.py over the kit's print.py) out of the translation. Not trusted: Lean checks it.
import Derived.Test.YtghhmbagjhmgfaaPrint0
namespace Go.Proofs.Ytghhmbagjhmgfaa.Print
open Go.RowKit Go.Proofs.YtghhmbagjhmgfaaW.PrintWords Go.Proofs.YtghhmbagjhmgfaaW.PrintLast Go.Proofs.YtghhmbagjhmgfaaW.PrintMore
attribute [local go_sem] max2_int min2_int max_two min_two max_three min_three max_four min_four   -- for this text's walks alone
set_option linter.unusedVariables false
set_option linter.unusedSimpArgs false

-- NOT PRINTED: function 29 (slices_Clone_byte_byte_29)

-- NOT PRINTED: function 30 (disk_Disk_kept)

-- NOT PRINTED: function 39 (slices_Grow_byte_byte)

/-! ### slices_Concat_byte_byte: function 38 -/
set_option maxHeartbeats 1000000 in
set_option maxRecDepth 100000 in
/-- slices.Grow of nil. -/
theorem slices_Concat_byte_byte.grow (n : Nat) (w : World) (hn : n ≤ 140737488355328) :
    Calls Try.prog 39 #[.slice none 0 0, .int .i64 n] w fun e w' => ∃ v0_ : Value, e = .returned v0_ ∧ Kd.R (Kd.int .u8) 5 w' w.heap.size (fun _ => True) v0_ [] ∧ Below w.heap.size w w' := by
  by_cases h0 : n = 0
  · subst h0
    go_enter Try.func39, Try.ntmps39
    go_wp2_with fail
    go_ret
    exact ⟨_, rfl, Kd.R_nil _ _ _ _ _, Below.refl _ _⟩
  · have e0 : decide ((n : Int) < 0) = false := decide_eq_false (by omega)
    have e1 : decide (0 < (n : Int)) = true := decide_eq_true (by omega)
    have e2 : decide (0 < n) = true := decide_eq_true (by omega)
    clear h0
    go_enter Try.func39, Try.ntmps39
    go_wp2_with (at_builtin; refine Kd.R_append_zeros (Kd.int .u8) (w0 := w) w.heap.size rfl (.tmp 20) (.tmp 21) 30 3 5 (.int .u8 0) 1 rfl Try.underlying30 Try.underlying3 info5 rfl (by decide) (by omega) (.slice none 0 0) [] 0 (n : Int) (fun _ => True) rfl rfl rfl ?aF ?aO (by omega) ?aB ?aS ?aL ?_; (case aF => exact (fun _ _ => trivial)); (case aO => exact Kd.R_nil _ _ _ _ _); (case aB => exact Below.refl _ _); (case aS => simp); (case aL => simp; omega); intro v1 w1 ho hb hg hat; obtain ⟨Av, cv, ev⟩ := Kd.R_slice ho; subst ev)
    go_ret
    exact ⟨_, rfl, by simpa using Kd.R_take (m := 0) ho (by simp), hb⟩
def slices_Concat_byte_byte.pre (l0 : List (List Int)) (k : Nat) : List Int := (l0.take k).flatten
theorem slices_Concat_byte_byte.pre_succ (l0 : List (List Int)) (k : Nat) (h : k < l0.length) : slices_Concat_byte_byte.pre l0 (k + 1) = slices_Concat_byte_byte.pre l0 k ++ l0.getD k [] := take_flat l0 k h
theorem slices_Concat_byte_byte.pre_le (l0 : List (List Int)) (k : Nat) : (slices_Concat_byte_byte.pre l0 k).length ≤ l0.flatten.length := take_flat_le l0 k
theorem slices_Concat_byte_byte.pre_all (l0 : List (List Int)) : slices_Concat_byte_byte.pre l0 l0.length = l0.flatten := by unfold slices_Concat_byte_byte.pre; rw [List.take_length]
theorem slices_Concat_byte_byte.pre_le' (l0 : List (List Int)) (k : Nat) : (slices_Concat_byte_byte.pre l0 k).length ≤ (slices_Concat_byte_byte.pre l0 l0.length).length := by rw [slices_Concat_byte_byte.pre_all]; exact slices_Concat_byte_byte.pre_le l0 k
theorem slices_Concat_byte_byte.pre_zero (l0 : List (List Int)) : slices_Concat_byte_byte.pre l0 0 = [] := by simp [slices_Concat_byte_byte.pre]
def slices_Concat_byte_byte.f (l0 : List (List Int)) : Option (List Int) := if l0.flatten.length < 140737488355328 then some l0.flatten else none
set_option maxHeartbeats 1000000 in
set_option maxRecDepth 100000 in
theorem slices_Concat_byte_byte.calls (A0 : Option Addr) (c0 : Nat) (l0 : List (List Int)) (r : List Int) (w : World) (hr0 : Kd.C (Kd.slice 5 (Kd.int .u8)) w A0 l0.length l0) (hc0 : l0.length ≤ c0) (h : slices_Concat_byte_byte.f l0 = some r) :
    Calls Try.prog 38 #[.slice A0 l0.length c0] w fun e w' => ∃ v0_ : Value, e = .returned v0_ ∧ Kd.R (Kd.int .u8) 5 w' w.heap.size (fun _ => True) v0_ r ∧ Below w.heap.size w w' := by
  have HR := Aside0.mk hr0
  have hm0 : l0.length ≤ 9223372036854775807 := hr0.2.1
  clear hr0
  unfold slices_Concat_byte_byte.f at h
  split at h
  · rename_i hm
    obtain rfl := Option.some.inj h
    clear h
    have HM := Aside0.mk hm
    have HE := Aside0.mk (slices_Concat_byte_byte.pre_all l0)
    clear hm
    generalize l0.flatten = r at *
    go_enter Try.func38, Try.ntmps38
    go_wp2_with fail
    go_loop [3, 5, 11] (fun v3 v5 v11 => ∃ k : Nat, k ≤ l0.length ∧ v11 = .int .i64 k ∧ v3 = .int .i64 (slices_Concat_byte_byte.pre l0 k).length) (fun _ _ v11 => l0.length - (intOf v11).toNat)
    case atStart => exact ⟨0, Nat.zero_le _, rfl, by rw [slices_Concat_byte_byte.pre_zero]; rfl⟩
    case round =>
      obtain ⟨k, hk, rfl, rfl⟩ := hrel
      have hle : (slices_Concat_byte_byte.pre l0 k).length < 140737488355328 := by have h0 := slices_Concat_byte_byte.pre_le' l0 k; rw [HE.out] at h0; have := HM.out; omega
      by_cases hlt : k < l0.length
      · obtain ⟨ad, Ai, ci, rfl, hcell, hci, hC⟩ := C_rows_at HR.out k hlt
        have hf := congrArg List.length (slices_Concat_byte_byte.pre_succ l0 k hlt)
        rw [List.length_append] at hf
        have hle2 := slices_Concat_byte_byte.pre_le' l0 (k + 1)
        rw [HE.out, hf] at hle2
        have hm2 := HM.out
        generalize l0.getD k [] = x at *
        have hz : (slices_Concat_byte_byte.pre l0 k).length + x.length < 140737488355328 := by omega
        have HF := Aside0.mk hf
        have HC := Aside0.mk hC
        clear hf hC hle2 hm2
        go_wp2_with fail
        go_round
        case rel => exact ⟨k + 1, by omega, by go_num, by rw [HF.out]; go_num⟩
        case measure => simp [intOf]; omega
      · obtain rfl : k = l0.length := by omega
        go_wp2_with (go_at_call 39; refine (slices_Concat_byte_byte.grow _ _ (by omega)).mono ?_; rintro e w1 ⟨v1, rfl, ho, hb⟩)
        go_loopw [6, 8, 27] (fun v6 v8 v27 wr => ∃ k : Nat, k ≤ l0.length ∧ v27 = .int .i64 k ∧ Aside0 (Kd.R (Kd.int .u8) 5 wr w.heap.size (fun _ => True) v6 (slices_Concat_byte_byte.pre l0 k)) ∧ Aside0 (Below w.heap.size w wr)) (fun _ _ v27 _ => l0.length - (intOf v27).toNat)
        case atStart => exact ⟨0, Nat.zero_le _, rfl, ⟨by rw [slices_Concat_byte_byte.pre_zero]; exact ho⟩, ⟨hb⟩⟩
        case round =>
          clear ho hb
          obtain ⟨k, hk, rfl, HO, HB⟩ := hrel
          by_cases hlt : k < l0.length
          · obtain ⟨ad, Ai, ci, rfl, hcell, hci, hC⟩ := C_rows_at (Kd.C_below HR.out HB.out) k hlt
            have hf := slices_Concat_byte_byte.pre_succ l0 k hlt
            have hle2 := slices_Concat_byte_byte.pre_le' l0 (k + 1)
            rw [HE.out, hf, List.length_append] at hle2
            have hm2 := HM.out
            generalize l0.getD k [] = x at *
            have hz : (slices_Concat_byte_byte.pre l0 k).length + x.length < 140737488355328 := by omega
            have HF := Aside0.mk hf
            have HC := Aside0.mk hC
            clear hf hC hle2 hm2
            obtain ⟨A6, c6, e6⟩ := Kd.R_slice HO.out
            subst e6
            go_wp2_with ((with_reducible refine gate_builtin (b := .append) (xs := #[.tmp 31, .tmp 32]) rfl ?_); at_builtin; refine Kd.R_append_rows (Kd.int .u8) (w0 := w) w.heap.size rfl (.tmp 31) (.tmp 32) 30 5 (.int .u8 0) 1 rfl Try.underlying30 info5 rfl (by decide) (by omega) _ (slices_Concat_byte_byte.pre l0 k) x _ _ _ (fun _ => True) (fun _ => False) rfl rfl ?aO ?aR (fun _ _ h => h) (fun _ h => h.elim) ?aF ?aB ?aS ?aL ?_; (case aF => exact (fun _ _ => trivial)); (case aB => exact HB.out); (case aS => exact HB.out.size); (case aL => omega); (case aR => exact HC.out); (case aO => exact HO.out); intro v w2 ho hb hg hat; rw [← HF.out] at ho; have HO2 := Aside0.mk ho; have HB2 := Aside0.mk hb; clear ho hb hg hat)
            go_roundw
            case rel => exact ⟨k + 1, by omega, by go_num, HO2, HB2⟩
            case measure => simp [intOf]; omega
          · obtain rfl : k = l0.length := by omega
            go_wp2_with fail
            go_ret
            exact ⟨_, rfl, by rw [← HE.out]; exact HO.out, HB.out⟩
  · exact absurd h (by simp)

/-! ### frame_Part: function 31 -/
def frame_Part.f (l0 : List Int) (l1 : List Int) (a2 : Int) : Option (List Int × Int) := if (l0.length : Int) = 256 then (if (l1.length : Int) = 256 then (if a2 < 0 then (some (([] : List Int), 1)) else (if a2 > 256 then (some (([] : List Int), 1)) else (if 0 ≤ a2 then (if a2 ≤ (l1.length : Int) then (if a2 ≤ (l0.length : Int) then ((slices_Concat_byte_byte.f (([(l1.take (a2 : Int).toNat), (l0.drop (a2 : Int).toNat)] : List (List Int)))).bind fun t114 => (some (t114, 0))) else (none)) else (none)) else (none)))) else (some (([] : List Int), 1))) else (some (([] : List Int), 1))
def frame_Part.T3 : Bool × List (List Nat × List Nat) := (true, [([], []), ([], []), ([0, 1], [0, 1]), ([], []), ([], []), ([3, 4], [3, 4]), ([2, 5], [2, 5]), ([6], [6]), ([7, 7, 0, 1, 2, 3, 4, 5, 6, 7], [7]), ([8, 0, 1, 2, 3, 4, 5, 6, 7, 8], [])])
def frame_Part.B3 : List Nat := [0, 0, 3, 0, 0, 24, 63, 127, 255, 511]
theorem frame_Part.tab3 : rtab .any (opsOf Try.f31 3) = frame_Part.T3 := by kernel_rfl
theorem frame_Part.bits3 : waitsOk frame_Part.T3.2 frame_Part.B3 = true := by kernel_rfl
set_option maxHeartbeats 8000000 in
set_option maxRecDepth 100000 in
theorem frame_Part.calls (P0_ : Nat → Prop) (A0 : Option Addr) (c0 : Nat) (l0 : List Int) (P1_ : Nat → Prop) (A1 : Option Addr) (c1 : Nat) (l1 : List Int) (a2 : Int) (r1 : List Int) (r2 : Int) (w : World) (hs0 : Kd.V (Kd.int .u8) 5 w w.heap.size (fun k_ => P0_ k_) (.slice A0 l0.length c0) l0) (hs1 : Kd.V (Kd.int .u8) 5 w w.heap.size (fun k_ => P1_ k_) (.slice A1 l1.length c1) l1) (h : frame_Part.f l0 l1 a2 = some (r1, r2)) :
    Calls Try.prog 31 #[.slice A0 l0.length c0, .slice A1 l1.length c1, .int .i64 a2] w fun e w' => ∃ v0_ : Value, e = .returned (.tuple #[v0_, .int .i64 r2]) ∧ Kd.R (Kd.int .u8) 5 w' w.heap.size (fun k_ => (w.heap.size ≤ k_)) v0_ r1 ∧ Below w.heap.size w w' := by
  have HO0 := Aside0.mk (show Kd.V (Kd.int .u8) 5 w w.heap.size (fun k_ => ((P0_ k_ ∨ P1_ k_) ∨ w.heap.size ≤ k_)) (.slice A0 l0.length c0) l0 from Kd.V_mono hs0 (fun k_ hk => .inl (.inl hk)))
  have HO1 := Aside0.mk (show Kd.V (Kd.int .u8) 5 w w.heap.size (fun k_ => ((P0_ k_ ∨ P1_ k_) ∨ w.heap.size ≤ k_)) (.slice A1 l1.length c1) l1 from Kd.V_mono hs1 (fun k_ hk => .inl (.inr hk)))
  have HB := Aside0.mk (Below.refl w.heap.size w)
  have H : (if (l0.length : Int) = 256 then (if (l1.length : Int) = 256 then (if a2 < 0 then (some (([] : List Int), 1)) else (if a2 > 256 then (some (([] : List Int), 1)) else (if 0 ≤ a2 then (if a2 ≤ (l1.length : Int) then (if a2 ≤ (l0.length : Int) then ((slices_Concat_byte_byte.f (([(l1.take (a2 : Int).toNat), (l0.drop (a2 : Int).toNat)] : List (List Int)))).bind fun t114 => (some (t114, 0))) else (none)) else (none)) else (none)))) else (some (([] : List Int), 1))) else (some (([] : List Int), 1))) = some (r1, r2) := h
  clear h
  by_cases c4 : (l0.length : Int) = 256
  · rw [if_pos c4] at H
    have c4b0 : ((l0.length : Int) == 256) = true := beq_iff_eq.mpr c4
    have c4b1 : ((l0.length : Int) != 256) = false := bne_eq_false_iff_eq.mpr c4
    clear c4
    by_cases c5 : (l1.length : Int) = 256
    · rw [if_pos c5] at H
      have c5b0 : ((l1.length : Int) == 256) = true := beq_iff_eq.mpr c5
      have c5b1 : ((l1.length : Int) != 256) = false := bne_eq_false_iff_eq.mpr c5
      clear c5
      by_cases c6 : a2 < 0
      · rw [if_pos c6] at H
        have c6b0 : decide (a2 < 0) = true := decide_eq_true c6
        clear c6
        simp only [Option.some.injEq, Prod.mk.injEq] at H
        obtain ⟨rfl, rfl⟩ := H
        go_enter Try.func31, Try.ntmps31
        go_wp2
        go_ret2
        exact ⟨_, by first | rfl | (simp [errW_none, errW_some] <;> rfl) | (simp [*, errW_none, errW_some] <;> rfl), by first | exact Kd.R_nil _ _ _ _ _ | exact Kd.N_nil _ _ _ _ _ | exact Kd.V_nil _ _ _ _ _ | exact Kd.Q_nil _ _ _ _ _ | exact Kd.S_nil _ _ _ _ _, by repeat (first | (with_reducible first | exact HB.out | apply below_alloc | apply pw_below_drewN | apply below_drew1) | exact HB.out)⟩
      · rw [if_neg c6] at H
        have c6b0 : decide (a2 < 0) = false := decide_eq_false c6
        clear c6
        by_cases c7 : a2 > 256
        · rw [if_pos c7] at H
          have c7b0 : decide (256 < a2) = true := decide_eq_true c7
          clear c7
          simp only [Option.some.injEq, Prod.mk.injEq] at H
          obtain ⟨rfl, rfl⟩ := H
          go_enter Try.func31, Try.ntmps31
          go_wp2
          go_ret2
          exact ⟨_, by first | rfl | (simp [errW_none, errW_some] <;> rfl) | (simp [*, errW_none, errW_some] <;> rfl), by first | exact Kd.R_nil _ _ _ _ _ | exact Kd.N_nil _ _ _ _ _ | exact Kd.V_nil _ _ _ _ _ | exact Kd.Q_nil _ _ _ _ _ | exact Kd.S_nil _ _ _ _ _, by repeat (first | (with_reducible first | exact HB.out | apply below_alloc | apply pw_below_drewN | apply below_drew1) | exact HB.out)⟩
        · rw [if_neg c7] at H
          have c7b0 : decide (256 < a2) = false := decide_eq_false c7
          clear c7
          by_cases c8 : 0 ≤ a2
          · rw [if_pos c8] at H
            have c8b0 := eq_true c8
            have c8b1 : decide (0 ≤ a2) = true := decide_eq_true c8
            clear c8
            by_cases c9 : a2 ≤ (l1.length : Int)
            · rw [if_pos c9] at H
              have c9b0 := eq_true c9
              have c9b1 : decide (a2 ≤ (l1.length : Int)) = true := decide_eq_true c9
              clear c9
              obtain ⟨y101, hy101⟩ : ∃ y_ : List Int, y_ = (l1.take (a2 : Int).toNat) := ⟨_, rfl⟩
              replace H : (if a2 ≤ (l0.length : Int) then ((slices_Concat_byte_byte.f (([y101, (l0.drop (a2 : Int).toNat)] : List (List Int)))).bind fun t114 => (some (t114, 0))) else (none)) = some (r1, r2) := by first | (rw [hy101]; with_reducible exact H) | (have H2_ := (Option.bind_some _ _).symm.trans H; rw [hy101]; with_reducible exact H2_) | (have H2_ := (Option.bind_some _ _).symm.trans H; with_reducible exact H2_) | with_reducible exact H | (rw [hy101]; exact H) | exact H
              have Ny101 := Aside0.mk hy101
              clear hy101
              have c10b0 := eq_true (of_decide_eq_true (by first | (with_reducible assumption) | assumption) : 0 ≤ a2)
              by_cases c11 : a2 ≤ (l0.length : Int)
              · rw [if_pos c11] at H
                have c11b0 := eq_true c11
                have c11b1 : decide (a2 ≤ (l0.length : Int)) = true := decide_eq_true c11
                clear c11
                obtain ⟨y106, hy106⟩ : ∃ y_ : List Int, y_ = (l0.drop (a2 : Int).toNat) := ⟨_, rfl⟩
                replace H : ((slices_Concat_byte_byte.f (([y101, y106] : List (List Int)))).bind fun t114 => (some (t114, 0))) = some (r1, r2) := by first | (rw [hy106]; with_reducible exact H) | (have H2_ := (Option.bind_some _ _).symm.trans H; rw [hy106]; with_reducible exact H2_) | (have H2_ := (Option.bind_some _ _).symm.trans H; with_reducible exact H2_) | with_reducible exact H | (rw [hy106]; exact H) | exact H
                have Ny106 := Aside0.mk hy106
                clear hy106
                obtain ⟨y111, hy111⟩ : ∃ y_ : List (List Int), y_ = (([y101, y106] : List (List Int))) := ⟨_, rfl⟩
                replace H : ((slices_Concat_byte_byte.f y111).bind fun t114 => (some (t114, 0))) = some (r1, r2) := by first | (rw [hy111]; with_reducible exact H) | (have H2_ := (Option.bind_some _ _).symm.trans H; rw [hy111]; with_reducible exact H2_) | (have H2_ := (Option.bind_some _ _).symm.trans H; with_reducible exact H2_) | with_reducible exact H | (rw [hy111]; exact H) | exact H
                have Ny111 := Aside0.mk hy111
                clear hy111
                replace H := Option.bind_eq_some_iff.mp H
                obtain ⟨t114, A120, H⟩ := H
                replace H : (some (t114, 0)) = some (r1, r2) := H
                have A12 := Aside0.mk A120
                clear A120
                simp only [Option.some.injEq, Prod.mk.injEq] at H
                obtain ⟨rfl, rfl⟩ := H
                go_enter Try.func31, Try.ntmps31
                try go_wp2
                have n0_ := Aside0.mk (Kd.V_drew HO0.out)
                have n1_ := Aside0.mk (Kd.V_drew HO1.out)
                have n2_ := Aside0.mk (below_drew1 HB.out)
                clear HO0
                clear HO1
                clear HB
                have HO0 := n0_
                have HO1 := n1_
                have HB := n2_
                clear n0_ n1_ n2_
                have q14 : (a2 : Int) ≤ ((l1.length : Int) : Int) := of_decide_eq_true (by first | (with_reducible assumption) | assumption)
                obtain ⟨i014, hi014, _, hsz14, _⟩ := info_parts info5
                have hroom14 : l1.length ≤ c1 := (Kd.V_reads' HO1.out).2.1
                have hC14 : Kd.F (Kd.int .u8) _ _ A1 l1.length l1 := (Kd.V_at (base := w.heap.size) HO1.out).2.2
                have hcut14 := cut_to (P := Try.prog) 30 5 .i64 Try.underlying30 hi014 A1 l1.length c1 a2 (of_decide_eq_true (by first | (with_reducible assumption) | assumption)) q14 hroom14
                have hr14 := Kd.F_take (m := (a2 : Int).toNat) hC14 (by omega)
                have hy14 : y101.length = (a2 : Int).toNat := (by rw [Ny101.out, List.length_take]; omega)
                rw [← Ny101.out] at hr14
                rw [← hy14] at hcut14
                have HO105 := Aside0.mk (show Kd.V (Kd.int .u8) 5 _ w.heap.size _ (.slice A1 y101.length c1) y101 from Kd.V_mk (by omega) hr14)
                have HC105 := Aside0.mk (show y101.length ≤ c1 from by omega)
                clear hr14 hC14 hroom14 hi014 hsz14
                have KY14 := Aside0.mk hy14
                clear hy14
                replace q14 := eq_true q14
                have q15 : (a2 : Int) ≤ ((l0.length : Int) : Int) := of_decide_eq_true (by first | (with_reducible assumption) | assumption)
                obtain ⟨i015, hi015, _, hsz15, _⟩ := info_parts info5
                have hroom15 : l0.length ≤ c0 := (Kd.V_reads' HO0.out).2.1
                have hC15 : Kd.F (Kd.int .u8) _ _ A0 l0.length l0 := (Kd.V_at (base := w.heap.size) HO0.out).2.2
                have q015 : (0 : Int) ≤ (a2 : Int) := of_decide_eq_true (by first | (with_reducible assumption) | assumption)
                have hcut15 := cut_from (P := Try.prog) 30 5 .i64 Try.underlying30 hi015 1 hsz15 A0 l0.length c0 a2 q015 q15
                have hr15 := Kd.F_cut (m := (a2 : Int).toNat) (c := c0) hC15 (by omega) hroom15
                obtain ⟨A15, hA15⟩ : ∃ A1, A1 = (if c0 = (a2 : Int).toNat then A0 else (A0 : Option Addr).map (·.add ((a2 : Int).toNat * 1))) := ⟨_, rfl⟩
                obtain ⟨c15, hc15⟩ : ∃ c1, c1 = c0 - (a2 : Int).toNat := ⟨_, rfl⟩
                have hy15 : y106.length = l0.length - (a2 : Int).toNat := (by rw [Ny106.out, List.length_drop] <;> omega)
                rw [show (l0).drop (a2 : Int).toNat = y106 from Ny106.out.symm] at hr15
                replace hr15 : Kd.F (Kd.int .u8) _ _ A15 y106.length y106 := (by rw [hA15]; exact hr15)
                rw [← hy15, ← hA15, ← hc15] at hcut15
                have HO110 := Aside0.mk (show Kd.V (Kd.int .u8) 5 _ w.heap.size _ (.slice A15 y106.length c15) y106 from Kd.V_mk (by rw [hy15, hc15]; exact Nat.sub_le_sub_right hroom15 _) hr15)
                have HC110 := Aside0.mk (show y106.length ≤ c15 from by rw [hy15, hc15]; exact Nat.sub_le_sub_right hroom15 _)
                clear hr15 hC15 hroom15 hi015 hsz15 hc15
                have KY15 := Aside0.mk hy15
                have KA15 := Aside0.mk hA15
                clear hy15 hA15
                replace q15 := eq_true q15
                refine start_ (n := 10) (S := fun w' => True) (ds := []) #[false, false, false, false, false, false, false, false, false, false] (by kernel_rfl) rfl rfl trivial (fun hHeld => ?_); refine with_tabW frame_Part.tab3 frame_Part.bits3 (fun HT_ HW_ => ?_)
                generalize w.drew = w13 at HO0 HO1 HB HO105 HO110 hHeld ⊢
                refine pure_ (i := 0) (N := some 24) (v := ?_) (a' := ?_) #[true, false, false, false, false, false, false, false, false, false] rfl rfl (any_of HT_.out (by kernel_rfl)) (fun _ _ _ h => h) (Or.inl ⟨by rfl, ?_⟩) ?_ ?_
                rotate_left
                · intro w'
                  go_simp
                  with_reducible rfl
                rotate_left
                · simp only [Act.put, List.setIfInBounds_toArray, List.set_cons_zero, List.set_cons_succ, i64_w, i32_w]
                  rfl
                refine pure_ (i := 1) (N := some 25) (v := ?_) (a' := ?_) #[true, true, false, false, false, false, false, false, false, false] rfl rfl (any_of HT_.out (by kernel_rfl)) (fun _ _ _ h => h) (Or.inl ⟨by rfl, ?_⟩) ?_ ?_
                rotate_left
                · intro w'
                  go_simp
                  with_reducible rfl
                rotate_left
                · simp only [Act.put, List.setIfInBounds_toArray, List.set_cons_zero, List.set_cons_succ, i64_w, i32_w]
                  rfl
                refine pure_ (i := 2) (N := some 26) (v := ?_) (a' := ?_) #[true, true, true, false, false, false, false, false, false, false] rfl rfl (any_of HT_.out (by kernel_rfl)) (fun _ _ _ h => h) (Or.inl ⟨by rfl, ?_⟩) ?_ ?_
                rotate_left
                · intro w'
                  go_simp
                  with_reducible rfl
                rotate_left
                · simp only [Act.put, List.setIfInBounds_toArray, List.set_cons_zero, List.set_cons_succ, i64_w, i32_w]
                  rfl
                refine pure_ (i := 3) (N := some 27) (v := ?_) (a' := ?_) #[true, true, true, true, false, false, false, false, false, false] rfl rfl (any_of HT_.out (by kernel_rfl)) (fun _ _ _ h => h) (Or.inl ⟨by rfl, ?_⟩) ?_ ?_
                rotate_left
                · intro w'
                  go_simp
                  with_reducible rfl
                rotate_left
                · simp only [Act.put, List.setIfInBounds_toArray, List.set_cons_zero, List.set_cons_succ, i64_w, i32_w]
                  rfl
                refine pure_ (i := 4) (N := some 28) (v := ?_) (a' := ?_) #[true, true, true, true, true, false, false, false, false, false] rfl rfl (any_of HT_.out (by kernel_rfl)) (fun _ _ _ h => h) (Or.inl ⟨by rfl, ?_⟩) ?_ ?_
                rotate_left
                · intro w'
                  go_simp
                  with_reducible rfl
                rotate_left
                · simp only [Act.put, List.setIfInBounds_toArray, List.set_cons_zero, List.set_cons_succ, i64_w, i32_w]
                  rfl
                refine pure_ (i := 5) (N := some 29) (v := ?_) (a' := ?_) #[true, true, true, true, true, true, false, false, false, false] rfl rfl (any_of HT_.out (by kernel_rfl)) (fun _ _ _ h => h) (Or.inl ⟨by rfl, ?_⟩) ?_ ?_
                rotate_left
                · intro w'
                  go_simp
                  with_reducible rfl
                rotate_left
                · simp only [Act.put, List.setIfInBounds_toArray, List.set_cons_zero, List.set_cons_succ, i64_w, i32_w]
                  rfl
                refine one_ (i := 6) (N := some 30) #[true, true, true, true, true, true, true, false, false, false] rfl rfl (one_of HT_.out (by kernel_rfl)) (by decide) (fun K hK => ?_)
                refine Kd.N_lit_step (Kd.slice 5 (Kd.int .u8)) _ 30 ?hg (N' := 30) ?hd (xs := ([y101, y106] : List (List Int))) (inner := [.slice A1 y101.length c1, .slice A15 y106.length c15]) (ok := (fun k_ => ((P0_ k_ ∨ P1_ k_) ∨ w.heap.size ≤ k_))) (okp := (fun k_ => ((P0_ k_ ∨ P1_ k_) ∨ w.heap.size ≤ k_))) ?hr ?hp (fun _ hk => hk) ((show ∀ k_, w13.heap.size ≤ k_ → (fun k_ => ((P0_ k_ ∨ P1_ k_) ∨ w.heap.size ≤ k_)) k_ from fun k_ hk => (.inr (Nat.le_trans (below_size (by repeat (first | (with_reducible first | exact HB.out | apply below_alloc | apply pw_below_drewN | apply below_drew1) | exact HB.out))) hk))) _ (Nat.le_refl _)) (Below.refl _ _) (Nat.le_refl _) (by simp) ?_; (case hd => rfl); (case hg => rfl); (case hr => first | (go_simp; done) | (go_simp; rfl)); (case hp => exact (Reps.one (show Kd.FK (Kd.slice 5 (Kd.int .u8)) _ _ y101 [.slice A1 y101.length c1] from (Kd.FK_slice_mk (Kd.V_reads' (Kd.V_mono (ok' := (fun k_ => ((P0_ k_ ∨ P1_ k_) ∨ w.heap.size ≤ k_))) (HO105.out) (fun k_ hk => hk))).2.1 (Kd.V_F (Kd.V_mono (ok' := (fun k_ => ((P0_ k_ ∨ P1_ k_) ∨ w.heap.size ≤ k_))) (HO105.out) (fun k_ hk => hk))))) (Reps.one (show Kd.FK (Kd.slice 5 (Kd.int .u8)) _ _ y106 [.slice A15 y106.length c15] from (Kd.FK_slice_mk (Kd.V_reads' (Kd.V_mono (ok' := (fun k_ => ((P0_ k_ ∨ P1_ k_) ∨ w.heap.size ≤ k_))) (HO110.out) (fun k_ hk => hk))).2.1 (Kd.V_F (Kd.V_mono (ok' := (fun k_ => ((P0_ k_ ∨ P1_ k_) ∨ w.heap.size ≤ k_))) (HO110.out) (fun k_ hk => hk))))) (Reps.none _ _))))
                intro v112 w16 ho17 hb hg_ hnew_
                clear hg_ hnew_
                (first | rw [← Ny111.out] at ho17 | (simp only [Int.reduceToNat] at ho17; rw [← Ny111.out] at ho17))
                have n0_ := Aside0.mk (Kd.V_elder' (by (with_reducible repeat (first | apply Kd.V_alloc | apply Kd.V_drewN | apply Kd.V_drew)); exact HO0.out) (Kd.N_base ho17) hb)
                have n1_ := Aside0.mk (Kd.V_elder' (by (with_reducible repeat (first | apply Kd.V_alloc | apply Kd.V_drewN | apply Kd.V_drew)); exact HO1.out) (Kd.N_base ho17) hb)
                have n2_ := Aside0.mk (Kd.V_elder' (by (with_reducible repeat (first | apply Kd.V_alloc | apply Kd.V_drewN | apply Kd.V_drew)); exact HO105.out) (Kd.N_base ho17) hb)
                have n3_ := Aside0.mk (Kd.V_elder' (by (with_reducible repeat (first | apply Kd.V_alloc | apply Kd.V_drewN | apply Kd.V_drew)); exact HO110.out) (Kd.N_base ho17) hb)
                have n4_ := Aside0.mk (Kd.N_lower ho17 (below_size (by repeat (first | (with_reducible first | exact HB.out | apply below_alloc | apply pw_below_drewN | apply below_drew1) | exact HB.out))))
                have n5_ := Aside0.mk (below_step (by repeat (first | (with_reducible first | exact HB.out | apply below_alloc | apply pw_below_drewN | apply below_drew1) | exact HB.out)) hb)
                clear HO0
                clear HO1
                clear HO105
                clear HO110
                clear HB
                have HO0 := n0_
                have HO1 := n1_
                have HO105 := n2_
                have HO110 := n3_
                have HO113 := n4_
                have HB := n5_
                clear n0_ n1_ n2_ n3_ n4_ n5_
                clear hb ho17
                obtain ⟨Ao18, co18, eo18⟩ := Kd.N_slice HO113.out
                (first | subst eo18 | (injection eo18 with f1_ f2_ f3_; have f4_ := f1_.symm; have f5_ := f3_.symm; clear f1_ f2_ f3_; subst f4_; subst f5_))
                refine hK.out _ _ trivial (fun hHeld => ?_)
                clear hK K
                refine norm_ (a' := ?_) ?_ ?_
                rotate_left
                · show Act.put _ (some 30) _ = _
                  simp only [Act.put, List.setIfInBounds_toArray, List.set_cons_zero, List.set_cons_succ, i64_w, i32_w]
                  rfl
                refine one_ (i := 7) (N := some 31) #[true, true, true, true, true, true, true, true, false, false] rfl rfl (one_of HT_.out (by kernel_rfl)) (by decide) (fun K hK => ?_)
                refine goes_ Try.func38 (by kernel_rfl) rfl #[.slice Ao18 y111.length co18] (by rfl) rfl rfl (by (try simp only [List.map_toArray, List.map_cons, List.map_nil]); first | done | rfl | (simp only [List.length_drop, List.length_take]; rfl)) ?_
                with_reducible refine (slices_Concat_byte_byte.calls _ _ y111 t114 _ ?side1 ?side2 A12.out).mono ?_
                (case side1 => repeat (first | exact (Kd.N_reads' HO113.out).2.2 | (with_reducible refine Kd.C_alloc ?_ _) | (with_reducible refine Kd.C_drewN ?_ _) | (with_reducible refine Kd.C_drew ?_)))
                (case side2 => exact (Kd.N_reads' HO113.out).2.1)
                rintro e w19 ⟨v115, rfl, ho0, hb⟩
                refine ⟨_, rfl, ?_⟩
                have n0_ := Aside0.mk (Kd.V_elder' (by (with_reducible repeat (first | apply Kd.V_alloc | apply Kd.V_drewN | apply Kd.V_drew)); exact HO0.out) (Kd.R_base ho0) hb)
                have n1_ := Aside0.mk (Kd.V_elder' (by (with_reducible repeat (first | apply Kd.V_alloc | apply Kd.V_drewN | apply Kd.V_drew)); exact HO1.out) (Kd.R_base ho0) hb)
                have n2_ := Aside0.mk (Kd.V_elder' (by (with_reducible repeat (first | apply Kd.V_alloc | apply Kd.V_drewN | apply Kd.V_drew)); exact HO105.out) (Kd.R_base ho0) hb)
                have n3_ := Aside0.mk (Kd.V_elder' (by (with_reducible repeat (first | apply Kd.V_alloc | apply Kd.V_drewN | apply Kd.V_drew)); exact HO110.out) (Kd.R_base ho0) hb)
                have n4_ := Aside0.mk (Kd.N_elder' (by (with_reducible repeat (first | apply Kd.N_alloc | apply Kd.N_drewN | apply Kd.N_drew)); exact HO113.out) (Kd.R_base ho0) hb)
                have n5_ := Aside0.mk (Kd.R_lower (Kd.R_newM (M := fun k_ => (w.heap.size ≤ k_)) ho0 (below_size (by repeat (first | (with_reducible first | exact HB.out | apply below_alloc | apply pw_below_drewN | apply below_drew1) | exact HB.out))) (fun k_ h_ => h_)) (below_size (by repeat (first | (with_reducible first | exact HB.out | apply below_alloc | apply pw_below_drewN | apply below_drew1) | exact HB.out))))
                have n6_ := Aside0.mk (below_step (by repeat (first | (with_reducible first | exact HB.out | apply below_alloc | apply pw_below_drewN | apply below_drew1) | exact HB.out)) hb)
                clear HO0
                clear HO1
                clear HO105
                clear HO110
                clear HO113
                clear HB
                have HO0 := n0_
                have HO1 := n1_
                have HO105 := n2_
                have HO110 := n3_
                have HO113 := n4_
                have HO116 := n5_
                have HB := n6_
                clear n0_ n1_ n2_ n3_ n4_ n5_ n6_
                (try clear hb)
                (try clear hb2)
                (try clear hk)
                (try clear hi)
                (try clear ho0)
                refine hK.out _ _ trivial (fun hHeld => ?_)
                clear hK K
                refine norm_ (a' := ?_) ?_ ?_
                rotate_left
                · show Act.put _ (some 31) _ = _
                  simp only [Act.put, List.setIfInBounds_toArray, List.set_cons_zero, List.set_cons_succ, i64_w, i32_w]
                  rfl
                refine pure_ (i := 8) (N := some 6) (v := ?_) (a' := ?_) #[true, true, true, true, true, true, true, true, true, false] rfl rfl (any_of HT_.out (by kernel_rfl)) (fun _ _ _ h => h) (Or.inl ⟨by rfl, ?_⟩) ?_ ?_
                rotate_left
                · intro w'
                  go_simp
                  with_reducible rfl
                rotate_left
                · simp only [Act.put, List.setIfInBounds_toArray, List.set_cons_zero, List.set_cons_succ, i64_w, i32_w]
                  rfl
                refine pure_ (i := 9) (N := some 7) (v := ?_) (a' := ?_) #[true, true, true, true, true, true, true, true, true, true] rfl rfl (any_of HT_.out (by kernel_rfl)) (fun _ _ _ h => h) (Or.inl ⟨by rfl, ?_⟩) ?_ ?_
                rotate_left
                · intro w'
                  go_simp
                  with_reducible rfl
                rotate_left
                · simp only [Act.put, List.setIfInBounds_toArray, List.set_cons_zero, List.set_cons_succ, i64_w, i32_w]
                  rfl
                refine done_ (done_of HT_.out (by kernel_rfl)) ?_
                try go_wp2
                go_ret2
                exact ⟨_, by first | rfl | (simp [errW_none, errW_some] <;> rfl) | (simp [*, errW_none, errW_some] <;> rfl), by (with_reducible repeat (first | apply Kd.R_alloc | apply Kd.R_drewN | apply Kd.R_drew)); exact Kd.R_mono HO116.out (fun _ hk => hk.1), by repeat (first | (with_reducible first | exact HB.out | apply below_alloc | apply pw_below_drewN | apply below_drew1) | exact HB.out)⟩
              · rw [if_neg c11] at H
                exact absurd H (by simp)
            · rw [if_neg c9] at H
              exact absurd H (by simp)
          · rw [if_neg c8] at H
            exact absurd H (by simp)
    · rw [if_neg c5] at H
      have c5b0 : ((l1.length : Int) == 256) = false := beq_eq_false_iff_ne.mpr c5
      have c5b1 : ((l1.length : Int) != 256) = true := bne_iff_ne.mpr c5
      simp only [Option.some.injEq, Prod.mk.injEq] at H
      obtain ⟨rfl, rfl⟩ := H
      go_enter Try.func31, Try.ntmps31
      go_wp2
      go_ret2
      exact ⟨_, by first | rfl | (simp [errW_none, errW_some] <;> rfl) | (simp [*, errW_none, errW_some] <;> rfl), by first | exact Kd.R_nil _ _ _ _ _ | exact Kd.N_nil _ _ _ _ _ | exact Kd.V_nil _ _ _ _ _ | exact Kd.Q_nil _ _ _ _ _ | exact Kd.S_nil _ _ _ _ _, by repeat (first | (with_reducible first | exact HB.out | apply below_alloc | apply pw_below_drewN | apply below_drew1) | exact HB.out)⟩
  · rw [if_neg c4] at H
    have c4b0 : ((l0.length : Int) == 256) = false := beq_eq_false_iff_ne.mpr c4
    have c4b1 : ((l0.length : Int) != 256) = true := bne_iff_ne.mpr c4
    simp only [Option.some.injEq, Prod.mk.injEq] at H
    obtain ⟨rfl, rfl⟩ := H
    go_enter Try.func31, Try.ntmps31
    go_wp2
    go_ret2
    exact ⟨_, by first | rfl | (simp [errW_none, errW_some] <;> rfl) | (simp [*, errW_none, errW_some] <;> rfl), by first | exact Kd.R_nil _ _ _ _ _ | exact Kd.N_nil _ _ _ _ _ | exact Kd.V_nil _ _ _ _ _ | exact Kd.Q_nil _ _ _ _ _ | exact Kd.S_nil _ _ _ _ _, by repeat (first | (with_reducible first | exact HB.out | apply below_alloc | apply pw_below_drewN | apply below_drew1) | exact HB.out)⟩

-- NOT PRINTED: function 11 (disk_Disk_Crash)

-- NOT PRINTED: function 19 (disk_Disk_Dead)

-- NOT PRINTED: function 28 (disk_Disk_Len)

/-! ### slices_Clone_byte_byte_32: function 32 -/
theorem slices_Clone_byte_byte_32.made0 (W : World) (base : Nat) (hb : base ≤ W.heap.size) : Kd.R (Kd.int .u8) 5 (W.alloc (.cells #[] 5)) base (fun _ => True) (.slice (some ⟨W.heap.size, 0, none⟩) 0 0) [] :=
  ⟨fun _ _ => trivial, [], ⟨by simp, .inr ⟨W.heap.size, 0, #[], rfl, hb, by simpa using heap_alloc_new W (.cells #[] 5), by simp, by simp [maxLen], by simp, by simp⟩⟩, Reps.none _ _⟩
def slices_Clone_byte_byte_32.f (l0 : (List Int)) : Option (List Int) := if l0.length < 140737488355328 then some l0 else none
set_option maxHeartbeats 1000000 in
theorem slices_Clone_byte_byte_32.calls (A0 : Option Addr) (c0 : Nat) (l0 : (List Int)) (r : (List Int)) (w : World) (hr0 : Kd.C (Kd.int .u8) w A0 l0.length l0) (hc0 : l0.length ≤ c0) (h : slices_Clone_byte_byte_32.f l0 = some r) :
    Calls Try.prog 32 #[.slice A0 l0.length c0] w fun e w' => ∃ v0_ : Value, e = .returned v0_ ∧ Kd.R (Kd.int .u8) 5 w' w.heap.size (fun _ => True) v0_ r ∧ Below w.heap.size w w' := by
  have HR := Aside0.mk hr0
  clear hr0
  unfold slices_Clone_byte_byte_32.f at h
  split at h
  · rename_i hm
    obtain rfl := Option.some.inj h
    clear h
    cases A0 with
    | none =>
      obtain rfl : l0 = [] := by
        rcases l0 with _ | ⟨a, t⟩
        · rfl
        · exact absurd (HR.out.2.2 (by simp)) (by simp)
      have hq : ∀ (w : World), (binOp .eql 30 (.slice none 0 c0) (.slice none 0 0)).run Try.prog w = .ok (.bool true) w := fun w => Lib.run_eql_slice_nil w 30 5 none 0 c0 0 0 Try.underlying30
      go_enter Try.func32, Try.ntmps32
      go_wp2
      go_ret
      exact ⟨_, rfl, Kd.R_nil _ _ _ _ _, Below.refl _ _⟩
    | some a =>
      have hq : ∀ (w : World), (binOp .eql 30 (.slice (some a) l0.length c0) (.slice none 0 0)).run Try.prog w = .ok (.bool false) w := fun w => Lib.run_eql_slice_nil w 30 5 (some a) l0.length c0 0 0 Try.underlying30
      go_enter Try.func32, Try.ntmps32
      go_wp2_with ((with_reducible refine gate_builtin (b := .append) (xs := #[.tmp 5, .tmp 6]) rfl ?_); at_builtin; refine Kd.R_append_rows (Kd.int .u8) (w0 := w) w.heap.size rfl (.tmp 5) (.tmp 6) 30 5 (.int .u8 0) 1 rfl Try.underlying30 info5 rfl (by decide) (by omega) _ [] l0 _ _ _ (fun _ => True) (fun _ => False) rfl rfl ?aO ?aR (fun _ _ h => h) (fun _ h => h.elim) ?aF ?aB ?aS ?aL ?_; (case aF => exact (fun _ _ => trivial)); (case aB => exact below_alloc (Below.refl _ _) _); (case aS => simp); (case aL => simp; omega); (case aR => exact Kd.C_below HR.out (below_alloc (Below.refl _ _) _)); (case aO => exact slices_Clone_byte_byte_32.made0 w w.heap.size (Nat.le_refl _)); intro v w1 ho hb hg hat)
      go_ret
      exact ⟨_, rfl, ho, hb⟩
  · exact absurd h (by simp)
theorem slices_Clone_byte_byte_32.calls_n (n : Nat) (A0 : Option Addr) (c0 : Nat) (l0 : (List Int)) (w : World) (hr0 : Kd.C (Kd.int .u8) w A0 n l0) (hc0 : n ≤ c0) (h : n < 140737488355328) :
    Calls Try.prog 32 #[.slice A0 n c0] w fun e w' => ∃ v0_ : Value, e = .returned v0_ ∧ Kd.R (Kd.int .u8) 5 w' w.heap.size (fun _ => True) v0_ l0 ∧ Below w.heap.size w w' := by
  obtain rfl : l0.length = n := hr0.1
  exact slices_Clone_byte_byte_32.calls A0 c0 l0 l0 w hr0 hc0 (by unfold slices_Clone_byte_byte_32.f; rw [if_pos h])

-- NOT PRINTED: function 12 (disk_Disk_Read)

/-! ### bobbinlaw03_Sector: function 14 -/
def bobbinlaw03_Sector.l0 : Nat → Int → List Int → Int → Option (List Int)
  | 0, _, _, _ => none
  | k + 1, x0, x3, x4 => if x4 < (x3.length : Int) then (if 0 ≤ x4 then (bobbinlaw03_Sector.l0 k x0 (x3.set (x4 : Int).toNat x0) (wrap64 (x4 + 1))) else (none)) else (some x3)
theorem bobbinlaw03_Sector.l0_eq : ∀ (k : Nat) x0 x3 x4, bobbinlaw03_Sector.l0 (k + 1) x0 x3 x4 = (if x4 < (x3.length : Int) then (if 0 ≤ x4 then (bobbinlaw03_Sector.l0 k x0 (x3.set (x4 : Int).toNat x0) (wrap64 (x4 + 1))) else (none)) else (some x3)) := fun _ _ _ _ => rfl
def bobbinlaw03_Sector.f (k : Nat) (a0 : Int) : Option (List Int) := if 256 ≤ 281474976710656 then (bobbinlaw03_Sector.l0 k a0 (List.replicate 256 0) 0) else (none)
theorem bobbinlaw03_Sector.mono_l : ∀ k, (∀ y0 y1 y2, LeO (bobbinlaw03_Sector.l0 k y0 y1 y2) (bobbinlaw03_Sector.l0 (k + 1) y0 y1 y2))
  | 0 => fun _ _ _ r h => by first | (cases h; done) | simp [bobbinlaw03_Sector.l0] at h
  | k + 1 => by
    have ih0 := bobbinlaw03_Sector.mono_l k
    · intro y0 y1 y2
      unfold bobbinlaw03_Sector.l0
      repeat' first
      | (with_reducible exact ih0 _ _ _)
      | (with_reducible exact LeO.refl _)
      | (with_reducible exact LeO.none _)
      | (with_reducible refine LeO.ite ?_ ?_)
      | (with_reducible refine LeO.bind ?_ (fun _ => ?_))
      | exact ih0 _ _ _
      | exact LeO.none _
      | refine LeO.ite ?_ ?_
      | refine LeO.bind ?_ (fun _ => ?_)
theorem bobbinlaw03_Sector.mono : ∀ a0 k, LeO (bobbinlaw03_Sector.f k a0) (bobbinlaw03_Sector.f (k + 1) a0) := by
  intro a0 k
  have ih0 := bobbinlaw03_Sector.mono_l k
  unfold bobbinlaw03_Sector.f
  repeat' first
      | (with_reducible exact ih0 _ _ _)
      | (with_reducible exact LeO.refl _)
      | (with_reducible exact LeO.none _)
      | (with_reducible refine LeO.ite ?_ ?_)
      | (with_reducible refine LeO.bind ?_ (fun _ => ?_))
      | exact ih0 _ _ _
      | exact LeO.none _
      | refine LeO.ite ?_ ?_
      | refine LeO.bind ?_ (fun _ => ?_)
set_option maxHeartbeats 8000000 in
set_option maxRecDepth 100000 in
theorem bobbinlaw03_Sector.calls (k : Nat) (a0 : Int) (r : List Int) (w : World) (h : bobbinlaw03_Sector.f k a0 = some r) :
    Calls Try.prog 14 #[.int .u8 a0] w fun e w' => ∃ v0_ : Value, e = .returned (v0_) ∧ Kd.R (Kd.int .u8) 5 w' w.heap.size (fun _ => True) v0_ r ∧ Below w.heap.size w w' := by
  have HB := Aside0.mk (Below.refl w.heap.size w)
  have H : (if 256 ≤ 281474976710656 then (bobbinlaw03_Sector.l0 k a0 (List.replicate 256 0) 0) else (none)) = some r := h
  clear h
  by_cases c2 : 256 ≤ 281474976710656
  · rw [if_pos c2] at H
    have c2b0 := eq_true c2
    have c2b1 : decide (256 ≤ 281474976710656) = true := decide_eq_true c2
    clear c2
    obtain ⟨y117, hy117⟩ : ∃ y_ : List Int, y_ = (List.replicate 256 0) := ⟨_, rfl⟩
    replace H : (bobbinlaw03_Sector.l0 k a0 y117 0) = some r := by first | (rw [hy117]; with_reducible exact H) | (have H2_ := (Option.bind_some _ _).symm.trans H; rw [hy117]; with_reducible exact H2_) | (have H2_ := (Option.bind_some _ _).symm.trans H; with_reducible exact H2_) | with_reducible exact H | (rw [hy117]; exact H) | exact H
    have Ny117 := Aside0.mk hy117
    clear hy117
    have H' := Aside0.mk H
    clear H
    go_enter Try.func14, Try.ntmps14
    go_wp2_with (first | ((with_reducible refine gate_dst (N := 5) rfl ?_); refine Kd.R_make (Kd.int .u8) _ 5 rfl (N := 5) rfl 30 _ _ rfl 256 rfl rfl Try.underlying30 (.int .u8 0) 1 info5 rfl (by decide) (by omega) 0 (ok := fun _ => True) (okp := fun _ => True) rfl (fun _ hk => hk) trivial (by omega) (by omega) (Below.refl _ _) (Nat.le_refl _) ?_; intro v118 w3 ho4 hb hg_ hnew_; clear hg_ hnew_; (first | rw [← Ny117.out] at ho4 | (simp only [Int.reduceToNat] at ho4; rw [← Ny117.out] at ho4)); have n0_ := Aside0.mk (Kd.R_lower ho4 (below_size (by repeat (first | (with_reducible first | exact HB.out | apply below_alloc | apply pw_below_drewN | apply below_drew1) | exact HB.out)))); have n1_ := Aside0.mk (below_step (by repeat (first | (with_reducible first | exact HB.out | apply below_alloc | apply pw_below_drewN | apply below_drew1) | exact HB.out)) hb); clear HB; have HO119 := n0_; have HB := n1_; clear n0_ n1_; clear hb ho4))
    go_loopg [4] k (fun kq v4 w' => ∃ (x3_1 : List Int) (x4_1 : Int), v4 = .int .i64 x4_1 ∧ Aside0 (bobbinlaw03_Sector.l0 kq a0 x3_1 x4_1 = some r) ∧ Aside0 (kq ≤ k) ∧ Aside0 (Kd.R (Kd.int .u8) 5 w' w.heap.size (fun _ => True) v118 x3_1) ∧ Aside0 (Below w.heap.size w w'))
    case atStart => exact ⟨(y117), (0), (by first | rfl | (simp; done) | (simp [*]; done)), H', ⟨Nat.le_refl _⟩, ⟨by (with_reducible repeat (first | apply Kd.R_alloc | apply Kd.R_drewN | apply Kd.R_drew)); exact HO119.out⟩, ⟨by repeat (first | (with_reducible first | exact HB.out | apply below_alloc | apply pw_below_drewN | apply below_drew1) | exact HB.out)⟩⟩
    case round =>
      clear H'
      try clear c1
      try clear c2
      try clear c2b0
      try clear c2b1
      try clear p2
      obtain ⟨x3_1, x4_1, rfl, HA, HK1, HO_3, HB⟩ := hrel
      cases gk with
      | zero => exact absurd HA.out (by first | (intro h_; cases h_; done) | simp [bobbinlaw03_Sector.l0])
      | succ k1 =>
        have H := HA.out
        clear HA
        rw [bobbinlaw03_Sector.l0_eq] at H
        by_cases c5 : x4_1 < (x3_1.length : Int)
        · rw [if_pos c5] at H
          have c5b0 : decide (x4_1 < (x3_1.length : Int)) = true := decide_eq_true c5
          clear c5
          by_cases c6 : 0 ≤ x4_1
          · rw [if_pos c6] at H
            have c6b0 : decide (0 ≤ x4_1) = true := decide_eq_true c6
            clear c6
            obtain ⟨y120, hy120⟩ : ∃ y_ : List Int, y_ = (x3_1.set (x4_1 : Int).toNat a0) := ⟨_, rfl⟩
            replace H : (bobbinlaw03_Sector.l0 k1 a0 y120 (wrap64 (x4_1 + 1))) = some r := by first | (rw [hy120]; with_reducible exact H) | (have H2_ := (Option.bind_some _ _).symm.trans H; rw [hy120]; with_reducible exact H2_) | (have H2_ := (Option.bind_some _ _).symm.trans H; with_reducible exact H2_) | with_reducible exact H | (rw [hy120]; exact H) | exact H
            have Ny120 := Aside0.mk hy120
            clear hy120
            have H' := Aside0.mk H
            clear H
            obtain ⟨Ao8, co8, eo8⟩ := Kd.R_slice HO_3.out
            subst eo8
            have p7 : 0 ≤ (x4_1 : Int) := of_decide_eq_true (by first | (with_reducible assumption) | assumption)
            have q7 : (x4_1 : Int) < ((x3_1.length : Int) : Int) := of_decide_eq_true (by first | (with_reducible assumption) | assumption)
            obtain ⟨go7, co7, eo7, gb7, gl7, cl7, HG7⟩ := Kd.R_form HO_3.out (by omega)
            (first | cases eo7 | (injection eo7 with ea_ en_ ec_; (first | subst ea_ | (injection ea_ with ea_; subst ea_)); subst ec_; clear en_))
            have GB7 := Aside0.mk gb7
            have GG7 := Aside0.mk HG7
            clear gb7 gl7 HG7
            obtain ⟨hx7_0, hf7_0⟩ := Kd.R_celln 0 HO_3.out (x4_1 : Int) p7 q7
            replace p7 := eq_true p7
            replace q7 := eq_true q7
            have HP9 := Kd.R_putg HO_3.out (x4_1 : Int) a0
            go_wp2_with (first | ((with_reducible refine gate_store (t := 5) (p := 15) rfl ?_); refine store_event (t := 5) (p := 15) (v := ?vo_w10) (w1 := (wr.setCell ⟨go7, (x4_1 : Int).toNat, none⟩ (.int .u8 a0))) ?hg ?ho ?hn ?hr ?_; (case ho => rfl); (case hg => rfl); (case hn => rfl); (case hr => first | (go_simp; done) | (go_simp; rfl)); intro w10 hw; have hg : wr.grownBy w10 (some go7) := (by rw [hw]; exact HP9.2); have hp_ : Kd.R (Kd.int .u8) 5 w10 w.heap.size (fun _ => True) (.slice (some ⟨go7, 0, none⟩) x3_1.length co8) y120 := (by rw [hw, Ny120.out]; exact HP9.1); clear HP9; have n0_ := Aside0.mk (hp_); have n1_ := Aside0.mk ((by rw [hw]; exact below_set (HB.out) GB7.out : Below w.heap.size w w10)); clear HO_3; clear HB; have HO_3 := n0_; have HB := n1_; clear n0_ n1_; clear hg hw hp_))
            go_roundg k1
            case measure => have := HK1.out; omega
            case rel => exact ⟨(y120), (wrap64 (x4_1 + 1)), (by first | rfl | (simp; done) | (simp [*]; done)), H', ⟨by have := HK1.out; omega⟩, ⟨by (with_reducible repeat (first | apply Kd.R_alloc | apply Kd.R_drewN | apply Kd.R_drew)); exact HO_3.out⟩, ⟨by repeat (first | (with_reducible first | exact HB.out | apply below_alloc | apply pw_below_drewN | apply below_drew1) | exact HB.out)⟩⟩
          · rw [if_neg c6] at H
            exact absurd H (by simp)
        · rw [if_neg c5] at H
          have c5b0 : decide (x4_1 < (x3_1.length : Int)) = false := decide_eq_false c5
          clear c5
          obtain rfl := Option.some.inj H
          obtain ⟨Ao11, co11, eo11⟩ := Kd.R_slice HO_3.out
          subst eo11
          go_wp2
          go_ret
          exact ⟨_, by first | rfl | (simp [errW_none, errW_some] <;> rfl) | (simp [*, errW_none, errW_some] <;> rfl), by (with_reducible repeat (first | apply Kd.R_alloc | apply Kd.R_drewN | apply Kd.R_drew)); exact HO_3.out, by repeat (first | (with_reducible first | exact HB.out | apply below_alloc | apply pw_below_drewN | apply below_drew1) | exact HB.out)⟩
  · rw [if_neg c2] at H
    exact absurd H (by simp)

-- NOT PRINTED: function 15 (disk_New)

/-- A state of type 64 at block g of W; what its slices lead to came in by w0. -/
def IsS64 (w0 W : World) (g : Nat) (f0 : List (List Int)) (f1 : List (List Int)) (f2 : List (S69)) (f3 : Bool) (f4 : Bool) (f5 : Int) : Prop := ∃ A0 c0, ∃ A1 c1, ∃ A2 c2, W.heap[g]? = some (.cells #[.slice A0 f0.length c0, .slice A1 f1.length c1, .slice A2 f2.length c2, .bool f3, .bool f4, .int .i64 f5] 64 (0, 0)) ∧ w0.heap.size ≤ g ∧ Kd.C (Kd.slice 5 (Kd.int .u8)) w0 A0 f0.length f0 ∧ Kd.C (Kd.slice 5 (Kd.int .u8)) w0 A1 f1.length f1 ∧ Kd.C k69 w0 A2 f2.length f2
theorem IsS64.grown {w0 W : World} {g : Nat} {f0 : List (List Int)} {f1 : List (List Int)} {f2 : List (S69)} {f3 : Bool} {f4 : Bool} {f5 : Int} {W1 : World} {row : Option Nat} (h : IsS64 w0 W g f0 f1 f2 f3 f4 f5) (hw : W.grownBy W1 row) (hne : some g ≠ row) : IsS64 w0 W1 g f0 f1 f2 f3 f4 f5 := by
  obtain ⟨A0, c0, A1, c1, A2, c2, hb, hg, hr0, hr1, hr2⟩ := h
  exact ⟨A0, c0, A1, c1, A2, c2, blk_grown hb hw hne, hg, hr0, hr1, hr2⟩
theorem IsS64.own_neN {w0 W : World} {g : Nat} {f0 : List (List Int)} {f1 : List (List Int)} {f2 : List (S69)} {f3 : Bool} {f4 : Bool} {f5 : Int} {α : Type} {d : Kd α} {e : Nat} {base : Nat} {ok : Nat → Prop} {v : Value} {xs : List α} (h : IsS64 w0 W g f0 f1 f2 f3 f4 f5) (ho : Kd.N d e W base ok v xs) (ht : e ≠ 64) : some g ≠ v.ownBlock := by
  obtain ⟨A0, c0, A1, c1, A2, c2, hb, hg, hr0, hr1, hr2⟩ := h
  exact Kd.N_ne ho hb ht
theorem IsS64.fresh {w0 W : World} {g : Nat} {f0 : List (List Int)} {f1 : List (List Int)} {f2 : List (S69)} {f3 : Bool} {f4 : Bool} {f5 : Int} (h : IsS64 w0 W g f0 f1 f2 f3 f4 f5) : ∀ k, W.heap.size ≤ k → k ≠ g := by
  obtain ⟨A0, c0, A1, c1, A2, c2, hb, hg, hr0, hr1, hr2⟩ := h
  exact Kd.freshB hb
theorem IsS64.kept {w0 W : World} {g : Nat} {f0 : List (List Int)} {f1 : List (List Int)} {f2 : List (S69)} {f3 : Bool} {f4 : Bool} {f5 : Int} {W1 : World} {S : Nat → Prop} (h : IsS64 w0 W g f0 f1 f2 f3 f4 f5) (hk : Kept W W1 S) (hne : ¬ S g) : IsS64 w0 W1 g f0 f1 f2 f3 f4 f5 := by
  obtain ⟨A0, c0, A1, c1, A2, c2, hb, hg, hr0, hr1, hr2⟩ := h
  exact ⟨A0, c0, A1, c1, A2, c2, blk_kept hb hk hne, hg, hr0, hr1, hr2⟩
theorem IsS64.below {w0 W : World} {g : Nat} {f0 : List (List Int)} {f1 : List (List Int)} {f2 : List (S69)} {f3 : Bool} {f4 : Bool} {f5 : Int} {W1 : World} (h : IsS64 w0 W g f0 f1 f2 f3 f4 f5) (hw : Below W.heap.size W W1) : IsS64 w0 W1 g f0 f1 f2 f3 f4 f5 := h.grown (grown_of_below hw none) (by simp)
theorem IsS64.alloc {w0 W : World} {g : Nat} {f0 : List (List Int)} {f1 : List (List Int)} {f2 : List (S69)} {f3 : Bool} {f4 : Bool} {f5 : Int} (h : IsS64 w0 W g f0 f1 f2 f3 f4 f5) (o : Obj) : IsS64 w0 (W.alloc o) g f0 f1 f2 f3 f4 f5 := h.below (below_alloc (Below.refl _ _) o)
theorem IsS64.drewN {w0 W : World} {g : Nat} {f0 : List (List Int)} {f1 : List (List Int)} {f2 : List (S69)} {f3 : Bool} {f4 : Bool} {f5 : Int} (h : IsS64 w0 W g f0 f1 f2 f3 f4 f5) (m : Nat) : IsS64 w0 (W.drewN m) g f0 f1 f2 f3 f4 f5 := h
theorem IsS64.drew {w0 W : World} {g : Nat} {f0 : List (List Int)} {f1 : List (List Int)} {f2 : List (S69)} {f3 : Bool} {f4 : Bool} {f5 : Int} (h : IsS64 w0 W g f0 f1 f2 f3 f4 f5) : IsS64 w0 W.drew g f0 f1 f2 f3 f4 f5 := h
theorem IsS64.at_ {w0 W : World} {g : Nat} {f0 : List (List Int)} {f1 : List (List Int)} {f2 : List (S69)} {f3 : Bool} {f4 : Bool} {f5 : Int} {w' : World} {m : Nat} (hq : W.drewN m = w') (h : IsS64 w0 W g f0 f1 f2 f3 f4 f5) : IsS64 w0 w' g f0 f1 f2 f3 f4 f5 := by subst hq; exact IsS64.drewN h m
theorem IsS64.apart {w0 W : World} {g : Nat} {f0 : List (List Int)} {f1 : List (List Int)} {f2 : List (S69)} {f3 : Bool} {f4 : Bool} {f5 : Int} {α : Type} {d : Kd α} {e : Nat} {base : Nat} {ok : Nat → Prop} {v : Value} {xs : List α} (h : IsS64 w0 W g f0 f1 f2 f3 f4 f5) (ho : d.R e W base ok v xs) (ht : ∀ q, q ∈ e :: d.E → q ≠ 64) : d.R e W base (fun k => ok k ∧ k ≠ g) v xs := by
  obtain ⟨A0, c0, A1, c1, A2, c2, hb, hg, hr0, hr1, hr2⟩ := h
  exact Kd.R_types ho hb ht
theorem IsS64.own_ne {w0 W : World} {g : Nat} {f0 : List (List Int)} {f1 : List (List Int)} {f2 : List (S69)} {f3 : Bool} {f4 : Bool} {f5 : Int} {α : Type} {d : Kd α} {e : Nat} {base : Nat} {ok : Nat → Prop} {v : Value} {xs : List α} (h : IsS64 w0 W g f0 f1 f2 f3 f4 f5) (ho : d.R e W base ok v xs) (ht : e ≠ 64) : some g ≠ v.ownBlock := by
  obtain ⟨A0, c0, A1, c1, A2, c2, hb, hg, hr0, hr1, hr2⟩ := h
  exact Kd.R_ne ho hb ht
theorem IsS64.apartQ {w0 W : World} {g : Nat} {f0 : List (List Int)} {f1 : List (List Int)} {f2 : List (S69)} {f3 : Bool} {f4 : Bool} {f5 : Int} {α : Type} {d : Kd α} {e : Nat} {base : Nat} {ok : Nat → Prop} {v : Value} {xs : List α} (h : IsS64 w0 W g f0 f1 f2 f3 f4 f5) (ho : d.Q e W base ok v xs) (ht : ∀ q, q ∈ e :: d.E → q ≠ 64) : d.Q e W base (fun k => ok k ∧ k ≠ g) v xs := by
  obtain ⟨A0, c0, A1, c1, A2, c2, hb, hg, hr0, hr1, hr2⟩ := h
  exact Kd.Q_types ho hb ht
theorem IsS64.own_neQ {w0 W : World} {g : Nat} {f0 : List (List Int)} {f1 : List (List Int)} {f2 : List (S69)} {f3 : Bool} {f4 : Bool} {f5 : Int} {α : Type} {d : Kd α} {e : Nat} {base : Nat} {ok : Nat → Prop} {v : Value} {xs : List α} (h : IsS64 w0 W g f0 f1 f2 f3 f4 f5) (ho : d.Q e W base ok v xs) (ht : e ≠ 64) : some g ≠ v.ownBlock := by
  obtain ⟨A0, c0, A1, c1, A2, c2, hb, hg, hr0, hr1, hr2⟩ := h
  exact Kd.Q_ne ho hb ht
theorem IsS64.apartS {w0 W : World} {g : Nat} {f0 : List (List Int)} {f1 : List (List Int)} {f2 : List (S69)} {f3 : Bool} {f4 : Bool} {f5 : Int} {α : Type} {d : Kd α} {e : Nat} {base : Nat} {ok : Nat → Prop} {v : Value} {xs : List α} (h : IsS64 w0 W g f0 f1 f2 f3 f4 f5) (ho : d.S e W base ok v xs) (ht : ∀ q, q ∈ e :: d.E → q ≠ 64) : d.S e W base (fun k => ok k ∧ k ≠ g) v xs := by
  obtain ⟨A0, c0, A1, c1, A2, c2, hb, hg, hr0, hr1, hr2⟩ := h
  exact Kd.S_types ho hb ht
theorem IsS64.own_neS {w0 W : World} {g : Nat} {f0 : List (List Int)} {f1 : List (List Int)} {f2 : List (S69)} {f3 : Bool} {f4 : Bool} {f5 : Int} {α : Type} {d : Kd α} {e : Nat} {base : Nat} {ok : Nat → Prop} {v : Value} {xs : List α} (h : IsS64 w0 W g f0 f1 f2 f3 f4 f5) (ho : d.S e W base ok v xs) (ht : e ≠ 64) : some g ≠ v.ownBlock := by
  obtain ⟨A0, c0, A1, c1, A2, c2, hb, hg, hr0, hr1, hr2⟩ := h
  exact Kd.S_ne ho hb ht
theorem IsS64.lt {w0 W : World} {g : Nat} {f0 : List (List Int)} {f1 : List (List Int)} {f2 : List (S69)} {f3 : Bool} {f4 : Bool} {f5 : Int} (h : IsS64 w0 W g f0 f1 f2 f3 f4 f5) : g < W.heap.size := by
  obtain ⟨A0, c0, A1, c1, A2, c2, hb, hg, hr0, hr1, hr2⟩ := h
  exact blk_lt hb
theorem IsS64.ge {w0 W : World} {g : Nat} {f0 : List (List Int)} {f1 : List (List Int)} {f2 : List (S69)} {f3 : Bool} {f4 : Bool} {f5 : Int} (h : IsS64 w0 W g f0 f1 f2 f3 f4 f5) : w0.heap.size ≤ g := by
  obtain ⟨A0, c0, A1, c1, A2, c2, hb, hg, hr0, hr1, hr2⟩ := h
  exact hg
theorem IsS64.ne_blk {w0 W : World} {g : Nat} {f0 : List (List Int)} {f1 : List (List Int)} {f2 : List (S69)} {f3 : Bool} {f4 : Bool} {f5 : Int} {a : Nat} {cs : Array Value} {t : TypeId} {fr : Nat × Nat} (h : IsS64 w0 W g f0 f1 f2 f3 f4 f5) (hb2 : W.heap[a]? = some (.cells cs t fr)) (ht : t ≠ 64) : g ≠ a := by
  obtain ⟨A0, c0, A1, c1, A2, c2, hb, hg, hr0, hr1, hr2⟩ := h
  rintro rfl
  rw [hb] at hb2
  injection hb2 with hb2
  injection hb2 with _ ht2
  exact ht ht2.symm
theorem IsS64.far {w0 W : World} {g : Nat} {f0 : List (List Int)} {f1 : List (List Int)} {f2 : List (S69)} {f3 : Bool} {f4 : Bool} {f5 : Int} {p : Addr} (h : IsS64 w0 W g f0 f1 f2 f3 f4 f5) (hne : g ≠ p.block) (u : Value) : IsS64 w0 (W.setCell p u) g f0 f1 f2 f3 f4 f5 := by
  obtain ⟨A0, c0, A1, c1, A2, c2, hb, hg, hr0, hr1, hr2⟩ := h
  exact ⟨A0, c0, A1, c1, A2, c2, blk_far hb hne u, hg, hr0, hr1, hr2⟩
theorem cellS64_0 {W : World} {g : Nat} {A0 : Option Addr} {c0 : Nat} {A1 : Option Addr} {c1 : Nat} {A2 : Option Addr} {c2 : Nat} {f0 : List (List Int)} {f1 : List (List Int)} {f2 : List (S69)} {f3 : Bool} {f4 : Bool} {f5 : Int} (h : W.heap[g]? = some (.cells #[.slice A0 f0.length c0, .slice A1 f1.length c1, .slice A2 f2.length c2, .bool f3, .bool f4, .int .i64 f5] 64 (0, 0))) : W.cell? ⟨g, 0, none⟩ = some (.slice A0 f0.length c0) := (blk_cell h 0).trans rfl
theorem cellS64_1 {W : World} {g : Nat} {A0 : Option Addr} {c0 : Nat} {A1 : Option Addr} {c1 : Nat} {A2 : Option Addr} {c2 : Nat} {f0 : List (List Int)} {f1 : List (List Int)} {f2 : List (S69)} {f3 : Bool} {f4 : Bool} {f5 : Int} (h : W.heap[g]? = some (.cells #[.slice A0 f0.length c0, .slice A1 f1.length c1, .slice A2 f2.length c2, .bool f3, .bool f4, .int .i64 f5] 64 (0, 0))) : W.cell? ⟨g, 1, none⟩ = some (.slice A1 f1.length c1) := (blk_cell h 1).trans rfl
theorem cellS64_2 {W : World} {g : Nat} {A0 : Option Addr} {c0 : Nat} {A1 : Option Addr} {c1 : Nat} {A2 : Option Addr} {c2 : Nat} {f0 : List (List Int)} {f1 : List (List Int)} {f2 : List (S69)} {f3 : Bool} {f4 : Bool} {f5 : Int} (h : W.heap[g]? = some (.cells #[.slice A0 f0.length c0, .slice A1 f1.length c1, .slice A2 f2.length c2, .bool f3, .bool f4, .int .i64 f5] 64 (0, 0))) : W.cell? ⟨g, 2, none⟩ = some (.slice A2 f2.length c2) := (blk_cell h 2).trans rfl
theorem cellS64_3 {W : World} {g : Nat} {A0 : Option Addr} {c0 : Nat} {A1 : Option Addr} {c1 : Nat} {A2 : Option Addr} {c2 : Nat} {f0 : List (List Int)} {f1 : List (List Int)} {f2 : List (S69)} {f3 : Bool} {f4 : Bool} {f5 : Int} (h : W.heap[g]? = some (.cells #[.slice A0 f0.length c0, .slice A1 f1.length c1, .slice A2 f2.length c2, .bool f3, .bool f4, .int .i64 f5] 64 (0, 0))) : W.cell? ⟨g, 3, none⟩ = some (.bool f3) := (blk_cell h 3).trans rfl
theorem IsS64.set_3 {w0 W : World} {g : Nat} {f0 : List (List Int)} {f1 : List (List Int)} {f2 : List (S69)} {f3 : Bool} {f4 : Bool} {f5 : Int} (h : IsS64 w0 W g f0 f1 f2 f3 f4 f5) (x : Bool) : IsS64 w0 (W.setCell ⟨g, 3, none⟩ (.bool x)) g f0 f1 f2 x f4 f5 := by
  obtain ⟨A0, c0, A1, c1, A2, c2, hb, hg, hr0, hr1, hr2⟩ := h
  exact ⟨A0, c0, A1, c1, A2, c2, by simpa using blk_set hb 3 (.bool x), hg, hr0, hr1, hr2⟩
theorem cellS64_4 {W : World} {g : Nat} {A0 : Option Addr} {c0 : Nat} {A1 : Option Addr} {c1 : Nat} {A2 : Option Addr} {c2 : Nat} {f0 : List (List Int)} {f1 : List (List Int)} {f2 : List (S69)} {f3 : Bool} {f4 : Bool} {f5 : Int} (h : W.heap[g]? = some (.cells #[.slice A0 f0.length c0, .slice A1 f1.length c1, .slice A2 f2.length c2, .bool f3, .bool f4, .int .i64 f5] 64 (0, 0))) : W.cell? ⟨g, 4, none⟩ = some (.bool f4) := (blk_cell h 4).trans rfl
theorem IsS64.set_4 {w0 W : World} {g : Nat} {f0 : List (List Int)} {f1 : List (List Int)} {f2 : List (S69)} {f3 : Bool} {f4 : Bool} {f5 : Int} (h : IsS64 w0 W g f0 f1 f2 f3 f4 f5) (x : Bool) : IsS64 w0 (W.setCell ⟨g, 4, none⟩ (.bool x)) g f0 f1 f2 f3 x f5 := by
  obtain ⟨A0, c0, A1, c1, A2, c2, hb, hg, hr0, hr1, hr2⟩ := h
  exact ⟨A0, c0, A1, c1, A2, c2, by simpa using blk_set hb 4 (.bool x), hg, hr0, hr1, hr2⟩
theorem cellS64_5 {W : World} {g : Nat} {A0 : Option Addr} {c0 : Nat} {A1 : Option Addr} {c1 : Nat} {A2 : Option Addr} {c2 : Nat} {f0 : List (List Int)} {f1 : List (List Int)} {f2 : List (S69)} {f3 : Bool} {f4 : Bool} {f5 : Int} (h : W.heap[g]? = some (.cells #[.slice A0 f0.length c0, .slice A1 f1.length c1, .slice A2 f2.length c2, .bool f3, .bool f4, .int .i64 f5] 64 (0, 0))) : W.cell? ⟨g, 5, none⟩ = some (.int .i64 f5) := (blk_cell h 5).trans rfl
theorem IsS64.set_5 {w0 W : World} {g : Nat} {f0 : List (List Int)} {f1 : List (List Int)} {f2 : List (S69)} {f3 : Bool} {f4 : Bool} {f5 : Int} (h : IsS64 w0 W g f0 f1 f2 f3 f4 f5) (x : Int) : IsS64 w0 (W.setCell ⟨g, 5, none⟩ (.int .i64 x)) g f0 f1 f2 f3 f4 x := by
  obtain ⟨A0, c0, A1, c1, A2, c2, hb, hg, hr0, hr1, hr2⟩ := h
  exact ⟨A0, c0, A1, c1, A2, c2, by simpa using blk_set hb 5 (.int .i64 x), hg, hr0, hr1, hr2⟩
theorem IsS64.new (w0 W : World) (A0 : Option Addr) (c0 : Nat) (A1 : Option Addr) (c1 : Nat) (A2 : Option Addr) (c2 : Nat) (f0 : List (List Int)) (f1 : List (List Int)) (f2 : List (S69)) (f3 : Bool) (f4 : Bool) (f5 : Int) (hB : Below w0.heap.size w0 W) (hr0 : Kd.C (Kd.slice 5 (Kd.int .u8)) w0 A0 f0.length f0) (hr1 : Kd.C (Kd.slice 5 (Kd.int .u8)) w0 A1 f1.length f1) (hr2 : Kd.C k69 w0 A2 f2.length f2) : IsS64 w0 (W.alloc (.cells #[.slice A0 f0.length c0, .slice A1 f1.length c1, .slice A2 f2.length c2, .bool f3, .bool f4, .int .i64 f5] 64)) W.heap.size f0 f1 f2 f3 f4 f5 := ⟨A0, c0, A1, c1, A2, c2, by simpa using heap_alloc_new W _, hB.size, hr0, hr1, hr2⟩

/-! ### disk_Disk_lives: function 33 -/
def disk_Disk_lives.f (s0_0 : List (List Int)) (s0_1 : List (List Int)) (s0_2 : List (S69)) (s0_3 : Bool) (s0_4 : Bool) (s0_5 : Int) : Option (Bool × Bool × Bool × Int) := if s0_3 = true then (if s0_5 = 0 then (some (!true, s0_3, true, wrap64 (s0_5 - 1))) else (some (!s0_4, s0_3, s0_4, wrap64 (s0_5 - 1)))) else (some (!s0_4, s0_3, s0_4, wrap64 (s0_5 - 1)))
set_option maxHeartbeats 8000000 in
set_option maxRecDepth 100000 in
theorem disk_Disk_lives.calls (g : Nat) (s0_0 : List (List Int)) (s0_1 : List (List Int)) (s0_2 : List (S69)) (s0_3 : Bool) (s0_4 : Bool) (s0_5 : Int) (r1 : Bool) (r2 : Bool) (r3 : Bool) (r4 : Int) (w0 w : World) (hI : IsS64 w0 w g s0_0 s0_1 s0_2 s0_3 s0_4 s0_5) (hB : Below w0.heap.size w0 w) (h : disk_Disk_lives.f s0_0 s0_1 s0_2 s0_3 s0_4 s0_5 = some (r1, r2, r3, r4)) :
    Calls Try.prog 33 #[.pointer (some ⟨g, 0, none⟩)] w fun e w' => e = .returned (.bool r1) ∧ IsS64 w0 w' g s0_0 s0_1 s0_2 r2 r3 r4 ∧ Below w0.heap.size w0 w' ∧ KeepBut w w' g none := by
  have HI0 := Aside0.mk hI
  have HK := Aside0.mk (KeepBut.refl w g none)
  have HL := Aside0.mk hB.size
  clear hI
  have HW0 := Aside0.mk hB.size
  have HB := Aside0.mk hB
  clear hB
  have H : (if s0_3 = true then (if s0_5 = 0 then (some (!true, s0_3, true, wrap64 (s0_5 - 1))) else (some (!s0_4, s0_3, s0_4, wrap64 (s0_5 - 1)))) else (some (!s0_4, s0_3, s0_4, wrap64 (s0_5 - 1)))) = some (r1, r2, r3, r4) := h
  clear h
  by_cases c2 : s0_3 = true
  · subst c2
    have H1 : (if s0_5 = 0 then (some (!true, true, true, wrap64 (s0_5 - 1))) else (some (!s0_4, true, s0_4, wrap64 (s0_5 - 1)))) = some (r1, r2, r3, r4) := by rw [if_pos rfl] at H; exact H
    clear H
    have H := H1
    clear H1
    by_cases c3 : s0_5 = 0
    · rw [if_pos c3] at H
      have c3b0 : (s0_5 == 0) = true := beq_iff_eq.mpr c3
      have c3b1 : (s0_5 != 0) = false := bne_eq_false_iff_eq.mpr c3
      clear c3
      simp only [Option.some.injEq, Prod.mk.injEq] at H
      obtain ⟨rfl, rfl, rfl, rfl⟩ := H
      obtain ⟨ASz4_0, cSz4_0, ASz4_1, cSz4_1, ASz4_2, cSz4_2, HGz4, hgz4, HSz4_0, HSz4_1, HSz4_2⟩ := HI0.out
      have hcz4_0 := cellS64_0 HGz4
      have hcz4_1 := cellS64_1 HGz4
      have hcz4_2 := cellS64_2 HGz4
      have hcz4_3 := cellS64_3 HGz4
      have hcz4_4 := cellS64_4 HGz4
      have hcz4_5 := cellS64_5 HGz4
      have hfz4_3 := blk_frozen HGz4 3
      have hfz4_4 := blk_frozen HGz4 4
      have hfz4_5 := blk_frozen HGz4 5
      clear HGz4 hgz4
      go_enter Try.func33, Try.ntmps33
      go_wp2
      go_ret
      exact ⟨by first | rfl | (simp [errW_none, errW_some] <;> rfl) | (simp [*, errW_none, errW_some] <;> rfl), by repeat (first | (with_reducible first | exact HI0.out | apply IsS64.alloc | apply IsS64.drewN | apply IsS64.drew | apply IsS64.set_3 | apply IsS64.set_4 | apply IsS64.set_5) | exact HI0.out), by repeat (first | (with_reducible first | exact HB.out | apply below_alloc | apply pw_below_drewN | apply below_drew1 | refine below_set ?_ (IsS64.ge HI0.out)) | exact HB.out), by repeat (first | (with_reducible first | exact HK.out | apply KeepBut.set_ | apply keep_drewN | apply keep_drew | apply keep_alloc) | exact HK.out)⟩
    · rw [if_neg c3] at H
      have c3b0 : (s0_5 == 0) = false := beq_eq_false_iff_ne.mpr c3
      have c3b1 : (s0_5 != 0) = true := bne_iff_ne.mpr c3
      simp only [Option.some.injEq, Prod.mk.injEq] at H
      obtain ⟨rfl, rfl, rfl, rfl⟩ := H
      obtain ⟨ASz5_0, cSz5_0, ASz5_1, cSz5_1, ASz5_2, cSz5_2, HGz5, hgz5, HSz5_0, HSz5_1, HSz5_2⟩ := HI0.out
      have hcz5_0 := cellS64_0 HGz5
      have hcz5_1 := cellS64_1 HGz5
      have hcz5_2 := cellS64_2 HGz5
      have hcz5_3 := cellS64_3 HGz5
      have hcz5_4 := cellS64_4 HGz5
      have hcz5_5 := cellS64_5 HGz5
      have hfz5_3 := blk_frozen HGz5 3
      have hfz5_4 := blk_frozen HGz5 4
      have hfz5_5 := blk_frozen HGz5 5
      clear HGz5 hgz5
      go_enter Try.func33, Try.ntmps33
      go_wp2
      go_ret
      exact ⟨by first | rfl | (simp [errW_none, errW_some] <;> rfl) | (simp [*, errW_none, errW_some] <;> rfl), by repeat (first | (with_reducible first | exact HI0.out | apply IsS64.alloc | apply IsS64.drewN | apply IsS64.drew | apply IsS64.set_3 | apply IsS64.set_4 | apply IsS64.set_5) | exact HI0.out), by repeat (first | (with_reducible first | exact HB.out | apply below_alloc | apply pw_below_drewN | apply below_drew1 | refine below_set ?_ (IsS64.ge HI0.out)) | exact HB.out), by repeat (first | (with_reducible first | exact HK.out | apply KeepBut.set_ | apply keep_drewN | apply keep_drew | apply keep_alloc) | exact HK.out)⟩
  · replace c2 := Bool.eq_false_iff.mpr c2
    subst c2
    have H1 : (some (!s0_4, false, s0_4, wrap64 (s0_5 - 1))) = some (r1, r2, r3, r4) := by rw [if_neg (show ¬ (false = true) by decide)] at H; exact H
    clear H
    have H := H1
    clear H1
    simp only [Option.some.injEq, Prod.mk.injEq] at H
    obtain ⟨rfl, rfl, rfl, rfl⟩ := H
    obtain ⟨ASz6_0, cSz6_0, ASz6_1, cSz6_1, ASz6_2, cSz6_2, HGz6, hgz6, HSz6_0, HSz6_1, HSz6_2⟩ := HI0.out
    have hcz6_0 := cellS64_0 HGz6
    have hcz6_1 := cellS64_1 HGz6
    have hcz6_2 := cellS64_2 HGz6
    have hcz6_3 := cellS64_3 HGz6
    have hcz6_4 := cellS64_4 HGz6
    have hcz6_5 := cellS64_5 HGz6
    have hfz6_3 := blk_frozen HGz6 3
    have hfz6_4 := blk_frozen HGz6 4
    have hfz6_5 := blk_frozen HGz6 5
    clear HGz6 hgz6
    go_enter Try.func33, Try.ntmps33
    go_wp2
    go_ret
    exact ⟨by first | rfl | (simp [errW_none, errW_some] <;> rfl) | (simp [*, errW_none, errW_some] <;> rfl), by repeat (first | (with_reducible first | exact HI0.out | apply IsS64.alloc | apply IsS64.drewN | apply IsS64.drew | apply IsS64.set_3 | apply IsS64.set_4 | apply IsS64.set_5) | exact HI0.out), by repeat (first | (with_reducible first | exact HB.out | apply below_alloc | apply pw_below_drewN | apply below_drew1 | refine below_set ?_ (IsS64.ge HI0.out)) | exact HB.out), by repeat (first | (with_reducible first | exact HK.out | apply KeepBut.set_ | apply keep_drewN | apply keep_drew | apply keep_alloc) | exact HK.out)⟩

-- NOT PRINTED: function 17 (disk_Disk_Sync)

-- NOT PRINTED: function 18 (disk_Disk_Write)

-- NOT PRINTED: function 9 (bobbinlaw03_awake)

-- NOT PRINTED: function 10 (bobbinlaw03_run)

/-! ### bobbinref01_Same: function 13 -/
def bobbinref01_Same.l0 : Nat → List Int → List Int → Int → Option (Bool)
  | 0, _, _, _ => none
  | k + 1, x0, x1, x5 => if x5 < (x0.length : Int) then (if 0 ≤ x5 then (if x5 < (x1.length : Int) then (if (rd x0 x5) = (rd x1 x5) then (bobbinref01_Same.l0 k x0 x1 (wrap64 (x5 + 1))) else (some false)) else (none)) else (none)) else (some true)
theorem bobbinref01_Same.l0_eq : ∀ (k : Nat) x0 x1 x5, bobbinref01_Same.l0 (k + 1) x0 x1 x5 = (if x5 < (x0.length : Int) then (if 0 ≤ x5 then (if x5 < (x1.length : Int) then (if (rd x0 x5) = (rd x1 x5) then (bobbinref01_Same.l0 k x0 x1 (wrap64 (x5 + 1))) else (some false)) else (none)) else (none)) else (some true)) := fun _ _ _ _ => rfl
def bobbinref01_Same.f (k : Nat) (l0 : List Int) (l1 : List Int) : Option (Bool) := if (l0.length : Int) = (l1.length : Int) then (bobbinref01_Same.l0 k l0 l1 0) else (some false)
theorem bobbinref01_Same.mono_l : ∀ k, (∀ y0 y1 y2, LeO (bobbinref01_Same.l0 k y0 y1 y2) (bobbinref01_Same.l0 (k + 1) y0 y1 y2))
  | 0 => fun _ _ _ r h => by first | (cases h; done) | simp [bobbinref01_Same.l0] at h
  | k + 1 => by
    have ih0 := bobbinref01_Same.mono_l k
    · intro y0 y1 y2
      unfold bobbinref01_Same.l0
      repeat' first
      | (with_reducible exact ih0 _ _ _)
      | (with_reducible exact LeO.refl _)
      | (with_reducible exact LeO.none _)
      | (with_reducible refine LeO.ite ?_ ?_)
      | (with_reducible refine LeO.bind ?_ (fun _ => ?_))
      | exact ih0 _ _ _
      | exact LeO.none _
      | refine LeO.ite ?_ ?_
      | refine LeO.bind ?_ (fun _ => ?_)
theorem bobbinref01_Same.mono : ∀ a0 a1 k, LeO (bobbinref01_Same.f k a0 a1) (bobbinref01_Same.f (k + 1) a0 a1) := by
  intro a0 a1 k
  have ih0 := bobbinref01_Same.mono_l k
  unfold bobbinref01_Same.f
  repeat' first
      | (with_reducible exact ih0 _ _ _)
      | (with_reducible exact LeO.refl _)
      | (with_reducible exact LeO.none _)
      | (with_reducible refine LeO.ite ?_ ?_)
      | (with_reducible refine LeO.bind ?_ (fun _ => ?_))
      | exact ih0 _ _ _
      | exact LeO.none _
      | refine LeO.ite ?_ ?_
      | refine LeO.bind ?_ (fun _ => ?_)
set_option maxHeartbeats 8000000 in
set_option maxRecDepth 100000 in
theorem bobbinref01_Same.calls (k : Nat) (A0 : Option Addr) (c0 : Nat) (l0 : List Int) (A1 : Option Addr) (c1 : Nat) (l1 : List Int) (r : Bool) (w : World) (hr0 : Kd.C (Kd.int .u8) w A0 l0.length l0) (hc0 : l0.length ≤ c0) (hr1 : Kd.C (Kd.int .u8) w A1 l1.length l1) (hc1 : l1.length ≤ c1) (h : bobbinref01_Same.f k l0 l1 = some r) :
    Calls Try.prog 13 #[.slice A0 l0.length c0, .slice A1 l1.length c1] w fun e w' => e = .returned (.bool r) ∧ Drawn0 w w' := by
  have HR0 := Aside0.mk hr0
  have HC0 := Aside0.mk hc0
  clear hr0 hc0
  have HR1 := Aside0.mk hr1
  have HC1 := Aside0.mk hc1
  clear hr1 hc1
  have H : (if (l0.length : Int) = (l1.length : Int) then (bobbinref01_Same.l0 k l0 l1 0) else (some false)) = some r := h
  clear h
  by_cases c3 : (l0.length : Int) = (l1.length : Int)
  · rw [if_pos c3] at H
    have c3b0 : ((l0.length : Int) == (l1.length : Int)) = true := beq_iff_eq.mpr c3
    have c3b1 : ((l0.length : Int) != (l1.length : Int)) = false := bne_eq_false_iff_eq.mpr c3
    have c3b2 : (l0.length == l1.length) = true := by first | simpa using c3 | (simp at c3 ⊢; omega)
    clear c3
    have H' := Aside0.mk H
    clear H
    go_enter Try.func13, Try.ntmps13
    go_wp2
    repeat (go_quiet (fail); try go_wp2)
    go_loopg [5] k (fun kq v5 w' => ∃ (x5_1 : Int), v5 = .int .i64 x5_1 ∧ Aside0 (bobbinref01_Same.l0 kq l0 l1 x5_1 = some r) ∧ Aside0 (kq ≤ k) ∧ Drawn0 w w')
    case atStart => exact ⟨(0), (by first | rfl | (simp; done) | (simp [*]; done)), H', ⟨Nat.le_refl _⟩, by repeat (first | exact Drawn0.refl _ | apply Drawn0.step)⟩
    case round =>
      clear H'
      try clear c1
      try clear p2
      try clear c3
      try clear c3b0
      try clear c3b1
      try clear c3b2
      obtain ⟨x5_1, rfl, HA, HK1, ⟨m1, rfl⟩⟩ := hrel
      cases gk with
      | zero => exact absurd HA.out (by first | (intro h_; cases h_; done) | simp [bobbinref01_Same.l0])
      | succ k1 =>
        have H := HA.out
        clear HA
        rw [bobbinref01_Same.l0_eq] at H
        by_cases c4 : x5_1 < (l0.length : Int)
        · rw [if_pos c4] at H
          have c4b0 : decide (x5_1 < (l0.length : Int)) = true := decide_eq_true c4
          clear c4
          by_cases c5 : 0 ≤ x5_1
          · rw [if_pos c5] at H
            have c5b0 : decide (0 ≤ x5_1) = true := decide_eq_true c5
            clear c5
            by_cases c6 : x5_1 < (l1.length : Int)
            · rw [if_pos c6] at H
              have c6b0 : decide (x5_1 < (l1.length : Int)) = true := decide_eq_true c6
              clear c6
              by_cases c7 : (rd l0 x5_1) = (rd l1 x5_1)
              · rw [if_pos c7] at H
                have c7b0 : ((rd l0 x5_1) == (rd l1 x5_1)) = true := beq_iff_eq.mpr c7
                have c7b1 : ((rd l0 x5_1) != (rd l1 x5_1)) = false := bne_eq_false_iff_eq.mpr c7
                clear c7
                have H' := Aside0.mk H
                clear H
                have p121 : 0 ≤ (x5_1 : Int) := of_decide_eq_true (by first | (with_reducible assumption) | assumption)
                have q121 : x5_1 < (l0.length : Int) := of_decide_eq_true (by first | (with_reducible assumption) | assumption)
                obtain ⟨ad121, e121, hx121_0⟩ := Kd.at_int HR0.out x5_1 p121 q121
                cases e121
                replace p121 := eq_true p121
                replace q121 := eq_true q121
                have p122 : 0 ≤ (x5_1 : Int) := of_decide_eq_true (by first | (with_reducible assumption) | assumption)
                have q122 : x5_1 < (l1.length : Int) := of_decide_eq_true (by first | (with_reducible assumption) | assumption)
                obtain ⟨ad122, e122, hx122_0⟩ := Kd.at_int HR1.out x5_1 p122 q122
                cases e122
                replace p122 := eq_true p122
                replace q122 := eq_true q122
                go_wp2
                repeat (go_quiet (fail); try go_wp2)
                go_roundg k1
                case measure => have := HK1.out; omega
                case rel => exact ⟨(wrap64 (x5_1 + 1)), (by first | rfl | (simp; done) | (simp [*]; done)), H', ⟨by have := HK1.out; omega⟩, by repeat (first | exact Drawn0.refl _ | apply Drawn0.step)⟩
              · rw [if_neg c7] at H
                have c7b0 : ((rd l0 x5_1) == (rd l1 x5_1)) = false := beq_eq_false_iff_ne.mpr c7
                have c7b1 : ((rd l0 x5_1) != (rd l1 x5_1)) = true := bne_iff_ne.mpr c7
                obtain rfl := Option.some.inj H
                have p121 : 0 ≤ (x5_1 : Int) := of_decide_eq_true (by first | (with_reducible assumption) | assumption)
                have q121 : x5_1 < (l0.length : Int) := of_decide_eq_true (by first | (with_reducible assumption) | assumption)
                obtain ⟨ad121, e121, hx121_0⟩ := Kd.at_int HR0.out x5_1 p121 q121
                cases e121
                replace p121 := eq_true p121
                replace q121 := eq_true q121
                have p122 : 0 ≤ (x5_1 : Int) := of_decide_eq_true (by first | (with_reducible assumption) | assumption)
                have q122 : x5_1 < (l1.length : Int) := of_decide_eq_true (by first | (with_reducible assumption) | assumption)
                obtain ⟨ad122, e122, hx122_0⟩ := Kd.at_int HR1.out x5_1 p122 q122
                cases e122
                replace p122 := eq_true p122
                replace q122 := eq_true q122
                go_wp2
                repeat (go_quiet (fail); try go_wp2)
                go_ret
                exact ⟨by first | rfl | (simp; done) | (simp [*]; done), by repeat (first | exact Drawn0.refl _ | apply Drawn0.step)⟩
            · rw [if_neg c6] at H
              exact absurd H (by simp)
          · rw [if_neg c5] at H
            exact absurd H (by simp)
        · rw [if_neg c4] at H
          have c4b0 : decide (x5_1 < (l0.length : Int)) = false := decide_eq_false c4
          clear c4
          obtain rfl := Option.some.inj H
          go_wp2
          repeat (go_quiet (fail); try go_wp2)
          go_ret
          exact ⟨by first | rfl | (simp; done) | (simp [*]; done), by repeat (first | exact Drawn0.refl _ | apply Drawn0.step)⟩
  · rw [if_neg c3] at H
    have c3b0 : ((l0.length : Int) == (l1.length : Int)) = false := beq_eq_false_iff_ne.mpr c3
    have c3b1 : ((l0.length : Int) != (l1.length : Int)) = true := bne_iff_ne.mpr c3
    have c3b2 : (l0.length == l1.length) = false := by first | simpa using c3 | (simp at c3 ⊢; omega)
    obtain rfl := Option.some.inj H
    go_enter Try.func13, Try.ntmps13
    go_wp2
    repeat (go_quiet (fail); try go_wp2)
    go_ret
    exact ⟨by first | rfl | (simp; done) | (simp [*]; done), by repeat (first | exact Drawn0.refl _ | apply Drawn0.step)⟩

-- NOT PRINTED: function 3 (bobbinlaw03_DiskSome)

-- NOT PRINTED: function 16 (disk_Disk_Arm)

-- NOT PRINTED: function 4 (bobbinlaw03_DiskDies)

-- NOT PRINTED: function 20 (bobbinlaw03_alike)

-- NOT PRINTED: function 21 (disk_Disk_Waits)

-- NOT PRINTED: function 5 (bobbinlaw03_DiskEnds)

end Go.Proofs.Ytghhmbagjhmgfaa.Print
