-- Written by a program of this session (myprint.py over the kit's print.py) out of the translation. Not trusted: Lean checks it.
import Derived.Test.YtdbbibndjknafaaPrint0
namespace Go.Proofs.Ytdbbibndjknafaa.Print
open Go.RowKit Go.Proofs.YtdbbibndjknafaaW.PrintWords Go.Proofs.YtdbbibndjknafaaW.PrintLast Go.Proofs.YtdbbibndjknafaaW.PrintMore
attribute [local go_sem] max2_int min2_int max_two min_two max_three min_three max_four min_four   -- for this text's walks alone
set_option linter.unusedVariables false
set_option linter.unusedSimpArgs false
theorem slices_Clone_byte_byte.made0 (W : World) (base : Nat) (hb : base ≤ W.heap.size) : Kd.R (Kd.int .u8) 5 (W.alloc (.cells #[] 5)) base (fun _ => True) (.slice (some ⟨W.heap.size, 0, none⟩) 0 0) [] :=
  ⟨fun _ _ => trivial, [], ⟨by simp, .inr ⟨W.heap.size, 0, #[], rfl, hb, by simpa using heap_alloc_new W (.cells #[] 5), by simp, by simp [maxLen], by simp, by simp⟩⟩, Reps.none _ _⟩
def slices_Clone_byte_byte.f (l0 : (List Int)) : Option (List Int) := if l0.length < 140737488355328 then some l0 else none
set_option maxHeartbeats 1000000 in
theorem slices_Clone_byte_byte.calls (A0 : Option Addr) (c0 : Nat) (l0 : (List Int)) (r : (List Int)) (w : World) (hr0 : Kd.C (Kd.int .u8) w A0 l0.length l0) (hc0 : l0.length ≤ c0) (h : slices_Clone_byte_byte.f l0 = some r) :
    Calls Try.prog 41 #[.slice A0 l0.length c0] w fun e w' => ∃ v0_ : Value, e = .returned v0_ ∧ Kd.R (Kd.int .u8) 5 w' w.heap.size (fun _ => True) v0_ r ∧ Below w.heap.size w w' := by
  have HR := Aside0.mk hr0
  clear hr0
  unfold slices_Clone_byte_byte.f at h
  split at h
  · rename_i hm
    obtain rfl := Option.some.inj h
    clear h
    cases A0 with
    | none =>
      obtain rfl : l0 = [] := by
        rcases l0 with _ | ⟨a, t⟩
        · rfl
        · exact absurd (HR.out.2.2 (by simp)) (by simp)
      have hq : ∀ (w : World), (binOp .eql 26 (.slice none 0 c0) (.slice none 0 0)).run Try.prog w = .ok (.bool true) w := fun w => Lib.run_eql_slice_nil w 26 5 none 0 c0 0 0 Try.underlying26
      go_enter Try.func41, Try.ntmps41
      go_wp2
      go_ret
      exact ⟨_, rfl, Kd.R_nil _ _ _ _ _, Below.refl _ _⟩
    | some a =>
      have hq : ∀ (w : World), (binOp .eql 26 (.slice (some a) l0.length c0) (.slice none 0 0)).run Try.prog w = .ok (.bool false) w := fun w => Lib.run_eql_slice_nil w 26 5 (some a) l0.length c0 0 0 Try.underlying26
      go_enter Try.func41, Try.ntmps41
      go_wp2_with ((with_reducible refine gate_builtin (b := .append) (xs := #[.tmp 5, .tmp 6]) rfl ?_); at_builtin; refine Kd.R_append_rows (Kd.int .u8) (w0 := w) w.heap.size rfl (.tmp 5) (.tmp 6) 26 5 (.int .u8 0) 1 rfl Try.underlying26 info5 rfl (by decide) (by omega) _ [] l0 _ _ _ (fun _ => True) (fun _ => False) rfl rfl ?aO ?aR (fun _ _ h => h) (fun _ h => h.elim) ?aF ?aB ?aS ?aL ?_; (case aF => exact (fun _ _ => trivial)); (case aB => exact below_alloc (Below.refl _ _) _); (case aS => simp); (case aL => simp; omega); (case aR => exact Kd.C_below HR.out (below_alloc (Below.refl _ _) _)); (case aO => exact slices_Clone_byte_byte.made0 w w.heap.size (Nat.le_refl _)); intro v w1 ho hb hg hat)
      go_ret
      exact ⟨_, rfl, ho, hb⟩
  · exact absurd h (by simp)
def txn_own.f (a0_0 : Int) (a0_1 : Int) (a0_2 : Int) (a0_3 : Bool) (l0_4 : List Int) (a0_5 : Bool) (l0_6 : List Int) : Option (Int × Int × Int × Bool × List Int × Bool × List Int) := (slices_Clone_byte_byte.f l0_4).bind fun t116 => ((slices_Clone_byte_byte.f l0_6).bind fun t119 => (some (a0_0, a0_1, a0_2, a0_3, t116, a0_5, t119)))
def txn_own.T1 : Bool × List (List Nat × List Nat) := (true, [([], []), ([0], [0]), ([1], [1]), ([2], [2]), ([], []), ([4], [4]), ([5], [5]), ([6, 3], [6]), ([0, 1, 2, 3, 4, 5, 6], []), ([8, 0, 1, 2, 3, 4, 5, 6], [8]), ([9, 3, 7, 0, 1, 2, 3, 4, 5, 6], [3, 9]), ([0, 1, 2, 3, 4, 5, 6, 7, 8, 9, 10], []), ([11, 0, 1, 2, 3, 4, 5, 6, 7, 8, 9, 10], [11]), ([12, 7, 10, 0, 1, 2, 3, 4, 5, 6, 7, 8, 9, 10], [7, 12])])
def txn_own.B1 : List Nat := [0, 1, 3, 7, 0, 16, 48, 127, 127, 383, 1023, 2047, 4095, 8191]
theorem txn_own.tab1 : rtab .any (opsOf Try.f33 1) = txn_own.T1 := by kernel_rfl
theorem txn_own.bits1 : waitsOk txn_own.T1.2 txn_own.B1 = true := by kernel_rfl
set_option maxHeartbeats 8000000 in
set_option maxRecDepth 100000 in
theorem txn_own.calls (a0_0 : Int) (a0_1 : Int) (a0_2 : Int) (a0_3 : Bool) (A0_4 : Option Addr) (c0_4 : Nat) (l0_4 : List Int) (a0_5 : Bool) (A0_6 : Option Addr) (c0_6 : Nat) (l0_6 : List Int) (r1 : Int) (r2 : Int) (r3 : Int) (r4 : Bool) (r5 : List Int) (r6 : Bool) (r7 : List Int) (w : World) (hr0_4 : Kd.C (Kd.int .u8) w A0_4 l0_4.length l0_4) (hc0_4 : l0_4.length ≤ c0_4) (hr0_6 : Kd.C (Kd.int .u8) w A0_6 l0_6.length l0_6) (hc0_6 : l0_6.length ≤ c0_6) (h : txn_own.f a0_0 a0_1 a0_2 a0_3 l0_4 a0_5 l0_6 = some (r1, r2, r3, r4, r5, r6, r7)) :
    Calls Try.prog 33 #[.agg #[.int .i64 a0_0, .int .i64 a0_1, .int .i64 a0_2, .bool a0_3, .slice A0_4 l0_4.length c0_4, .bool a0_5, .slice A0_6 l0_6.length c0_6]] w fun e w' => ∃ v4_ v6_ : Value, e = .returned (.agg #[.int .i64 r1, .int .i64 r2, .int .i64 r3, .bool r4, v4_, .bool r6, v6_]) ∧ Kd.R (Kd.int .u8) 5 w' w.heap.size (fun k_ => some k_ ≠ (v6_ : Value).ownBlock) v4_ r5 ∧ Kd.R (Kd.int .u8) 5 w' w.heap.size (fun k_ => some k_ ≠ (v4_ : Value).ownBlock) v6_ r7 ∧ Below w.heap.size w w' := by
  have hu30 := Try.underlying30
  have HR0_4 := Aside0.mk hr0_4
  have HC0_4 := Aside0.mk hc0_4
  clear hr0_4 hc0_4
  have HR0_6 := Aside0.mk hr0_6
  have HC0_6 := Aside0.mk hc0_6
  clear hr0_6 hc0_6
  have HB := Aside0.mk (Below.refl w.heap.size w)
  have H : ((slices_Clone_byte_byte.f l0_4).bind fun t116 => ((slices_Clone_byte_byte.f l0_6).bind fun t119 => (some (a0_0, a0_1, a0_2, a0_3, t116, a0_5, t119)))) = some (r1, r2, r3, r4, r5, r6, r7) := h
  clear h
  replace H := Option.bind_eq_some_iff.mp H
  obtain ⟨t116, A20, H⟩ := H
  replace H : ((slices_Clone_byte_byte.f l0_6).bind fun t119 => (some (a0_0, a0_1, a0_2, a0_3, t116, a0_5, t119))) = some (r1, r2, r3, r4, r5, r6, r7) := H
  have A2 := Aside0.mk A20
  clear A20
  replace H := Option.bind_eq_some_iff.mp H
  obtain ⟨t119, A30, H⟩ := H
  replace H : (some (a0_0, a0_1, a0_2, a0_3, t116, a0_5, t119)) = some (r1, r2, r3, r4, r5, r6, r7) := H
  have A3 := Aside0.mk A30
  clear A30
  simp only [Option.some.injEq, Prod.mk.injEq] at H
  obtain ⟨rfl, rfl, rfl, rfl, rfl, rfl, rfl⟩ := H
  go_enter Try.func33, Try.ntmps33
  try go_wp2_with (first | ((with_reducible refine gate_dst (N := 1) rfl ?_); refine box_event ?hg (N := 1) ?hd (cs := #[.int .i64 a0_0, .int .i64 a0_1, .int .i64 a0_2, .bool a0_3, .slice A0_4 l0_4.length c0_4, .bool a0_5, .slice A0_6 l0_6.length c0_6]) (t := 30) ?hr ?_; (case hd => rfl); (case hg => rfl); (case hr => first | (go_simp; done) | (go_simp; rfl)); intro gb114 hg w4 hbox hb; have n0_ := Aside0.mk (below_step (by repeat (first | (with_reducible first | exact HB.out | apply below_alloc | apply pw_below_drewN | apply below_drew1) | exact HB.out)) hb); have n1_ := Aside0.mk (hbox); have n2_ := Aside0.mk ((by rw [hg]; exact (below_size (by repeat (first | (with_reducible first | exact HB.out | apply below_alloc | apply pw_below_drewN | apply below_drew1) | exact HB.out))) : w.heap.size ≤ gb114)); have n3_ := Aside0.mk ((by rw [hg]; exact (below_size (by repeat (first | (with_reducible first | exact HB.out | apply below_alloc | apply pw_below_drewN | apply below_drew1) | exact HB.out))) : w.heap.size ≤ gb114)); clear HB; have HB := n0_; have BK114 := n1_; have GW114 := n2_; have GE114 := n3_; clear n0_ n1_ n2_ n3_; clear hb hbox hg) | ((with_reducible refine gate_dst (N := 2) rfl ?_); refine box_event ?hg (N := 2) ?hd (cs := #[.int .i64 0, .int .i64 0, .int .i64 0, .bool false, .slice none 0 0, .bool false, .slice none 0 0]) (t := 30) ?hr ?_; (case hd => rfl); (case hg => rfl); (case hr => first | (go_simp; done) | (go_simp; rfl)); intro gb115 hg w5 hbox hb; have n0_ := Aside0.mk (blk_below (g := gb114) (o := .cells #[.int .i64 a0_0, .int .i64 a0_1, .int .i64 a0_2, .bool a0_3, .slice A0_4 l0_4.length c0_4, .bool a0_5, .slice A0_6 l0_6.length c0_6] 30 (0, 0)) (by (with_reducible repeat (first | refine blk_drewN ?_ _ | refine blk_drew ?_ | refine blk_alloc ?_ _)); exact BK114.out) hb); have n1_ := Aside0.mk (below_step (by repeat (first | (with_reducible first | exact HB.out | apply below_alloc | apply pw_below_drewN | apply below_drew1 | refine below_set ?_ GE114.out) | exact HB.out)) hb); have n2_ := Aside0.mk (hbox); have n3_ := Aside0.mk ((by rw [hg]; exact (below_size (by repeat (first | (with_reducible first | exact HB.out | apply below_alloc | apply pw_below_drewN | apply below_drew1 | refine below_set ?_ GE114.out) | exact HB.out))) : w.heap.size ≤ gb115)); have n4_ := Aside0.mk ((by rw [hg]; exact (below_size (by repeat (first | (with_reducible first | exact HB.out | apply below_alloc | apply pw_below_drewN | apply below_drew1 | refine below_set ?_ GE114.out) | exact HB.out))) : w.heap.size ≤ gb115)); have n5_ := Aside0.mk ((by rw [hg]; exact Nat.ne_of_lt (blk_lt (g := gb114) (o := .cells #[.int .i64 a0_0, .int .i64 a0_1, .int .i64 a0_2, .bool a0_3, .slice A0_4 l0_4.length c0_4, .bool a0_5, .slice A0_6 l0_6.length c0_6] 30 (0, 0)) (by (with_reducible repeat (first | refine blk_drewN ?_ _ | refine blk_drew ?_ | refine blk_alloc ?_ _)); exact BK114.out)) : gb114 ≠ gb115)); have n6_ := Aside0.mk ((by rw [hg]; exact Nat.ne_of_gt (blk_lt (g := gb114) (o := .cells #[.int .i64 a0_0, .int .i64 a0_1, .int .i64 a0_2, .bool a0_3, .slice A0_4 l0_4.length c0_4, .bool a0_5, .slice A0_6 l0_6.length c0_6] 30 (0, 0)) (by (with_reducible repeat (first | refine blk_drewN ?_ _ | refine blk_drew ?_ | refine blk_alloc ?_ _)); exact BK114.out)) : gb115 ≠ gb114)); clear BK114; clear HB; have BK114 := n0_; have HB := n1_; have BK115 := n2_; have GW115 := n3_; have GE115 := n4_; have NB114_115 := n5_; have NB115_114 := n6_; clear n0_ n1_ n2_ n3_ n4_ n5_ n6_; clear hb hbox hg))
  have n0_ := Aside0.mk (blk_drew BK114.out)
  have n1_ := Aside0.mk (blk_drew BK115.out)
  have n2_ := Aside0.mk (below_drew1 HB.out)
  clear BK114
  clear BK115
  clear HB
  have BK114 := n0_
  have BK115 := n1_
  have HB := n2_
  clear n0_ n1_ n2_
  refine start_ (n := 14) (S := fun w' => w'.cell? ⟨gb114, 0, none⟩ = some (.int .i64 a0_0) ∧ w'.cell? ⟨gb114, 1, none⟩ = some (.int .i64 a0_1) ∧ w'.cell? ⟨gb114, 2, none⟩ = some (.int .i64 a0_2) ∧ w'.cell? ⟨gb114, 3, none⟩ = some (.bool a0_3) ∧ w'.cell? ⟨gb114, 4, none⟩ = some (.slice A0_4 l0_4.length c0_4) ∧ w'.cell? ⟨gb114, 5, none⟩ = some (.bool a0_5) ∧ w'.cell? ⟨gb114, 6, none⟩ = some (.slice A0_6 l0_6.length c0_6)) (ds := [10, 13]) #[false, false, false, false, false, false, false, false, false, false, false, false, false, false] (by kernel_rfl) rfl rfl ⟨(blk_cell BK114.out 0).trans rfl, (blk_cell BK114.out 1).trans rfl, (blk_cell BK114.out 2).trans rfl, (blk_cell BK114.out 3).trans rfl, (blk_cell BK114.out 4).trans rfl, (blk_cell BK114.out 5).trans rfl, (blk_cell BK114.out 6).trans rfl⟩ (fun hHeld => ?_); refine with_tabW txn_own.tab1 txn_own.bits1 (fun HT_ HW_ => ?_)
  generalize w5.drew = w6 at BK114 BK115 HB hHeld ⊢
  refine pure_ (i := 0) (N := some 3) (v := ?_) (a' := ?_) #[true, false, false, false, false, false, false, false, false, false, false, false, false, false] rfl rfl (any_of HT_.out (by kernel_rfl)) (fun _ _ _ h => h) (Or.inl ⟨by rfl, ?_⟩) ?_ ?_
  rotate_left
  · intro w'
    go_simp
    with_reducible rfl
  rotate_left
  · simp only [Act.put, List.setIfInBounds_toArray, List.set_cons_zero, List.set_cons_succ, i64_w, i32_w]
    rfl
  refine pure_ (i := 1) (N := some 4) (v := ?_) (a' := ?_) #[true, true, false, false, false, false, false, false, false, false, false, false, false, false] rfl rfl (any_of HT_.out (by kernel_rfl)) (fun _ _ _ h => h) (Or.inl ⟨by rfl, ?_⟩) ?_ ?_
  rotate_left
  · intro w'
    go_simp
    with_reducible rfl
  rotate_left
  · simp only [Act.put, List.setIfInBounds_toArray, List.set_cons_zero, List.set_cons_succ, i64_w, i32_w]
    rfl
  refine pure_ (i := 4) (N := some 7) (v := ?_) (a' := ?_) #[true, true, false, false, true, false, false, false, false, false, false, false, false, false] rfl rfl (any_of HT_.out (by kernel_rfl)) (fun _ _ _ h => h) (Or.inl ⟨by rfl, ?_⟩) ?_ ?_
  rotate_left
  · intro w'
    go_simp
    with_reducible rfl
  rotate_left
  · simp only [Act.put, List.setIfInBounds_toArray, List.set_cons_zero, List.set_cons_succ, i64_w, i32_w]
    rfl
  refine pure_ (i := 5) (N := some 8) (v := ?_) (a' := ?_) #[true, true, false, false, true, true, false, false, false, false, false, false, false, false] rfl rfl (any_of HT_.out (by kernel_rfl)) (fun _ _ _ h => h) (Or.inl ⟨by rfl, ?_⟩) ?_ ?_
  rotate_left
  · intro w'
    go_simp
    with_reducible rfl
  rotate_left
  · simp only [Act.put, List.setIfInBounds_toArray, List.set_cons_zero, List.set_cons_succ, i64_w, i32_w]
    rfl
  refine take_ (i := 2) (N := some 5) (v := ?_) (a' := ?_) #[true, true, true, false, true, true, false, false, false, false, false, false, false, false] rfl rfl (take_ofW HT_.out HW_.out (by kernel_rfl)) (fun _ _ _ h => h) (Or.inl ⟨by rfl, ?_⟩) hHeld ?_ ?_
  rotate_left
  · rintro w' ⟨s0, s1, s2, s3, s4, s5, s6⟩
    go_simp
    with_reducible rfl
  rotate_left
  · simp only [Act.put, List.setIfInBounds_toArray, List.set_cons_zero, List.set_cons_succ, i64_w, i32_w]
    rfl
  refine take_ (i := 6) (N := some 9) (v := ?_) (a' := ?_) #[true, true, true, false, true, true, true, false, false, false, false, false, false, false] rfl rfl (take_ofW HT_.out HW_.out (by kernel_rfl)) (fun _ _ _ h => h) (Or.inl ⟨by rfl, ?_⟩) hHeld ?_ ?_
  rotate_left
  · rintro w' ⟨s0, s1, s2, s3, s4, s5, s6⟩
    go_simp
    with_reducible rfl
  rotate_left
  · simp only [Act.put, List.setIfInBounds_toArray, List.set_cons_zero, List.set_cons_succ, i64_w, i32_w]
    rfl
  refine one_ (i := 3) (N := some 6) #[true, true, true, true, true, true, true, false, false, false, false, false, false, false] rfl rfl (one_of HT_.out (by kernel_rfl)) (by decide) (fun K hK => ?_)
  refine goes_ Try.func41 (by kernel_rfl) rfl #[.slice A0_4 l0_4.length c0_4] (by rfl) rfl rfl (by (try simp only [List.map_toArray, List.map_cons, List.map_nil]); first | done | rfl | (simp only [List.length_drop, List.length_take]; rfl)) ?_
  with_reducible refine (slices_Clone_byte_byte.calls _ _ l0_4 t116 _ ?side1 ?side2 A2.out).mono ?_
  (case side1 => repeat (first | exact (Kd.C_below HR0_4.out HB.out) | (with_reducible refine Kd.C_alloc ?_ _) | (with_reducible refine Kd.C_drewN ?_ _) | (with_reducible refine Kd.C_drew ?_)))
  (case side2 => exact HC0_4.out)
  rintro e w7 ⟨v117, rfl, ho0, hb⟩
  refine ⟨_, rfl, ?_⟩
  have n0_ := Aside0.mk (Kd.R_lower ho0 (below_size (by repeat (first | (with_reducible first | exact HB.out | apply below_alloc | apply pw_below_drewN | apply below_drew1 | refine below_set ?_ GE114.out | refine below_set ?_ GE115.out) | exact HB.out))))
  have n1_ := Aside0.mk (blk_below (g := gb114) (o := .cells #[.int .i64 a0_0, .int .i64 a0_1, .int .i64 a0_2, .bool a0_3, .slice A0_4 l0_4.length c0_4, .bool a0_5, .slice A0_6 l0_6.length c0_6] 30 (0, 0)) (by (with_reducible repeat (first | refine blk_drewN ?_ _ | refine blk_drew ?_ | refine blk_alloc ?_ _)); exact BK114.out) hb)
  have n2_ := Aside0.mk (blk_below (g := gb115) (o := .cells #[.int .i64 0, .int .i64 0, .int .i64 0, .bool false, .slice none 0 0, .bool false, .slice none 0 0] 30 (0, 0)) (by (with_reducible repeat (first | refine blk_drewN ?_ _ | refine blk_drew ?_ | refine blk_alloc ?_ _)); exact BK115.out) hb)
  have n3_ := Aside0.mk (below_step (by repeat (first | (with_reducible first | exact HB.out | apply below_alloc | apply pw_below_drewN | apply below_drew1 | refine below_set ?_ GE114.out | refine below_set ?_ GE115.out) | exact HB.out)) hb)
  clear BK114
  clear BK115
  clear HB
  have HO118 := n0_
  have BK114 := n1_
  have BK115 := n2_
  have HB := n3_
  clear n0_ n1_ n2_ n3_
  (try clear hb)
  (try clear hb2)
  (try clear hk)
  (try clear hi)
  (try clear ho0)
  refine hK.out _ _ ⟨(blk_cell BK114.out 0).trans rfl, (blk_cell BK114.out 1).trans rfl, (blk_cell BK114.out 2).trans rfl, (blk_cell BK114.out 3).trans rfl, (blk_cell BK114.out 4).trans rfl, (blk_cell BK114.out 5).trans rfl, (blk_cell BK114.out 6).trans rfl⟩ (fun hHeld => ?_)
  clear hK K
  refine norm_ (a' := ?_) ?_ ?_
  rotate_left
  · show Act.put _ (some 6) _ = _
    simp only [Act.put, List.setIfInBounds_toArray, List.set_cons_zero, List.set_cons_succ, i64_w, i32_w]
    rfl
  refine pure_ (i := 8) (N := some 11) (v := ?_) (a' := ?_) #[true, true, true, true, true, true, true, false, true, false, false, false, false, false] rfl rfl (any_of HT_.out (by kernel_rfl)) (fun _ _ _ h => h) (Or.inl ⟨by rfl, ?_⟩) ?_ ?_
  rotate_left
  · intro w'
    go_simp
    with_reducible rfl
  rotate_left
  · simp only [Act.put, List.setIfInBounds_toArray, List.set_cons_zero, List.set_cons_succ, i64_w, i32_w]
    rfl
  refine pure_ (i := 9) (N := some 12) (v := ?_) (a' := ?_) #[true, true, true, true, true, true, true, false, true, true, false, false, false, false] rfl rfl (any_of HT_.out (by kernel_rfl)) (fun _ _ _ h => h) (Or.inl ⟨by rfl, ?_⟩) ?_ ?_
  rotate_left
  · intro w'
    go_simp
    with_reducible rfl
  rotate_left
  · simp only [Act.put, List.setIfInBounds_toArray, List.set_cons_zero, List.set_cons_succ, i64_w, i32_w]
    rfl
  refine one_ (i := 7) (N := some 10) #[true, true, true, true, true, true, true, true, true, true, false, false, false, false] rfl rfl (one_of HT_.out (by kernel_rfl)) (by decide) (fun K hK => ?_)
  refine goes_ Try.func41 (by kernel_rfl) rfl #[.slice A0_6 l0_6.length c0_6] (by rfl) rfl rfl (by (try simp only [List.map_toArray, List.map_cons, List.map_nil]); first | done | rfl | (simp only [List.length_drop, List.length_take]; rfl)) ?_
  with_reducible refine (slices_Clone_byte_byte.calls _ _ l0_6 t119 _ ?side1 ?side2 A3.out).mono ?_
  (case side1 => repeat (first | exact (Kd.C_below HR0_6.out HB.out) | (with_reducible refine Kd.C_alloc ?_ _) | (with_reducible refine Kd.C_drewN ?_ _) | (with_reducible refine Kd.C_drew ?_)))
  (case side2 => exact HC0_6.out)
  rintro e w8 ⟨v120, rfl, ho0, hb⟩
  refine ⟨_, rfl, ?_⟩
  have n0_ := Aside0.mk (Kd.R_elder' (by (with_reducible repeat (first | apply Kd.R_alloc | apply Kd.R_drewN | apply Kd.R_drew)); exact HO118.out) (Kd.R_base ho0) hb)
  have n1_ := Aside0.mk (Kd.R_lower (Kd.R_new' ho0 (Kd.R_lt (by (with_reducible repeat (first | apply Kd.R_alloc | apply Kd.R_drewN | apply Kd.R_drew)); exact HO118.out))) (below_size (by repeat (first | (with_reducible first | exact HB.out | apply below_alloc | apply pw_below_drewN | apply below_drew1 | refine below_set ?_ GE114.out | refine below_set ?_ GE115.out) | exact HB.out))))
  have n2_ := Aside0.mk (blk_below (g := gb114) (o := .cells #[.int .i64 a0_0, .int .i64 a0_1, .int .i64 a0_2, .bool a0_3, .slice A0_4 l0_4.length c0_4, .bool a0_5, .slice A0_6 l0_6.length c0_6] 30 (0, 0)) (by (with_reducible repeat (first | refine blk_drewN ?_ _ | refine blk_drew ?_ | refine blk_alloc ?_ _)); exact BK114.out) hb)
  have n3_ := Aside0.mk (blk_below (g := gb115) (o := .cells #[.int .i64 0, .int .i64 0, .int .i64 0, .bool false, .slice none 0 0, .bool false, .slice none 0 0] 30 (0, 0)) (by (with_reducible repeat (first | refine blk_drewN ?_ _ | refine blk_drew ?_ | refine blk_alloc ?_ _)); exact BK115.out) hb)
  have n4_ := Aside0.mk (below_step (by repeat (first | (with_reducible first | exact HB.out | apply below_alloc | apply pw_below_drewN | apply below_drew1 | refine below_set ?_ GE114.out | refine below_set ?_ GE115.out) | exact HB.out)) hb)
  clear HO118
  clear BK114
  clear BK115
  clear HB
  have HO118 := n0_
  have HO121 := n1_
  have BK114 := n2_
  have BK115 := n3_
  have HB := n4_
  clear n0_ n1_ n2_ n3_ n4_
  (try clear hb)
  (try clear hb2)
  (try clear hk)
  (try clear hi)
  (try clear ho0)
  obtain ⟨Ao9, co9, eo9⟩ := Kd.R_slice HO118.out
  (first | subst eo9 | (injection eo9 with f1_ f2_ f3_; have f4_ := f1_.symm; have f5_ := f3_.symm; clear f1_ f2_ f3_; subst f4_; subst f5_))
  obtain ⟨Ao11, co11, eo11⟩ := Kd.R_slice HO121.out
  (first | subst eo11 | (injection eo11 with f1_ f2_ f3_; have f4_ := f1_.symm; have f5_ := f3_.symm; clear f1_ f2_ f3_; subst f4_; subst f5_))
  refine hK.out _ _ ⟨(blk_cell BK114.out 0).trans rfl, (blk_cell BK114.out 1).trans rfl, (blk_cell BK114.out 2).trans rfl, (blk_cell BK114.out 3).trans rfl, (blk_cell BK114.out 4).trans rfl, (blk_cell BK114.out 5).trans rfl, (blk_cell BK114.out 6).trans rfl⟩ (fun hHeld => ?_)
  clear hK K
  refine norm_ (a' := ?_) ?_ ?_
  rotate_left
  · show Act.put _ (some 10) _ = _
    simp only [Act.put, List.setIfInBounds_toArray, List.set_cons_zero, List.set_cons_succ, i64_w, i32_w]
    rfl
  refine last_ (i := 10) (N := none) #[true, true, true, true, true, true, true, true, true, true, true, false, false, false] rfl rfl (one_of HT_.out (by kernel_rfl)) (by decide) (fun K hK => ?_)
  have hs10 : w8.cell? ⟨gb114, 4, none⟩ = some (.slice A0_4 l0_4.length c0_4) := (blk_cell BK114.out 4).trans rfl
  have hfs10 := blk_frozen BK114.out 4
  have hns10_1 := NB115_114.out
  have hms10_1 := NB114_115.out
  refine skip_ (w1 := ?_) (by rfl) rfl ?_ ?_
  rotate_left
  · go_simp
    rfl
  refine hK.out _ _ ?_
  clear hK K
  refine pure_ (i := 11) (N := some 13) (v := ?_) (a' := ?_) #[true, true, true, true, true, true, true, true, true, true, true, true, false, false] rfl rfl (any_of HT_.out (by kernel_rfl)) (fun _ _ _ h => h) (Or.inl ⟨by rfl, ?_⟩) ?_ ?_
  rotate_left
  · intro w'
    go_simp
    with_reducible rfl
  rotate_left
  · simp only [Act.put, List.setIfInBounds_toArray, List.set_cons_zero, List.set_cons_succ, i64_w, i32_w]
    rfl
  refine pure_ (i := 12) (N := some 14) (v := ?_) (a' := ?_) #[true, true, true, true, true, true, true, true, true, true, true, true, true, false] rfl rfl (any_of HT_.out (by kernel_rfl)) (fun _ _ _ h => h) (Or.inl ⟨by rfl, ?_⟩) ?_ ?_
  rotate_left
  · intro w'
    go_simp
    with_reducible rfl
  rotate_left
  · simp only [Act.put, List.setIfInBounds_toArray, List.set_cons_zero, List.set_cons_succ, i64_w, i32_w]
    rfl
  refine last_ (i := 13) (N := none) #[true, true, true, true, true, true, true, true, true, true, true, true, true, true] rfl rfl (one_of HT_.out (by kernel_rfl)) (by decide) (fun K hK => ?_)
  have hs12 : w8.cell? ⟨gb114, 6, none⟩ = some (.slice A0_6 l0_6.length c0_6) := (blk_cell BK114.out 6).trans rfl
  have hfs12 := blk_frozen BK114.out 6
  have hns12_1 := NB115_114.out
  have hms12_1 := NB114_115.out
  refine skip_ (w1 := ?_) (by rfl) rfl ?_ ?_
  rotate_left
  · go_simp
    rfl
  refine hK.out _ _ ?_
  clear hK K
  refine done_ (done_of HT_.out (by kernel_rfl)) ?_
  have hnb13 := NB114_115.out
  have hnc13 := NB115_114.out
  have hcz14_0 : w8.cell? ⟨gb114, 0, none⟩ = some (.int .i64 a0_0) := (blk_cell BK114.out 0).trans rfl
  have hcz14_1 : w8.cell? ⟨gb114, 1, none⟩ = some (.int .i64 a0_1) := (blk_cell BK114.out 1).trans rfl
  have hcz14_2 : w8.cell? ⟨gb114, 2, none⟩ = some (.int .i64 a0_2) := (blk_cell BK114.out 2).trans rfl
  have hcz14_3 : w8.cell? ⟨gb114, 3, none⟩ = some (.bool a0_3) := (blk_cell BK114.out 3).trans rfl
  have hcz14_4 : w8.cell? ⟨gb114, 4, none⟩ = some (.slice A0_4 l0_4.length c0_4) := (blk_cell BK114.out 4).trans rfl
  have hcz14_5 : w8.cell? ⟨gb114, 5, none⟩ = some (.bool a0_5) := (blk_cell BK114.out 5).trans rfl
  have hcz14_6 : w8.cell? ⟨gb114, 6, none⟩ = some (.slice A0_6 l0_6.length c0_6) := (blk_cell BK114.out 6).trans rfl
  have hfz14_0 := blk_frozen BK114.out 0
  have hfz14_1 := blk_frozen BK114.out 1
  have hfz14_2 := blk_frozen BK114.out 2
  have hfz14_3 := blk_frozen BK114.out 3
  have hfz14_4 := blk_frozen BK114.out 4
  have hfz14_5 := blk_frozen BK114.out 5
  have hfz14_6 := blk_frozen BK114.out 6
  have hcz15_0 : w8.cell? ⟨gb115, 0, none⟩ = some (.int .i64 0) := (blk_cell BK115.out 0).trans rfl
  have hcz15_1 : w8.cell? ⟨gb115, 1, none⟩ = some (.int .i64 0) := (blk_cell BK115.out 1).trans rfl
  have hcz15_2 : w8.cell? ⟨gb115, 2, none⟩ = some (.int .i64 0) := (blk_cell BK115.out 2).trans rfl
  have hcz15_3 : w8.cell? ⟨gb115, 3, none⟩ = some (.bool false) := (blk_cell BK115.out 3).trans rfl
  have hcz15_4 : w8.cell? ⟨gb115, 4, none⟩ = some (.slice none 0 0) := (blk_cell BK115.out 4).trans rfl
  have hcz15_5 : w8.cell? ⟨gb115, 5, none⟩ = some (.bool false) := (blk_cell BK115.out 5).trans rfl
  have hcz15_6 : w8.cell? ⟨gb115, 6, none⟩ = some (.slice none 0 0) := (blk_cell BK115.out 6).trans rfl
  have hfz15_0 := blk_frozen BK115.out 0
  have hfz15_1 := blk_frozen BK115.out 1
  have hfz15_2 := blk_frozen BK115.out 2
  have hfz15_3 := blk_frozen BK115.out 3
  have hfz15_4 := blk_frozen BK115.out 4
  have hfz15_5 := blk_frozen BK115.out 5
  have hfz15_6 := blk_frozen BK115.out 6
  try go_wp2
  refine bodyPost_ret (results_cell_row rfl _ _ gb115 30 #[.int .i64 a0_0, .int .i64 a0_1, .int .i64 a0_2, .bool a0_3, .slice Ao9 t116.length co9, .bool a0_5, .slice Ao11 t119.length co11] (0, 0) _ rfl (by (with_reducible repeat (first | refine blk_drewN ?_ _ | refine blk_drew ?_ | refine blk_alloc ?_ _)); refine blk_put (cs := #[.int .i64 a0_0, .int .i64 a0_1, .int .i64 a0_2, .bool a0_3, .slice Ao9 t116.length co9, .bool a0_5, .slice none 0 0]) ?_ 6 _ rfl; (with_reducible repeat (first | refine blk_drewN ?_ _ | refine blk_drew ?_ | refine blk_alloc ?_ _)); refine blk_put (cs := #[.int .i64 a0_0, .int .i64 a0_1, .int .i64 a0_2, .bool a0_3, .slice Ao9 t116.length co9, .bool false, .slice none 0 0]) ?_ 5 _ rfl; (with_reducible repeat (first | refine blk_drewN ?_ _ | refine blk_drew ?_ | refine blk_alloc ?_ _)); refine blk_put (cs := #[.int .i64 a0_0, .int .i64 a0_1, .int .i64 a0_2, .bool a0_3, .slice none 0 0, .bool false, .slice none 0 0]) ?_ 4 _ rfl; (with_reducible repeat (first | refine blk_drewN ?_ _ | refine blk_drew ?_ | refine blk_alloc ?_ _)); refine blk_put (cs := #[.int .i64 a0_0, .int .i64 a0_1, .int .i64 a0_2, .bool false, .slice none 0 0, .bool false, .slice none 0 0]) ?_ 3 _ rfl; (with_reducible repeat (first | refine blk_drewN ?_ _ | refine blk_drew ?_ | refine blk_alloc ?_ _)); refine blk_put (cs := #[.int .i64 a0_0, .int .i64 a0_1, .int .i64 0, .bool false, .slice none 0 0, .bool false, .slice none 0 0]) ?_ 2 _ rfl; (with_reducible repeat (first | refine blk_drewN ?_ _ | refine blk_drew ?_ | refine blk_alloc ?_ _)); refine blk_put (cs := #[.int .i64 a0_0, .int .i64 0, .int .i64 0, .bool false, .slice none 0 0, .bool false, .slice none 0 0]) ?_ 1 _ rfl; (with_reducible repeat (first | refine blk_drewN ?_ _ | refine blk_drew ?_ | refine blk_alloc ?_ _)); refine blk_put (cs := #[.int .i64 0, .int .i64 0, .int .i64 0, .bool false, .slice none 0 0, .bool false, .slice none 0 0]) ?_ 0 _ rfl; (with_reducible repeat (first | refine blk_drewN ?_ _ | refine blk_drew ?_ | refine blk_alloc ?_ _)); refine blk_far ?_ NB115_114.out _; (with_reducible repeat (first | refine blk_drewN ?_ _ | refine blk_drew ?_ | refine blk_alloc ?_ _)); refine blk_far ?_ NB115_114.out _; (with_reducible repeat (first | refine blk_drewN ?_ _ | refine blk_drew ?_ | refine blk_alloc ?_ _)); exact BK115.out) Try.underlying30 rfl (by kernel_rfl)) rfl ?_
  exact ⟨_, _, by first | rfl | (simp [errW_none, errW_some] <;> rfl) | (simp [*, errW_none, errW_some] <;> rfl), by (with_reducible repeat (first | apply Kd.R_alloc | apply Kd.R_drewN | apply Kd.R_drew)); exact Kd.R_mono (Kd.R_far (p := ⟨gb115, 6, none⟩) (Kd.R_far (p := ⟨gb115, 5, none⟩) (Kd.R_far (p := ⟨gb115, 4, none⟩) (Kd.R_far (p := ⟨gb115, 3, none⟩) (Kd.R_far (p := ⟨gb115, 2, none⟩) (Kd.R_far (p := ⟨gb115, 1, none⟩) (Kd.R_far (p := ⟨gb115, 0, none⟩) (Kd.R_far (p := ⟨gb114, 6, none⟩) (Kd.R_far (p := ⟨gb114, 4, none⟩) (Kd.R_types (Kd.R_types HO118.out BK114.out (by decide)) BK115.out (by decide)) (fun _ hk => hk.1.2) (.slice Ao9 t116.length co9)) (fun _ hk => hk.1.2) (.slice Ao11 t119.length co11)) (fun _ hk => hk.2) (.int .i64 a0_0)) (fun _ hk => hk.2) (.int .i64 a0_1)) (fun _ hk => hk.2) (.int .i64 a0_2)) (fun _ hk => hk.2) (.bool a0_3)) (fun _ hk => hk.2) (.slice Ao9 t116.length co9)) (fun _ hk => hk.2) (.bool a0_5)) (fun _ hk => hk.2) (.slice Ao11 t119.length co11)) (fun _ hk => hk.1.1.2), by (with_reducible repeat (first | apply Kd.R_alloc | apply Kd.R_drewN | apply Kd.R_drew)); exact Kd.R_mono (Kd.R_far (p := ⟨gb115, 6, none⟩) (Kd.R_far (p := ⟨gb115, 5, none⟩) (Kd.R_far (p := ⟨gb115, 4, none⟩) (Kd.R_far (p := ⟨gb115, 3, none⟩) (Kd.R_far (p := ⟨gb115, 2, none⟩) (Kd.R_far (p := ⟨gb115, 1, none⟩) (Kd.R_far (p := ⟨gb115, 0, none⟩) (Kd.R_far (p := ⟨gb114, 6, none⟩) (Kd.R_far (p := ⟨gb114, 4, none⟩) (Kd.R_types (Kd.R_types HO121.out BK114.out (by decide)) BK115.out (by decide)) (fun _ hk => hk.1.2) (.slice Ao9 t116.length co9)) (fun _ hk => hk.1.2) (.slice Ao11 t119.length co11)) (fun _ hk => hk.2) (.int .i64 a0_0)) (fun _ hk => hk.2) (.int .i64 a0_1)) (fun _ hk => hk.2) (.int .i64 a0_2)) (fun _ hk => hk.2) (.bool a0_3)) (fun _ hk => hk.2) (.slice Ao9 t116.length co9)) (fun _ hk => hk.2) (.bool a0_5)) (fun _ hk => hk.2) (.slice Ao11 t119.length co11)) (fun _ hk => hk.1.1.2), by repeat (first | (with_reducible first | exact HB.out | apply below_alloc | apply pw_below_drewN | apply below_drew1 | refine below_set ?_ GE114.out | refine below_set ?_ GE115.out) | exact HB.out)⟩
theorem slices_Clone_int_int.made0 (W : World) (base : Nat) (hb : base ≤ W.heap.size) : Kd.R (Kd.int .i64) 3 (W.alloc (.cells #[] 3)) base (fun _ => True) (.slice (some ⟨W.heap.size, 0, none⟩) 0 0) [] :=
  ⟨fun _ _ => trivial, [], ⟨by simp, .inr ⟨W.heap.size, 0, #[], rfl, hb, by simpa using heap_alloc_new W (.cells #[] 3), by simp, by simp [maxLen], by simp, by simp⟩⟩, Reps.none _ _⟩
def slices_Clone_int_int.f (l0 : (List Int)) : Option (List Int) := if l0.length < 17592186044416 then some l0 else none
set_option maxHeartbeats 1000000 in
theorem slices_Clone_int_int.calls (A0 : Option Addr) (c0 : Nat) (l0 : (List Int)) (r : (List Int)) (w : World) (hr0 : Kd.C (Kd.int .i64) w A0 l0.length l0) (hc0 : l0.length ≤ c0) (h : slices_Clone_int_int.f l0 = some r) :
    Calls Try.prog 40 #[.slice A0 l0.length c0] w fun e w' => ∃ v0_ : Value, e = .returned v0_ ∧ Kd.R (Kd.int .i64) 3 w' w.heap.size (fun _ => True) v0_ r ∧ Below w.heap.size w w' := by
  have HR := Aside0.mk hr0
  clear hr0
  unfold slices_Clone_int_int.f at h
  split at h
  · rename_i hm
    obtain rfl := Option.some.inj h
    clear h
    cases A0 with
    | none =>
      obtain rfl : l0 = [] := by
        rcases l0 with _ | ⟨a, t⟩
        · rfl
        · exact absurd (HR.out.2.2 (by simp)) (by simp)
      have hq : ∀ (w : World), (binOp .eql 23 (.slice none 0 c0) (.slice none 0 0)).run Try.prog w = .ok (.bool true) w := fun w => Lib.run_eql_slice_nil w 23 3 none 0 c0 0 0 Try.underlying23
      go_enter Try.func40, Try.ntmps40
      go_wp2
      go_ret
      exact ⟨_, rfl, Kd.R_nil _ _ _ _ _, Below.refl _ _⟩
    | some a =>
      have hq : ∀ (w : World), (binOp .eql 23 (.slice (some a) l0.length c0) (.slice none 0 0)).run Try.prog w = .ok (.bool false) w := fun w => Lib.run_eql_slice_nil w 23 3 (some a) l0.length c0 0 0 Try.underlying23
      go_enter Try.func40, Try.ntmps40
      go_wp2_with ((with_reducible refine gate_builtin (b := .append) (xs := #[.tmp 5, .tmp 6]) rfl ?_); at_builtin; refine Kd.R_append_rows (Kd.int .i64) (w0 := w) w.heap.size rfl (.tmp 5) (.tmp 6) 23 3 (.int .i64 0) 8 rfl Try.underlying23 info3 rfl (by decide) (by omega) _ [] l0 _ _ _ (fun _ => True) (fun _ => False) rfl rfl ?aO ?aR (fun _ _ h => h) (fun _ h => h.elim) ?aF ?aB ?aS ?aL ?_; (case aF => exact (fun _ _ => trivial)); (case aB => exact below_alloc (Below.refl _ _) _); (case aS => simp); (case aL => simp; omega); (case aR => exact Kd.C_below HR.out (below_alloc (Below.refl _ _) _)); (case aO => exact slices_Clone_int_int.made0 w w.heap.size (Nat.le_refl _)); intro v w1 ho hb hg hat)
      go_ret
      exact ⟨_, rfl, ho, hb⟩
  · exact absurd h (by simp)
theorem own_f (c : S30) (h1 : c.f3.f1.length ≤ 100) (h2 : c.f4.f1.length ≤ 100) : txn_own.f c.f0 c.f1 c.f2 c.f3.f0 c.f3.f1 c.f4.f0 c.f4.f1 = some (c.f0, c.f1, c.f2, c.f3.f0, c.f3.f1, c.f4.f0, c.f4.f1) := by
  unfold txn_own.f slices_Clone_byte_byte.f
  rw [if_pos (by omega), if_pos (by omega)]
  rfl
theorem own_any (c : S30) (A4 : Option Addr) (c4 : Nat) (A6 : Option Addr) (c6 : Nat) (w : World) (h1 : c.f3.f1.length ≤ 100) (h2 : c.f4.f1.length ≤ 100) (l4 : c.f3.f1.length ≤ c4) (g4 : Kd.C (Kd.int .u8) w A4 c.f3.f1.length c.f3.f1) (l6 : c.f4.f1.length ≤ c6) (g6 : Kd.C (Kd.int .u8) w A6 c.f4.f1.length c.f4.f1) :
    Calls Try.prog 33 #[.agg #[.int .i64 c.f0, .int .i64 c.f1, .int .i64 c.f2, .bool c.f3.f0, .slice A4 c.f3.f1.length c4, .bool c.f4.f0, .slice A6 c.f4.f1.length c6]] w fun e w' => ∃ B4 d4 B6 d6, e = .returned (.agg #[.int .i64 c.f0, .int .i64 c.f1, .int .i64 c.f2, .bool c.f3.f0, .slice B4 c.f3.f1.length d4, .bool c.f4.f0, .slice B6 c.f4.f1.length d6]) ∧ Kd.FK k30 w' (fun k => w.heap.size ≤ k) c [.int .i64 c.f0, .int .i64 c.f1, .int .i64 c.f2, .bool c.f3.f0, .slice B4 c.f3.f1.length d4, .bool c.f4.f0, .slice B6 c.f4.f1.length d6] ∧ Below w.heap.size w w' := by
  refine (txn_own.calls _ _ _ _ A4 c4 _ _ A6 c6 _ _ _ _ _ _ _ _ w g4 l4 g6 l6 (own_f c h1 h2)).mono ?_
  rintro e w' ⟨v4, v6, rfl, hR4, hR6, hb⟩
  have k4 := Kd.R_base hR4
  have k6 := Kd.R_base hR6
  have F4 := Kd.R_V (base' := 0) (Kd.R_tight rfl hR4)
  have F6 := Kd.R_V (base' := 0) (Kd.R_tight rfl hR6)
  obtain ⟨B4, d4, rfl⟩ := Kd.V_slice F4
  obtain ⟨B6, d6, rfl⟩ := Kd.V_slice F6
  exact ⟨B4, d4, B6, d6, rfl, k30_mkF _ _ _ (Kd.V_at F4).2.1 (Kd.F_mono (Kd.V_at F4).2.2 (fun k hk => k4 k hk.symm)) (Kd.V_at F6).2.1 (Kd.F_mono (Kd.V_at F6).2.2 (fun k hk => k6 k hk.symm)), hb⟩
def zcC : Array Value := Value.cells (.agg #[(.int .i64 0), (.int .i64 0), (.int .i64 0), (.bool false), (.slice none 0 0), (.bool false), (.slice none 0 0)])
theorem makeC (n : Nat) (hn : n ≤ 100) (W : World) : (Instr.makeSlice 22 (.int .i64 0) (.int .i64 (n : Int))).run Try.prog W = .ok (.slice (some ⟨W.heap.size, 0, none⟩) 0 n) (W.alloc (.cells (madeCells zcC (n * 7)) 30)) := by
  have h := info30
  cases hi : Try.prog.info? 30 with
  | none => rw [hi] at h; cases h
  | some i =>
    rw [hi] at h
    simp only [Option.map_some, Option.some.injEq, Prod.mk.injEq] at h
    have hr := run_make (P := Try.prog) W 22 30 i _ Try.underlying22 hi h.1 .i64 .i64 0 n (Int.le_refl _) (by omega) (by rw [h.2.2]; omega) (by omega)
    rw [h.2.1] at hr
    simpa [zcC] using hr
theorem made_room (W : World) (n : Nat) (hn : n ≤ 100) (base : Nat) (ok : Nat → Prop) (hb : base ≤ W.heap.size) (hok : ok W.heap.size) (z : Array Value) : Kd.N k30 30 (W.alloc (.cells (madeCells z (n * 7)) 30)) base ok (.slice (some ⟨W.heap.size, 0, none⟩) 0 n) [] :=
  Kd.R_N ⟨fun k hk => by simp [Value.ownBlock] at hk; rw [← hk]; exact hok, [], ⟨by simp, .inr ⟨W.heap.size, n, _, rfl, hb, heap_alloc_new W (.cells (madeCells z (n * 7)) 30), by simp, by simp [maxLen]; omega, size_madeCells _ _, by simp⟩⟩, Reps.none _ _⟩
theorem made_start (W : World) (B n : Nat) (hn : n ≤ 100) (h : W.heap.size = B + 2) (z : Array Value) : Kd.N k30 30 (W.alloc (.cells (madeCells z (n * 7)) 30)) B (fun j => B ≤ j ∧ j ≠ B ∧ j ≠ B + 1) (.slice (some ⟨B + 1 + 1, 0, none⟩) 0 n) [] := by
  have h1 := made_room W n hn B (fun j => B ≤ j ∧ j ≠ B ∧ j ≠ B + 1) (by omega) ⟨by omega, by omega, by omega⟩ z
  rw [h] at h1
  exact h1
/-- A transaction's cells. -/
def txc (t : S25) (A4 : Option Addr) (c4 : Nat) (A5 : Option Addr) (c5 : Nat) : Array Value := #[.int .i64 t.f0, .int .i64 t.f1, .int .i64 t.f2, .int .i64 t.f3, .slice A4 t.f4.length c4, .slice A5 t.f5.length c5]
theorem rd_mem {l : List S30} {k : Nat} (h : k < l.length) : rd_T30 l (k : Int) ∈ l := by
  unfold rd_T30
  rw [show ((k : Int)).toNat = k by omega, List.getD_eq_getElem?_getD, List.getElem?_eq_getElem h]
  exact List.getElem_mem h
theorem rd_take {l : List S30} {k : Nat} (h : k < l.length) : l.take (k + 1) = l.take k ++ [rd_T30 l (k : Int)] := by
  unfold rd_T30
  rw [show ((k : Int)).toNat = k by omega, List.getD_eq_getElem?_getD, List.getElem?_eq_getElem h, List.take_succ_eq_append_getElem h]
  rfl
theorem six_cells {W : World} {g : Nat} {a b c d e f : Value} {t : TypeId} (h : W.heap[g]? = some (.cells #[a, b, c, d, e, f] t (0, 0))) :
    W.cell? ⟨g, 0, none⟩ = some a ∧ W.cell? ⟨g, 1, none⟩ = some b ∧ W.cell? ⟨g, 2, none⟩ = some c ∧ W.cell? ⟨g, 3, none⟩ = some d ∧ W.cell? ⟨g, 4, none⟩ = some e ∧ W.cell? ⟨g, 5, none⟩ = some f ∧
    W.frozen? ⟨g, 0, none⟩ = false ∧ W.frozen? ⟨g, 1, none⟩ = false ∧ W.frozen? ⟨g, 2, none⟩ = false ∧ W.frozen? ⟨g, 3, none⟩ = false ∧ W.frozen? ⟨g, 4, none⟩ = false ∧ W.frozen? ⟨g, 5, none⟩ = false :=
  ⟨(blk_cell h 0).trans rfl, (blk_cell h 1).trans rfl, (blk_cell h 2).trans rfl, (blk_cell h 3).trans rfl, (blk_cell h 4).trans rfl, (blk_cell h 5).trans rfl, blk_frozen h _, blk_frozen h _, blk_frozen h _, blk_frozen h _, blk_frozen h _, blk_frozen h _⟩
theorem six_put {W : World} {g : Nat} {a b c d e f : Value} {t : TypeId} (h : W.heap[g]? = some (.cells #[a, b, c, d, e, f] t (0, 0))) (a' b' c' d' e' f' : Value) :
    ((((((W.setCell ⟨g, 0, none⟩ a').setCell ⟨g, 1, none⟩ b').setCell ⟨g, 2, none⟩ c').setCell ⟨g, 3, none⟩ d').setCell ⟨g, 4, none⟩ e').setCell ⟨g, 5, none⟩ f').heap[g]? = some (.cells #[a', b', c', d', e', f'] t (0, 0)) :=
  blk_put (blk_put (blk_put (blk_put (blk_put (blk_put h 0 a' rfl) 1 b' rfl) 2 c' rfl) 3 d' rfl) 4 e' rfl) 5 f' rfl
theorem Chg.six {S : Nat → Prop} {w W : World} (h : Chg S w W) {g : Nat} (hg : S g ∨ w.heap.size ≤ g) (a' b' c' d' e' f' : Value) : Chg S w ((((((W.setCell ⟨g, 0, none⟩ a').setCell ⟨g, 1, none⟩ b').setCell ⟨g, 2, none⟩ c').setCell ⟨g, 3, none⟩ d').setCell ⟨g, 4, none⟩ e').setCell ⟨g, 5, none⟩ f') :=
  (((((h.set (p := ⟨g, 0, none⟩) hg a').set (p := ⟨g, 1, none⟩) hg b').set (p := ⟨g, 2, none⟩) hg c').set (p := ⟨g, 3, none⟩) hg d').set (p := ⟨g, 4, none⟩) hg e').set (p := ⟨g, 5, none⟩) hg f'
def zcT : Array Value := #[.int .i64 0, .int .i64 0, .int .i64 0, .int .i64 0, .slice none 0 0, .slice none 0 0]
structure CpI (w : World) (t : S25) (cs : Array Value) (k : Nat) (v : Value) (wr : World) : Prop where
  bel : Below w.heap.size w wr
  box : wr.heap[w.heap.size]? = some (.cells cs 25)
  res : wr.heap[w.heap.size + 1]? = some (.cells zcT 25)
  row : Kd.N k30 30 wr w.heap.size (fun j => w.heap.size ≤ j ∧ j ≠ w.heap.size ∧ j ≠ w.heap.size + 1) v (t.f4.take k)
set_option maxHeartbeats 600000 in
set_option maxRecDepth 100000 in
theorem copied_any (t : S25) (A4 : Option Addr) (c4 : Nat) (A5 : Option Addr) (c5 : Nat) (w : World) (l4 : t.f4.length ≤ c4) (g4 : Kd.C k30 w A4 t.f4.length t.f4) (l5 : t.f5.length ≤ c5) (g5 : Kd.C (Kd.int .i64) w A5 t.f5.length t.f5) (n4 : t.f4.length ≤ 100) (n5 : t.f5.length ≤ 100) (hv : ∀ c ∈ t.f4, c.f3.f1.length ≤ 100 ∧ c.f4.f1.length ≤ 100) :
    Calls Try.prog 32 #[.agg #[.int .i64 t.f0, .int .i64 t.f1, .int .i64 t.f2, .int .i64 t.f3, .slice A4 t.f4.length c4, .slice A5 t.f5.length c5]] w fun e w' => ∃ B4 d4 B5 d5, e = .returned (.agg #[.int .i64 t.f0, .int .i64 t.f1, .int .i64 t.f2, .int .i64 t.f3, .slice B4 t.f4.length d4, .slice B5 t.f5.length d5]) ∧ Kd.N k30 30 w' w.heap.size (fun k => w.heap.size ≤ k ∧ some k ≠ (Value.slice B5 t.f5.length d5).ownBlock) (.slice B4 t.f4.length d4) t.f4 ∧ Kd.R (Kd.int .i64) 3 w' w.heap.size (fun _ => True) (.slice B5 t.f5.length d5) t.f5 ∧ Below w.heap.size w w' := by
  have hmk := Aside0.mk (makeC t.f4.length n4)
  have hmk0 := hmk.out
  have H4 := Aside0.mk (fun X (hb : Below w.heap.size w X) => Kd.C_below g4 hb)
  have H5 := Aside0.mk (fun X (hb : Below w.heap.size w X) => Kd.C_below g5 hb)
  have hm4 : t.f4.length ≤ 9223372036854775807 := by omega
  clear g4 g5
  go_enter Try.func32, Try.ntmps32
  go_wp2_with fail
  go_loopw [3, 13] (fun v3 v13 wr => ∃ (k : Nat), k ≤ t.f4.length ∧ v13 = .int .i64 k ∧ Aside0 (CpI w t (txc t A4 c4 A5 c5) k v3 wr)) (fun _ v13 _ => t.f4.length - (intOf v13).toNat)
  case atStart =>
    have h0 : (w.alloc (.cells (txc t A4 c4 A5 c5) 25)).heap.size = w.heap.size + 1 := World.size_alloc ..
    have h1 : ((w.alloc (.cells (txc t A4 c4 A5 c5) 25)).alloc (.cells zcT 25)).heap.size = w.heap.size + 2 := by rw [World.size_alloc, h0]
    refine ⟨0, Nat.zero_le _, rfl, ⟨⟨below_alloc (below_alloc (below_alloc (Below.refl _ _) _) _) _, blk_alloc (blk_alloc (heap_alloc_new w _) _) _, blk_alloc (by have := heap_alloc_new (w.alloc (.cells (txc t A4 c4 A5 c5) 25)) (.cells zcT 25); rwa [h0] at this) _, ?_⟩⟩⟩
    rw [List.take_zero]
    exact made_start _ _ _ n4 h1 _
  case round =>
    obtain ⟨k, hk, rfl, HI⟩ := hrel
    by_cases hlk : k < t.f4.length
    · obtain ⟨ad, B4, d4, B6, d6, rfl, z0, z1, z2, z3, z4, z5, z6, m4, q4, m6, q6⟩ := at_T30 (H4.out _ HI.out.bel) (k : Int) (by omega) (by omega)
      have hx : rd_T30 t.f4 (k : Int) ∈ t.f4 := rd_mem hlk
      have hxv := hv _ hx
      have htk : t.f4.take (k + 1) = t.f4.take k ++ [rd_T30 t.f4 (k : Int)] := rd_take hlk
      replace htk := Aside0.mk htk
      generalize rd_T30 t.f4 (k : Int) = x at *
      rw [show ((k : Int)).toNat = k by omega] at *
      replace q4 := Aside0.mk q4
      replace q6 := Aside0.mk q6
      have HV := HI.out.row
      obtain ⟨A, c, rfl⟩ := Kd.N_slice HV
      rw [show (t.f4.take k).length = k by simp; omega] at *
      replace HV := Aside0.mk HV
      clear hx
      go_wp2_with fail
      have hal := below_alloc (Below.refl wr.heap.size wr) (.cells #[.int .i64 x.f0, .int .i64 x.f1, .int .i64 x.f2, .bool x.f3.f0, .slice B4 x.f3.f1.length d4, .bool x.f4.f0, .slice B6 x.f4.f1.length d6] 30)
      have hsz : (wr.alloc (.cells #[.int .i64 x.f0, .int .i64 x.f1, .int .i64 x.f2, .bool x.f3.f0, .slice B4 x.f3.f1.length d4, .bool x.f4.f0, .slice B6 x.f4.f1.length d6] 30)).heap.size = wr.heap.size + 1 := World.size_alloc ..
      refine (own_any x B4 d4 B6 d6 _ hxv.1 hxv.2 m4 (Kd.C_below q4.out hal) m6 (Kd.C_below q6.out hal)).mono ?_
      rintro e w2 ⟨E4, e4, E6, e6, rfl, hF, hb2⟩
      have hbw : Below wr.heap.size wr w2 := hal.trans (hb2.mono (by omega))
      rw [hsz] at hF
      have hw2 := hb2.size
      have hHV := HV.out
      have hlt : ∀ j, (Value.slice A k c).ownBlock = some j → j < wr.heap.size := fun j hj => Kd.N_lt HV.out j hj
      have hbs := HI.out.bel.size
      have hl2 := (Array.getElem?_eq_some_iff.1 HI.out.res).1
      have hb3 := HI.out.bel.trans (hbw.mono hbs)
      have hbx := blk_alloc (hbw.block _ (Array.getElem?_eq_some_iff.1 HI.out.box).1 |>.trans HI.out.box) (.cells #[] 30)
      replace hF := Aside0.mk hF
      replace hlt := Aside0.mk hlt
      have hN2 := Aside0.mk (Kd.N_below HV.out hbw)
      replace hb3 := Aside0.mk hb3
      clear hal hb2 hbx hHV q4 q6
      have hsz2 : wr.heap.size + 1 ≤ w2.heap.size := by omega
      clear hsz hw2
      replace hbw := Aside0.mk hbw
      have hklen : (t.f4.take k).length = k := by simp; omega
      replace hklen := Aside0.mk hklen
      go_wp2_with ((with_reducible refine gate_builtin (b := .append) (xs := #[.tmp 17, .tmp 20]) rfl ?_); at_builtin; refine Kd.N_append k30 (w0 := w) (W := w2) w.heap.size rfl (.tmp 17) (.tmp 20) 22 30 (.agg #[(.int .i64 0), (.int .i64 0), (.int .i64 0), (.bool false), (.slice none 0 0), (.bool false), (.slice none 0 0)]) 88 rfl Try.underlying22 info30 rfl (by decide) (by decide) (.slice A k c) (t.f4.take k) x [.int .i64 x.f0, .int .i64 x.f1, .int .i64 x.f2, .bool x.f3.f0, .slice E4 x.f3.f1.length e4, .bool x.f4.f0, .slice E6 x.f4.f1.length e6] (fun j => w.heap.size ≤ j ∧ j ≠ w.heap.size ∧ j ≠ w.heap.size + 1) (fun j => wr.heap.size + 1 ≤ j) rfl rfl hF.out ?aK ?aF hN2.out hb3.out ?aB ?aL ?_; (case aK => intro j hj; exact ⟨⟨by omega, by omega, by omega⟩, fun e => by have := hlt.out j e.symm; omega⟩); (case aF => intro j hj; exact ⟨by omega, by omega, by omega⟩); (case aB => omega); (case aL => have := hklen.out; omega); intro v4 w4 hN4 hb4 hg4 hat4)
      have hne : ∀ j, (j = w.heap.size ∨ j = w.heap.size + 1) → some j ≠ (Value.slice A k c).ownBlock := fun j hj e => by
        have := hN2.out.1 j e.symm
        omega
      have hCI : Aside0 (CpI w t (txc t (some ad) c4 A5 c5) (k + 1) v4 w4) := ⟨⟨hb4, (hg4.block _ (by omega) (hne _ (.inl rfl))).trans ((hbw.out.block _ (by omega)).trans HI.out.box), (hg4.block _ (by omega) (hne _ (.inr rfl))).trans ((hbw.out.block _ (by omega)).trans HI.out.res), by rw [htk.out]; exact hN4⟩⟩
      go_roundw
      case rel => exact ⟨k + 1, by omega, by go_num, hCI⟩
      case measure => simp only [intOf]; omega
    · obtain rfl : k = t.f4.length := by omega
      have hk6 := HI.out.box
      have z0 : wr.cell? ⟨w.heap.size, 0, none⟩ = some (.int .i64 t.f0) := (blk_cell hk6 0).trans rfl
      have z1 : wr.cell? ⟨w.heap.size, 1, none⟩ = some (.int .i64 t.f1) := (blk_cell hk6 1).trans rfl
      have z2 : wr.cell? ⟨w.heap.size, 2, none⟩ = some (.int .i64 t.f2) := (blk_cell hk6 2).trans rfl
      have z3 : wr.cell? ⟨w.heap.size, 3, none⟩ = some (.int .i64 t.f3) := (blk_cell hk6 3).trans rfl
      have z5 : wr.cell? ⟨w.heap.size, 5, none⟩ = some (.slice A5 t.f5.length c5) := (blk_cell hk6 5).trans rfl
      have HV := HI.out.row
      rw [List.take_length] at HV
      obtain ⟨A, c, rfl⟩ := Kd.N_slice HV
      replace HV := Aside0.mk HV
      clear hk6
      go_wp2_with fail
      refine (slices_Clone_int_int.calls A5 c5 t.f5 t.f5 wr (H5.out wr HI.out.bel) l5 (by unfold slices_Clone_int_int.f; rw [if_pos (by omega)])).mono ?_
      rintro e w2 ⟨v5, rfl, hR5, hb2⟩
      obtain ⟨B5, d5, rfl⟩ := Kd.R_slice hR5
      have hlt5 := Kd.R_base hR5
      have hbs := HI.out.bel.size
      have h2s := hb2.size
      have hl0 := (Array.getElem?_eq_some_iff.1 HI.out.box).1
      have hl2 := (Array.getElem?_eq_some_iff.1 HI.out.res).1
      obtain ⟨y0, y1, y2, y3, y4, y5, x0, x1, x2, x3, x4, x5⟩ := six_cells ((hb2.block _ hl0).trans HI.out.box)
      obtain ⟨_, _, _, _, _, _, p0, p1, p2, p3, p4, p5⟩ := six_cells ((hb2.block _ hl2).trans HI.out.res)
      have hN2 := Kd.N_bound (Kd.N_below (Kd.N_bound HV.out) hb2)
      have hB2 := Aside0.mk (HI.out.bel.trans (hb2.mono hbs))
      have hE := Aside0.mk (Kd.R_tight rfl hR5)
      have hcs := (hb2.block _ hl2).trans HI.out.res
      have hW : ∀ W', Chg (fun k => k = w.heap.size ∨ k = w.heap.size + 1) w2 W' → Kd.N k30 30 W' w.heap.size (fun k => w.heap.size ≤ k ∧ some k ≠ (Value.slice B5 t.f5.length d5).ownBlock) (.slice A t.f4.length c) t.f4 ∧ Kd.R (Kd.int .i64) 3 W' w.heap.size (fun _ => True) (.slice B5 t.f5.length d5) t.f5 ∧ Below w.heap.size w W' := fun W' hC => by
        refine ⟨Kd.N_mono (Kd.N_step hN2 (fun k hk hlt => hC.block k hlt (fun e => ?_))) (fun k hk => ⟨hk.1.1.1, fun e => ?_⟩), Kd.R_mono (Kd.R_step (Kd.R_lower hE.out hbs) (fun k hk hlt => hC.block k hlt (fun e => ?_))) (fun _ _ => trivial), hB2.out.trans (Chg.below hC ?_ hB2.out.size)⟩
        · have := hk.1.1; omega
        · have := hlt5 k e.symm; have := hk.1.2; omega
        · have := hlt5 k hk.symm; omega
        · rintro k (rfl | rfl) <;> omega
      replace hW := Aside0.mk hW
      replace hcs := Aside0.mk hcs
      clear hb2 z0 z1 z2 z3 z5 hN2 hR5
      go_wp2_with fail
      refine bodyPost_ret (results_cell_row rfl _ _ (w.heap.size + 1) 25 #[.int .i64 t.f0, .int .i64 t.f1, .int .i64 t.f2, .int .i64 t.f3, .slice A t.f4.length c, .slice B5 t.f5.length d5] (0, 0) _ rfl (six_put (blk_far (blk_far hcs.out (by show w.heap.size + 1 ≠ w.heap.size; omega) _) (by show w.heap.size + 1 ≠ w.heap.size; omega) _) _ _ _ _ _ _) Try.underlying25 rfl (by kernel_rfl)) rfl ?_
      exact ⟨A, c, B5, d5, rfl, hW.out _ (Chg.six (((Chg.refl _ _).set (p := ⟨w.heap.size, 4, none⟩) (.inl (.inl rfl)) _).set (p := ⟨w.heap.size, 5, none⟩) (.inl (.inl rfl)) _) (.inl (.inr rfl)) _ _ _ _ _ _)⟩
def txn_copied.f (a0_0 a0_1 a0_2 a0_3 : Int) (l0_4 : List S30) (l0_5 : List Int) : Option (Int × Int × Int × Int × (List S30) × List Int) := if (decide (l0_4.length ≤ 100) && (decide (l0_5.length ≤ 100) && l0_4.all (fun c => decide (c.f3.f1.length ≤ 100) && decide (c.f4.f1.length ≤ 100)))) = true then some (a0_0, a0_1, a0_2, a0_3, l0_4, l0_5) else none
theorem txn_copied.calls (a0_0 : Int) (a0_1 : Int) (a0_2 : Int) (a0_3 : Int) (A0_4 : Option Addr) (c0_4 : Nat) (l0_4 : List (S30)) (A0_5 : Option Addr) (c0_5 : Nat) (l0_5 : List Int) (r1 : Int) (r2 : Int) (r3 : Int) (r4 : Int) (r5 : List (S30)) (r6 : List Int) (w : World) (hr0_4 : Kd.C k30 w A0_4 l0_4.length l0_4) (hc0_4 : l0_4.length ≤ c0_4) (hr0_5 : Kd.C (Kd.int .i64) w A0_5 l0_5.length l0_5) (hc0_5 : l0_5.length ≤ c0_5) (h : txn_copied.f a0_0 a0_1 a0_2 a0_3 l0_4 l0_5 = some (r1, r2, r3, r4, r5, r6)) :
    Calls Try.prog 32 #[.agg #[.int .i64 a0_0, .int .i64 a0_1, .int .i64 a0_2, .int .i64 a0_3, .slice A0_4 l0_4.length c0_4, .slice A0_5 l0_5.length c0_5]] w fun e w' => ∃ v4_ v5_ : Value, e = .returned (.agg #[.int .i64 r1, .int .i64 r2, .int .i64 r3, .int .i64 r4, v4_, v5_]) ∧ Kd.N k30 30 w' w.heap.size (fun k_ => (w.heap.size ≤ k_) ∧ some k_ ≠ (v5_ : Value).ownBlock) v4_ r5 ∧ Kd.R (Kd.int .i64) 3 w' w.heap.size (fun k_ => (w.heap.size ≤ k_)) v5_ r6 ∧ Below w.heap.size w w' := by
  unfold txn_copied.f at h
  split at h
  · rename_i hh
    simp only [Option.some.injEq, Prod.mk.injEq] at h
    obtain ⟨rfl, rfl, rfl, rfl, rfl, rfl⟩ := h
    simp only [Bool.and_eq_true, decide_eq_true_eq, List.all_eq_true] at hh
    refine (copied_any ⟨a0_0, a0_1, a0_2, a0_3, l0_4, l0_5⟩ A0_4 c0_4 A0_5 c0_5 w hc0_4 hr0_4 hc0_5 hr0_5 hh.1 hh.2.1 hh.2.2).mono ?_
    rintro e w' ⟨B4, d4, B5, d5, rfl, hN, hR, hb⟩
    have h5 := Kd.R_base hR
    exact ⟨_, _, rfl, hN, Kd.R_mono (Kd.R_tight rfl hR) (fun k hk => h5 k hk.symm), hb⟩
  · cases h
end Go.Proofs.Ytdbbibndjknafaa.Print
