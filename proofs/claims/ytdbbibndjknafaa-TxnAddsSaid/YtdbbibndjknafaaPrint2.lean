-- Written by a program of this session (myprint.py over the kit's print.py) out of the translation. Not trusted: Lean checks it.
import Derived.Test.YtdbbibndjknafaaPrint0
import Derived.Test.YtdbbibndjknafaaPrint1
namespace Go.Proofs.Ytdbbibndjknafaa.Print
open Go.RowKit Go.Proofs.YtdbbibndjknafaaW.PrintWords Go.Proofs.YtdbbibndjknafaaW.PrintLast Go.Proofs.YtdbbibndjknafaaW.PrintMore
attribute [local go_sem] max2_int min2_int max_two min_two max_three min_three max_four min_four   -- for this text's walks alone
set_option linter.unusedVariables false
set_option linter.unusedSimpArgs false
mutual
def txn_May.j0 : Nat → Bool → Int → Int → Int → Int → List (S30) → List Int → Option (Bool)
  | 0, _, _, _, _, _, _, _ => none
  | k + 1, x36, x106000, x106001, x106002, x106003, x106004, x106005 => if x36 = true then (some false) else (if (x106004.length : Int) > 6 then (txn_May.j1 k true x106000 x106001 x106002 x106003 x106004 x106005) else (txn_May.j1 k (decide ((x106005.length : Int) > 4)) x106000 x106001 x106002 x106003 x106004 x106005))
def txn_May.j1 : Nat → Bool → Int → Int → Int → Int → List (S30) → List Int → Option (Bool)
  | 0, _, _, _, _, _, _, _ => none
  | k + 1, x46, x106000, x106001, x106002, x106003, x106004, x106005 => if x46 = true then (some false) else (txn_May.l0 k x106004 (x106004.length : Int) 0 x106000 x106001 x106002 x106003 x106004 x106005)
def txn_May.l0 : Nat → List (S30) → Int → Int → Int → Int → Int → Int → List (S30) → List Int → Option (Bool)
  | 0, _, _, _, _, _, _, _, _, _ => none
  | k + 1, x48, x49, x50, x106000, x106001, x106002, x106003, x106004, x106005 => if x50 < x49 then (if 0 ≤ x50 then (if x50 < (x48.length : Int) then ((txn_change.f ((rd_T30 x48 x50).f0) ((rd_T30 x48 x50).f1) ((rd_T30 x48 x50).f2) ((rd_T30 x48 x50).f3.f0) ((rd_T30 x48 x50).f3.f1) ((rd_T30 x48 x50).f4.f0) ((rd_T30 x48 x50).f4.f1)).bind fun t110 => (if t110 = true then (if x50 > 0 then (if 0 ≤ (wrap64 (x50 - 1)) then (if (wrap64 (x50 - 1)) < (x106004.length : Int) then (if ((rd_T30 x48 x50).f0) ≤ ((rd_T30 x106004 (wrap64 (x50 - 1))).f0) then (some false) else (txn_May.l0 k x48 x49 (wrap64 (x50 + 1)) x106000 x106001 x106002 x106003 x106004 x106005)) else (none)) else (none)) else (txn_May.l0 k x48 x49 (wrap64 (x50 + 1)) x106000 x106001 x106002 x106003 x106004 x106005)) else (some false))) else (none)) else (none)) else (txn_May.l1 k x106005 (x106005.length : Int) 0 x106000 x106001 x106002 x106003 x106004 x106005)
def txn_May.l1 : Nat → List Int → Int → Int → Int → Int → Int → Int → List (S30) → List Int → Option (Bool)
  | 0, _, _, _, _, _, _, _, _, _ => none
  | k + 1, x76, x77, x78, x106000, x106001, x106002, x106003, x106004, x106005 => if x78 < x77 then (if 0 ≤ x78 then (if x78 < (x76.length : Int) then (if (rd x76 x78) < 0 then (some false) else (if (rd x76 x78) > (x106004.length : Int) then (some false) else (if x78 > 0 then (if 0 ≤ (wrap64 (x78 - 1)) then (if (wrap64 (x78 - 1)) < (x106005.length : Int) then (if (rd x76 x78) < (rd x106005 (wrap64 (x78 - 1))) then (some false) else (txn_May.l1 k x76 x77 (wrap64 (x78 + 1)) x106000 x106001 x106002 x106003 x106004 x106005)) else (none)) else (none)) else (txn_May.l1 k x76 x77 (wrap64 (x78 + 1)) x106000 x106001 x106002 x106003 x106004 x106005)))) else (none)) else (none)) else (some true)
end
theorem txn_May.j0_eq : ∀ (k : Nat) x36 x106000 x106001 x106002 x106003 x106004 x106005, txn_May.j0 (k + 1) x36 x106000 x106001 x106002 x106003 x106004 x106005 = (if x36 = true then (some false) else (if (x106004.length : Int) > 6 then (txn_May.j1 k true x106000 x106001 x106002 x106003 x106004 x106005) else (txn_May.j1 k (decide ((x106005.length : Int) > 4)) x106000 x106001 x106002 x106003 x106004 x106005))) := fun _ _ _ _ _ _ _ _ => rfl
theorem txn_May.j1_eq : ∀ (k : Nat) x46 x106000 x106001 x106002 x106003 x106004 x106005, txn_May.j1 (k + 1) x46 x106000 x106001 x106002 x106003 x106004 x106005 = (if x46 = true then (some false) else (txn_May.l0 k x106004 (x106004.length : Int) 0 x106000 x106001 x106002 x106003 x106004 x106005)) := fun _ _ _ _ _ _ _ _ => rfl
theorem txn_May.l0_eq : ∀ (k : Nat) x48 x49 x50 x106000 x106001 x106002 x106003 x106004 x106005, txn_May.l0 (k + 1) x48 x49 x50 x106000 x106001 x106002 x106003 x106004 x106005 = (if x50 < x49 then (if 0 ≤ x50 then (if x50 < (x48.length : Int) then ((txn_change.f ((rd_T30 x48 x50).f0) ((rd_T30 x48 x50).f1) ((rd_T30 x48 x50).f2) ((rd_T30 x48 x50).f3.f0) ((rd_T30 x48 x50).f3.f1) ((rd_T30 x48 x50).f4.f0) ((rd_T30 x48 x50).f4.f1)).bind fun t110 => (if t110 = true then (if x50 > 0 then (if 0 ≤ (wrap64 (x50 - 1)) then (if (wrap64 (x50 - 1)) < (x106004.length : Int) then (if ((rd_T30 x48 x50).f0) ≤ ((rd_T30 x106004 (wrap64 (x50 - 1))).f0) then (some false) else (txn_May.l0 k x48 x49 (wrap64 (x50 + 1)) x106000 x106001 x106002 x106003 x106004 x106005)) else (none)) else (none)) else (txn_May.l0 k x48 x49 (wrap64 (x50 + 1)) x106000 x106001 x106002 x106003 x106004 x106005)) else (some false))) else (none)) else (none)) else (txn_May.l1 k x106005 (x106005.length : Int) 0 x106000 x106001 x106002 x106003 x106004 x106005)) := fun _ _ _ _ _ _ _ _ _ _ => rfl
theorem txn_May.l1_eq : ∀ (k : Nat) x76 x77 x78 x106000 x106001 x106002 x106003 x106004 x106005, txn_May.l1 (k + 1) x76 x77 x78 x106000 x106001 x106002 x106003 x106004 x106005 = (if x78 < x77 then (if 0 ≤ x78 then (if x78 < (x76.length : Int) then (if (rd x76 x78) < 0 then (some false) else (if (rd x76 x78) > (x106004.length : Int) then (some false) else (if x78 > 0 then (if 0 ≤ (wrap64 (x78 - 1)) then (if (wrap64 (x78 - 1)) < (x106005.length : Int) then (if (rd x76 x78) < (rd x106005 (wrap64 (x78 - 1))) then (some false) else (txn_May.l1 k x76 x77 (wrap64 (x78 + 1)) x106000 x106001 x106002 x106003 x106004 x106005)) else (none)) else (none)) else (txn_May.l1 k x76 x77 (wrap64 (x78 + 1)) x106000 x106001 x106002 x106003 x106004 x106005)))) else (none)) else (none)) else (some true)) := fun _ _ _ _ _ _ _ _ _ _ => rfl
def txn_May.f (k : Nat) (a0_0 : Int) (a0_1 : Int) (a0_2 : Int) (a0_3 : Int) (l0_4 : List (S30)) (l0_5 : List Int) : Option (Bool) := if a0_0 < 1 then (txn_May.j0 k true a0_0 a0_1 a0_2 a0_3 l0_4 l0_5) else (if a0_0 > 255 then (txn_May.j0 k true a0_0 a0_1 a0_2 a0_3 l0_4 l0_5) else (if a0_1 < 1 then (txn_May.j0 k true a0_0 a0_1 a0_2 a0_3 l0_4 l0_5) else (if a0_1 > 3 then (txn_May.j0 k true a0_0 a0_1 a0_2 a0_3 l0_4 l0_5) else ((txn_lsn.f a0_2).bind fun t106 => (if t106 = true then ((txn_lsn.f a0_3).bind fun t107 => (txn_May.j0 k (!t107) a0_0 a0_1 a0_2 a0_3 l0_4 l0_5)) else (txn_May.j0 k true a0_0 a0_1 a0_2 a0_3 l0_4 l0_5))))))
theorem txn_May.mono_l : ∀ k, (∀ y0 y1 y2 y3 y4 y5 y6, LeO (txn_May.j0 k y0 y1 y2 y3 y4 y5 y6) (txn_May.j0 (k + 1) y0 y1 y2 y3 y4 y5 y6)) ∧ (∀ y0 y1 y2 y3 y4 y5 y6, LeO (txn_May.j1 k y0 y1 y2 y3 y4 y5 y6) (txn_May.j1 (k + 1) y0 y1 y2 y3 y4 y5 y6)) ∧ (∀ y0 y1 y2 y3 y4 y5 y6 y7 y8, LeO (txn_May.l0 k y0 y1 y2 y3 y4 y5 y6 y7 y8) (txn_May.l0 (k + 1) y0 y1 y2 y3 y4 y5 y6 y7 y8)) ∧ (∀ y0 y1 y2 y3 y4 y5 y6 y7 y8, LeO (txn_May.l1 k y0 y1 y2 y3 y4 y5 y6 y7 y8) (txn_May.l1 (k + 1) y0 y1 y2 y3 y4 y5 y6 y7 y8))
  | 0 => ⟨fun _ _ _ _ _ _ _ r h => by first | (cases h; done) | simp [txn_May.j0] at h, fun _ _ _ _ _ _ _ r h => by first | (cases h; done) | simp [txn_May.j1] at h, fun _ _ _ _ _ _ _ _ _ r h => by first | (cases h; done) | simp [txn_May.l0] at h, fun _ _ _ _ _ _ _ _ _ r h => by first | (cases h; done) | simp [txn_May.l1] at h⟩
  | k + 1 => by
    obtain ⟨ih0, ih1, ih2, ih3⟩ := txn_May.mono_l k
    refine ⟨?_, ?_, ?_, ?_⟩
    · intro y0 y1 y2 y3 y4 y5 y6
      unfold txn_May.j0
      repeat' first
      | (with_reducible exact ih0 _ _ _ _ _ _ _)
      | (with_reducible exact ih1 _ _ _ _ _ _ _)
      | (with_reducible exact ih2 _ _ _ _ _ _ _ _ _)
      | (with_reducible exact ih3 _ _ _ _ _ _ _ _ _)
      | (with_reducible exact LeO.refl _)
      | (with_reducible exact LeO.none _)
      | (with_reducible refine LeO.ite ?_ ?_)
      | (with_reducible refine LeO.bind ?_ (fun _ => ?_))
      | exact ih0 _ _ _ _ _ _ _
      | exact ih1 _ _ _ _ _ _ _
      | exact ih2 _ _ _ _ _ _ _ _ _
      | exact ih3 _ _ _ _ _ _ _ _ _
      | exact LeO.none _
      | refine LeO.ite ?_ ?_
      | refine LeO.bind ?_ (fun _ => ?_)
    · intro y0 y1 y2 y3 y4 y5 y6
      unfold txn_May.j1
      repeat' first
      | (with_reducible exact ih0 _ _ _ _ _ _ _)
      | (with_reducible exact ih1 _ _ _ _ _ _ _)
      | (with_reducible exact ih2 _ _ _ _ _ _ _ _ _)
      | (with_reducible exact ih3 _ _ _ _ _ _ _ _ _)
      | (with_reducible exact LeO.refl _)
      | (with_reducible exact LeO.none _)
      | (with_reducible refine LeO.ite ?_ ?_)
      | (with_reducible refine LeO.bind ?_ (fun _ => ?_))
      | exact ih0 _ _ _ _ _ _ _
      | exact ih1 _ _ _ _ _ _ _
      | exact ih2 _ _ _ _ _ _ _ _ _
      | exact ih3 _ _ _ _ _ _ _ _ _
      | exact LeO.none _
      | refine LeO.ite ?_ ?_
      | refine LeO.bind ?_ (fun _ => ?_)
    · intro y0 y1 y2 y3 y4 y5 y6 y7 y8
      unfold txn_May.l0
      repeat' first
      | (with_reducible exact ih0 _ _ _ _ _ _ _)
      | (with_reducible exact ih1 _ _ _ _ _ _ _)
      | (with_reducible exact ih2 _ _ _ _ _ _ _ _ _)
      | (with_reducible exact ih3 _ _ _ _ _ _ _ _ _)
      | (with_reducible exact LeO.refl _)
      | (with_reducible exact LeO.none _)
      | (with_reducible refine LeO.ite ?_ ?_)
      | (with_reducible refine LeO.bind ?_ (fun _ => ?_))
      | exact ih0 _ _ _ _ _ _ _
      | exact ih1 _ _ _ _ _ _ _
      | exact ih2 _ _ _ _ _ _ _ _ _
      | exact ih3 _ _ _ _ _ _ _ _ _
      | exact LeO.none _
      | refine LeO.ite ?_ ?_
      | refine LeO.bind ?_ (fun _ => ?_)
    · intro y0 y1 y2 y3 y4 y5 y6 y7 y8
      unfold txn_May.l1
      repeat' first
      | (with_reducible exact ih0 _ _ _ _ _ _ _)
      | (with_reducible exact ih1 _ _ _ _ _ _ _)
      | (with_reducible exact ih2 _ _ _ _ _ _ _ _ _)
      | (with_reducible exact ih3 _ _ _ _ _ _ _ _ _)
      | (with_reducible exact LeO.refl _)
      | (with_reducible exact LeO.none _)
      | (with_reducible refine LeO.ite ?_ ?_)
      | (with_reducible refine LeO.bind ?_ (fun _ => ?_))
      | exact ih0 _ _ _ _ _ _ _
      | exact ih1 _ _ _ _ _ _ _
      | exact ih2 _ _ _ _ _ _ _ _ _
      | exact ih3 _ _ _ _ _ _ _ _ _
      | exact LeO.none _
      | refine LeO.ite ?_ ?_
      | refine LeO.bind ?_ (fun _ => ?_)
theorem txn_May.mono : ∀ a0 a1 a2 a3 a4 a5 k, LeO (txn_May.f k a0 a1 a2 a3 a4 a5) (txn_May.f (k + 1) a0 a1 a2 a3 a4 a5) := by
  intro a0 a1 a2 a3 a4 a5 k
  obtain ⟨ih0, ih1, ih2, ih3⟩ := txn_May.mono_l k
  unfold txn_May.f
  repeat' first
      | (with_reducible exact ih0 _ _ _ _ _ _ _)
      | (with_reducible exact ih1 _ _ _ _ _ _ _)
      | (with_reducible exact ih2 _ _ _ _ _ _ _ _ _)
      | (with_reducible exact ih3 _ _ _ _ _ _ _ _ _)
      | (with_reducible exact LeO.refl _)
      | (with_reducible exact LeO.none _)
      | (with_reducible refine LeO.ite ?_ ?_)
      | (with_reducible refine LeO.bind ?_ (fun _ => ?_))
      | exact ih0 _ _ _ _ _ _ _
      | exact ih1 _ _ _ _ _ _ _
      | exact ih2 _ _ _ _ _ _ _ _ _
      | exact ih3 _ _ _ _ _ _ _ _ _
      | exact LeO.none _
      | refine LeO.ite ?_ ?_
      | refine LeO.bind ?_ (fun _ => ?_)
def txn_May.T8 : Bool × List (List Nat × List Nat) := (true, [([], []), ([0], [0]), ([1], [1]), ([2, 1], [2]), ([3], [3]), ([4, 3], [3, 4]), ([5, 3, 3], [3, 5]), ([6], [6]), ([7, 6], [6, 7]), ([6], [6]), ([9, 6], [6, 9]), ([6], [6]), ([11, 6], [6, 11]), ([10, 12, 6], [6, 10, 12]), ([13, 6], [6, 13]), ([14, 6], [6, 14]), ([8, 15, 6], [6, 8, 15]), ([6, 16, 3], [3, 6, 16]), ([3, 17], [3, 17])])
def txn_May.B8 : List Nat := [0, 1, 3, 7, 15, 31, 63, 127, 255, 127, 639, 127, 2175, 7807, 15999, 32383, 65535, 131071, 262143]
theorem txn_May.tab8 : rtab .any (opsOf Try.f22 8) = txn_May.T8 := by kernel_rfl
theorem txn_May.bits8 : waitsOk txn_May.T8.2 txn_May.B8 = true := by kernel_rfl
set_option maxHeartbeats 8000000 in
set_option maxRecDepth 100000 in
theorem txn_May.calls (k : Nat) (a0_0 : Int) (a0_1 : Int) (a0_2 : Int) (a0_3 : Int) (A0_4 : Option Addr) (c0_4 : Nat) (l0_4 : List (S30)) (A0_5 : Option Addr) (c0_5 : Nat) (l0_5 : List Int) (r : Bool) (w : World) (hr0_4 : Kd.C k30 w A0_4 l0_4.length l0_4) (hc0_4 : l0_4.length ≤ c0_4) (hr0_5 : Kd.C (Kd.int .i64) w A0_5 l0_5.length l0_5) (hc0_5 : l0_5.length ≤ c0_5) (h : txn_May.f k a0_0 a0_1 a0_2 a0_3 l0_4 l0_5 = some r) :
    Calls Try.prog 22 #[.agg #[.int .i64 a0_0, .int .i64 a0_1, .int .i64 a0_2, .int .i64 a0_3, .slice A0_4 l0_4.length c0_4, .slice A0_5 l0_5.length c0_5]] w fun e w' => e = .returned (.bool r) ∧ Below w.heap.size w w' := by
  have hu25 := Try.underlying25
  have hu30 := Try.underlying30
  have HR0_4 := Aside0.mk hr0_4
  have HC0_4 := Aside0.mk hc0_4
  clear hr0_4 hc0_4
  have HR0_5 := Aside0.mk hr0_5
  have HC0_5 := Aside0.mk hc0_5
  clear hr0_5 hc0_5
  have HB := Aside0.mk (Below.refl w.heap.size w)
  have H : (if a0_0 < 1 then (txn_May.j0 k true a0_0 a0_1 a0_2 a0_3 l0_4 l0_5) else (if a0_0 > 255 then (txn_May.j0 k true a0_0 a0_1 a0_2 a0_3 l0_4 l0_5) else (if a0_1 < 1 then (txn_May.j0 k true a0_0 a0_1 a0_2 a0_3 l0_4 l0_5) else (if a0_1 > 3 then (txn_May.j0 k true a0_0 a0_1 a0_2 a0_3 l0_4 l0_5) else ((txn_lsn.f a0_2).bind fun t106 => (if t106 = true then ((txn_lsn.f a0_3).bind fun t107 => (txn_May.j0 k (!t107) a0_0 a0_1 a0_2 a0_3 l0_4 l0_5)) else (txn_May.j0 k true a0_0 a0_1 a0_2 a0_3 l0_4 l0_5))))))) = some r := h
  clear h
  have HC2 := Aside0.mk H
  clear H
  go_enter Try.func22, Try.ntmps22
  go_upto_region 1 with (first | ((with_reducible refine gate_dst (N := 1) rfl ?_); (try (refine gate_guard (by rfl) ?_; dsimp only)); refine box_event ?hg (N := 1) ?hd (cs := #[.int .i64 a0_0, .int .i64 a0_1, .int .i64 a0_2, .int .i64 a0_3, .slice A0_4 l0_4.length c0_4, .slice A0_5 l0_5.length c0_5]) (t := 25) ?hr ?_; (case hd => rfl); (case hg => rfl); (case hr => first | (go_simp; done) | (go_simp; rfl)); intro gb105 hg w3 hbox hb; have n0_ := Aside0.mk (below_step (by repeat (first | (with_reducible first | exact HB.out | apply below_alloc | apply pw_below_drewN | apply below_drew1) | exact HB.out)) hb); have n1_ := Aside0.mk (hbox); have n2_ := Aside0.mk ((by rw [hg]; exact (below_size (by repeat (first | (with_reducible first | exact HB.out | apply below_alloc | apply pw_below_drewN | apply below_drew1) | exact HB.out))) : w.heap.size ≤ gb105)); have n3_ := Aside0.mk ((by rw [hg]; exact (below_size (by repeat (first | (with_reducible first | exact HB.out | apply below_alloc | apply pw_below_drewN | apply below_drew1) | exact HB.out))) : w.heap.size ≤ gb105)); clear HB; have HB := n0_; have BK105 := n1_; have GW105 := n2_; have GE105 := n3_; clear n0_ n1_ n2_ n3_; clear hb hbox hg))
  (try simp only [Act.put, List.setIfInBounds_toArray, List.set_cons_zero, List.set_cons_succ])
  go_cut [36] (fun v36 wc => ∃ (kq : Nat) (x36_1 : Bool), v36 = .bool x36_1 ∧ Aside0 (txn_May.j0 kq x36_1 a0_0 a0_1 a0_2 a0_3 l0_4 l0_5 = some r) ∧ Aside0 (kq ≤ k) ∧ Aside0 (wc.heap[gb105]? = some (.cells #[.int .i64 a0_0, .int .i64 a0_1, .int .i64 a0_2, .int .i64 a0_3, (.slice A0_4 l0_4.length c0_4), (.slice A0_5 l0_5.length c0_5)] 25 (0, 0))) ∧ Aside0 (Below w.heap.size w wc))
  case first =>
    have H := HC2.out
    clear HC2
    by_cases c4 : a0_0 < 1
    · rw [if_pos c4] at H
      have c4b0 : decide (a0_0 < 1) = true := decide_eq_true c4
      clear c4
      (first | rw [c4b0] | (simp only [i64_w, i32_w]; rw [c4b0]) | skip)
      have H' := Aside0.mk H
      clear H
      have hcz5_0 : w3.cell? ⟨gb105, 0, none⟩ = some (.int .i64 a0_0) := (blk_cell BK105.out 0).trans rfl
      have hcz5_1 : w3.cell? ⟨gb105, 1, none⟩ = some (.int .i64 a0_1) := (blk_cell BK105.out 1).trans rfl
      have hcz5_2 : w3.cell? ⟨gb105, 2, none⟩ = some (.int .i64 a0_2) := (blk_cell BK105.out 2).trans rfl
      have hcz5_3 : w3.cell? ⟨gb105, 3, none⟩ = some (.int .i64 a0_3) := (blk_cell BK105.out 3).trans rfl
      have hcz5_4 : w3.cell? ⟨gb105, 4, none⟩ = some (.slice A0_4 l0_4.length c0_4) := (blk_cell BK105.out 4).trans rfl
      have hcz5_5 : w3.cell? ⟨gb105, 5, none⟩ = some (.slice A0_5 l0_5.length c0_5) := (blk_cell BK105.out 5).trans rfl
      have hfz5_0 := blk_frozen BK105.out 0
      have hfz5_1 := blk_frozen BK105.out 1
      have hfz5_2 := blk_frozen BK105.out 2
      have hfz5_3 := blk_frozen BK105.out 3
      have hfz5_4 := blk_frozen BK105.out 4
      have hfz5_5 := blk_frozen BK105.out 5
      go_wp2
      go_meet
      case rel => exact ⟨_, (true), (by first | rfl | (simp; done) | (simp [*]; done)), H', ⟨by first | omega | exact Nat.le_refl _⟩, ⟨by (with_reducible repeat (first | refine blk_drewN ?_ _ | refine blk_drew ?_ | refine blk_alloc ?_ _)); exact BK105.out⟩, ⟨by repeat (first | (with_reducible first | exact HB.out | apply below_alloc | apply pw_below_drewN | apply below_drew1 | refine below_set ?_ GE105.out) | exact HB.out)⟩⟩
    · rw [if_neg c4] at H
      have c4b0 : decide (a0_0 < 1) = false := decide_eq_false c4
      clear c4
      (first | rw [c4b0] | (simp only [i64_w, i32_w]; rw [c4b0]) | skip)
      by_cases c6 : a0_0 > 255
      · rw [if_pos c6] at H
        have c6b0 : decide (255 < a0_0) = true := decide_eq_true c6
        clear c6
        have H' := Aside0.mk H
        clear H
        have hcz7_0 : w3.cell? ⟨gb105, 0, none⟩ = some (.int .i64 a0_0) := (blk_cell BK105.out 0).trans rfl
        have hcz7_1 : w3.cell? ⟨gb105, 1, none⟩ = some (.int .i64 a0_1) := (blk_cell BK105.out 1).trans rfl
        have hcz7_2 : w3.cell? ⟨gb105, 2, none⟩ = some (.int .i64 a0_2) := (blk_cell BK105.out 2).trans rfl
        have hcz7_3 : w3.cell? ⟨gb105, 3, none⟩ = some (.int .i64 a0_3) := (blk_cell BK105.out 3).trans rfl
        have hcz7_4 : w3.cell? ⟨gb105, 4, none⟩ = some (.slice A0_4 l0_4.length c0_4) := (blk_cell BK105.out 4).trans rfl
        have hcz7_5 : w3.cell? ⟨gb105, 5, none⟩ = some (.slice A0_5 l0_5.length c0_5) := (blk_cell BK105.out 5).trans rfl
        have hfz7_0 := blk_frozen BK105.out 0
        have hfz7_1 := blk_frozen BK105.out 1
        have hfz7_2 := blk_frozen BK105.out 2
        have hfz7_3 := blk_frozen BK105.out 3
        have hfz7_4 := blk_frozen BK105.out 4
        have hfz7_5 := blk_frozen BK105.out 5
        go_wp2
        go_meet
        case rel => exact ⟨_, (true), (by first | rfl | (simp; done) | (simp [*]; done)), H', ⟨by first | omega | exact Nat.le_refl _⟩, ⟨by (with_reducible repeat (first | refine blk_drewN ?_ _ | refine blk_drew ?_ | refine blk_alloc ?_ _)); exact BK105.out⟩, ⟨by repeat (first | (with_reducible first | exact HB.out | apply below_alloc | apply pw_below_drewN | apply below_drew1 | refine below_set ?_ GE105.out) | exact HB.out)⟩⟩
      · rw [if_neg c6] at H
        have c6b0 : decide (255 < a0_0) = false := decide_eq_false c6
        clear c6
        by_cases c8 : a0_1 < 1
        · rw [if_pos c8] at H
          have c8b0 : decide (a0_1 < 1) = true := decide_eq_true c8
          clear c8
          have H' := Aside0.mk H
          clear H
          have hcz9_0 : w3.cell? ⟨gb105, 0, none⟩ = some (.int .i64 a0_0) := (blk_cell BK105.out 0).trans rfl
          have hcz9_1 : w3.cell? ⟨gb105, 1, none⟩ = some (.int .i64 a0_1) := (blk_cell BK105.out 1).trans rfl
          have hcz9_2 : w3.cell? ⟨gb105, 2, none⟩ = some (.int .i64 a0_2) := (blk_cell BK105.out 2).trans rfl
          have hcz9_3 : w3.cell? ⟨gb105, 3, none⟩ = some (.int .i64 a0_3) := (blk_cell BK105.out 3).trans rfl
          have hcz9_4 : w3.cell? ⟨gb105, 4, none⟩ = some (.slice A0_4 l0_4.length c0_4) := (blk_cell BK105.out 4).trans rfl
          have hcz9_5 : w3.cell? ⟨gb105, 5, none⟩ = some (.slice A0_5 l0_5.length c0_5) := (blk_cell BK105.out 5).trans rfl
          have hfz9_0 := blk_frozen BK105.out 0
          have hfz9_1 := blk_frozen BK105.out 1
          have hfz9_2 := blk_frozen BK105.out 2
          have hfz9_3 := blk_frozen BK105.out 3
          have hfz9_4 := blk_frozen BK105.out 4
          have hfz9_5 := blk_frozen BK105.out 5
          go_wp2
          go_meet
          case rel => exact ⟨_, (true), (by first | rfl | (simp; done) | (simp [*]; done)), H', ⟨by first | omega | exact Nat.le_refl _⟩, ⟨by (with_reducible repeat (first | refine blk_drewN ?_ _ | refine blk_drew ?_ | refine blk_alloc ?_ _)); exact BK105.out⟩, ⟨by repeat (first | (with_reducible first | exact HB.out | apply below_alloc | apply pw_below_drewN | apply below_drew1 | refine below_set ?_ GE105.out) | exact HB.out)⟩⟩
        · rw [if_neg c8] at H
          have c8b0 : decide (a0_1 < 1) = false := decide_eq_false c8
          clear c8
          by_cases c10 : a0_1 > 3
          · rw [if_pos c10] at H
            have c10b0 : decide (3 < a0_1) = true := decide_eq_true c10
            clear c10
            have H' := Aside0.mk H
            clear H
            have hcz11_0 : w3.cell? ⟨gb105, 0, none⟩ = some (.int .i64 a0_0) := (blk_cell BK105.out 0).trans rfl
            have hcz11_1 : w3.cell? ⟨gb105, 1, none⟩ = some (.int .i64 a0_1) := (blk_cell BK105.out 1).trans rfl
            have hcz11_2 : w3.cell? ⟨gb105, 2, none⟩ = some (.int .i64 a0_2) := (blk_cell BK105.out 2).trans rfl
            have hcz11_3 : w3.cell? ⟨gb105, 3, none⟩ = some (.int .i64 a0_3) := (blk_cell BK105.out 3).trans rfl
            have hcz11_4 : w3.cell? ⟨gb105, 4, none⟩ = some (.slice A0_4 l0_4.length c0_4) := (blk_cell BK105.out 4).trans rfl
            have hcz11_5 : w3.cell? ⟨gb105, 5, none⟩ = some (.slice A0_5 l0_5.length c0_5) := (blk_cell BK105.out 5).trans rfl
            have hfz11_0 := blk_frozen BK105.out 0
            have hfz11_1 := blk_frozen BK105.out 1
            have hfz11_2 := blk_frozen BK105.out 2
            have hfz11_3 := blk_frozen BK105.out 3
            have hfz11_4 := blk_frozen BK105.out 4
            have hfz11_5 := blk_frozen BK105.out 5
            go_wp2
            go_meet
            case rel => exact ⟨_, (true), (by first | rfl | (simp; done) | (simp [*]; done)), H', ⟨by first | omega | exact Nat.le_refl _⟩, ⟨by (with_reducible repeat (first | refine blk_drewN ?_ _ | refine blk_drew ?_ | refine blk_alloc ?_ _)); exact BK105.out⟩, ⟨by repeat (first | (with_reducible first | exact HB.out | apply below_alloc | apply pw_below_drewN | apply below_drew1 | refine below_set ?_ GE105.out) | exact HB.out)⟩⟩
          · rw [if_neg c10] at H
            have c10b0 : decide (3 < a0_1) = false := decide_eq_false c10
            clear c10
            replace H := Option.bind_eq_some_iff.mp H
            obtain ⟨t106, A120, H⟩ := H
            replace H : (if t106 = true then ((txn_lsn.f a0_3).bind fun t107 => (txn_May.j0 k (!t107) a0_0 a0_1 a0_2 a0_3 l0_4 l0_5)) else (txn_May.j0 k true a0_0 a0_1 a0_2 a0_3 l0_4 l0_5)) = some r := H
            have A12 := Aside0.mk A120
            clear A120
            by_cases c13 : t106 = true
            · subst c13
              have H1 : ((txn_lsn.f a0_3).bind fun t107 => (txn_May.j0 k (!t107) a0_0 a0_1 a0_2 a0_3 l0_4 l0_5)) = some r := by rw [if_pos rfl] at H; exact H
              clear H
              have H := H1
              clear H1
              replace H := Option.bind_eq_some_iff.mp H
              obtain ⟨t107, A140, H⟩ := H
              replace H : (txn_May.j0 k (!t107) a0_0 a0_1 a0_2 a0_3 l0_4 l0_5) = some r := H
              have A14 := Aside0.mk A140
              clear A140
              have H' := Aside0.mk H
              clear H
              have hcz15_0 : w3.cell? ⟨gb105, 0, none⟩ = some (.int .i64 a0_0) := (blk_cell BK105.out 0).trans rfl
              have hcz15_1 : w3.cell? ⟨gb105, 1, none⟩ = some (.int .i64 a0_1) := (blk_cell BK105.out 1).trans rfl
              have hcz15_2 : w3.cell? ⟨gb105, 2, none⟩ = some (.int .i64 a0_2) := (blk_cell BK105.out 2).trans rfl
              have hcz15_3 : w3.cell? ⟨gb105, 3, none⟩ = some (.int .i64 a0_3) := (blk_cell BK105.out 3).trans rfl
              have hcz15_4 : w3.cell? ⟨gb105, 4, none⟩ = some (.slice A0_4 l0_4.length c0_4) := (blk_cell BK105.out 4).trans rfl
              have hcz15_5 : w3.cell? ⟨gb105, 5, none⟩ = some (.slice A0_5 l0_5.length c0_5) := (blk_cell BK105.out 5).trans rfl
              have hfz15_0 := blk_frozen BK105.out 0
              have hfz15_1 := blk_frozen BK105.out 1
              have hfz15_2 := blk_frozen BK105.out 2
              have hfz15_3 := blk_frozen BK105.out 3
              have hfz15_4 := blk_frozen BK105.out 4
              have hfz15_5 := blk_frozen BK105.out 5
              go_wp2_with (first | (go_at_call 38; (with_reducible refine (txn_lsn.calls a0_2 true _ A12.out).mono ?_); rintro e w' ⟨rfl, ⟨nd, rfl⟩⟩) | (go_at_call 38; (with_reducible refine (txn_lsn.calls a0_3 t107 _ A14.out).mono ?_); rintro e w' ⟨rfl, ⟨nd, rfl⟩⟩))
              go_meet
              case rel => exact ⟨_, (!t107), (by first | rfl | (simp; done) | (simp [*]; done)), H', ⟨by first | omega | exact Nat.le_refl _⟩, ⟨by (with_reducible repeat (first | refine blk_drewN ?_ _ | refine blk_drew ?_ | refine blk_alloc ?_ _)); exact BK105.out⟩, ⟨by repeat (first | (with_reducible first | exact HB.out | apply below_alloc | apply pw_below_drewN | apply below_drew1 | refine below_set ?_ GE105.out) | exact HB.out)⟩⟩
            · replace c13 := Bool.eq_false_iff.mpr c13
              subst c13
              have H1 : (txn_May.j0 k true a0_0 a0_1 a0_2 a0_3 l0_4 l0_5) = some r := by rw [if_neg (show ¬ (false = true) by decide)] at H; exact H
              clear H
              have H := H1
              clear H1
              have H' := Aside0.mk H
              clear H
              have hcz16_0 : w3.cell? ⟨gb105, 0, none⟩ = some (.int .i64 a0_0) := (blk_cell BK105.out 0).trans rfl
              have hcz16_1 : w3.cell? ⟨gb105, 1, none⟩ = some (.int .i64 a0_1) := (blk_cell BK105.out 1).trans rfl
              have hcz16_2 : w3.cell? ⟨gb105, 2, none⟩ = some (.int .i64 a0_2) := (blk_cell BK105.out 2).trans rfl
              have hcz16_3 : w3.cell? ⟨gb105, 3, none⟩ = some (.int .i64 a0_3) := (blk_cell BK105.out 3).trans rfl
              have hcz16_4 : w3.cell? ⟨gb105, 4, none⟩ = some (.slice A0_4 l0_4.length c0_4) := (blk_cell BK105.out 4).trans rfl
              have hcz16_5 : w3.cell? ⟨gb105, 5, none⟩ = some (.slice A0_5 l0_5.length c0_5) := (blk_cell BK105.out 5).trans rfl
              have hfz16_0 := blk_frozen BK105.out 0
              have hfz16_1 := blk_frozen BK105.out 1
              have hfz16_2 := blk_frozen BK105.out 2
              have hfz16_3 := blk_frozen BK105.out 3
              have hfz16_4 := blk_frozen BK105.out 4
              have hfz16_5 := blk_frozen BK105.out 5
              go_wp2_with (first | (go_at_call 38; (with_reducible refine (txn_lsn.calls a0_2 false _ A12.out).mono ?_); rintro e w' ⟨rfl, ⟨nd, rfl⟩⟩))
              go_meet
              case rel => exact ⟨_, (true), (by first | rfl | (simp; done) | (simp [*]; done)), H', ⟨by first | omega | exact Nat.le_refl _⟩, ⟨by (with_reducible repeat (first | refine blk_drewN ?_ _ | refine blk_drew ?_ | refine blk_alloc ?_ _)); exact BK105.out⟩, ⟨by repeat (first | (with_reducible first | exact HB.out | apply below_alloc | apply pw_below_drewN | apply below_drew1 | refine below_set ?_ GE105.out) | exact HB.out)⟩⟩
  case rest =>
    clear HC2
    try clear c1
    try clear c2
    try clear p2
    try clear c4
    try clear c4b0
    try clear c6
    try clear c6b0
    try clear c8
    try clear c8b0
    try clear c10
    try clear c10b0
    try clear c13
    try clear hcz11_0
    try clear hcz11_1
    try clear hcz11_2
    try clear hcz11_3
    try clear hcz11_4
    try clear hcz11_5
    try clear hcz15_0
    try clear hcz15_1
    try clear hcz15_2
    try clear hcz15_3
    try clear hcz15_4
    try clear hcz15_5
    try clear hcz16_0
    try clear hcz16_1
    try clear hcz16_2
    try clear hcz16_3
    try clear hcz16_4
    try clear hcz16_5
    try clear hcz5_0
    try clear hcz5_1
    try clear hcz5_2
    try clear hcz5_3
    try clear hcz5_4
    try clear hcz5_5
    try clear hcz7_0
    try clear hcz7_1
    try clear hcz7_2
    try clear hcz7_3
    try clear hcz7_4
    try clear hcz7_5
    try clear hcz9_0
    try clear hcz9_1
    try clear hcz9_2
    try clear hcz9_3
    try clear hcz9_4
    try clear hcz9_5
    try clear hfz11_0
    try clear hfz11_1
    try clear hfz11_2
    try clear hfz11_3
    try clear hfz11_4
    try clear hfz11_5
    try clear hfz15_0
    try clear hfz15_1
    try clear hfz15_2
    try clear hfz15_3
    try clear hfz15_4
    try clear hfz15_5
    try clear hfz16_0
    try clear hfz16_1
    try clear hfz16_2
    try clear hfz16_3
    try clear hfz16_4
    try clear hfz16_5
    try clear hfz5_0
    try clear hfz5_1
    try clear hfz5_2
    try clear hfz5_3
    try clear hfz5_4
    try clear hfz5_5
    try clear hfz7_0
    try clear hfz7_1
    try clear hfz7_2
    try clear hfz7_3
    try clear hfz7_4
    try clear hfz7_5
    try clear hfz9_0
    try clear hfz9_1
    try clear hfz9_2
    try clear hfz9_3
    try clear hfz9_4
    try clear hfz9_5
    obtain ⟨kq, x36_1, rfl, HA, HJ1, BK105, HB⟩ := hcut
    cases kq with
    | zero => exact absurd HA.out (by first | (intro h_; cases h_; done) | simp [txn_May.j0])
    | succ kj1 =>
      have H := HA.out
      clear HA
      rw [txn_May.j0_eq] at H
      by_cases c17 : x36_1 = true
      · subst c17
        have H1 : (some false) = some r := by rw [if_pos rfl] at H; exact H
        clear H
        have H := H1
        clear H1
        obtain rfl := Option.some.inj H
        go_wp2
        go_ret
        exact ⟨by first | rfl | (simp [errW_none, errW_some] <;> rfl) | (simp [*, errW_none, errW_some] <;> rfl), by repeat (first | (with_reducible first | exact HB.out | apply below_alloc | apply pw_below_drewN | apply below_drew1 | refine below_set ?_ GE105.out) | exact HB.out)⟩
      · replace c17 := Bool.eq_false_iff.mpr c17
        subst c17
        have H1 : (if (l0_4.length : Int) > 6 then (txn_May.j1 kj1 true a0_0 a0_1 a0_2 a0_3 l0_4 l0_5) else (txn_May.j1 kj1 (decide ((l0_5.length : Int) > 4)) a0_0 a0_1 a0_2 a0_3 l0_4 l0_5)) = some r := by rw [if_neg (show ¬ (false = true) by decide)] at H; exact H
        clear H
        have H := H1
        clear H1
        have HC18 := Aside0.mk H
        clear H
        go_upto_region 3 with (fail)
        go_cut [46] (fun v46 wc => ∃ (kq : Nat) (x46_17 : Bool), v46 = .bool x46_17 ∧ Aside0 (txn_May.j1 kq x46_17 a0_0 a0_1 a0_2 a0_3 l0_4 l0_5 = some r) ∧ Aside0 (kq ≤ kj1) ∧ Aside0 (wc.heap[gb105]? = some (.cells #[.int .i64 a0_0, .int .i64 a0_1, .int .i64 a0_2, .int .i64 a0_3, (.slice A0_4 l0_4.length c0_4), (.slice A0_5 l0_5.length c0_5)] 25 (0, 0))) ∧ Aside0 (Below w.heap.size w wc))
        case first =>
          have H := HC18.out
          clear HC18
          by_cases c19 : (l0_4.length : Int) > 6
          · rw [if_pos c19] at H
            have c19b0 : decide (6 < (l0_4.length : Int)) = true := decide_eq_true c19
            have c19b1 : decide (6 < l0_4.length) = true := decide_eq_true (by omega)
            clear c19
            (first | rw [c19b0] | (simp only [i64_w, i32_w]; rw [c19b0]) | skip)
            have H' := Aside0.mk H
            clear H
            have hcz20_0 : wc.cell? ⟨gb105, 0, none⟩ = some (.int .i64 a0_0) := (blk_cell BK105.out 0).trans rfl
            have hcz20_1 : wc.cell? ⟨gb105, 1, none⟩ = some (.int .i64 a0_1) := (blk_cell BK105.out 1).trans rfl
            have hcz20_2 : wc.cell? ⟨gb105, 2, none⟩ = some (.int .i64 a0_2) := (blk_cell BK105.out 2).trans rfl
            have hcz20_3 : wc.cell? ⟨gb105, 3, none⟩ = some (.int .i64 a0_3) := (blk_cell BK105.out 3).trans rfl
            have hcz20_4 : wc.cell? ⟨gb105, 4, none⟩ = some (.slice A0_4 l0_4.length c0_4) := (blk_cell BK105.out 4).trans rfl
            have hcz20_5 : wc.cell? ⟨gb105, 5, none⟩ = some (.slice A0_5 l0_5.length c0_5) := (blk_cell BK105.out 5).trans rfl
            have hfz20_0 := blk_frozen BK105.out 0
            have hfz20_1 := blk_frozen BK105.out 1
            have hfz20_2 := blk_frozen BK105.out 2
            have hfz20_3 := blk_frozen BK105.out 3
            have hfz20_4 := blk_frozen BK105.out 4
            have hfz20_5 := blk_frozen BK105.out 5
            go_wp2
            go_meet
            case rel => exact ⟨_, (true), (by first | rfl | (simp; done) | (simp [*]; done)), H', ⟨by have := HJ1.out; first | omega | exact Nat.le_refl _⟩, ⟨by (with_reducible repeat (first | refine blk_drewN ?_ _ | refine blk_drew ?_ | refine blk_alloc ?_ _)); exact BK105.out⟩, ⟨by repeat (first | (with_reducible first | exact HB.out | apply below_alloc | apply pw_below_drewN | apply below_drew1 | refine below_set ?_ GE105.out) | exact HB.out)⟩⟩
          · rw [if_neg c19] at H
            have c19b0 : decide (6 < (l0_4.length : Int)) = false := decide_eq_false c19
            have c19b1 : decide (6 < l0_4.length) = false := decide_eq_false (by omega)
            clear c19
            (first | rw [c19b0] | (simp only [i64_w, i32_w]; rw [c19b0]) | skip)
            have H' := Aside0.mk H
            clear H
            have hcz21_0 : wc.cell? ⟨gb105, 0, none⟩ = some (.int .i64 a0_0) := (blk_cell BK105.out 0).trans rfl
            have hcz21_1 : wc.cell? ⟨gb105, 1, none⟩ = some (.int .i64 a0_1) := (blk_cell BK105.out 1).trans rfl
            have hcz21_2 : wc.cell? ⟨gb105, 2, none⟩ = some (.int .i64 a0_2) := (blk_cell BK105.out 2).trans rfl
            have hcz21_3 : wc.cell? ⟨gb105, 3, none⟩ = some (.int .i64 a0_3) := (blk_cell BK105.out 3).trans rfl
            have hcz21_4 : wc.cell? ⟨gb105, 4, none⟩ = some (.slice A0_4 l0_4.length c0_4) := (blk_cell BK105.out 4).trans rfl
            have hcz21_5 : wc.cell? ⟨gb105, 5, none⟩ = some (.slice A0_5 l0_5.length c0_5) := (blk_cell BK105.out 5).trans rfl
            have hfz21_0 := blk_frozen BK105.out 0
            have hfz21_1 := blk_frozen BK105.out 1
            have hfz21_2 := blk_frozen BK105.out 2
            have hfz21_3 := blk_frozen BK105.out 3
            have hfz21_4 := blk_frozen BK105.out 4
            have hfz21_5 := blk_frozen BK105.out 5
            go_wp2
            go_meet
            case rel => exact ⟨_, (decide ((l0_5.length : Int) > 4)), (by first | rfl | (simp; done) | (simp [*]; done)), H', ⟨by have := HJ1.out; first | omega | exact Nat.le_refl _⟩, ⟨by (with_reducible repeat (first | refine blk_drewN ?_ _ | refine blk_drew ?_ | refine blk_alloc ?_ _)); exact BK105.out⟩, ⟨by repeat (first | (with_reducible first | exact HB.out | apply below_alloc | apply pw_below_drewN | apply below_drew1 | refine below_set ?_ GE105.out) | exact HB.out)⟩⟩
        case rest =>
          clear HC18
          try clear c1
          try clear c2
          try clear p2
          try clear c4
          try clear c4b0
          try clear c6
          try clear c6b0
          try clear c8
          try clear c8b0
          try clear c10
          try clear c10b0
          try clear c13
          try clear c17
          try clear c19
          try clear c19b0
          try clear c19b1
          try clear hcz11_0
          try clear hcz11_1
          try clear hcz11_2
          try clear hcz11_3
          try clear hcz11_4
          try clear hcz11_5
          try clear hcz15_0
          try clear hcz15_1
          try clear hcz15_2
          try clear hcz15_3
          try clear hcz15_4
          try clear hcz15_5
          try clear hcz16_0
          try clear hcz16_1
          try clear hcz16_2
          try clear hcz16_3
          try clear hcz16_4
          try clear hcz16_5
          try clear hcz20_0
          try clear hcz20_1
          try clear hcz20_2
          try clear hcz20_3
          try clear hcz20_4
          try clear hcz20_5
          try clear hcz21_0
          try clear hcz21_1
          try clear hcz21_2
          try clear hcz21_3
          try clear hcz21_4
          try clear hcz21_5
          try clear hcz5_0
          try clear hcz5_1
          try clear hcz5_2
          try clear hcz5_3
          try clear hcz5_4
          try clear hcz5_5
          try clear hcz7_0
          try clear hcz7_1
          try clear hcz7_2
          try clear hcz7_3
          try clear hcz7_4
          try clear hcz7_5
          try clear hcz9_0
          try clear hcz9_1
          try clear hcz9_2
          try clear hcz9_3
          try clear hcz9_4
          try clear hcz9_5
          try clear hfz11_0
          try clear hfz11_1
          try clear hfz11_2
          try clear hfz11_3
          try clear hfz11_4
          try clear hfz11_5
          try clear hfz15_0
          try clear hfz15_1
          try clear hfz15_2
          try clear hfz15_3
          try clear hfz15_4
          try clear hfz15_5
          try clear hfz16_0
          try clear hfz16_1
          try clear hfz16_2
          try clear hfz16_3
          try clear hfz16_4
          try clear hfz16_5
          try clear hfz20_0
          try clear hfz20_1
          try clear hfz20_2
          try clear hfz20_3
          try clear hfz20_4
          try clear hfz20_5
          try clear hfz21_0
          try clear hfz21_1
          try clear hfz21_2
          try clear hfz21_3
          try clear hfz21_4
          try clear hfz21_5
          try clear hfz5_0
          try clear hfz5_1
          try clear hfz5_2
          try clear hfz5_3
          try clear hfz5_4
          try clear hfz5_5
          try clear hfz7_0
          try clear hfz7_1
          try clear hfz7_2
          try clear hfz7_3
          try clear hfz7_4
          try clear hfz7_5
          try clear hfz9_0
          try clear hfz9_1
          try clear hfz9_2
          try clear hfz9_3
          try clear hfz9_4
          try clear hfz9_5
          try clear p2
          obtain ⟨kq, x46_17, rfl, HA, HJ17, BK105, HB⟩ := hcut
          cases kq with
          | zero => exact absurd HA.out (by first | (intro h_; cases h_; done) | simp [txn_May.j1])
          | succ kj17 =>
            have H := HA.out
            clear HA
            rw [txn_May.j1_eq] at H
            by_cases c22 : x46_17 = true
            · subst c22
              have H1 : (some false) = some r := by rw [if_pos rfl] at H; exact H
              clear H
              have H := H1
              clear H1
              obtain rfl := Option.some.inj H
              go_wp2
              go_ret
              exact ⟨by first | rfl | (simp [errW_none, errW_some] <;> rfl) | (simp [*, errW_none, errW_some] <;> rfl), by repeat (first | (with_reducible first | exact HB.out | apply below_alloc | apply pw_below_drewN | apply below_drew1 | refine below_set ?_ GE105.out) | exact HB.out)⟩
            · replace c22 := Bool.eq_false_iff.mpr c22
              subst c22
              have H1 : (txn_May.l0 kj17 l0_4 (l0_4.length : Int) 0 a0_0 a0_1 a0_2 a0_3 l0_4 l0_5) = some r := by rw [if_neg (show ¬ (false = true) by decide)] at H; exact H
              clear H
              have H := H1
              clear H1
              have H' := Aside0.mk H
              clear H
              have hcz23_0 : wc.cell? ⟨gb105, 0, none⟩ = some (.int .i64 a0_0) := (blk_cell BK105.out 0).trans rfl
              have hcz23_1 : wc.cell? ⟨gb105, 1, none⟩ = some (.int .i64 a0_1) := (blk_cell BK105.out 1).trans rfl
              have hcz23_2 : wc.cell? ⟨gb105, 2, none⟩ = some (.int .i64 a0_2) := (blk_cell BK105.out 2).trans rfl
              have hcz23_3 : wc.cell? ⟨gb105, 3, none⟩ = some (.int .i64 a0_3) := (blk_cell BK105.out 3).trans rfl
              have hcz23_4 : wc.cell? ⟨gb105, 4, none⟩ = some (.slice A0_4 l0_4.length c0_4) := (blk_cell BK105.out 4).trans rfl
              have hcz23_5 : wc.cell? ⟨gb105, 5, none⟩ = some (.slice A0_5 l0_5.length c0_5) := (blk_cell BK105.out 5).trans rfl
              have hfz23_0 := blk_frozen BK105.out 0
              have hfz23_1 := blk_frozen BK105.out 1
              have hfz23_2 := blk_frozen BK105.out 2
              have hfz23_3 := blk_frozen BK105.out 3
              have hfz23_4 := blk_frozen BK105.out 4
              have hfz23_5 := blk_frozen BK105.out 5
              go_wp2
              go_loopg [50] kj17 (fun kq v50 w' => ∃ (x50_3 : Int), v50 = .int .i64 x50_3 ∧ Aside0 (txn_May.l0 kq l0_4 (l0_4.length : Int) x50_3 a0_0 a0_1 a0_2 a0_3 l0_4 l0_5 = some r) ∧ Aside0 (kq ≤ kj17) ∧ Aside0 (w'.heap[gb105]? = some (.cells #[.int .i64 a0_0, .int .i64 a0_1, .int .i64 a0_2, .int .i64 a0_3, (.slice A0_4 l0_4.length c0_4), (.slice A0_5 l0_5.length c0_5)] 25 (0, 0))) ∧ Aside0 (Below w.heap.size w w'))
              case atStart => exact ⟨(0), (by first | rfl | (simp; done) | (simp [*]; done)), H', ⟨Nat.le_refl _⟩, ⟨by (with_reducible repeat (first | refine blk_drewN ?_ _ | refine blk_drew ?_ | refine blk_alloc ?_ _)); exact BK105.out⟩, ⟨by repeat (first | (with_reducible first | exact HB.out | apply below_alloc | apply pw_below_drewN | apply below_drew1 | refine below_set ?_ GE105.out) | exact HB.out)⟩⟩
              case round =>
                clear H'
                try clear c1
                try clear c2
                try clear p2
                try clear c4
                try clear c4b0
                try clear c6
                try clear c6b0
                try clear c8
                try clear c8b0
                try clear c10
                try clear c10b0
                try clear c13
                try clear c17
                try clear c19
                try clear c19b0
                try clear c19b1
                try clear c22
                try clear hcz11_0
                try clear hcz11_1
                try clear hcz11_2
                try clear hcz11_3
                try clear hcz11_4
                try clear hcz11_5
                try clear hcz15_0
                try clear hcz15_1
                try clear hcz15_2
                try clear hcz15_3
                try clear hcz15_4
                try clear hcz15_5
                try clear hcz16_0
                try clear hcz16_1
                try clear hcz16_2
                try clear hcz16_3
                try clear hcz16_4
                try clear hcz16_5
                try clear hcz20_0
                try clear hcz20_1
                try clear hcz20_2
                try clear hcz20_3
                try clear hcz20_4
                try clear hcz20_5
                try clear hcz21_0
                try clear hcz21_1
                try clear hcz21_2
                try clear hcz21_3
                try clear hcz21_4
                try clear hcz21_5
                try clear hcz23_0
                try clear hcz23_1
                try clear hcz23_2
                try clear hcz23_3
                try clear hcz23_4
                try clear hcz23_5
                try clear hcz5_0
                try clear hcz5_1
                try clear hcz5_2
                try clear hcz5_3
                try clear hcz5_4
                try clear hcz5_5
                try clear hcz7_0
                try clear hcz7_1
                try clear hcz7_2
                try clear hcz7_3
                try clear hcz7_4
                try clear hcz7_5
                try clear hcz9_0
                try clear hcz9_1
                try clear hcz9_2
                try clear hcz9_3
                try clear hcz9_4
                try clear hcz9_5
                try clear hfz11_0
                try clear hfz11_1
                try clear hfz11_2
                try clear hfz11_3
                try clear hfz11_4
                try clear hfz11_5
                try clear hfz15_0
                try clear hfz15_1
                try clear hfz15_2
                try clear hfz15_3
                try clear hfz15_4
                try clear hfz15_5
                try clear hfz16_0
                try clear hfz16_1
                try clear hfz16_2
                try clear hfz16_3
                try clear hfz16_4
                try clear hfz16_5
                try clear hfz20_0
                try clear hfz20_1
                try clear hfz20_2
                try clear hfz20_3
                try clear hfz20_4
                try clear hfz20_5
                try clear hfz21_0
                try clear hfz21_1
                try clear hfz21_2
                try clear hfz21_3
                try clear hfz21_4
                try clear hfz21_5
                try clear hfz23_0
                try clear hfz23_1
                try clear hfz23_2
                try clear hfz23_3
                try clear hfz23_4
                try clear hfz23_5
                try clear hfz5_0
                try clear hfz5_1
                try clear hfz5_2
                try clear hfz5_3
                try clear hfz5_4
                try clear hfz5_5
                try clear hfz7_0
                try clear hfz7_1
                try clear hfz7_2
                try clear hfz7_3
                try clear hfz7_4
                try clear hfz7_5
                try clear hfz9_0
                try clear hfz9_1
                try clear hfz9_2
                try clear hfz9_3
                try clear hfz9_4
                try clear hfz9_5
                try clear p2
                obtain ⟨x50_3, rfl, HA, HK3, BK105, HB⟩ := hrel
                cases gk with
                | zero => exact absurd HA.out (by first | (intro h_; cases h_; done) | simp [txn_May.l0])
                | succ k3 =>
                  have H := HA.out
                  clear HA
                  rw [txn_May.l0_eq] at H
                  by_cases c24 : x50_3 < (l0_4.length : Int)
                  · rw [if_pos c24] at H
                    have c24b0 : decide (x50_3 < (l0_4.length : Int)) = true := decide_eq_true c24
                    clear c24
                    by_cases c25 : 0 ≤ x50_3
                    · rw [if_pos c25] at H
                      have c25b0 : decide (0 ≤ x50_3) = true := decide_eq_true c25
                      clear c25
                      by_cases c26 : x50_3 < (l0_4.length : Int)
                      · rw [if_pos c26] at H
                        have c26b0 : decide (x50_3 < (l0_4.length : Int)) = true := decide_eq_true c26
                        clear c26
                        replace H := Option.bind_eq_some_iff.mp H
                        obtain ⟨t110, A270, H⟩ := H
                        replace H : (if t110 = true then (if x50_3 > 0 then (if 0 ≤ (wrap64 (x50_3 - 1)) then (if (wrap64 (x50_3 - 1)) < (l0_4.length : Int) then (if ((rd_T30 l0_4 x50_3).f0) ≤ ((rd_T30 l0_4 (wrap64 (x50_3 - 1))).f0) then (some false) else (txn_May.l0 k3 l0_4 (l0_4.length : Int) (wrap64 (x50_3 + 1)) a0_0 a0_1 a0_2 a0_3 l0_4 l0_5)) else (none)) else (none)) else (txn_May.l0 k3 l0_4 (l0_4.length : Int) (wrap64 (x50_3 + 1)) a0_0 a0_1 a0_2 a0_3 l0_4 l0_5)) else (some false)) = some r := H
                        have A27 := Aside0.mk A270
                        clear A270
                        by_cases c28 : t110 = true
                        · subst c28
                          have H1 : (if x50_3 > 0 then (if 0 ≤ (wrap64 (x50_3 - 1)) then (if (wrap64 (x50_3 - 1)) < (l0_4.length : Int) then (if ((rd_T30 l0_4 x50_3).f0) ≤ ((rd_T30 l0_4 (wrap64 (x50_3 - 1))).f0) then (some false) else (txn_May.l0 k3 l0_4 (l0_4.length : Int) (wrap64 (x50_3 + 1)) a0_0 a0_1 a0_2 a0_3 l0_4 l0_5)) else (none)) else (none)) else (txn_May.l0 k3 l0_4 (l0_4.length : Int) (wrap64 (x50_3 + 1)) a0_0 a0_1 a0_2 a0_3 l0_4 l0_5)) = some r := by rw [if_pos rfl] at H; exact H
                          clear H
                          have H := H1
                          clear H1
                          by_cases c29 : x50_3 > 0
                          · rw [if_pos c29] at H
                            have c29b0 : decide (0 < x50_3) = true := decide_eq_true c29
                            clear c29
                            obtain ⟨ji30, hji30⟩ : ∃ j_ : Int, (wrap64 (x50_3 - 1)) = j_ := ⟨_, rfl⟩
                            replace H : (if 0 ≤ (ji30) then (if (ji30) < (l0_4.length : Int) then (if ((rd_T30 l0_4 x50_3).f0) ≤ ((rd_T30 l0_4 (ji30)).f0) then (some false) else (txn_May.l0 k3 l0_4 (l0_4.length : Int) (wrap64 (x50_3 + 1)) a0_0 a0_1 a0_2 a0_3 l0_4 l0_5)) else (none)) else (none)) = some r := by first | (rw [hji30] at H; exact H) | (simp only [hji30] at H ⊢; exact H)
                            (try rw [hji30] at A27)
                            have hji30w : (IntKind.i64.wrap (x50_3 - 1)) = ji30 := (i64_w _).trans hji30
                            by_cases c31 : 0 ≤ (ji30)
                            · rw [if_pos c31] at H
                              have c31b0 : decide (0 ≤ (ji30)) = true := decide_eq_true c31
                              clear c31
                              by_cases c32 : (ji30) < (l0_4.length : Int)
                              · rw [if_pos c32] at H
                                have c32b0 : decide ((ji30) < (l0_4.length : Int)) = true := decide_eq_true c32
                                clear c32
                                by_cases c33 : ((rd_T30 l0_4 x50_3).f0) ≤ ((rd_T30 l0_4 (ji30)).f0)
                                · rw [if_pos c33] at H
                                  have c33b0 : decide (((rd_T30 l0_4 x50_3).f0) ≤ ((rd_T30 l0_4 (ji30)).f0)) = true := decide_eq_true c33
                                  clear c33
                                  obtain rfl := Option.some.inj H
                                  have p108 : 0 ≤ (x50_3 : Int) := of_decide_eq_true (by first | (with_reducible assumption) | assumption)
                                  have q108 : x50_3 < (l0_4.length : Int) := of_decide_eq_true (by first | (with_reducible assumption) | assumption)
                                  obtain ⟨ad108, A108_4, c108_4, A108_6, c108_6, e108, hx108_0, hx108_1, hx108_2, hx108_3, hx108_4, hx108_5, hx108_6, hl108_4, hi108_4, hl108_6, hi108_6⟩ := at_T30 HR0_4.out x50_3 p108 q108
                                  cases e108
                                  replace hx108_0 := (HB.out.cell (World.block_lt_of_cell? w _ hx108_0)).trans hx108_0
                                  replace hx108_1 := (HB.out.cell (World.block_lt_of_cell? w _ hx108_1)).trans hx108_1
                                  replace hx108_2 := (HB.out.cell (World.block_lt_of_cell? w _ hx108_2)).trans hx108_2
                                  replace hx108_3 := (HB.out.cell (World.block_lt_of_cell? w _ hx108_3)).trans hx108_3
                                  replace hx108_4 := (HB.out.cell (World.block_lt_of_cell? w _ hx108_4)).trans hx108_4
                                  replace hx108_5 := (HB.out.cell (World.block_lt_of_cell? w _ hx108_5)).trans hx108_5
                                  replace hx108_6 := (HB.out.cell (World.block_lt_of_cell? w _ hx108_6)).trans hx108_6
                                  have HR108_4 := Aside0.mk hi108_4
                                  have HC108_4 := Aside0.mk hl108_4
                                  clear hi108_4 hl108_4
                                  have HR108_6 := Aside0.mk hi108_6
                                  have HC108_6 := Aside0.mk hl108_6
                                  clear hi108_6 hl108_6
                                  replace p108 := eq_true p108
                                  replace q108 := eq_true q108
                                  try go_wp2_with (first | ((with_reducible refine gate_dst (N := 4) rfl ?_); (try (refine gate_guard (by rfl) ?_; dsimp only)); refine box_event ?hg (N := 4) ?hd (cs := #[.int .i64 0, .int .i64 0, .int .i64 0, .bool false, .slice none 0 0, .bool false, .slice none 0 0]) (t := 30) ?hr ?_; (case hd => rfl); (case hg => rfl); (case hr => first | (go_simp; done) | (go_simp; rfl)); intro gb109 hg w34 hbox hb; have n0_ := Aside0.mk (blk_below (g := gb105) (o := .cells #[.int .i64 a0_0, .int .i64 a0_1, .int .i64 a0_2, .int .i64 a0_3, .slice (some ad108) l0_4.length c0_4, .slice A0_5 l0_5.length c0_5] 25 (0, 0)) (by (with_reducible repeat (first | refine blk_drewN ?_ _ | refine blk_drew ?_ | refine blk_alloc ?_ _)); exact BK105.out) hb); have n1_ := Aside0.mk (below_step (by repeat (first | (with_reducible first | exact HB.out | apply below_alloc | apply pw_below_drewN | apply below_drew1 | refine below_set ?_ GE105.out) | exact HB.out)) hb); have n2_ := Aside0.mk (hbox); have n3_ := Aside0.mk ((by rw [hg]; exact (below_size (by repeat (first | (with_reducible first | exact HB.out | apply below_alloc | apply pw_below_drewN | apply below_drew1 | refine below_set ?_ GE105.out) | exact HB.out))) : w.heap.size ≤ gb109)); have n4_ := Aside0.mk ((by rw [hg]; exact (below_size (by repeat (first | (with_reducible first | exact HB.out | apply below_alloc | apply pw_below_drewN | apply below_drew1 | refine below_set ?_ GE105.out) | exact HB.out))) : w.heap.size ≤ gb109)); have n5_ := Aside0.mk ((by rw [hg]; exact Nat.ne_of_lt (blk_lt (g := gb105) (o := .cells #[.int .i64 a0_0, .int .i64 a0_1, .int .i64 a0_2, .int .i64 a0_3, .slice (some ad108) l0_4.length c0_4, .slice A0_5 l0_5.length c0_5] 25 (0, 0)) (by (with_reducible repeat (first | refine blk_drewN ?_ _ | refine blk_drew ?_ | refine blk_alloc ?_ _)); exact BK105.out)) : gb105 ≠ gb109)); have n6_ := Aside0.mk ((by rw [hg]; exact Nat.ne_of_gt (blk_lt (g := gb105) (o := .cells #[.int .i64 a0_0, .int .i64 a0_1, .int .i64 a0_2, .int .i64 a0_3, .slice (some ad108) l0_4.length c0_4, .slice A0_5 l0_5.length c0_5] 25 (0, 0)) (by (with_reducible repeat (first | refine blk_drewN ?_ _ | refine blk_drew ?_ | refine blk_alloc ?_ _)); exact BK105.out)) : gb109 ≠ gb105)); clear BK105; clear HB; have BK105 := n0_; have HB := n1_; have BK109 := n2_; have GW109 := n3_; have GE109 := n4_; have NB105_109 := n5_; have NB109_105 := n6_; clear n0_ n1_ n2_ n3_ n4_ n5_ n6_; clear hb hbox hg; have hnb35 := NB109_105.out; have hnc35 := NB105_109.out; have hcz36_0 : w34.cell? ⟨gb109, 0, none⟩ = some (.int .i64 0) := (blk_cell BK109.out 0).trans rfl; have hcz36_1 : w34.cell? ⟨gb109, 1, none⟩ = some (.int .i64 0) := (blk_cell BK109.out 1).trans rfl; have hcz36_2 : w34.cell? ⟨gb109, 2, none⟩ = some (.int .i64 0) := (blk_cell BK109.out 2).trans rfl; have hcz36_3 : w34.cell? ⟨gb109, 3, none⟩ = some (.bool false) := (blk_cell BK109.out 3).trans rfl; have hcz36_4 : w34.cell? ⟨gb109, 4, none⟩ = some (.slice none 0 0) := (blk_cell BK109.out 4).trans rfl; have hcz36_5 : w34.cell? ⟨gb109, 5, none⟩ = some (.bool false) := (blk_cell BK109.out 5).trans rfl; have hcz36_6 : w34.cell? ⟨gb109, 6, none⟩ = some (.slice none 0 0) := (blk_cell BK109.out 6).trans rfl; have hfz36_0 := blk_frozen BK109.out 0; have hfz36_1 := blk_frozen BK109.out 1; have hfz36_2 := blk_frozen BK109.out 2; have hfz36_3 := blk_frozen BK109.out 3; have hfz36_4 := blk_frozen BK109.out 4; have hfz36_5 := blk_frozen BK109.out 5; have hfz36_6 := blk_frozen BK109.out 6))
                                  have n0_ : Aside0 ((((((((w34.setCell ⟨gb109, 0, none⟩ (.int .i64 ((rd_T30 l0_4 x50_3).f0))).setCell ⟨gb109, 1, none⟩ (.int .i64 ((rd_T30 l0_4 x50_3).f1))).setCell ⟨gb109, 2, none⟩ (.int .i64 ((rd_T30 l0_4 x50_3).f2))).setCell ⟨gb109, 3, none⟩ (.bool ((rd_T30 l0_4 x50_3).f3.f0))).setCell ⟨gb109, 4, none⟩ (.slice A108_4 ((rd_T30 l0_4 x50_3).f3.f1).length c108_4)).setCell ⟨gb109, 5, none⟩ (.bool ((rd_T30 l0_4 x50_3).f4.f0))).setCell ⟨gb109, 6, none⟩ (.slice A108_6 ((rd_T30 l0_4 x50_3).f4.f1).length c108_6)).heap[gb105]? = some (.cells #[.int .i64 a0_0, .int .i64 a0_1, .int .i64 a0_2, .int .i64 a0_3, .slice (some ad108) l0_4.length c0_4, .slice A0_5 l0_5.length c0_5] 25 (0, 0))) := ⟨by (with_reducible repeat (first | refine blk_drewN ?_ _ | refine blk_drew ?_ | refine blk_alloc ?_ _)); refine blk_far ?_ NB105_109.out _; (with_reducible repeat (first | refine blk_drewN ?_ _ | refine blk_drew ?_ | refine blk_alloc ?_ _)); refine blk_far ?_ NB105_109.out _; (with_reducible repeat (first | refine blk_drewN ?_ _ | refine blk_drew ?_ | refine blk_alloc ?_ _)); refine blk_far ?_ NB105_109.out _; (with_reducible repeat (first | refine blk_drewN ?_ _ | refine blk_drew ?_ | refine blk_alloc ?_ _)); refine blk_far ?_ NB105_109.out _; (with_reducible repeat (first | refine blk_drewN ?_ _ | refine blk_drew ?_ | refine blk_alloc ?_ _)); refine blk_far ?_ NB105_109.out _; (with_reducible repeat (first | refine blk_drewN ?_ _ | refine blk_drew ?_ | refine blk_alloc ?_ _)); refine blk_far ?_ NB105_109.out _; (with_reducible repeat (first | refine blk_drewN ?_ _ | refine blk_drew ?_ | refine blk_alloc ?_ _)); refine blk_far ?_ NB105_109.out _; (with_reducible repeat (first | refine blk_drewN ?_ _ | refine blk_drew ?_ | refine blk_alloc ?_ _)); exact BK105.out⟩
                                  have n1_ : Aside0 ((((((((w34.setCell ⟨gb109, 0, none⟩ (.int .i64 ((rd_T30 l0_4 x50_3).f0))).setCell ⟨gb109, 1, none⟩ (.int .i64 ((rd_T30 l0_4 x50_3).f1))).setCell ⟨gb109, 2, none⟩ (.int .i64 ((rd_T30 l0_4 x50_3).f2))).setCell ⟨gb109, 3, none⟩ (.bool ((rd_T30 l0_4 x50_3).f3.f0))).setCell ⟨gb109, 4, none⟩ (.slice A108_4 ((rd_T30 l0_4 x50_3).f3.f1).length c108_4)).setCell ⟨gb109, 5, none⟩ (.bool ((rd_T30 l0_4 x50_3).f4.f0))).setCell ⟨gb109, 6, none⟩ (.slice A108_6 ((rd_T30 l0_4 x50_3).f4.f1).length c108_6)).heap[gb109]? = some (.cells #[.int .i64 ((rd_T30 l0_4 x50_3).f0), .int .i64 ((rd_T30 l0_4 x50_3).f1), .int .i64 ((rd_T30 l0_4 x50_3).f2), .bool ((rd_T30 l0_4 x50_3).f3.f0), .slice A108_4 ((rd_T30 l0_4 x50_3).f3.f1).length c108_4, .bool ((rd_T30 l0_4 x50_3).f4.f0), .slice A108_6 ((rd_T30 l0_4 x50_3).f4.f1).length c108_6] 30 (0, 0))) := ⟨by (with_reducible repeat (first | refine blk_drewN ?_ _ | refine blk_drew ?_ | refine blk_alloc ?_ _)); refine blk_put (cs := #[.int .i64 ((rd_T30 l0_4 x50_3).f0), .int .i64 ((rd_T30 l0_4 x50_3).f1), .int .i64 ((rd_T30 l0_4 x50_3).f2), .bool ((rd_T30 l0_4 x50_3).f3.f0), .slice A108_4 ((rd_T30 l0_4 x50_3).f3.f1).length c108_4, .bool ((rd_T30 l0_4 x50_3).f4.f0), .slice none 0 0]) ?_ 6 _ rfl; (with_reducible repeat (first | refine blk_drewN ?_ _ | refine blk_drew ?_ | refine blk_alloc ?_ _)); refine blk_put (cs := #[.int .i64 ((rd_T30 l0_4 x50_3).f0), .int .i64 ((rd_T30 l0_4 x50_3).f1), .int .i64 ((rd_T30 l0_4 x50_3).f2), .bool ((rd_T30 l0_4 x50_3).f3.f0), .slice A108_4 ((rd_T30 l0_4 x50_3).f3.f1).length c108_4, .bool false, .slice none 0 0]) ?_ 5 _ rfl; (with_reducible repeat (first | refine blk_drewN ?_ _ | refine blk_drew ?_ | refine blk_alloc ?_ _)); refine blk_put (cs := #[.int .i64 ((rd_T30 l0_4 x50_3).f0), .int .i64 ((rd_T30 l0_4 x50_3).f1), .int .i64 ((rd_T30 l0_4 x50_3).f2), .bool ((rd_T30 l0_4 x50_3).f3.f0), .slice none 0 0, .bool false, .slice none 0 0]) ?_ 4 _ rfl; (with_reducible repeat (first | refine blk_drewN ?_ _ | refine blk_drew ?_ | refine blk_alloc ?_ _)); refine blk_put (cs := #[.int .i64 ((rd_T30 l0_4 x50_3).f0), .int .i64 ((rd_T30 l0_4 x50_3).f1), .int .i64 ((rd_T30 l0_4 x50_3).f2), .bool false, .slice none 0 0, .bool false, .slice none 0 0]) ?_ 3 _ rfl; (with_reducible repeat (first | refine blk_drewN ?_ _ | refine blk_drew ?_ | refine blk_alloc ?_ _)); refine blk_put (cs := #[.int .i64 ((rd_T30 l0_4 x50_3).f0), .int .i64 ((rd_T30 l0_4 x50_3).f1), .int .i64 0, .bool false, .slice none 0 0, .bool false, .slice none 0 0]) ?_ 2 _ rfl; (with_reducible repeat (first | refine blk_drewN ?_ _ | refine blk_drew ?_ | refine blk_alloc ?_ _)); refine blk_put (cs := #[.int .i64 ((rd_T30 l0_4 x50_3).f0), .int .i64 0, .int .i64 0, .bool false, .slice none 0 0, .bool false, .slice none 0 0]) ?_ 1 _ rfl; (with_reducible repeat (first | refine blk_drewN ?_ _ | refine blk_drew ?_ | refine blk_alloc ?_ _)); refine blk_put (cs := #[.int .i64 0, .int .i64 0, .int .i64 0, .bool false, .slice none 0 0, .bool false, .slice none 0 0]) ?_ 0 _ rfl; (with_reducible repeat (first | refine blk_drewN ?_ _ | refine blk_drew ?_ | refine blk_alloc ?_ _)); exact BK109.out⟩
                                  have n2_ : Aside0 (Below w.heap.size w (((((((w34.setCell ⟨gb109, 0, none⟩ (.int .i64 ((rd_T30 l0_4 x50_3).f0))).setCell ⟨gb109, 1, none⟩ (.int .i64 ((rd_T30 l0_4 x50_3).f1))).setCell ⟨gb109, 2, none⟩ (.int .i64 ((rd_T30 l0_4 x50_3).f2))).setCell ⟨gb109, 3, none⟩ (.bool ((rd_T30 l0_4 x50_3).f3.f0))).setCell ⟨gb109, 4, none⟩ (.slice A108_4 ((rd_T30 l0_4 x50_3).f3.f1).length c108_4)).setCell ⟨gb109, 5, none⟩ (.bool ((rd_T30 l0_4 x50_3).f4.f0))).setCell ⟨gb109, 6, none⟩ (.slice A108_6 ((rd_T30 l0_4 x50_3).f4.f1).length c108_6))) := ⟨by repeat (first | (with_reducible first | exact HB.out | apply below_alloc | apply pw_below_drewN | apply below_drew1 | refine below_set ?_ GE105.out | refine below_set ?_ GE109.out) | exact HB.out)⟩
                                  (try clear BK105)
                                  (try clear BK109)
                                  (try clear HB)
                                  generalize (((((((w34.setCell ⟨gb109, 0, none⟩ (.int .i64 ((rd_T30 l0_4 x50_3).f0))).setCell ⟨gb109, 1, none⟩ (.int .i64 ((rd_T30 l0_4 x50_3).f1))).setCell ⟨gb109, 2, none⟩ (.int .i64 ((rd_T30 l0_4 x50_3).f2))).setCell ⟨gb109, 3, none⟩ (.bool ((rd_T30 l0_4 x50_3).f3.f0))).setCell ⟨gb109, 4, none⟩ (.slice A108_4 ((rd_T30 l0_4 x50_3).f3.f1).length c108_4)).setCell ⟨gb109, 5, none⟩ (.bool ((rd_T30 l0_4 x50_3).f4.f0))).setCell ⟨gb109, 6, none⟩ (.slice A108_6 ((rd_T30 l0_4 x50_3).f4.f1).length c108_6)) = w37 at n0_ n1_ n2_ ⊢
                                  have BK105 := n0_
                                  have BK109 := n1_
                                  have HB := n2_
                                  clear n0_ n1_ n2_
                                  have n0_ := Aside0.mk (blk_drew BK105.out)
                                  have n1_ := Aside0.mk (blk_drew BK109.out)
                                  have n2_ := Aside0.mk (below_drew1 HB.out)
                                  clear BK105
                                  clear BK109
                                  clear HB
                                  have BK105 := n0_
                                  have BK109 := n1_
                                  have HB := n2_
                                  clear n0_ n1_ n2_
                                  have p111 : 0 ≤ ((ji30) : Int) := of_decide_eq_true (by first | (with_reducible assumption) | assumption)
                                  have q111 : (ji30) < (l0_4.length : Int) := of_decide_eq_true (by first | (with_reducible assumption) | assumption)
                                  obtain ⟨ad111, A111_4, c111_4, A111_6, c111_6, e111, hx111_0, hx111_1, hx111_2, hx111_3, hx111_4, hx111_5, hx111_6, hl111_4, hi111_4, hl111_6, hi111_6⟩ := at_T30 HR0_4.out (ji30) p111 q111
                                  have hw111_6 := hx111_6
                                  have hw111_5 := hx111_5
                                  have hw111_4 := hx111_4
                                  have hw111_3 := hx111_3
                                  have hw111_2 := hx111_2
                                  have hw111_1 := hx111_1
                                  have hw111_0 := hx111_0
                                  obtain rfl : ad108 = ad111 := (by injection e111)
                                  replace hx111_0 := (HB.out.cell (World.block_lt_of_cell? w _ hx111_0)).trans hx111_0
                                  replace hx111_1 := (HB.out.cell (World.block_lt_of_cell? w _ hx111_1)).trans hx111_1
                                  replace hx111_2 := (HB.out.cell (World.block_lt_of_cell? w _ hx111_2)).trans hx111_2
                                  replace hx111_3 := (HB.out.cell (World.block_lt_of_cell? w _ hx111_3)).trans hx111_3
                                  replace hx111_4 := (HB.out.cell (World.block_lt_of_cell? w _ hx111_4)).trans hx111_4
                                  replace hx111_5 := (HB.out.cell (World.block_lt_of_cell? w _ hx111_5)).trans hx111_5
                                  replace hx111_6 := (HB.out.cell (World.block_lt_of_cell? w _ hx111_6)).trans hx111_6
                                  have HR111_4 := Aside0.mk hi111_4
                                  have HC111_4 := Aside0.mk hl111_4
                                  clear hi111_4 hl111_4
                                  have HR111_6 := Aside0.mk hi111_6
                                  have HC111_6 := Aside0.mk hl111_6
                                  clear hi111_6 hl111_6
                                  replace p111 := eq_true p111
                                  replace q111 := eq_true q111
                                  refine start_ (n := 19) (S := fun w' => w'.cell? ⟨gb109, 0, none⟩ = some (.int .i64 ((rd_T30 l0_4 x50_3).f0)) ∧ w'.cell? ⟨gb109, 1, none⟩ = some (.int .i64 ((rd_T30 l0_4 x50_3).f1)) ∧ w'.cell? ⟨gb109, 2, none⟩ = some (.int .i64 ((rd_T30 l0_4 x50_3).f2)) ∧ w'.cell? ⟨gb109, 3, none⟩ = some (.bool ((rd_T30 l0_4 x50_3).f3.f0)) ∧ w'.cell? ⟨gb109, 4, none⟩ = some (.slice A108_4 ((rd_T30 l0_4 x50_3).f3.f1).length c108_4) ∧ w'.cell? ⟨gb109, 5, none⟩ = some (.bool ((rd_T30 l0_4 x50_3).f4.f0)) ∧ w'.cell? ⟨gb109, 6, none⟩ = some (.slice A108_6 ((rd_T30 l0_4 x50_3).f4.f1).length c108_6) ∧ w'.cell? ⟨gb105, 0, none⟩ = some (.int .i64 a0_0) ∧ w'.cell? ⟨gb105, 1, none⟩ = some (.int .i64 a0_1) ∧ w'.cell? ⟨gb105, 2, none⟩ = some (.int .i64 a0_2) ∧ w'.cell? ⟨gb105, 3, none⟩ = some (.int .i64 a0_3) ∧ w'.cell? ⟨gb105, 4, none⟩ = some (.slice (some ad108) l0_4.length c0_4) ∧ w'.cell? ⟨gb105, 5, none⟩ = some (.slice A0_5 l0_5.length c0_5) ∧ w'.cell? (ad108.add (((ji30)).toNat * 7)) = some (.int .i64 ((rd_T30 l0_4 (ji30)).f0)) ∧ w'.cell? ⟨(ad108.add (((ji30)).toNat * 7)).block, (ad108.add (((ji30)).toNat * 7)).off + 1, none⟩ = some (.int .i64 ((rd_T30 l0_4 (ji30)).f1)) ∧ w'.cell? ⟨(ad108.add (((ji30)).toNat * 7)).block, (ad108.add (((ji30)).toNat * 7)).off + 2, none⟩ = some (.int .i64 ((rd_T30 l0_4 (ji30)).f2)) ∧ w'.cell? ⟨(ad108.add (((ji30)).toNat * 7)).block, (ad108.add (((ji30)).toNat * 7)).off + 3, none⟩ = some (.bool ((rd_T30 l0_4 (ji30)).f3.f0)) ∧ w'.cell? ⟨(ad108.add (((ji30)).toNat * 7)).block, (ad108.add (((ji30)).toNat * 7)).off + 4, none⟩ = some (.slice A111_4 ((rd_T30 l0_4 (ji30)).f3.f1).length c111_4) ∧ w'.cell? ⟨(ad108.add (((ji30)).toNat * 7)).block, (ad108.add (((ji30)).toNat * 7)).off + 5, none⟩ = some (.bool ((rd_T30 l0_4 (ji30)).f4.f0)) ∧ w'.cell? ⟨(ad108.add (((ji30)).toNat * 7)).block, (ad108.add (((ji30)).toNat * 7)).off + 6, none⟩ = some (.slice A111_6 ((rd_T30 l0_4 (ji30)).f4.f1).length c111_6)) (ds := []) #[false, false, false, false, false, false, false, false, false, false, false, false, false, false, false, false, false, false, false] (by kernel_rfl) rfl rfl ⟨(blk_cell BK109.out 0).trans rfl, (blk_cell BK109.out 1).trans rfl, (blk_cell BK109.out 2).trans rfl, (blk_cell BK109.out 3).trans rfl, (blk_cell BK109.out 4).trans rfl, (blk_cell BK109.out 5).trans rfl, (blk_cell BK109.out 6).trans rfl, (blk_cell BK105.out 0).trans rfl, (blk_cell BK105.out 1).trans rfl, (blk_cell BK105.out 2).trans rfl, (blk_cell BK105.out 3).trans rfl, (blk_cell BK105.out 4).trans rfl, (blk_cell BK105.out 5).trans rfl, ((HB.out.cell (World.block_lt_of_cell? w _ hw111_0)).trans hw111_0), ((HB.out.cell (World.block_lt_of_cell? w _ hw111_1)).trans hw111_1), ((HB.out.cell (World.block_lt_of_cell? w _ hw111_2)).trans hw111_2), ((HB.out.cell (World.block_lt_of_cell? w _ hw111_3)).trans hw111_3), ((HB.out.cell (World.block_lt_of_cell? w _ hw111_4)).trans hw111_4), ((HB.out.cell (World.block_lt_of_cell? w _ hw111_5)).trans hw111_5), ((HB.out.cell (World.block_lt_of_cell? w _ hw111_6)).trans hw111_6)⟩ (fun hHeld => ?_); refine with_tabW txn_May.tab8 txn_May.bits8 (fun HT_ HW_ => ?_)
                                  generalize w37.drew = w38 at BK105 BK109 HB HR111_4 HR111_6 hx111_0 hx111_1 hx111_2 hx111_3 hx111_4 hx111_5 hx111_6 hHeld ⊢
                                  refine take_ (i := 0) (N := some 55) (v := ?_) (a' := ?_) #[true, false, false, false, false, false, false, false, false, false, false, false, false, false, false, false, false, false, false] rfl rfl (take_ofW HT_.out HW_.out (by kernel_rfl)) (fun _ _ _ h => h) (Or.inl ⟨by rfl, ?_⟩) hHeld ?_ ?_
                                  rotate_left
                                  · rintro w' ⟨s0, s1, s2, s3, s4, s5, s6, s7, s8, s9, s10, s11, s12, s13, s14, s15, s16, s17, s18, s19⟩
                                    go_simp
                                    with_reducible rfl
                                  rotate_left
                                  · simp only [Act.put, List.setIfInBounds_toArray, List.set_cons_zero, List.set_cons_succ, i64_w, i32_w]
                                    rfl
                                  refine one_ (i := 1) (N := some 56) #[true, true, false, false, false, false, false, false, false, false, false, false, false, false, false, false, false, false, false] rfl rfl (one_of HT_.out (by kernel_rfl)) (by decide) (fun K hK => ?_)
                                  refine goes_ Try.func31 (by kernel_rfl) rfl #[.agg #[.int .i64 ((rd_T30 l0_4 x50_3).f0), .int .i64 ((rd_T30 l0_4 x50_3).f1), .int .i64 ((rd_T30 l0_4 x50_3).f2), .bool ((rd_T30 l0_4 x50_3).f3.f0), .slice A108_4 ((rd_T30 l0_4 x50_3).f3.f1).length c108_4, .bool ((rd_T30 l0_4 x50_3).f4.f0), .slice A108_6 ((rd_T30 l0_4 x50_3).f4.f1).length c108_6]] (by rfl) rfl rfl (by (try simp only [List.map_toArray, List.map_cons, List.map_nil]); first | done | rfl | (simp only [List.length_drop, List.length_take]; rfl)) ?_
                                  with_reducible refine (txn_change.calls ((rd_T30 l0_4 x50_3).f0) ((rd_T30 l0_4 x50_3).f1) ((rd_T30 l0_4 x50_3).f2) ((rd_T30 l0_4 x50_3).f3.f0) _ _ ((rd_T30 l0_4 x50_3).f3.f1) ((rd_T30 l0_4 x50_3).f4.f0) _ _ ((rd_T30 l0_4 x50_3).f4.f1) true _ ?side1 ?side2 ?side3 ?side4 A27.out).mono ?_
                                  (case side1 => repeat (first | exact (Kd.C_below HR108_4.out HB.out) | (with_reducible refine Kd.C_alloc ?_ _) | (with_reducible refine Kd.C_drewN ?_ _) | (with_reducible refine Kd.C_drew ?_)))
                                  (case side2 => exact HC108_4.out)
                                  (case side3 => repeat (first | exact (Kd.C_below HR108_6.out HB.out) | (with_reducible refine Kd.C_alloc ?_ _) | (with_reducible refine Kd.C_drewN ?_ _) | (with_reducible refine Kd.C_drew ?_)))
                                  (case side4 => exact HC108_6.out)
                                  rintro e w39 ⟨rfl, hb⟩
                                  refine ⟨_, rfl, ?_⟩
                                  have n0_ := Aside0.mk (blk_below (g := gb105) (o := .cells #[.int .i64 a0_0, .int .i64 a0_1, .int .i64 a0_2, .int .i64 a0_3, .slice (some ad108) l0_4.length c0_4, .slice A0_5 l0_5.length c0_5] 25 (0, 0)) (by (with_reducible repeat (first | refine blk_drewN ?_ _ | refine blk_drew ?_ | refine blk_alloc ?_ _)); exact BK105.out) hb)
                                  have n1_ := Aside0.mk (blk_below (g := gb109) (o := .cells #[.int .i64 ((rd_T30 l0_4 x50_3).f0), .int .i64 ((rd_T30 l0_4 x50_3).f1), .int .i64 ((rd_T30 l0_4 x50_3).f2), .bool ((rd_T30 l0_4 x50_3).f3.f0), .slice A108_4 ((rd_T30 l0_4 x50_3).f3.f1).length c108_4, .bool ((rd_T30 l0_4 x50_3).f4.f0), .slice A108_6 ((rd_T30 l0_4 x50_3).f4.f1).length c108_6] 30 (0, 0)) (by (with_reducible repeat (first | refine blk_drewN ?_ _ | refine blk_drew ?_ | refine blk_alloc ?_ _)); exact BK109.out) hb)
                                  have n2_ := Aside0.mk (below_step (by repeat (first | (with_reducible first | exact HB.out | apply below_alloc | apply pw_below_drewN | apply below_drew1 | refine below_set ?_ GE105.out | refine below_set ?_ GE109.out) | exact HB.out)) hb)
                                  clear BK105
                                  clear BK109
                                  clear HB
                                  have BK105 := n0_
                                  have BK109 := n1_
                                  have HB := n2_
                                  clear n0_ n1_ n2_
                                  (try clear hb)
                                  (try clear hb2)
                                  (try clear hk)
                                  (try clear hi)
                                  refine hK.out _ _ ⟨(blk_cell BK109.out 0).trans rfl, (blk_cell BK109.out 1).trans rfl, (blk_cell BK109.out 2).trans rfl, (blk_cell BK109.out 3).trans rfl, (blk_cell BK109.out 4).trans rfl, (blk_cell BK109.out 5).trans rfl, (blk_cell BK109.out 6).trans rfl, (blk_cell BK105.out 0).trans rfl, (blk_cell BK105.out 1).trans rfl, (blk_cell BK105.out 2).trans rfl, (blk_cell BK105.out 3).trans rfl, (blk_cell BK105.out 4).trans rfl, (blk_cell BK105.out 5).trans rfl, ((HB.out.cell (World.block_lt_of_cell? w _ hw111_0)).trans hw111_0), ((HB.out.cell (World.block_lt_of_cell? w _ hw111_1)).trans hw111_1), ((HB.out.cell (World.block_lt_of_cell? w _ hw111_2)).trans hw111_2), ((HB.out.cell (World.block_lt_of_cell? w _ hw111_3)).trans hw111_3), ((HB.out.cell (World.block_lt_of_cell? w _ hw111_4)).trans hw111_4), ((HB.out.cell (World.block_lt_of_cell? w _ hw111_5)).trans hw111_5), ((HB.out.cell (World.block_lt_of_cell? w _ hw111_6)).trans hw111_6)⟩ (fun hHeld => ?_)
                                  clear hK K
                                  refine norm_ (a' := ?_) ?_ ?_
                                  rotate_left
                                  · show Act.put _ (some 56) _ = _
                                    simp only [Act.put, List.setIfInBounds_toArray, List.set_cons_zero, List.set_cons_succ, i64_w, i32_w]
                                    rfl
                                  refine pure_ (i := 2) (N := some 57) (v := ?_) (a' := ?_) #[true, true, true, false, false, false, false, false, false, false, false, false, false, false, false, false, false, false, false] rfl rfl (any_of HT_.out (by kernel_rfl)) (fun _ _ _ h => h) (Or.inl ⟨by rfl, ?_⟩) ?_ ?_
                                  rotate_left
                                  · intro w'
                                    go_simp
                                    with_reducible rfl
                                  rotate_left
                                  · simp only [Act.put, List.setIfInBounds_toArray, List.set_cons_zero, List.set_cons_succ, i64_w, i32_w]
                                    rfl
                                  refine pure_ (i := 3) (N := some 58) (v := ?_) (a' := ?_) #[true, true, true, true, false, false, false, false, false, false, false, false, false, false, false, false, false, false, false] rfl rfl (any_of HT_.out (by kernel_rfl)) (fun _ _ _ h => h) (Or.inl ⟨by rfl, ?_⟩) ?_ ?_
                                  rotate_left
                                  · intro w'
                                    go_simp
                                    with_reducible rfl
                                  rotate_left
                                  · simp only [Act.put, List.setIfInBounds_toArray, List.set_cons_zero, List.set_cons_succ, i64_w, i32_w]
                                    rfl
                                  refine pure_ (i := 4) (N := some 59) (v := ?_) (a' := ?_) #[true, true, true, true, true, false, false, false, false, false, false, false, false, false, false, false, false, false, false] rfl rfl (any_of HT_.out (by kernel_rfl)) (fun _ _ _ h => h) (Or.inl ⟨by rfl, ?_⟩) ?_ ?_
                                  rotate_left
                                  · intro w'
                                    go_simp
                                    with_reducible rfl
                                  rotate_left
                                  · simp only [Act.put, List.setIfInBounds_toArray, List.set_cons_zero, List.set_cons_succ, i64_w, i32_w]
                                    rfl
                                  refine pure_ (i := 5) (N := some 60) (v := ?_) (a' := ?_) #[true, true, true, true, true, true, false, false, false, false, false, false, false, false, false, false, false, false, false] rfl rfl (any_of HT_.out (by kernel_rfl)) (fun _ _ _ h => h) (Or.inl ⟨by rfl, ?_⟩) ?_ ?_
                                  rotate_left
                                  · intro w'
                                    go_simp
                                    with_reducible rfl
                                  rotate_left
                                  · simp only [Act.put, List.setIfInBounds_toArray, List.set_cons_zero, List.set_cons_succ, i64_w, i32_w]
                                    rfl
                                  refine pure_ (i := 6) (N := some 61) (v := ?_) (a' := ?_) #[true, true, true, true, true, true, true, false, false, false, false, false, false, false, false, false, false, false, false] rfl rfl (any_of HT_.out (by kernel_rfl)) (fun _ _ _ h => h) (Or.inl ⟨by rfl, ?_⟩) ?_ ?_
                                  rotate_left
                                  · intro w'
                                    go_simp
                                    with_reducible rfl
                                  rotate_left
                                  · simp only [Act.put, List.setIfInBounds_toArray, List.set_cons_zero, List.set_cons_succ, i64_w, i32_w]
                                    rfl
                                  refine pure_ (i := 7) (N := some 62) (v := ?_) (a' := ?_) #[true, true, true, true, true, true, true, true, false, false, false, false, false, false, false, false, false, false, false] rfl rfl (any_of HT_.out (by kernel_rfl)) (fun _ _ _ h => h) (Or.inl ⟨by rfl, ?_⟩) ?_ ?_
                                  rotate_left
                                  · intro w'
                                    go_simp
                                    with_reducible rfl
                                  rotate_left
                                  · simp only [Act.put, List.setIfInBounds_toArray, List.set_cons_zero, List.set_cons_succ, i64_w, i32_w]
                                    rfl
                                  refine pure_ (i := 9) (N := some 64) (v := ?_) (a' := ?_) #[true, true, true, true, true, true, true, true, false, true, false, false, false, false, false, false, false, false, false] rfl rfl (any_of HT_.out (by kernel_rfl)) (fun _ _ _ h => h) (Or.inl ⟨by rfl, ?_⟩) ?_ ?_
                                  rotate_left
                                  · intro w'
                                    go_simp
                                    with_reducible rfl
                                  rotate_left
                                  · simp only [Act.put, List.setIfInBounds_toArray, List.set_cons_zero, List.set_cons_succ, i64_w, i32_w]
                                    rfl
                                  refine pure_ (i := 11) (N := some 66) (v := ?_) (a' := ?_) #[true, true, true, true, true, true, true, true, false, true, false, true, false, false, false, false, false, false, false] rfl rfl (any_of HT_.out (by kernel_rfl)) (fun _ _ _ h => h) (Or.inl ⟨by rfl, ?_⟩) ?_ ?_
                                  rotate_left
                                  · intro w'
                                    go_simp
                                    with_reducible rfl
                                  rotate_left
                                  · simp only [Act.put, List.setIfInBounds_toArray, List.set_cons_zero, List.set_cons_succ, i64_w, i32_w]
                                    rfl
                                  refine pure_ (i := 12) (N := some 67) (v := ?_) (a' := ?_) #[true, true, true, true, true, true, true, true, false, true, false, true, true, false, false, false, false, false, false] rfl rfl (any_of HT_.out (by kernel_rfl)) (fun _ _ _ h => h) (Or.inl ⟨by rfl, ?_⟩) ?_ ?_
                                  rotate_left
                                  · intro w'
                                    go_simp
                                    with_reducible rfl
                                  rotate_left
                                  · simp only [Act.put, List.setIfInBounds_toArray, List.set_cons_zero, List.set_cons_succ, i64_w, i32_w]
                                    rfl
                                  refine take_ (i := 8) (N := some 63) (v := ?_) (a' := ?_) #[true, true, true, true, true, true, true, true, true, true, false, true, true, false, false, false, false, false, false] rfl rfl (take_ofW HT_.out HW_.out (by kernel_rfl)) (fun _ _ _ h => h) (Or.inl ⟨by rfl, ?_⟩) hHeld ?_ ?_
                                  rotate_left
                                  · rintro w' ⟨s0, s1, s2, s3, s4, s5, s6, s7, s8, s9, s10, s11, s12, s13, s14, s15, s16, s17, s18, s19⟩
                                    go_simp
                                    with_reducible rfl
                                  rotate_left
                                  · simp only [Act.put, List.setIfInBounds_toArray, List.set_cons_zero, List.set_cons_succ, i64_w, i32_w]
                                    rfl
                                  refine take_ (i := 10) (N := some 65) (v := ?_) (a' := ?_) #[true, true, true, true, true, true, true, true, true, true, true, true, true, false, false, false, false, false, false] rfl rfl (take_ofW HT_.out HW_.out (by kernel_rfl)) (fun _ _ _ h => h) (Or.inl ⟨by rfl, ?_⟩) hHeld ?_ ?_
                                  rotate_left
                                  · rintro w' ⟨s0, s1, s2, s3, s4, s5, s6, s7, s8, s9, s10, s11, s12, s13, s14, s15, s16, s17, s18, s19⟩
                                    go_simp
                                    with_reducible rfl
                                  rotate_left
                                  · simp only [Act.put, List.setIfInBounds_toArray, List.set_cons_zero, List.set_cons_succ, i64_w, i32_w]
                                    rfl
                                  refine pure_ (i := 13) (N := some 68) (v := ?_) (a' := ?_) #[true, true, true, true, true, true, true, true, true, true, true, true, true, true, false, false, false, false, false] rfl rfl (any_of HT_.out (by kernel_rfl)) (fun _ _ _ h => h) (Or.inl ⟨by rfl, ?_⟩) ?_ ?_
                                  rotate_left
                                  · intro w'
                                    go_simp
                                    with_reducible rfl
                                  rotate_left
                                  · simp only [Act.put, List.setIfInBounds_toArray, List.set_cons_zero, List.set_cons_succ, i64_w, i32_w]
                                    rfl
                                  refine pure_ (i := 14) (N := some 69) (v := ?_) (a' := ?_) #[true, true, true, true, true, true, true, true, true, true, true, true, true, true, true, false, false, false, false] rfl rfl (any_of HT_.out (by kernel_rfl)) (fun _ _ _ h => h) (Or.inl ⟨by rfl, ?_⟩) ?_ ?_
                                  rotate_left
                                  · intro w'
                                    go_simp
                                    with_reducible rfl
                                  rotate_left
                                  · simp only [Act.put, List.setIfInBounds_toArray, List.set_cons_zero, List.set_cons_succ, i64_w, i32_w]
                                    rfl
                                  refine take_ (i := 15) (N := some 70) (v := ?_) (a' := ?_) #[true, true, true, true, true, true, true, true, true, true, true, true, true, true, true, true, false, false, false] rfl rfl (take_ofW HT_.out HW_.out (by kernel_rfl)) (fun _ _ _ h => h) (Or.inl ⟨by rfl, ?_⟩) hHeld ?_ ?_
                                  rotate_left
                                  · rintro w' ⟨s0, s1, s2, s3, s4, s5, s6, s7, s8, s9, s10, s11, s12, s13, s14, s15, s16, s17, s18, s19⟩
                                    go_simp
                                    with_reducible rfl
                                  rotate_left
                                  · simp only [Act.put, List.setIfInBounds_toArray, List.set_cons_zero, List.set_cons_succ, i64_w, i32_w]
                                    rfl
                                  refine pure_ (i := 16) (N := some 71) (v := ?_) (a' := ?_) #[true, true, true, true, true, true, true, true, true, true, true, true, true, true, true, true, true, false, false] rfl rfl (any_of HT_.out (by kernel_rfl)) (fun _ _ _ h => h) (Or.inl ⟨by rfl, ?_⟩) ?_ ?_
                                  rotate_left
                                  · intro w'
                                    go_simp
                                    with_reducible rfl
                                  rotate_left
                                  · simp only [Act.put, List.setIfInBounds_toArray, List.set_cons_zero, List.set_cons_succ, i64_w, i32_w]
                                    rfl
                                  refine pure_ (i := 17) (N := some 72) (v := ?_) (a' := ?_) #[true, true, true, true, true, true, true, true, true, true, true, true, true, true, true, true, true, true, false] rfl rfl (any_of HT_.out (by kernel_rfl)) (fun _ _ _ h => h) (Or.inl ⟨by rfl, ?_⟩) ?_ ?_
                                  rotate_left
                                  · intro w'
                                    go_simp
                                    with_reducible rfl
                                  rotate_left
                                  · simp only [Act.put, List.setIfInBounds_toArray, List.set_cons_zero, List.set_cons_succ, i64_w, i32_w]
                                    rfl
                                  refine pure_ (i := 18) (N := some 73) (v := ?_) (a' := ?_) #[true, true, true, true, true, true, true, true, true, true, true, true, true, true, true, true, true, true, true] rfl rfl (any_of HT_.out (by kernel_rfl)) (fun _ _ _ h => h) (Or.inl ⟨by rfl, ?_⟩) ?_ ?_
                                  rotate_left
                                  · intro w'
                                    go_simp
                                    with_reducible rfl
                                  rotate_left
                                  · simp only [Act.put, List.setIfInBounds_toArray, List.set_cons_zero, List.set_cons_succ, i64_w, i32_w]
                                    rfl
                                  refine done_ (done_of HT_.out (by kernel_rfl)) ?_
                                  try go_wp2
                                  go_ret
                                  exact ⟨by first | rfl | (simp [errW_none, errW_some] <;> rfl) | (simp only [← hji30]; first | rfl | (simp [errW_none, errW_some] <;> rfl)) | (simp [*, errW_none, errW_some] <;> rfl), by repeat (first | (with_reducible first | exact HB.out | apply below_alloc | apply pw_below_drewN | apply below_drew1 | refine below_set ?_ GE105.out | refine below_set ?_ GE109.out) | exact HB.out)⟩
                                · rw [if_neg c33] at H
                                  have c33b0 : decide (((rd_T30 l0_4 x50_3).f0) ≤ ((rd_T30 l0_4 (ji30)).f0)) = false := decide_eq_false c33
                                  clear c33
                                  have H' := Aside0.mk H
                                  clear H
                                  have p108 : 0 ≤ (x50_3 : Int) := of_decide_eq_true (by first | (with_reducible assumption) | assumption)
                                  have q108 : x50_3 < (l0_4.length : Int) := of_decide_eq_true (by first | (with_reducible assumption) | assumption)
                                  obtain ⟨ad108, A108_4, c108_4, A108_6, c108_6, e108, hx108_0, hx108_1, hx108_2, hx108_3, hx108_4, hx108_5, hx108_6, hl108_4, hi108_4, hl108_6, hi108_6⟩ := at_T30 HR0_4.out x50_3 p108 q108
                                  cases e108
                                  replace hx108_0 := (HB.out.cell (World.block_lt_of_cell? w _ hx108_0)).trans hx108_0
                                  replace hx108_1 := (HB.out.cell (World.block_lt_of_cell? w _ hx108_1)).trans hx108_1
                                  replace hx108_2 := (HB.out.cell (World.block_lt_of_cell? w _ hx108_2)).trans hx108_2
                                  replace hx108_3 := (HB.out.cell (World.block_lt_of_cell? w _ hx108_3)).trans hx108_3
                                  replace hx108_4 := (HB.out.cell (World.block_lt_of_cell? w _ hx108_4)).trans hx108_4
                                  replace hx108_5 := (HB.out.cell (World.block_lt_of_cell? w _ hx108_5)).trans hx108_5
                                  replace hx108_6 := (HB.out.cell (World.block_lt_of_cell? w _ hx108_6)).trans hx108_6
                                  have HR108_4 := Aside0.mk hi108_4
                                  have HC108_4 := Aside0.mk hl108_4
                                  clear hi108_4 hl108_4
                                  have HR108_6 := Aside0.mk hi108_6
                                  have HC108_6 := Aside0.mk hl108_6
                                  clear hi108_6 hl108_6
                                  replace p108 := eq_true p108
                                  replace q108 := eq_true q108
                                  try go_wp2_with (first | ((with_reducible refine gate_dst (N := 4) rfl ?_); (try (refine gate_guard (by rfl) ?_; dsimp only)); refine box_event ?hg (N := 4) ?hd (cs := #[.int .i64 0, .int .i64 0, .int .i64 0, .bool false, .slice none 0 0, .bool false, .slice none 0 0]) (t := 30) ?hr ?_; (case hd => rfl); (case hg => rfl); (case hr => first | (go_simp; done) | (go_simp; rfl)); intro gb109 hg w40 hbox hb; have n0_ := Aside0.mk (blk_below (g := gb105) (o := .cells #[.int .i64 a0_0, .int .i64 a0_1, .int .i64 a0_2, .int .i64 a0_3, .slice (some ad108) l0_4.length c0_4, .slice A0_5 l0_5.length c0_5] 25 (0, 0)) (by (with_reducible repeat (first | refine blk_drewN ?_ _ | refine blk_drew ?_ | refine blk_alloc ?_ _)); exact BK105.out) hb); have n1_ := Aside0.mk (below_step (by repeat (first | (with_reducible first | exact HB.out | apply below_alloc | apply pw_below_drewN | apply below_drew1 | refine below_set ?_ GE105.out) | exact HB.out)) hb); have n2_ := Aside0.mk (hbox); have n3_ := Aside0.mk ((by rw [hg]; exact (below_size (by repeat (first | (with_reducible first | exact HB.out | apply below_alloc | apply pw_below_drewN | apply below_drew1 | refine below_set ?_ GE105.out) | exact HB.out))) : w.heap.size ≤ gb109)); have n4_ := Aside0.mk ((by rw [hg]; exact (below_size (by repeat (first | (with_reducible first | exact HB.out | apply below_alloc | apply pw_below_drewN | apply below_drew1 | refine below_set ?_ GE105.out) | exact HB.out))) : w.heap.size ≤ gb109)); have n5_ := Aside0.mk ((by rw [hg]; exact Nat.ne_of_lt (blk_lt (g := gb105) (o := .cells #[.int .i64 a0_0, .int .i64 a0_1, .int .i64 a0_2, .int .i64 a0_3, .slice (some ad108) l0_4.length c0_4, .slice A0_5 l0_5.length c0_5] 25 (0, 0)) (by (with_reducible repeat (first | refine blk_drewN ?_ _ | refine blk_drew ?_ | refine blk_alloc ?_ _)); exact BK105.out)) : gb105 ≠ gb109)); have n6_ := Aside0.mk ((by rw [hg]; exact Nat.ne_of_gt (blk_lt (g := gb105) (o := .cells #[.int .i64 a0_0, .int .i64 a0_1, .int .i64 a0_2, .int .i64 a0_3, .slice (some ad108) l0_4.length c0_4, .slice A0_5 l0_5.length c0_5] 25 (0, 0)) (by (with_reducible repeat (first | refine blk_drewN ?_ _ | refine blk_drew ?_ | refine blk_alloc ?_ _)); exact BK105.out)) : gb109 ≠ gb105)); clear BK105; clear HB; have BK105 := n0_; have HB := n1_; have BK109 := n2_; have GW109 := n3_; have GE109 := n4_; have NB105_109 := n5_; have NB109_105 := n6_; clear n0_ n1_ n2_ n3_ n4_ n5_ n6_; clear hb hbox hg; have hnb41 := NB109_105.out; have hnc41 := NB105_109.out; have hcz42_0 : w40.cell? ⟨gb109, 0, none⟩ = some (.int .i64 0) := (blk_cell BK109.out 0).trans rfl; have hcz42_1 : w40.cell? ⟨gb109, 1, none⟩ = some (.int .i64 0) := (blk_cell BK109.out 1).trans rfl; have hcz42_2 : w40.cell? ⟨gb109, 2, none⟩ = some (.int .i64 0) := (blk_cell BK109.out 2).trans rfl; have hcz42_3 : w40.cell? ⟨gb109, 3, none⟩ = some (.bool false) := (blk_cell BK109.out 3).trans rfl; have hcz42_4 : w40.cell? ⟨gb109, 4, none⟩ = some (.slice none 0 0) := (blk_cell BK109.out 4).trans rfl; have hcz42_5 : w40.cell? ⟨gb109, 5, none⟩ = some (.bool false) := (blk_cell BK109.out 5).trans rfl; have hcz42_6 : w40.cell? ⟨gb109, 6, none⟩ = some (.slice none 0 0) := (blk_cell BK109.out 6).trans rfl; have hfz42_0 := blk_frozen BK109.out 0; have hfz42_1 := blk_frozen BK109.out 1; have hfz42_2 := blk_frozen BK109.out 2; have hfz42_3 := blk_frozen BK109.out 3; have hfz42_4 := blk_frozen BK109.out 4; have hfz42_5 := blk_frozen BK109.out 5; have hfz42_6 := blk_frozen BK109.out 6))
                                  have n0_ : Aside0 ((((((((w40.setCell ⟨gb109, 0, none⟩ (.int .i64 ((rd_T30 l0_4 x50_3).f0))).setCell ⟨gb109, 1, none⟩ (.int .i64 ((rd_T30 l0_4 x50_3).f1))).setCell ⟨gb109, 2, none⟩ (.int .i64 ((rd_T30 l0_4 x50_3).f2))).setCell ⟨gb109, 3, none⟩ (.bool ((rd_T30 l0_4 x50_3).f3.f0))).setCell ⟨gb109, 4, none⟩ (.slice A108_4 ((rd_T30 l0_4 x50_3).f3.f1).length c108_4)).setCell ⟨gb109, 5, none⟩ (.bool ((rd_T30 l0_4 x50_3).f4.f0))).setCell ⟨gb109, 6, none⟩ (.slice A108_6 ((rd_T30 l0_4 x50_3).f4.f1).length c108_6)).heap[gb105]? = some (.cells #[.int .i64 a0_0, .int .i64 a0_1, .int .i64 a0_2, .int .i64 a0_3, .slice (some ad108) l0_4.length c0_4, .slice A0_5 l0_5.length c0_5] 25 (0, 0))) := ⟨by (with_reducible repeat (first | refine blk_drewN ?_ _ | refine blk_drew ?_ | refine blk_alloc ?_ _)); refine blk_far ?_ NB105_109.out _; (with_reducible repeat (first | refine blk_drewN ?_ _ | refine blk_drew ?_ | refine blk_alloc ?_ _)); refine blk_far ?_ NB105_109.out _; (with_reducible repeat (first | refine blk_drewN ?_ _ | refine blk_drew ?_ | refine blk_alloc ?_ _)); refine blk_far ?_ NB105_109.out _; (with_reducible repeat (first | refine blk_drewN ?_ _ | refine blk_drew ?_ | refine blk_alloc ?_ _)); refine blk_far ?_ NB105_109.out _; (with_reducible repeat (first | refine blk_drewN ?_ _ | refine blk_drew ?_ | refine blk_alloc ?_ _)); refine blk_far ?_ NB105_109.out _; (with_reducible repeat (first | refine blk_drewN ?_ _ | refine blk_drew ?_ | refine blk_alloc ?_ _)); refine blk_far ?_ NB105_109.out _; (with_reducible repeat (first | refine blk_drewN ?_ _ | refine blk_drew ?_ | refine blk_alloc ?_ _)); refine blk_far ?_ NB105_109.out _; (with_reducible repeat (first | refine blk_drewN ?_ _ | refine blk_drew ?_ | refine blk_alloc ?_ _)); exact BK105.out⟩
                                  have n1_ : Aside0 ((((((((w40.setCell ⟨gb109, 0, none⟩ (.int .i64 ((rd_T30 l0_4 x50_3).f0))).setCell ⟨gb109, 1, none⟩ (.int .i64 ((rd_T30 l0_4 x50_3).f1))).setCell ⟨gb109, 2, none⟩ (.int .i64 ((rd_T30 l0_4 x50_3).f2))).setCell ⟨gb109, 3, none⟩ (.bool ((rd_T30 l0_4 x50_3).f3.f0))).setCell ⟨gb109, 4, none⟩ (.slice A108_4 ((rd_T30 l0_4 x50_3).f3.f1).length c108_4)).setCell ⟨gb109, 5, none⟩ (.bool ((rd_T30 l0_4 x50_3).f4.f0))).setCell ⟨gb109, 6, none⟩ (.slice A108_6 ((rd_T30 l0_4 x50_3).f4.f1).length c108_6)).heap[gb109]? = some (.cells #[.int .i64 ((rd_T30 l0_4 x50_3).f0), .int .i64 ((rd_T30 l0_4 x50_3).f1), .int .i64 ((rd_T30 l0_4 x50_3).f2), .bool ((rd_T30 l0_4 x50_3).f3.f0), .slice A108_4 ((rd_T30 l0_4 x50_3).f3.f1).length c108_4, .bool ((rd_T30 l0_4 x50_3).f4.f0), .slice A108_6 ((rd_T30 l0_4 x50_3).f4.f1).length c108_6] 30 (0, 0))) := ⟨by (with_reducible repeat (first | refine blk_drewN ?_ _ | refine blk_drew ?_ | refine blk_alloc ?_ _)); refine blk_put (cs := #[.int .i64 ((rd_T30 l0_4 x50_3).f0), .int .i64 ((rd_T30 l0_4 x50_3).f1), .int .i64 ((rd_T30 l0_4 x50_3).f2), .bool ((rd_T30 l0_4 x50_3).f3.f0), .slice A108_4 ((rd_T30 l0_4 x50_3).f3.f1).length c108_4, .bool ((rd_T30 l0_4 x50_3).f4.f0), .slice none 0 0]) ?_ 6 _ rfl; (with_reducible repeat (first | refine blk_drewN ?_ _ | refine blk_drew ?_ | refine blk_alloc ?_ _)); refine blk_put (cs := #[.int .i64 ((rd_T30 l0_4 x50_3).f0), .int .i64 ((rd_T30 l0_4 x50_3).f1), .int .i64 ((rd_T30 l0_4 x50_3).f2), .bool ((rd_T30 l0_4 x50_3).f3.f0), .slice A108_4 ((rd_T30 l0_4 x50_3).f3.f1).length c108_4, .bool false, .slice none 0 0]) ?_ 5 _ rfl; (with_reducible repeat (first | refine blk_drewN ?_ _ | refine blk_drew ?_ | refine blk_alloc ?_ _)); refine blk_put (cs := #[.int .i64 ((rd_T30 l0_4 x50_3).f0), .int .i64 ((rd_T30 l0_4 x50_3).f1), .int .i64 ((rd_T30 l0_4 x50_3).f2), .bool ((rd_T30 l0_4 x50_3).f3.f0), .slice none 0 0, .bool false, .slice none 0 0]) ?_ 4 _ rfl; (with_reducible repeat (first | refine blk_drewN ?_ _ | refine blk_drew ?_ | refine blk_alloc ?_ _)); refine blk_put (cs := #[.int .i64 ((rd_T30 l0_4 x50_3).f0), .int .i64 ((rd_T30 l0_4 x50_3).f1), .int .i64 ((rd_T30 l0_4 x50_3).f2), .bool false, .slice none 0 0, .bool false, .slice none 0 0]) ?_ 3 _ rfl; (with_reducible repeat (first | refine blk_drewN ?_ _ | refine blk_drew ?_ | refine blk_alloc ?_ _)); refine blk_put (cs := #[.int .i64 ((rd_T30 l0_4 x50_3).f0), .int .i64 ((rd_T30 l0_4 x50_3).f1), .int .i64 0, .bool false, .slice none 0 0, .bool false, .slice none 0 0]) ?_ 2 _ rfl; (with_reducible repeat (first | refine blk_drewN ?_ _ | refine blk_drew ?_ | refine blk_alloc ?_ _)); refine blk_put (cs := #[.int .i64 ((rd_T30 l0_4 x50_3).f0), .int .i64 0, .int .i64 0, .bool false, .slice none 0 0, .bool false, .slice none 0 0]) ?_ 1 _ rfl; (with_reducible repeat (first | refine blk_drewN ?_ _ | refine blk_drew ?_ | refine blk_alloc ?_ _)); refine blk_put (cs := #[.int .i64 0, .int .i64 0, .int .i64 0, .bool false, .slice none 0 0, .bool false, .slice none 0 0]) ?_ 0 _ rfl; (with_reducible repeat (first | refine blk_drewN ?_ _ | refine blk_drew ?_ | refine blk_alloc ?_ _)); exact BK109.out⟩
                                  have n2_ : Aside0 (Below w.heap.size w (((((((w40.setCell ⟨gb109, 0, none⟩ (.int .i64 ((rd_T30 l0_4 x50_3).f0))).setCell ⟨gb109, 1, none⟩ (.int .i64 ((rd_T30 l0_4 x50_3).f1))).setCell ⟨gb109, 2, none⟩ (.int .i64 ((rd_T30 l0_4 x50_3).f2))).setCell ⟨gb109, 3, none⟩ (.bool ((rd_T30 l0_4 x50_3).f3.f0))).setCell ⟨gb109, 4, none⟩ (.slice A108_4 ((rd_T30 l0_4 x50_3).f3.f1).length c108_4)).setCell ⟨gb109, 5, none⟩ (.bool ((rd_T30 l0_4 x50_3).f4.f0))).setCell ⟨gb109, 6, none⟩ (.slice A108_6 ((rd_T30 l0_4 x50_3).f4.f1).length c108_6))) := ⟨by repeat (first | (with_reducible first | exact HB.out | apply below_alloc | apply pw_below_drewN | apply below_drew1 | refine below_set ?_ GE105.out | refine below_set ?_ GE109.out) | exact HB.out)⟩
                                  (try clear BK105)
                                  (try clear BK109)
                                  (try clear HB)
                                  generalize (((((((w40.setCell ⟨gb109, 0, none⟩ (.int .i64 ((rd_T30 l0_4 x50_3).f0))).setCell ⟨gb109, 1, none⟩ (.int .i64 ((rd_T30 l0_4 x50_3).f1))).setCell ⟨gb109, 2, none⟩ (.int .i64 ((rd_T30 l0_4 x50_3).f2))).setCell ⟨gb109, 3, none⟩ (.bool ((rd_T30 l0_4 x50_3).f3.f0))).setCell ⟨gb109, 4, none⟩ (.slice A108_4 ((rd_T30 l0_4 x50_3).f3.f1).length c108_4)).setCell ⟨gb109, 5, none⟩ (.bool ((rd_T30 l0_4 x50_3).f4.f0))).setCell ⟨gb109, 6, none⟩ (.slice A108_6 ((rd_T30 l0_4 x50_3).f4.f1).length c108_6)) = w43 at n0_ n1_ n2_ ⊢
                                  have BK105 := n0_
                                  have BK109 := n1_
                                  have HB := n2_
                                  clear n0_ n1_ n2_
                                  have n0_ := Aside0.mk (blk_drew BK105.out)
                                  have n1_ := Aside0.mk (blk_drew BK109.out)
                                  have n2_ := Aside0.mk (below_drew1 HB.out)
                                  clear BK105
                                  clear BK109
                                  clear HB
                                  have BK105 := n0_
                                  have BK109 := n1_
                                  have HB := n2_
                                  clear n0_ n1_ n2_
                                  have p111 : 0 ≤ ((ji30) : Int) := of_decide_eq_true (by first | (with_reducible assumption) | assumption)
                                  have q111 : (ji30) < (l0_4.length : Int) := of_decide_eq_true (by first | (with_reducible assumption) | assumption)
                                  obtain ⟨ad111, A111_4, c111_4, A111_6, c111_6, e111, hx111_0, hx111_1, hx111_2, hx111_3, hx111_4, hx111_5, hx111_6, hl111_4, hi111_4, hl111_6, hi111_6⟩ := at_T30 HR0_4.out (ji30) p111 q111
                                  have hw111_6 := hx111_6
                                  have hw111_5 := hx111_5
                                  have hw111_4 := hx111_4
                                  have hw111_3 := hx111_3
                                  have hw111_2 := hx111_2
                                  have hw111_1 := hx111_1
                                  have hw111_0 := hx111_0
                                  obtain rfl : ad108 = ad111 := (by injection e111)
                                  replace hx111_0 := (HB.out.cell (World.block_lt_of_cell? w _ hx111_0)).trans hx111_0
                                  replace hx111_1 := (HB.out.cell (World.block_lt_of_cell? w _ hx111_1)).trans hx111_1
                                  replace hx111_2 := (HB.out.cell (World.block_lt_of_cell? w _ hx111_2)).trans hx111_2
                                  replace hx111_3 := (HB.out.cell (World.block_lt_of_cell? w _ hx111_3)).trans hx111_3
                                  replace hx111_4 := (HB.out.cell (World.block_lt_of_cell? w _ hx111_4)).trans hx111_4
                                  replace hx111_5 := (HB.out.cell (World.block_lt_of_cell? w _ hx111_5)).trans hx111_5
                                  replace hx111_6 := (HB.out.cell (World.block_lt_of_cell? w _ hx111_6)).trans hx111_6
                                  have HR111_4 := Aside0.mk hi111_4
                                  have HC111_4 := Aside0.mk hl111_4
                                  clear hi111_4 hl111_4
                                  have HR111_6 := Aside0.mk hi111_6
                                  have HC111_6 := Aside0.mk hl111_6
                                  clear hi111_6 hl111_6
                                  replace p111 := eq_true p111
                                  replace q111 := eq_true q111
                                  refine start_ (n := 19) (S := fun w' => w'.cell? ⟨gb109, 0, none⟩ = some (.int .i64 ((rd_T30 l0_4 x50_3).f0)) ∧ w'.cell? ⟨gb109, 1, none⟩ = some (.int .i64 ((rd_T30 l0_4 x50_3).f1)) ∧ w'.cell? ⟨gb109, 2, none⟩ = some (.int .i64 ((rd_T30 l0_4 x50_3).f2)) ∧ w'.cell? ⟨gb109, 3, none⟩ = some (.bool ((rd_T30 l0_4 x50_3).f3.f0)) ∧ w'.cell? ⟨gb109, 4, none⟩ = some (.slice A108_4 ((rd_T30 l0_4 x50_3).f3.f1).length c108_4) ∧ w'.cell? ⟨gb109, 5, none⟩ = some (.bool ((rd_T30 l0_4 x50_3).f4.f0)) ∧ w'.cell? ⟨gb109, 6, none⟩ = some (.slice A108_6 ((rd_T30 l0_4 x50_3).f4.f1).length c108_6) ∧ w'.cell? ⟨gb105, 0, none⟩ = some (.int .i64 a0_0) ∧ w'.cell? ⟨gb105, 1, none⟩ = some (.int .i64 a0_1) ∧ w'.cell? ⟨gb105, 2, none⟩ = some (.int .i64 a0_2) ∧ w'.cell? ⟨gb105, 3, none⟩ = some (.int .i64 a0_3) ∧ w'.cell? ⟨gb105, 4, none⟩ = some (.slice (some ad108) l0_4.length c0_4) ∧ w'.cell? ⟨gb105, 5, none⟩ = some (.slice A0_5 l0_5.length c0_5) ∧ w'.cell? (ad108.add (((ji30)).toNat * 7)) = some (.int .i64 ((rd_T30 l0_4 (ji30)).f0)) ∧ w'.cell? ⟨(ad108.add (((ji30)).toNat * 7)).block, (ad108.add (((ji30)).toNat * 7)).off + 1, none⟩ = some (.int .i64 ((rd_T30 l0_4 (ji30)).f1)) ∧ w'.cell? ⟨(ad108.add (((ji30)).toNat * 7)).block, (ad108.add (((ji30)).toNat * 7)).off + 2, none⟩ = some (.int .i64 ((rd_T30 l0_4 (ji30)).f2)) ∧ w'.cell? ⟨(ad108.add (((ji30)).toNat * 7)).block, (ad108.add (((ji30)).toNat * 7)).off + 3, none⟩ = some (.bool ((rd_T30 l0_4 (ji30)).f3.f0)) ∧ w'.cell? ⟨(ad108.add (((ji30)).toNat * 7)).block, (ad108.add (((ji30)).toNat * 7)).off + 4, none⟩ = some (.slice A111_4 ((rd_T30 l0_4 (ji30)).f3.f1).length c111_4) ∧ w'.cell? ⟨(ad108.add (((ji30)).toNat * 7)).block, (ad108.add (((ji30)).toNat * 7)).off + 5, none⟩ = some (.bool ((rd_T30 l0_4 (ji30)).f4.f0)) ∧ w'.cell? ⟨(ad108.add (((ji30)).toNat * 7)).block, (ad108.add (((ji30)).toNat * 7)).off + 6, none⟩ = some (.slice A111_6 ((rd_T30 l0_4 (ji30)).f4.f1).length c111_6)) (ds := []) #[false, false, false, false, false, false, false, false, false, false, false, false, false, false, false, false, false, false, false] (by kernel_rfl) rfl rfl ⟨(blk_cell BK109.out 0).trans rfl, (blk_cell BK109.out 1).trans rfl, (blk_cell BK109.out 2).trans rfl, (blk_cell BK109.out 3).trans rfl, (blk_cell BK109.out 4).trans rfl, (blk_cell BK109.out 5).trans rfl, (blk_cell BK109.out 6).trans rfl, (blk_cell BK105.out 0).trans rfl, (blk_cell BK105.out 1).trans rfl, (blk_cell BK105.out 2).trans rfl, (blk_cell BK105.out 3).trans rfl, (blk_cell BK105.out 4).trans rfl, (blk_cell BK105.out 5).trans rfl, ((HB.out.cell (World.block_lt_of_cell? w _ hw111_0)).trans hw111_0), ((HB.out.cell (World.block_lt_of_cell? w _ hw111_1)).trans hw111_1), ((HB.out.cell (World.block_lt_of_cell? w _ hw111_2)).trans hw111_2), ((HB.out.cell (World.block_lt_of_cell? w _ hw111_3)).trans hw111_3), ((HB.out.cell (World.block_lt_of_cell? w _ hw111_4)).trans hw111_4), ((HB.out.cell (World.block_lt_of_cell? w _ hw111_5)).trans hw111_5), ((HB.out.cell (World.block_lt_of_cell? w _ hw111_6)).trans hw111_6)⟩ (fun hHeld => ?_); refine with_tabW txn_May.tab8 txn_May.bits8 (fun HT_ HW_ => ?_)
                                  generalize w43.drew = w44 at BK105 BK109 HB HR111_4 HR111_6 hx111_0 hx111_1 hx111_2 hx111_3 hx111_4 hx111_5 hx111_6 hHeld ⊢
                                  refine take_ (i := 0) (N := some 55) (v := ?_) (a' := ?_) #[true, false, false, false, false, false, false, false, false, false, false, false, false, false, false, false, false, false, false] rfl rfl (take_ofW HT_.out HW_.out (by kernel_rfl)) (fun _ _ _ h => h) (Or.inl ⟨by rfl, ?_⟩) hHeld ?_ ?_
                                  rotate_left
                                  · rintro w' ⟨s0, s1, s2, s3, s4, s5, s6, s7, s8, s9, s10, s11, s12, s13, s14, s15, s16, s17, s18, s19⟩
                                    go_simp
                                    with_reducible rfl
                                  rotate_left
                                  · simp only [Act.put, List.setIfInBounds_toArray, List.set_cons_zero, List.set_cons_succ, i64_w, i32_w]
                                    rfl
                                  refine one_ (i := 1) (N := some 56) #[true, true, false, false, false, false, false, false, false, false, false, false, false, false, false, false, false, false, false] rfl rfl (one_of HT_.out (by kernel_rfl)) (by decide) (fun K hK => ?_)
                                  refine goes_ Try.func31 (by kernel_rfl) rfl #[.agg #[.int .i64 ((rd_T30 l0_4 x50_3).f0), .int .i64 ((rd_T30 l0_4 x50_3).f1), .int .i64 ((rd_T30 l0_4 x50_3).f2), .bool ((rd_T30 l0_4 x50_3).f3.f0), .slice A108_4 ((rd_T30 l0_4 x50_3).f3.f1).length c108_4, .bool ((rd_T30 l0_4 x50_3).f4.f0), .slice A108_6 ((rd_T30 l0_4 x50_3).f4.f1).length c108_6]] (by rfl) rfl rfl (by (try simp only [List.map_toArray, List.map_cons, List.map_nil]); first | done | rfl | (simp only [List.length_drop, List.length_take]; rfl)) ?_
                                  with_reducible refine (txn_change.calls ((rd_T30 l0_4 x50_3).f0) ((rd_T30 l0_4 x50_3).f1) ((rd_T30 l0_4 x50_3).f2) ((rd_T30 l0_4 x50_3).f3.f0) _ _ ((rd_T30 l0_4 x50_3).f3.f1) ((rd_T30 l0_4 x50_3).f4.f0) _ _ ((rd_T30 l0_4 x50_3).f4.f1) true _ ?side1 ?side2 ?side3 ?side4 A27.out).mono ?_
                                  (case side1 => repeat (first | exact (Kd.C_below HR108_4.out HB.out) | (with_reducible refine Kd.C_alloc ?_ _) | (with_reducible refine Kd.C_drewN ?_ _) | (with_reducible refine Kd.C_drew ?_)))
                                  (case side2 => exact HC108_4.out)
                                  (case side3 => repeat (first | exact (Kd.C_below HR108_6.out HB.out) | (with_reducible refine Kd.C_alloc ?_ _) | (with_reducible refine Kd.C_drewN ?_ _) | (with_reducible refine Kd.C_drew ?_)))
                                  (case side4 => exact HC108_6.out)
                                  rintro e w45 ⟨rfl, hb⟩
                                  refine ⟨_, rfl, ?_⟩
                                  have n0_ := Aside0.mk (blk_below (g := gb105) (o := .cells #[.int .i64 a0_0, .int .i64 a0_1, .int .i64 a0_2, .int .i64 a0_3, .slice (some ad108) l0_4.length c0_4, .slice A0_5 l0_5.length c0_5] 25 (0, 0)) (by (with_reducible repeat (first | refine blk_drewN ?_ _ | refine blk_drew ?_ | refine blk_alloc ?_ _)); exact BK105.out) hb)
                                  have n1_ := Aside0.mk (blk_below (g := gb109) (o := .cells #[.int .i64 ((rd_T30 l0_4 x50_3).f0), .int .i64 ((rd_T30 l0_4 x50_3).f1), .int .i64 ((rd_T30 l0_4 x50_3).f2), .bool ((rd_T30 l0_4 x50_3).f3.f0), .slice A108_4 ((rd_T30 l0_4 x50_3).f3.f1).length c108_4, .bool ((rd_T30 l0_4 x50_3).f4.f0), .slice A108_6 ((rd_T30 l0_4 x50_3).f4.f1).length c108_6] 30 (0, 0)) (by (with_reducible repeat (first | refine blk_drewN ?_ _ | refine blk_drew ?_ | refine blk_alloc ?_ _)); exact BK109.out) hb)
                                  have n2_ := Aside0.mk (below_step (by repeat (first | (with_reducible first | exact HB.out | apply below_alloc | apply pw_below_drewN | apply below_drew1 | refine below_set ?_ GE105.out | refine below_set ?_ GE109.out) | exact HB.out)) hb)
                                  clear BK105
                                  clear BK109
                                  clear HB
                                  have BK105 := n0_
                                  have BK109 := n1_
                                  have HB := n2_
                                  clear n0_ n1_ n2_
                                  (try clear hb)
                                  (try clear hb2)
                                  (try clear hk)
                                  (try clear hi)
                                  refine hK.out _ _ ⟨(blk_cell BK109.out 0).trans rfl, (blk_cell BK109.out 1).trans rfl, (blk_cell BK109.out 2).trans rfl, (blk_cell BK109.out 3).trans rfl, (blk_cell BK109.out 4).trans rfl, (blk_cell BK109.out 5).trans rfl, (blk_cell BK109.out 6).trans rfl, (blk_cell BK105.out 0).trans rfl, (blk_cell BK105.out 1).trans rfl, (blk_cell BK105.out 2).trans rfl, (blk_cell BK105.out 3).trans rfl, (blk_cell BK105.out 4).trans rfl, (blk_cell BK105.out 5).trans rfl, ((HB.out.cell (World.block_lt_of_cell? w _ hw111_0)).trans hw111_0), ((HB.out.cell (World.block_lt_of_cell? w _ hw111_1)).trans hw111_1), ((HB.out.cell (World.block_lt_of_cell? w _ hw111_2)).trans hw111_2), ((HB.out.cell (World.block_lt_of_cell? w _ hw111_3)).trans hw111_3), ((HB.out.cell (World.block_lt_of_cell? w _ hw111_4)).trans hw111_4), ((HB.out.cell (World.block_lt_of_cell? w _ hw111_5)).trans hw111_5), ((HB.out.cell (World.block_lt_of_cell? w _ hw111_6)).trans hw111_6)⟩ (fun hHeld => ?_)
                                  clear hK K
                                  refine norm_ (a' := ?_) ?_ ?_
                                  rotate_left
                                  · show Act.put _ (some 56) _ = _
                                    simp only [Act.put, List.setIfInBounds_toArray, List.set_cons_zero, List.set_cons_succ, i64_w, i32_w]
                                    rfl
                                  refine pure_ (i := 2) (N := some 57) (v := ?_) (a' := ?_) #[true, true, true, false, false, false, false, false, false, false, false, false, false, false, false, false, false, false, false] rfl rfl (any_of HT_.out (by kernel_rfl)) (fun _ _ _ h => h) (Or.inl ⟨by rfl, ?_⟩) ?_ ?_
                                  rotate_left
                                  · intro w'
                                    go_simp
                                    with_reducible rfl
                                  rotate_left
                                  · simp only [Act.put, List.setIfInBounds_toArray, List.set_cons_zero, List.set_cons_succ, i64_w, i32_w]
                                    rfl
                                  refine pure_ (i := 3) (N := some 58) (v := ?_) (a' := ?_) #[true, true, true, true, false, false, false, false, false, false, false, false, false, false, false, false, false, false, false] rfl rfl (any_of HT_.out (by kernel_rfl)) (fun _ _ _ h => h) (Or.inl ⟨by rfl, ?_⟩) ?_ ?_
                                  rotate_left
                                  · intro w'
                                    go_simp
                                    with_reducible rfl
                                  rotate_left
                                  · simp only [Act.put, List.setIfInBounds_toArray, List.set_cons_zero, List.set_cons_succ, i64_w, i32_w]
                                    rfl
                                  refine pure_ (i := 4) (N := some 59) (v := ?_) (a' := ?_) #[true, true, true, true, true, false, false, false, false, false, false, false, false, false, false, false, false, false, false] rfl rfl (any_of HT_.out (by kernel_rfl)) (fun _ _ _ h => h) (Or.inl ⟨by rfl, ?_⟩) ?_ ?_
                                  rotate_left
                                  · intro w'
                                    go_simp
                                    with_reducible rfl
                                  rotate_left
                                  · simp only [Act.put, List.setIfInBounds_toArray, List.set_cons_zero, List.set_cons_succ, i64_w, i32_w]
                                    rfl
                                  refine pure_ (i := 5) (N := some 60) (v := ?_) (a' := ?_) #[true, true, true, true, true, true, false, false, false, false, false, false, false, false, false, false, false, false, false] rfl rfl (any_of HT_.out (by kernel_rfl)) (fun _ _ _ h => h) (Or.inl ⟨by rfl, ?_⟩) ?_ ?_
                                  rotate_left
                                  · intro w'
                                    go_simp
                                    with_reducible rfl
                                  rotate_left
                                  · simp only [Act.put, List.setIfInBounds_toArray, List.set_cons_zero, List.set_cons_succ, i64_w, i32_w]
                                    rfl
                                  refine pure_ (i := 6) (N := some 61) (v := ?_) (a' := ?_) #[true, true, true, true, true, true, true, false, false, false, false, false, false, false, false, false, false, false, false] rfl rfl (any_of HT_.out (by kernel_rfl)) (fun _ _ _ h => h) (Or.inl ⟨by rfl, ?_⟩) ?_ ?_
                                  rotate_left
                                  · intro w'
                                    go_simp
                                    with_reducible rfl
                                  rotate_left
                                  · simp only [Act.put, List.setIfInBounds_toArray, List.set_cons_zero, List.set_cons_succ, i64_w, i32_w]
                                    rfl
                                  refine pure_ (i := 7) (N := some 62) (v := ?_) (a' := ?_) #[true, true, true, true, true, true, true, true, false, false, false, false, false, false, false, false, false, false, false] rfl rfl (any_of HT_.out (by kernel_rfl)) (fun _ _ _ h => h) (Or.inl ⟨by rfl, ?_⟩) ?_ ?_
                                  rotate_left
                                  · intro w'
                                    go_simp
                                    with_reducible rfl
                                  rotate_left
                                  · simp only [Act.put, List.setIfInBounds_toArray, List.set_cons_zero, List.set_cons_succ, i64_w, i32_w]
                                    rfl
                                  refine pure_ (i := 9) (N := some 64) (v := ?_) (a' := ?_) #[true, true, true, true, true, true, true, true, false, true, false, false, false, false, false, false, false, false, false] rfl rfl (any_of HT_.out (by kernel_rfl)) (fun _ _ _ h => h) (Or.inl ⟨by rfl, ?_⟩) ?_ ?_
                                  rotate_left
                                  · intro w'
                                    go_simp
                                    with_reducible rfl
                                  rotate_left
                                  · simp only [Act.put, List.setIfInBounds_toArray, List.set_cons_zero, List.set_cons_succ, i64_w, i32_w]
                                    rfl
                                  refine pure_ (i := 11) (N := some 66) (v := ?_) (a' := ?_) #[true, true, true, true, true, true, true, true, false, true, false, true, false, false, false, false, false, false, false] rfl rfl (any_of HT_.out (by kernel_rfl)) (fun _ _ _ h => h) (Or.inl ⟨by rfl, ?_⟩) ?_ ?_
                                  rotate_left
                                  · intro w'
                                    go_simp
                                    with_reducible rfl
                                  rotate_left
                                  · simp only [Act.put, List.setIfInBounds_toArray, List.set_cons_zero, List.set_cons_succ, i64_w, i32_w]
                                    rfl
                                  refine pure_ (i := 12) (N := some 67) (v := ?_) (a' := ?_) #[true, true, true, true, true, true, true, true, false, true, false, true, true, false, false, false, false, false, false] rfl rfl (any_of HT_.out (by kernel_rfl)) (fun _ _ _ h => h) (Or.inl ⟨by rfl, ?_⟩) ?_ ?_
                                  rotate_left
                                  · intro w'
                                    go_simp
                                    with_reducible rfl
                                  rotate_left
                                  · simp only [Act.put, List.setIfInBounds_toArray, List.set_cons_zero, List.set_cons_succ, i64_w, i32_w]
                                    rfl
                                  refine take_ (i := 8) (N := some 63) (v := ?_) (a' := ?_) #[true, true, true, true, true, true, true, true, true, true, false, true, true, false, false, false, false, false, false] rfl rfl (take_ofW HT_.out HW_.out (by kernel_rfl)) (fun _ _ _ h => h) (Or.inl ⟨by rfl, ?_⟩) hHeld ?_ ?_
                                  rotate_left
                                  · rintro w' ⟨s0, s1, s2, s3, s4, s5, s6, s7, s8, s9, s10, s11, s12, s13, s14, s15, s16, s17, s18, s19⟩
                                    go_simp
                                    with_reducible rfl
                                  rotate_left
                                  · simp only [Act.put, List.setIfInBounds_toArray, List.set_cons_zero, List.set_cons_succ, i64_w, i32_w]
                                    rfl
                                  refine take_ (i := 10) (N := some 65) (v := ?_) (a' := ?_) #[true, true, true, true, true, true, true, true, true, true, true, true, true, false, false, false, false, false, false] rfl rfl (take_ofW HT_.out HW_.out (by kernel_rfl)) (fun _ _ _ h => h) (Or.inl ⟨by rfl, ?_⟩) hHeld ?_ ?_
                                  rotate_left
                                  · rintro w' ⟨s0, s1, s2, s3, s4, s5, s6, s7, s8, s9, s10, s11, s12, s13, s14, s15, s16, s17, s18, s19⟩
                                    go_simp
                                    with_reducible rfl
                                  rotate_left
                                  · simp only [Act.put, List.setIfInBounds_toArray, List.set_cons_zero, List.set_cons_succ, i64_w, i32_w]
                                    rfl
                                  refine pure_ (i := 13) (N := some 68) (v := ?_) (a' := ?_) #[true, true, true, true, true, true, true, true, true, true, true, true, true, true, false, false, false, false, false] rfl rfl (any_of HT_.out (by kernel_rfl)) (fun _ _ _ h => h) (Or.inl ⟨by rfl, ?_⟩) ?_ ?_
                                  rotate_left
                                  · intro w'
                                    go_simp
                                    with_reducible rfl
                                  rotate_left
                                  · simp only [Act.put, List.setIfInBounds_toArray, List.set_cons_zero, List.set_cons_succ, i64_w, i32_w]
                                    rfl
                                  refine pure_ (i := 14) (N := some 69) (v := ?_) (a' := ?_) #[true, true, true, true, true, true, true, true, true, true, true, true, true, true, true, false, false, false, false] rfl rfl (any_of HT_.out (by kernel_rfl)) (fun _ _ _ h => h) (Or.inl ⟨by rfl, ?_⟩) ?_ ?_
                                  rotate_left
                                  · intro w'
                                    go_simp
                                    with_reducible rfl
                                  rotate_left
                                  · simp only [Act.put, List.setIfInBounds_toArray, List.set_cons_zero, List.set_cons_succ, i64_w, i32_w]
                                    rfl
                                  refine take_ (i := 15) (N := some 70) (v := ?_) (a' := ?_) #[true, true, true, true, true, true, true, true, true, true, true, true, true, true, true, true, false, false, false] rfl rfl (take_ofW HT_.out HW_.out (by kernel_rfl)) (fun _ _ _ h => h) (Or.inl ⟨by rfl, ?_⟩) hHeld ?_ ?_
                                  rotate_left
                                  · rintro w' ⟨s0, s1, s2, s3, s4, s5, s6, s7, s8, s9, s10, s11, s12, s13, s14, s15, s16, s17, s18, s19⟩
                                    go_simp
                                    with_reducible rfl
                                  rotate_left
                                  · simp only [Act.put, List.setIfInBounds_toArray, List.set_cons_zero, List.set_cons_succ, i64_w, i32_w]
                                    rfl
                                  refine pure_ (i := 16) (N := some 71) (v := ?_) (a' := ?_) #[true, true, true, true, true, true, true, true, true, true, true, true, true, true, true, true, true, false, false] rfl rfl (any_of HT_.out (by kernel_rfl)) (fun _ _ _ h => h) (Or.inl ⟨by rfl, ?_⟩) ?_ ?_
                                  rotate_left
                                  · intro w'
                                    go_simp
                                    with_reducible rfl
                                  rotate_left
                                  · simp only [Act.put, List.setIfInBounds_toArray, List.set_cons_zero, List.set_cons_succ, i64_w, i32_w]
                                    rfl
                                  refine pure_ (i := 17) (N := some 72) (v := ?_) (a' := ?_) #[true, true, true, true, true, true, true, true, true, true, true, true, true, true, true, true, true, true, false] rfl rfl (any_of HT_.out (by kernel_rfl)) (fun _ _ _ h => h) (Or.inl ⟨by rfl, ?_⟩) ?_ ?_
                                  rotate_left
                                  · intro w'
                                    go_simp
                                    with_reducible rfl
                                  rotate_left
                                  · simp only [Act.put, List.setIfInBounds_toArray, List.set_cons_zero, List.set_cons_succ, i64_w, i32_w]
                                    rfl
                                  refine pure_ (i := 18) (N := some 73) (v := ?_) (a' := ?_) #[true, true, true, true, true, true, true, true, true, true, true, true, true, true, true, true, true, true, true] rfl rfl (any_of HT_.out (by kernel_rfl)) (fun _ _ _ h => h) (Or.inl ⟨by rfl, ?_⟩) ?_ ?_
                                  rotate_left
                                  · intro w'
                                    go_simp
                                    with_reducible rfl
                                  rotate_left
                                  · simp only [Act.put, List.setIfInBounds_toArray, List.set_cons_zero, List.set_cons_succ, i64_w, i32_w]
                                    rfl
                                  refine done_ (done_of HT_.out (by kernel_rfl)) ?_
                                  try go_wp2
                                  go_roundg k3
                                  case measure => have := HJ1.out; have := HJ17.out; have := HK3.out; omega
                                  case rel => exact ⟨(wrap64 (x50_3 + 1)), (by first | rfl | (simp; done) | (simp [*]; done)), H', ⟨by have := HJ1.out; have := HJ17.out; have := HK3.out; omega⟩, ⟨by (with_reducible repeat (first | refine blk_drewN ?_ _ | refine blk_drew ?_ | refine blk_alloc ?_ _)); exact BK105.out⟩, ⟨by repeat (first | (with_reducible first | exact HB.out | apply below_alloc | apply pw_below_drewN | apply below_drew1 | refine below_set ?_ GE105.out | refine below_set ?_ GE109.out) | exact HB.out)⟩⟩
                              · rw [if_neg c32] at H
                                exact absurd H (by simp)
                            · rw [if_neg c31] at H
                              exact absurd H (by simp)
                          · rw [if_neg c29] at H
                            have c29b0 : decide (0 < x50_3) = false := decide_eq_false c29
                            clear c29
                            have H' := Aside0.mk H
                            clear H
                            have p108 : 0 ≤ (x50_3 : Int) := of_decide_eq_true (by first | (with_reducible assumption) | assumption)
                            have q108 : x50_3 < (l0_4.length : Int) := of_decide_eq_true (by first | (with_reducible assumption) | assumption)
                            obtain ⟨ad108, A108_4, c108_4, A108_6, c108_6, e108, hx108_0, hx108_1, hx108_2, hx108_3, hx108_4, hx108_5, hx108_6, hl108_4, hi108_4, hl108_6, hi108_6⟩ := at_T30 HR0_4.out x50_3 p108 q108
                            cases e108
                            replace hx108_0 := (HB.out.cell (World.block_lt_of_cell? w _ hx108_0)).trans hx108_0
                            replace hx108_1 := (HB.out.cell (World.block_lt_of_cell? w _ hx108_1)).trans hx108_1
                            replace hx108_2 := (HB.out.cell (World.block_lt_of_cell? w _ hx108_2)).trans hx108_2
                            replace hx108_3 := (HB.out.cell (World.block_lt_of_cell? w _ hx108_3)).trans hx108_3
                            replace hx108_4 := (HB.out.cell (World.block_lt_of_cell? w _ hx108_4)).trans hx108_4
                            replace hx108_5 := (HB.out.cell (World.block_lt_of_cell? w _ hx108_5)).trans hx108_5
                            replace hx108_6 := (HB.out.cell (World.block_lt_of_cell? w _ hx108_6)).trans hx108_6
                            have HR108_4 := Aside0.mk hi108_4
                            have HC108_4 := Aside0.mk hl108_4
                            clear hi108_4 hl108_4
                            have HR108_6 := Aside0.mk hi108_6
                            have HC108_6 := Aside0.mk hl108_6
                            clear hi108_6 hl108_6
                            replace p108 := eq_true p108
                            replace q108 := eq_true q108
                            try go_wp2_with (first | ((with_reducible refine gate_dst (N := 4) rfl ?_); (try (refine gate_guard (by rfl) ?_; dsimp only)); refine box_event ?hg (N := 4) ?hd (cs := #[.int .i64 0, .int .i64 0, .int .i64 0, .bool false, .slice none 0 0, .bool false, .slice none 0 0]) (t := 30) ?hr ?_; (case hd => rfl); (case hg => rfl); (case hr => first | (go_simp; done) | (go_simp; rfl)); intro gb109 hg w46 hbox hb; have n0_ := Aside0.mk (blk_below (g := gb105) (o := .cells #[.int .i64 a0_0, .int .i64 a0_1, .int .i64 a0_2, .int .i64 a0_3, .slice (some ad108) l0_4.length c0_4, .slice A0_5 l0_5.length c0_5] 25 (0, 0)) (by (with_reducible repeat (first | refine blk_drewN ?_ _ | refine blk_drew ?_ | refine blk_alloc ?_ _)); exact BK105.out) hb); have n1_ := Aside0.mk (below_step (by repeat (first | (with_reducible first | exact HB.out | apply below_alloc | apply pw_below_drewN | apply below_drew1 | refine below_set ?_ GE105.out) | exact HB.out)) hb); have n2_ := Aside0.mk (hbox); have n3_ := Aside0.mk ((by rw [hg]; exact (below_size (by repeat (first | (with_reducible first | exact HB.out | apply below_alloc | apply pw_below_drewN | apply below_drew1 | refine below_set ?_ GE105.out) | exact HB.out))) : w.heap.size ≤ gb109)); have n4_ := Aside0.mk ((by rw [hg]; exact (below_size (by repeat (first | (with_reducible first | exact HB.out | apply below_alloc | apply pw_below_drewN | apply below_drew1 | refine below_set ?_ GE105.out) | exact HB.out))) : w.heap.size ≤ gb109)); have n5_ := Aside0.mk ((by rw [hg]; exact Nat.ne_of_lt (blk_lt (g := gb105) (o := .cells #[.int .i64 a0_0, .int .i64 a0_1, .int .i64 a0_2, .int .i64 a0_3, .slice (some ad108) l0_4.length c0_4, .slice A0_5 l0_5.length c0_5] 25 (0, 0)) (by (with_reducible repeat (first | refine blk_drewN ?_ _ | refine blk_drew ?_ | refine blk_alloc ?_ _)); exact BK105.out)) : gb105 ≠ gb109)); have n6_ := Aside0.mk ((by rw [hg]; exact Nat.ne_of_gt (blk_lt (g := gb105) (o := .cells #[.int .i64 a0_0, .int .i64 a0_1, .int .i64 a0_2, .int .i64 a0_3, .slice (some ad108) l0_4.length c0_4, .slice A0_5 l0_5.length c0_5] 25 (0, 0)) (by (with_reducible repeat (first | refine blk_drewN ?_ _ | refine blk_drew ?_ | refine blk_alloc ?_ _)); exact BK105.out)) : gb109 ≠ gb105)); clear BK105; clear HB; have BK105 := n0_; have HB := n1_; have BK109 := n2_; have GW109 := n3_; have GE109 := n4_; have NB105_109 := n5_; have NB109_105 := n6_; clear n0_ n1_ n2_ n3_ n4_ n5_ n6_; clear hb hbox hg; have hnb47 := NB109_105.out; have hnc47 := NB105_109.out; have hcz48_0 : w46.cell? ⟨gb109, 0, none⟩ = some (.int .i64 0) := (blk_cell BK109.out 0).trans rfl; have hcz48_1 : w46.cell? ⟨gb109, 1, none⟩ = some (.int .i64 0) := (blk_cell BK109.out 1).trans rfl; have hcz48_2 : w46.cell? ⟨gb109, 2, none⟩ = some (.int .i64 0) := (blk_cell BK109.out 2).trans rfl; have hcz48_3 : w46.cell? ⟨gb109, 3, none⟩ = some (.bool false) := (blk_cell BK109.out 3).trans rfl; have hcz48_4 : w46.cell? ⟨gb109, 4, none⟩ = some (.slice none 0 0) := (blk_cell BK109.out 4).trans rfl; have hcz48_5 : w46.cell? ⟨gb109, 5, none⟩ = some (.bool false) := (blk_cell BK109.out 5).trans rfl; have hcz48_6 : w46.cell? ⟨gb109, 6, none⟩ = some (.slice none 0 0) := (blk_cell BK109.out 6).trans rfl; have hfz48_0 := blk_frozen BK109.out 0; have hfz48_1 := blk_frozen BK109.out 1; have hfz48_2 := blk_frozen BK109.out 2; have hfz48_3 := blk_frozen BK109.out 3; have hfz48_4 := blk_frozen BK109.out 4; have hfz48_5 := blk_frozen BK109.out 5; have hfz48_6 := blk_frozen BK109.out 6))
                            have n0_ : Aside0 ((((((((w46.setCell ⟨gb109, 0, none⟩ (.int .i64 ((rd_T30 l0_4 x50_3).f0))).setCell ⟨gb109, 1, none⟩ (.int .i64 ((rd_T30 l0_4 x50_3).f1))).setCell ⟨gb109, 2, none⟩ (.int .i64 ((rd_T30 l0_4 x50_3).f2))).setCell ⟨gb109, 3, none⟩ (.bool ((rd_T30 l0_4 x50_3).f3.f0))).setCell ⟨gb109, 4, none⟩ (.slice A108_4 ((rd_T30 l0_4 x50_3).f3.f1).length c108_4)).setCell ⟨gb109, 5, none⟩ (.bool ((rd_T30 l0_4 x50_3).f4.f0))).setCell ⟨gb109, 6, none⟩ (.slice A108_6 ((rd_T30 l0_4 x50_3).f4.f1).length c108_6)).heap[gb105]? = some (.cells #[.int .i64 a0_0, .int .i64 a0_1, .int .i64 a0_2, .int .i64 a0_3, .slice (some ad108) l0_4.length c0_4, .slice A0_5 l0_5.length c0_5] 25 (0, 0))) := ⟨by (with_reducible repeat (first | refine blk_drewN ?_ _ | refine blk_drew ?_ | refine blk_alloc ?_ _)); refine blk_far ?_ NB105_109.out _; (with_reducible repeat (first | refine blk_drewN ?_ _ | refine blk_drew ?_ | refine blk_alloc ?_ _)); refine blk_far ?_ NB105_109.out _; (with_reducible repeat (first | refine blk_drewN ?_ _ | refine blk_drew ?_ | refine blk_alloc ?_ _)); refine blk_far ?_ NB105_109.out _; (with_reducible repeat (first | refine blk_drewN ?_ _ | refine blk_drew ?_ | refine blk_alloc ?_ _)); refine blk_far ?_ NB105_109.out _; (with_reducible repeat (first | refine blk_drewN ?_ _ | refine blk_drew ?_ | refine blk_alloc ?_ _)); refine blk_far ?_ NB105_109.out _; (with_reducible repeat (first | refine blk_drewN ?_ _ | refine blk_drew ?_ | refine blk_alloc ?_ _)); refine blk_far ?_ NB105_109.out _; (with_reducible repeat (first | refine blk_drewN ?_ _ | refine blk_drew ?_ | refine blk_alloc ?_ _)); refine blk_far ?_ NB105_109.out _; (with_reducible repeat (first | refine blk_drewN ?_ _ | refine blk_drew ?_ | refine blk_alloc ?_ _)); exact BK105.out⟩
                            have n1_ : Aside0 ((((((((w46.setCell ⟨gb109, 0, none⟩ (.int .i64 ((rd_T30 l0_4 x50_3).f0))).setCell ⟨gb109, 1, none⟩ (.int .i64 ((rd_T30 l0_4 x50_3).f1))).setCell ⟨gb109, 2, none⟩ (.int .i64 ((rd_T30 l0_4 x50_3).f2))).setCell ⟨gb109, 3, none⟩ (.bool ((rd_T30 l0_4 x50_3).f3.f0))).setCell ⟨gb109, 4, none⟩ (.slice A108_4 ((rd_T30 l0_4 x50_3).f3.f1).length c108_4)).setCell ⟨gb109, 5, none⟩ (.bool ((rd_T30 l0_4 x50_3).f4.f0))).setCell ⟨gb109, 6, none⟩ (.slice A108_6 ((rd_T30 l0_4 x50_3).f4.f1).length c108_6)).heap[gb109]? = some (.cells #[.int .i64 ((rd_T30 l0_4 x50_3).f0), .int .i64 ((rd_T30 l0_4 x50_3).f1), .int .i64 ((rd_T30 l0_4 x50_3).f2), .bool ((rd_T30 l0_4 x50_3).f3.f0), .slice A108_4 ((rd_T30 l0_4 x50_3).f3.f1).length c108_4, .bool ((rd_T30 l0_4 x50_3).f4.f0), .slice A108_6 ((rd_T30 l0_4 x50_3).f4.f1).length c108_6] 30 (0, 0))) := ⟨by (with_reducible repeat (first | refine blk_drewN ?_ _ | refine blk_drew ?_ | refine blk_alloc ?_ _)); refine blk_put (cs := #[.int .i64 ((rd_T30 l0_4 x50_3).f0), .int .i64 ((rd_T30 l0_4 x50_3).f1), .int .i64 ((rd_T30 l0_4 x50_3).f2), .bool ((rd_T30 l0_4 x50_3).f3.f0), .slice A108_4 ((rd_T30 l0_4 x50_3).f3.f1).length c108_4, .bool ((rd_T30 l0_4 x50_3).f4.f0), .slice none 0 0]) ?_ 6 _ rfl; (with_reducible repeat (first | refine blk_drewN ?_ _ | refine blk_drew ?_ | refine blk_alloc ?_ _)); refine blk_put (cs := #[.int .i64 ((rd_T30 l0_4 x50_3).f0), .int .i64 ((rd_T30 l0_4 x50_3).f1), .int .i64 ((rd_T30 l0_4 x50_3).f2), .bool ((rd_T30 l0_4 x50_3).f3.f0), .slice A108_4 ((rd_T30 l0_4 x50_3).f3.f1).length c108_4, .bool false, .slice none 0 0]) ?_ 5 _ rfl; (with_reducible repeat (first | refine blk_drewN ?_ _ | refine blk_drew ?_ | refine blk_alloc ?_ _)); refine blk_put (cs := #[.int .i64 ((rd_T30 l0_4 x50_3).f0), .int .i64 ((rd_T30 l0_4 x50_3).f1), .int .i64 ((rd_T30 l0_4 x50_3).f2), .bool ((rd_T30 l0_4 x50_3).f3.f0), .slice none 0 0, .bool false, .slice none 0 0]) ?_ 4 _ rfl; (with_reducible repeat (first | refine blk_drewN ?_ _ | refine blk_drew ?_ | refine blk_alloc ?_ _)); refine blk_put (cs := #[.int .i64 ((rd_T30 l0_4 x50_3).f0), .int .i64 ((rd_T30 l0_4 x50_3).f1), .int .i64 ((rd_T30 l0_4 x50_3).f2), .bool false, .slice none 0 0, .bool false, .slice none 0 0]) ?_ 3 _ rfl; (with_reducible repeat (first | refine blk_drewN ?_ _ | refine blk_drew ?_ | refine blk_alloc ?_ _)); refine blk_put (cs := #[.int .i64 ((rd_T30 l0_4 x50_3).f0), .int .i64 ((rd_T30 l0_4 x50_3).f1), .int .i64 0, .bool false, .slice none 0 0, .bool false, .slice none 0 0]) ?_ 2 _ rfl; (with_reducible repeat (first | refine blk_drewN ?_ _ | refine blk_drew ?_ | refine blk_alloc ?_ _)); refine blk_put (cs := #[.int .i64 ((rd_T30 l0_4 x50_3).f0), .int .i64 0, .int .i64 0, .bool false, .slice none 0 0, .bool false, .slice none 0 0]) ?_ 1 _ rfl; (with_reducible repeat (first | refine blk_drewN ?_ _ | refine blk_drew ?_ | refine blk_alloc ?_ _)); refine blk_put (cs := #[.int .i64 0, .int .i64 0, .int .i64 0, .bool false, .slice none 0 0, .bool false, .slice none 0 0]) ?_ 0 _ rfl; (with_reducible repeat (first | refine blk_drewN ?_ _ | refine blk_drew ?_ | refine blk_alloc ?_ _)); exact BK109.out⟩
                            have n2_ : Aside0 (Below w.heap.size w (((((((w46.setCell ⟨gb109, 0, none⟩ (.int .i64 ((rd_T30 l0_4 x50_3).f0))).setCell ⟨gb109, 1, none⟩ (.int .i64 ((rd_T30 l0_4 x50_3).f1))).setCell ⟨gb109, 2, none⟩ (.int .i64 ((rd_T30 l0_4 x50_3).f2))).setCell ⟨gb109, 3, none⟩ (.bool ((rd_T30 l0_4 x50_3).f3.f0))).setCell ⟨gb109, 4, none⟩ (.slice A108_4 ((rd_T30 l0_4 x50_3).f3.f1).length c108_4)).setCell ⟨gb109, 5, none⟩ (.bool ((rd_T30 l0_4 x50_3).f4.f0))).setCell ⟨gb109, 6, none⟩ (.slice A108_6 ((rd_T30 l0_4 x50_3).f4.f1).length c108_6))) := ⟨by repeat (first | (with_reducible first | exact HB.out | apply below_alloc | apply pw_below_drewN | apply below_drew1 | refine below_set ?_ GE105.out | refine below_set ?_ GE109.out) | exact HB.out)⟩
                            (try clear BK105)
                            (try clear BK109)
                            (try clear HB)
                            generalize (((((((w46.setCell ⟨gb109, 0, none⟩ (.int .i64 ((rd_T30 l0_4 x50_3).f0))).setCell ⟨gb109, 1, none⟩ (.int .i64 ((rd_T30 l0_4 x50_3).f1))).setCell ⟨gb109, 2, none⟩ (.int .i64 ((rd_T30 l0_4 x50_3).f2))).setCell ⟨gb109, 3, none⟩ (.bool ((rd_T30 l0_4 x50_3).f3.f0))).setCell ⟨gb109, 4, none⟩ (.slice A108_4 ((rd_T30 l0_4 x50_3).f3.f1).length c108_4)).setCell ⟨gb109, 5, none⟩ (.bool ((rd_T30 l0_4 x50_3).f4.f0))).setCell ⟨gb109, 6, none⟩ (.slice A108_6 ((rd_T30 l0_4 x50_3).f4.f1).length c108_6)) = w49 at n0_ n1_ n2_ ⊢
                            have BK105 := n0_
                            have BK109 := n1_
                            have HB := n2_
                            clear n0_ n1_ n2_
                            have n0_ := Aside0.mk (blk_drew BK105.out)
                            have n1_ := Aside0.mk (blk_drew BK109.out)
                            have n2_ := Aside0.mk (below_drew1 HB.out)
                            clear BK105
                            clear BK109
                            clear HB
                            have BK105 := n0_
                            have BK109 := n1_
                            have HB := n2_
                            clear n0_ n1_ n2_
                            refine start_ (n := 19) (S := fun w' => w'.cell? ⟨gb109, 0, none⟩ = some (.int .i64 ((rd_T30 l0_4 x50_3).f0)) ∧ w'.cell? ⟨gb109, 1, none⟩ = some (.int .i64 ((rd_T30 l0_4 x50_3).f1)) ∧ w'.cell? ⟨gb109, 2, none⟩ = some (.int .i64 ((rd_T30 l0_4 x50_3).f2)) ∧ w'.cell? ⟨gb109, 3, none⟩ = some (.bool ((rd_T30 l0_4 x50_3).f3.f0)) ∧ w'.cell? ⟨gb109, 4, none⟩ = some (.slice A108_4 ((rd_T30 l0_4 x50_3).f3.f1).length c108_4) ∧ w'.cell? ⟨gb109, 5, none⟩ = some (.bool ((rd_T30 l0_4 x50_3).f4.f0)) ∧ w'.cell? ⟨gb109, 6, none⟩ = some (.slice A108_6 ((rd_T30 l0_4 x50_3).f4.f1).length c108_6)) (ds := []) #[false, false, false, false, false, false, false, false, false, false, false, false, false, false, false, false, false, false, false] (by kernel_rfl) rfl rfl ⟨(blk_cell BK109.out 0).trans rfl, (blk_cell BK109.out 1).trans rfl, (blk_cell BK109.out 2).trans rfl, (blk_cell BK109.out 3).trans rfl, (blk_cell BK109.out 4).trans rfl, (blk_cell BK109.out 5).trans rfl, (blk_cell BK109.out 6).trans rfl⟩ (fun hHeld => ?_); refine with_tabW txn_May.tab8 txn_May.bits8 (fun HT_ HW_ => ?_)
                            generalize w49.drew = w50 at BK105 BK109 HB hHeld ⊢
                            refine take_ (i := 0) (N := some 55) (v := ?_) (a' := ?_) #[true, false, false, false, false, false, false, false, false, false, false, false, false, false, false, false, false, false, false] rfl rfl (take_ofW HT_.out HW_.out (by kernel_rfl)) (fun _ _ _ h => h) (Or.inl ⟨by rfl, ?_⟩) hHeld ?_ ?_
                            rotate_left
                            · rintro w' ⟨s0, s1, s2, s3, s4, s5, s6⟩
                              go_simp
                              with_reducible rfl
                            rotate_left
                            · simp only [Act.put, List.setIfInBounds_toArray, List.set_cons_zero, List.set_cons_succ, i64_w, i32_w]
                              rfl
                            refine one_ (i := 1) (N := some 56) #[true, true, false, false, false, false, false, false, false, false, false, false, false, false, false, false, false, false, false] rfl rfl (one_of HT_.out (by kernel_rfl)) (by decide) (fun K hK => ?_)
                            refine goes_ Try.func31 (by kernel_rfl) rfl #[.agg #[.int .i64 ((rd_T30 l0_4 x50_3).f0), .int .i64 ((rd_T30 l0_4 x50_3).f1), .int .i64 ((rd_T30 l0_4 x50_3).f2), .bool ((rd_T30 l0_4 x50_3).f3.f0), .slice A108_4 ((rd_T30 l0_4 x50_3).f3.f1).length c108_4, .bool ((rd_T30 l0_4 x50_3).f4.f0), .slice A108_6 ((rd_T30 l0_4 x50_3).f4.f1).length c108_6]] (by rfl) rfl rfl (by (try simp only [List.map_toArray, List.map_cons, List.map_nil]); first | done | rfl | (simp only [List.length_drop, List.length_take]; rfl)) ?_
                            with_reducible refine (txn_change.calls ((rd_T30 l0_4 x50_3).f0) ((rd_T30 l0_4 x50_3).f1) ((rd_T30 l0_4 x50_3).f2) ((rd_T30 l0_4 x50_3).f3.f0) _ _ ((rd_T30 l0_4 x50_3).f3.f1) ((rd_T30 l0_4 x50_3).f4.f0) _ _ ((rd_T30 l0_4 x50_3).f4.f1) true _ ?side1 ?side2 ?side3 ?side4 A27.out).mono ?_
                            (case side1 => repeat (first | exact (Kd.C_below HR108_4.out HB.out) | (with_reducible refine Kd.C_alloc ?_ _) | (with_reducible refine Kd.C_drewN ?_ _) | (with_reducible refine Kd.C_drew ?_)))
                            (case side2 => exact HC108_4.out)
                            (case side3 => repeat (first | exact (Kd.C_below HR108_6.out HB.out) | (with_reducible refine Kd.C_alloc ?_ _) | (with_reducible refine Kd.C_drewN ?_ _) | (with_reducible refine Kd.C_drew ?_)))
                            (case side4 => exact HC108_6.out)
                            rintro e w51 ⟨rfl, hb⟩
                            refine ⟨_, rfl, ?_⟩
                            have n0_ := Aside0.mk (blk_below (g := gb105) (o := .cells #[.int .i64 a0_0, .int .i64 a0_1, .int .i64 a0_2, .int .i64 a0_3, .slice (some ad108) l0_4.length c0_4, .slice A0_5 l0_5.length c0_5] 25 (0, 0)) (by (with_reducible repeat (first | refine blk_drewN ?_ _ | refine blk_drew ?_ | refine blk_alloc ?_ _)); exact BK105.out) hb)
                            have n1_ := Aside0.mk (blk_below (g := gb109) (o := .cells #[.int .i64 ((rd_T30 l0_4 x50_3).f0), .int .i64 ((rd_T30 l0_4 x50_3).f1), .int .i64 ((rd_T30 l0_4 x50_3).f2), .bool ((rd_T30 l0_4 x50_3).f3.f0), .slice A108_4 ((rd_T30 l0_4 x50_3).f3.f1).length c108_4, .bool ((rd_T30 l0_4 x50_3).f4.f0), .slice A108_6 ((rd_T30 l0_4 x50_3).f4.f1).length c108_6] 30 (0, 0)) (by (with_reducible repeat (first | refine blk_drewN ?_ _ | refine blk_drew ?_ | refine blk_alloc ?_ _)); exact BK109.out) hb)
                            have n2_ := Aside0.mk (below_step (by repeat (first | (with_reducible first | exact HB.out | apply below_alloc | apply pw_below_drewN | apply below_drew1 | refine below_set ?_ GE105.out | refine below_set ?_ GE109.out) | exact HB.out)) hb)
                            clear BK105
                            clear BK109
                            clear HB
                            have BK105 := n0_
                            have BK109 := n1_
                            have HB := n2_
                            clear n0_ n1_ n2_
                            (try clear hb)
                            (try clear hb2)
                            (try clear hk)
                            (try clear hi)
                            refine hK.out _ _ ⟨(blk_cell BK109.out 0).trans rfl, (blk_cell BK109.out 1).trans rfl, (blk_cell BK109.out 2).trans rfl, (blk_cell BK109.out 3).trans rfl, (blk_cell BK109.out 4).trans rfl, (blk_cell BK109.out 5).trans rfl, (blk_cell BK109.out 6).trans rfl⟩ (fun hHeld => ?_)
                            clear hK K
                            refine norm_ (a' := ?_) ?_ ?_
                            rotate_left
                            · show Act.put _ (some 56) _ = _
                              simp only [Act.put, List.setIfInBounds_toArray, List.set_cons_zero, List.set_cons_succ, i64_w, i32_w]
                              rfl
                            refine pure_ (i := 2) (N := some 57) (v := ?_) (a' := ?_) #[true, true, true, false, false, false, false, false, false, false, false, false, false, false, false, false, false, false, false] rfl rfl (any_of HT_.out (by kernel_rfl)) (fun _ _ _ h => h) (Or.inl ⟨by rfl, ?_⟩) ?_ ?_
                            rotate_left
                            · intro w'
                              go_simp
                              with_reducible rfl
                            rotate_left
                            · simp only [Act.put, List.setIfInBounds_toArray, List.set_cons_zero, List.set_cons_succ, i64_w, i32_w]
                              rfl
                            refine pure_ (i := 3) (N := some 58) (v := ?_) (a' := ?_) #[true, true, true, true, false, false, false, false, false, false, false, false, false, false, false, false, false, false, false] rfl rfl (any_of HT_.out (by kernel_rfl)) (fun _ _ _ h => h) (Or.inl ⟨by rfl, ?_⟩) ?_ ?_
                            rotate_left
                            · intro w'
                              go_simp
                              with_reducible rfl
                            rotate_left
                            · simp only [Act.put, List.setIfInBounds_toArray, List.set_cons_zero, List.set_cons_succ, i64_w, i32_w]
                              rfl
                            refine pure_ (i := 4) (N := some 59) (v := ?_) (a' := ?_) #[true, true, true, true, true, false, false, false, false, false, false, false, false, false, false, false, false, false, false] rfl rfl (any_of HT_.out (by kernel_rfl)) (fun _ _ _ h => h) (Or.inl ⟨by rfl, ?_⟩) ?_ ?_
                            rotate_left
                            · intro w'
                              go_simp
                              with_reducible rfl
                            rotate_left
                            · simp only [Act.put, List.setIfInBounds_toArray, List.set_cons_zero, List.set_cons_succ, i64_w, i32_w]
                              rfl
                            refine pure_ (i := 5) (N := some 60) (v := ?_) (a' := ?_) #[true, true, true, true, true, true, false, false, false, false, false, false, false, false, false, false, false, false, false] rfl rfl (any_of HT_.out (by kernel_rfl)) (fun _ _ _ h => h) (Or.inl ⟨by rfl, ?_⟩) ?_ ?_
                            rotate_left
                            · intro w'
                              go_simp
                              with_reducible rfl
                            rotate_left
                            · simp only [Act.put, List.setIfInBounds_toArray, List.set_cons_zero, List.set_cons_succ, i64_w, i32_w]
                              rfl
                            refine pure_ (i := 6) (N := some 61) (v := ?_) (a' := ?_) #[true, true, true, true, true, true, true, false, false, false, false, false, false, false, false, false, false, false, false] rfl rfl (any_of HT_.out (by kernel_rfl)) (fun _ _ _ h => h) (Or.inl ⟨by rfl, ?_⟩) ?_ ?_
                            rotate_left
                            · intro w'
                              go_simp
                              with_reducible rfl
                            rotate_left
                            · simp only [Act.put, List.setIfInBounds_toArray, List.set_cons_zero, List.set_cons_succ, i64_w, i32_w]
                              rfl
                            refine pure_ (i := 7) (N := some 62) (v := undef) (a' := ?_) #[true, true, true, true, true, true, true, true, false, false, false, false, false, false, false, false, false, false, false] rfl rfl (any_of HT_.out (by kernel_rfl)) (fun _ _ _ h => h) (Or.inr ⟨by rfl, rfl⟩) ?_ ?_
                            rotate_left
                            · simp only [Act.put, List.setIfInBounds_toArray, List.set_cons_zero, List.set_cons_succ, i64_w, i32_w]
                              rfl
                            refine pure_ (i := 8) (N := some 63) (v := undef) (a' := ?_) #[true, true, true, true, true, true, true, true, true, false, false, false, false, false, false, false, false, false, false] rfl rfl (any_of HT_.out (by kernel_rfl)) (fun _ _ _ h => h) (Or.inr ⟨by rfl, rfl⟩) ?_ ?_
                            rotate_left
                            · simp only [Act.put, List.setIfInBounds_toArray, List.set_cons_zero, List.set_cons_succ, i64_w, i32_w]
                              rfl
                            refine pure_ (i := 9) (N := some 64) (v := undef) (a' := ?_) #[true, true, true, true, true, true, true, true, true, true, false, false, false, false, false, false, false, false, false] rfl rfl (any_of HT_.out (by kernel_rfl)) (fun _ _ _ h => h) (Or.inr ⟨by rfl, rfl⟩) ?_ ?_
                            rotate_left
                            · simp only [Act.put, List.setIfInBounds_toArray, List.set_cons_zero, List.set_cons_succ, i64_w, i32_w]
                              rfl
                            refine pure_ (i := 10) (N := some 65) (v := undef) (a' := ?_) #[true, true, true, true, true, true, true, true, true, true, true, false, false, false, false, false, false, false, false] rfl rfl (any_of HT_.out (by kernel_rfl)) (fun _ _ _ h => h) (Or.inr ⟨by rfl, rfl⟩) ?_ ?_
                            rotate_left
                            · simp only [Act.put, List.setIfInBounds_toArray, List.set_cons_zero, List.set_cons_succ, i64_w, i32_w]
                              rfl
                            refine pure_ (i := 11) (N := some 66) (v := undef) (a' := ?_) #[true, true, true, true, true, true, true, true, true, true, true, true, false, false, false, false, false, false, false] rfl rfl (any_of HT_.out (by kernel_rfl)) (fun _ _ _ h => h) (Or.inr ⟨by rfl, rfl⟩) ?_ ?_
                            rotate_left
                            · simp only [Act.put, List.setIfInBounds_toArray, List.set_cons_zero, List.set_cons_succ, i64_w, i32_w]
                              rfl
                            refine pure_ (i := 12) (N := some 67) (v := undef) (a' := ?_) #[true, true, true, true, true, true, true, true, true, true, true, true, true, false, false, false, false, false, false] rfl rfl (any_of HT_.out (by kernel_rfl)) (fun _ _ _ h => h) (Or.inr ⟨by rfl, rfl⟩) ?_ ?_
                            rotate_left
                            · simp only [Act.put, List.setIfInBounds_toArray, List.set_cons_zero, List.set_cons_succ, i64_w, i32_w]
                              rfl
                            refine pure_ (i := 13) (N := some 68) (v := undef) (a' := ?_) #[true, true, true, true, true, true, true, true, true, true, true, true, true, true, false, false, false, false, false] rfl rfl (any_of HT_.out (by kernel_rfl)) (fun _ _ _ h => h) (Or.inr ⟨by rfl, rfl⟩) ?_ ?_
                            rotate_left
                            · simp only [Act.put, List.setIfInBounds_toArray, List.set_cons_zero, List.set_cons_succ, i64_w, i32_w]
                              rfl
                            refine pure_ (i := 14) (N := some 69) (v := undef) (a' := ?_) #[true, true, true, true, true, true, true, true, true, true, true, true, true, true, true, false, false, false, false] rfl rfl (any_of HT_.out (by kernel_rfl)) (fun _ _ _ h => h) (Or.inr ⟨by rfl, rfl⟩) ?_ ?_
                            rotate_left
                            · simp only [Act.put, List.setIfInBounds_toArray, List.set_cons_zero, List.set_cons_succ, i64_w, i32_w]
                              rfl
                            refine pure_ (i := 15) (N := some 70) (v := undef) (a' := ?_) #[true, true, true, true, true, true, true, true, true, true, true, true, true, true, true, true, false, false, false] rfl rfl (any_of HT_.out (by kernel_rfl)) (fun _ _ _ h => h) (Or.inr ⟨by rfl, rfl⟩) ?_ ?_
                            rotate_left
                            · simp only [Act.put, List.setIfInBounds_toArray, List.set_cons_zero, List.set_cons_succ, i64_w, i32_w]
                              rfl
                            refine pure_ (i := 16) (N := some 71) (v := undef) (a' := ?_) #[true, true, true, true, true, true, true, true, true, true, true, true, true, true, true, true, true, false, false] rfl rfl (any_of HT_.out (by kernel_rfl)) (fun _ _ _ h => h) (Or.inr ⟨by rfl, rfl⟩) ?_ ?_
                            rotate_left
                            · simp only [Act.put, List.setIfInBounds_toArray, List.set_cons_zero, List.set_cons_succ, i64_w, i32_w]
                              rfl
                            refine pure_ (i := 17) (N := some 72) (v := ?_) (a' := ?_) #[true, true, true, true, true, true, true, true, true, true, true, true, true, true, true, true, true, true, false] rfl rfl (any_of HT_.out (by kernel_rfl)) (fun _ _ _ h => h) (Or.inl ⟨by rfl, ?_⟩) ?_ ?_
                            rotate_left
                            · intro w'
                              go_simp
                              with_reducible rfl
                            rotate_left
                            · simp only [Act.put, List.setIfInBounds_toArray, List.set_cons_zero, List.set_cons_succ, i64_w, i32_w]
                              rfl
                            refine pure_ (i := 18) (N := some 73) (v := ?_) (a' := ?_) #[true, true, true, true, true, true, true, true, true, true, true, true, true, true, true, true, true, true, true] rfl rfl (any_of HT_.out (by kernel_rfl)) (fun _ _ _ h => h) (Or.inl ⟨by rfl, ?_⟩) ?_ ?_
                            rotate_left
                            · intro w'
                              go_simp
                              with_reducible rfl
                            rotate_left
                            · simp only [Act.put, List.setIfInBounds_toArray, List.set_cons_zero, List.set_cons_succ, i64_w, i32_w]
                              rfl
                            refine done_ (done_of HT_.out (by kernel_rfl)) ?_
                            try go_wp2
                            go_roundg k3
                            case measure => have := HJ1.out; have := HJ17.out; have := HK3.out; omega
                            case rel => exact ⟨(wrap64 (x50_3 + 1)), (by first | rfl | (simp; done) | (simp [*]; done)), H', ⟨by have := HJ1.out; have := HJ17.out; have := HK3.out; omega⟩, ⟨by (with_reducible repeat (first | refine blk_drewN ?_ _ | refine blk_drew ?_ | refine blk_alloc ?_ _)); exact BK105.out⟩, ⟨by repeat (first | (with_reducible first | exact HB.out | apply below_alloc | apply pw_below_drewN | apply below_drew1 | refine below_set ?_ GE105.out | refine below_set ?_ GE109.out) | exact HB.out)⟩⟩
                        · replace c28 := Bool.eq_false_iff.mpr c28
                          subst c28
                          have H1 : (some false) = some r := by rw [if_neg (show ¬ (false = true) by decide)] at H; exact H
                          clear H
                          have H := H1
                          clear H1
                          obtain rfl := Option.some.inj H
                          have p108 : 0 ≤ (x50_3 : Int) := of_decide_eq_true (by first | (with_reducible assumption) | assumption)
                          have q108 : x50_3 < (l0_4.length : Int) := of_decide_eq_true (by first | (with_reducible assumption) | assumption)
                          obtain ⟨ad108, A108_4, c108_4, A108_6, c108_6, e108, hx108_0, hx108_1, hx108_2, hx108_3, hx108_4, hx108_5, hx108_6, hl108_4, hi108_4, hl108_6, hi108_6⟩ := at_T30 HR0_4.out x50_3 p108 q108
                          cases e108
                          replace hx108_0 := (HB.out.cell (World.block_lt_of_cell? w _ hx108_0)).trans hx108_0
                          replace hx108_1 := (HB.out.cell (World.block_lt_of_cell? w _ hx108_1)).trans hx108_1
                          replace hx108_2 := (HB.out.cell (World.block_lt_of_cell? w _ hx108_2)).trans hx108_2
                          replace hx108_3 := (HB.out.cell (World.block_lt_of_cell? w _ hx108_3)).trans hx108_3
                          replace hx108_4 := (HB.out.cell (World.block_lt_of_cell? w _ hx108_4)).trans hx108_4
                          replace hx108_5 := (HB.out.cell (World.block_lt_of_cell? w _ hx108_5)).trans hx108_5
                          replace hx108_6 := (HB.out.cell (World.block_lt_of_cell? w _ hx108_6)).trans hx108_6
                          have HR108_4 := Aside0.mk hi108_4
                          have HC108_4 := Aside0.mk hl108_4
                          clear hi108_4 hl108_4
                          have HR108_6 := Aside0.mk hi108_6
                          have HC108_6 := Aside0.mk hl108_6
                          clear hi108_6 hl108_6
                          replace p108 := eq_true p108
                          replace q108 := eq_true q108
                          try go_wp2_with (first | ((with_reducible refine gate_dst (N := 4) rfl ?_); (try (refine gate_guard (by rfl) ?_; dsimp only)); refine box_event ?hg (N := 4) ?hd (cs := #[.int .i64 0, .int .i64 0, .int .i64 0, .bool false, .slice none 0 0, .bool false, .slice none 0 0]) (t := 30) ?hr ?_; (case hd => rfl); (case hg => rfl); (case hr => first | (go_simp; done) | (go_simp; rfl)); intro gb109 hg w52 hbox hb; have n0_ := Aside0.mk (blk_below (g := gb105) (o := .cells #[.int .i64 a0_0, .int .i64 a0_1, .int .i64 a0_2, .int .i64 a0_3, .slice (some ad108) l0_4.length c0_4, .slice A0_5 l0_5.length c0_5] 25 (0, 0)) (by (with_reducible repeat (first | refine blk_drewN ?_ _ | refine blk_drew ?_ | refine blk_alloc ?_ _)); exact BK105.out) hb); have n1_ := Aside0.mk (below_step (by repeat (first | (with_reducible first | exact HB.out | apply below_alloc | apply pw_below_drewN | apply below_drew1 | refine below_set ?_ GE105.out) | exact HB.out)) hb); have n2_ := Aside0.mk (hbox); have n3_ := Aside0.mk ((by rw [hg]; exact (below_size (by repeat (first | (with_reducible first | exact HB.out | apply below_alloc | apply pw_below_drewN | apply below_drew1 | refine below_set ?_ GE105.out) | exact HB.out))) : w.heap.size ≤ gb109)); have n4_ := Aside0.mk ((by rw [hg]; exact (below_size (by repeat (first | (with_reducible first | exact HB.out | apply below_alloc | apply pw_below_drewN | apply below_drew1 | refine below_set ?_ GE105.out) | exact HB.out))) : w.heap.size ≤ gb109)); have n5_ := Aside0.mk ((by rw [hg]; exact Nat.ne_of_lt (blk_lt (g := gb105) (o := .cells #[.int .i64 a0_0, .int .i64 a0_1, .int .i64 a0_2, .int .i64 a0_3, .slice (some ad108) l0_4.length c0_4, .slice A0_5 l0_5.length c0_5] 25 (0, 0)) (by (with_reducible repeat (first | refine blk_drewN ?_ _ | refine blk_drew ?_ | refine blk_alloc ?_ _)); exact BK105.out)) : gb105 ≠ gb109)); have n6_ := Aside0.mk ((by rw [hg]; exact Nat.ne_of_gt (blk_lt (g := gb105) (o := .cells #[.int .i64 a0_0, .int .i64 a0_1, .int .i64 a0_2, .int .i64 a0_3, .slice (some ad108) l0_4.length c0_4, .slice A0_5 l0_5.length c0_5] 25 (0, 0)) (by (with_reducible repeat (first | refine blk_drewN ?_ _ | refine blk_drew ?_ | refine blk_alloc ?_ _)); exact BK105.out)) : gb109 ≠ gb105)); clear BK105; clear HB; have BK105 := n0_; have HB := n1_; have BK109 := n2_; have GW109 := n3_; have GE109 := n4_; have NB105_109 := n5_; have NB109_105 := n6_; clear n0_ n1_ n2_ n3_ n4_ n5_ n6_; clear hb hbox hg; have hnb53 := NB109_105.out; have hnc53 := NB105_109.out; have hcz54_0 : w52.cell? ⟨gb109, 0, none⟩ = some (.int .i64 0) := (blk_cell BK109.out 0).trans rfl; have hcz54_1 : w52.cell? ⟨gb109, 1, none⟩ = some (.int .i64 0) := (blk_cell BK109.out 1).trans rfl; have hcz54_2 : w52.cell? ⟨gb109, 2, none⟩ = some (.int .i64 0) := (blk_cell BK109.out 2).trans rfl; have hcz54_3 : w52.cell? ⟨gb109, 3, none⟩ = some (.bool false) := (blk_cell BK109.out 3).trans rfl; have hcz54_4 : w52.cell? ⟨gb109, 4, none⟩ = some (.slice none 0 0) := (blk_cell BK109.out 4).trans rfl; have hcz54_5 : w52.cell? ⟨gb109, 5, none⟩ = some (.bool false) := (blk_cell BK109.out 5).trans rfl; have hcz54_6 : w52.cell? ⟨gb109, 6, none⟩ = some (.slice none 0 0) := (blk_cell BK109.out 6).trans rfl; have hfz54_0 := blk_frozen BK109.out 0; have hfz54_1 := blk_frozen BK109.out 1; have hfz54_2 := blk_frozen BK109.out 2; have hfz54_3 := blk_frozen BK109.out 3; have hfz54_4 := blk_frozen BK109.out 4; have hfz54_5 := blk_frozen BK109.out 5; have hfz54_6 := blk_frozen BK109.out 6))
                          have n0_ : Aside0 ((((((((w52.setCell ⟨gb109, 0, none⟩ (.int .i64 ((rd_T30 l0_4 x50_3).f0))).setCell ⟨gb109, 1, none⟩ (.int .i64 ((rd_T30 l0_4 x50_3).f1))).setCell ⟨gb109, 2, none⟩ (.int .i64 ((rd_T30 l0_4 x50_3).f2))).setCell ⟨gb109, 3, none⟩ (.bool ((rd_T30 l0_4 x50_3).f3.f0))).setCell ⟨gb109, 4, none⟩ (.slice A108_4 ((rd_T30 l0_4 x50_3).f3.f1).length c108_4)).setCell ⟨gb109, 5, none⟩ (.bool ((rd_T30 l0_4 x50_3).f4.f0))).setCell ⟨gb109, 6, none⟩ (.slice A108_6 ((rd_T30 l0_4 x50_3).f4.f1).length c108_6)).heap[gb105]? = some (.cells #[.int .i64 a0_0, .int .i64 a0_1, .int .i64 a0_2, .int .i64 a0_3, .slice (some ad108) l0_4.length c0_4, .slice A0_5 l0_5.length c0_5] 25 (0, 0))) := ⟨by (with_reducible repeat (first | refine blk_drewN ?_ _ | refine blk_drew ?_ | refine blk_alloc ?_ _)); refine blk_far ?_ NB105_109.out _; (with_reducible repeat (first | refine blk_drewN ?_ _ | refine blk_drew ?_ | refine blk_alloc ?_ _)); refine blk_far ?_ NB105_109.out _; (with_reducible repeat (first | refine blk_drewN ?_ _ | refine blk_drew ?_ | refine blk_alloc ?_ _)); refine blk_far ?_ NB105_109.out _; (with_reducible repeat (first | refine blk_drewN ?_ _ | refine blk_drew ?_ | refine blk_alloc ?_ _)); refine blk_far ?_ NB105_109.out _; (with_reducible repeat (first | refine blk_drewN ?_ _ | refine blk_drew ?_ | refine blk_alloc ?_ _)); refine blk_far ?_ NB105_109.out _; (with_reducible repeat (first | refine blk_drewN ?_ _ | refine blk_drew ?_ | refine blk_alloc ?_ _)); refine blk_far ?_ NB105_109.out _; (with_reducible repeat (first | refine blk_drewN ?_ _ | refine blk_drew ?_ | refine blk_alloc ?_ _)); refine blk_far ?_ NB105_109.out _; (with_reducible repeat (first | refine blk_drewN ?_ _ | refine blk_drew ?_ | refine blk_alloc ?_ _)); exact BK105.out⟩
                          have n1_ : Aside0 ((((((((w52.setCell ⟨gb109, 0, none⟩ (.int .i64 ((rd_T30 l0_4 x50_3).f0))).setCell ⟨gb109, 1, none⟩ (.int .i64 ((rd_T30 l0_4 x50_3).f1))).setCell ⟨gb109, 2, none⟩ (.int .i64 ((rd_T30 l0_4 x50_3).f2))).setCell ⟨gb109, 3, none⟩ (.bool ((rd_T30 l0_4 x50_3).f3.f0))).setCell ⟨gb109, 4, none⟩ (.slice A108_4 ((rd_T30 l0_4 x50_3).f3.f1).length c108_4)).setCell ⟨gb109, 5, none⟩ (.bool ((rd_T30 l0_4 x50_3).f4.f0))).setCell ⟨gb109, 6, none⟩ (.slice A108_6 ((rd_T30 l0_4 x50_3).f4.f1).length c108_6)).heap[gb109]? = some (.cells #[.int .i64 ((rd_T30 l0_4 x50_3).f0), .int .i64 ((rd_T30 l0_4 x50_3).f1), .int .i64 ((rd_T30 l0_4 x50_3).f2), .bool ((rd_T30 l0_4 x50_3).f3.f0), .slice A108_4 ((rd_T30 l0_4 x50_3).f3.f1).length c108_4, .bool ((rd_T30 l0_4 x50_3).f4.f0), .slice A108_6 ((rd_T30 l0_4 x50_3).f4.f1).length c108_6] 30 (0, 0))) := ⟨by (with_reducible repeat (first | refine blk_drewN ?_ _ | refine blk_drew ?_ | refine blk_alloc ?_ _)); refine blk_put (cs := #[.int .i64 ((rd_T30 l0_4 x50_3).f0), .int .i64 ((rd_T30 l0_4 x50_3).f1), .int .i64 ((rd_T30 l0_4 x50_3).f2), .bool ((rd_T30 l0_4 x50_3).f3.f0), .slice A108_4 ((rd_T30 l0_4 x50_3).f3.f1).length c108_4, .bool ((rd_T30 l0_4 x50_3).f4.f0), .slice none 0 0]) ?_ 6 _ rfl; (with_reducible repeat (first | refine blk_drewN ?_ _ | refine blk_drew ?_ | refine blk_alloc ?_ _)); refine blk_put (cs := #[.int .i64 ((rd_T30 l0_4 x50_3).f0), .int .i64 ((rd_T30 l0_4 x50_3).f1), .int .i64 ((rd_T30 l0_4 x50_3).f2), .bool ((rd_T30 l0_4 x50_3).f3.f0), .slice A108_4 ((rd_T30 l0_4 x50_3).f3.f1).length c108_4, .bool false, .slice none 0 0]) ?_ 5 _ rfl; (with_reducible repeat (first | refine blk_drewN ?_ _ | refine blk_drew ?_ | refine blk_alloc ?_ _)); refine blk_put (cs := #[.int .i64 ((rd_T30 l0_4 x50_3).f0), .int .i64 ((rd_T30 l0_4 x50_3).f1), .int .i64 ((rd_T30 l0_4 x50_3).f2), .bool ((rd_T30 l0_4 x50_3).f3.f0), .slice none 0 0, .bool false, .slice none 0 0]) ?_ 4 _ rfl; (with_reducible repeat (first | refine blk_drewN ?_ _ | refine blk_drew ?_ | refine blk_alloc ?_ _)); refine blk_put (cs := #[.int .i64 ((rd_T30 l0_4 x50_3).f0), .int .i64 ((rd_T30 l0_4 x50_3).f1), .int .i64 ((rd_T30 l0_4 x50_3).f2), .bool false, .slice none 0 0, .bool false, .slice none 0 0]) ?_ 3 _ rfl; (with_reducible repeat (first | refine blk_drewN ?_ _ | refine blk_drew ?_ | refine blk_alloc ?_ _)); refine blk_put (cs := #[.int .i64 ((rd_T30 l0_4 x50_3).f0), .int .i64 ((rd_T30 l0_4 x50_3).f1), .int .i64 0, .bool false, .slice none 0 0, .bool false, .slice none 0 0]) ?_ 2 _ rfl; (with_reducible repeat (first | refine blk_drewN ?_ _ | refine blk_drew ?_ | refine blk_alloc ?_ _)); refine blk_put (cs := #[.int .i64 ((rd_T30 l0_4 x50_3).f0), .int .i64 0, .int .i64 0, .bool false, .slice none 0 0, .bool false, .slice none 0 0]) ?_ 1 _ rfl; (with_reducible repeat (first | refine blk_drewN ?_ _ | refine blk_drew ?_ | refine blk_alloc ?_ _)); refine blk_put (cs := #[.int .i64 0, .int .i64 0, .int .i64 0, .bool false, .slice none 0 0, .bool false, .slice none 0 0]) ?_ 0 _ rfl; (with_reducible repeat (first | refine blk_drewN ?_ _ | refine blk_drew ?_ | refine blk_alloc ?_ _)); exact BK109.out⟩
                          have n2_ : Aside0 (Below w.heap.size w (((((((w52.setCell ⟨gb109, 0, none⟩ (.int .i64 ((rd_T30 l0_4 x50_3).f0))).setCell ⟨gb109, 1, none⟩ (.int .i64 ((rd_T30 l0_4 x50_3).f1))).setCell ⟨gb109, 2, none⟩ (.int .i64 ((rd_T30 l0_4 x50_3).f2))).setCell ⟨gb109, 3, none⟩ (.bool ((rd_T30 l0_4 x50_3).f3.f0))).setCell ⟨gb109, 4, none⟩ (.slice A108_4 ((rd_T30 l0_4 x50_3).f3.f1).length c108_4)).setCell ⟨gb109, 5, none⟩ (.bool ((rd_T30 l0_4 x50_3).f4.f0))).setCell ⟨gb109, 6, none⟩ (.slice A108_6 ((rd_T30 l0_4 x50_3).f4.f1).length c108_6))) := ⟨by repeat (first | (with_reducible first | exact HB.out | apply below_alloc | apply pw_below_drewN | apply below_drew1 | refine below_set ?_ GE105.out | refine below_set ?_ GE109.out) | exact HB.out)⟩
                          (try clear BK105)
                          (try clear BK109)
                          (try clear HB)
                          generalize (((((((w52.setCell ⟨gb109, 0, none⟩ (.int .i64 ((rd_T30 l0_4 x50_3).f0))).setCell ⟨gb109, 1, none⟩ (.int .i64 ((rd_T30 l0_4 x50_3).f1))).setCell ⟨gb109, 2, none⟩ (.int .i64 ((rd_T30 l0_4 x50_3).f2))).setCell ⟨gb109, 3, none⟩ (.bool ((rd_T30 l0_4 x50_3).f3.f0))).setCell ⟨gb109, 4, none⟩ (.slice A108_4 ((rd_T30 l0_4 x50_3).f3.f1).length c108_4)).setCell ⟨gb109, 5, none⟩ (.bool ((rd_T30 l0_4 x50_3).f4.f0))).setCell ⟨gb109, 6, none⟩ (.slice A108_6 ((rd_T30 l0_4 x50_3).f4.f1).length c108_6)) = w55 at n0_ n1_ n2_ ⊢
                          have BK105 := n0_
                          have BK109 := n1_
                          have HB := n2_
                          clear n0_ n1_ n2_
                          have n0_ := Aside0.mk (blk_drew BK105.out)
                          have n1_ := Aside0.mk (blk_drew BK109.out)
                          have n2_ := Aside0.mk (below_drew1 HB.out)
                          clear BK105
                          clear BK109
                          clear HB
                          have BK105 := n0_
                          have BK109 := n1_
                          have HB := n2_
                          clear n0_ n1_ n2_
                          refine start_ (n := 19) (S := fun w' => w'.cell? ⟨gb109, 0, none⟩ = some (.int .i64 ((rd_T30 l0_4 x50_3).f0)) ∧ w'.cell? ⟨gb109, 1, none⟩ = some (.int .i64 ((rd_T30 l0_4 x50_3).f1)) ∧ w'.cell? ⟨gb109, 2, none⟩ = some (.int .i64 ((rd_T30 l0_4 x50_3).f2)) ∧ w'.cell? ⟨gb109, 3, none⟩ = some (.bool ((rd_T30 l0_4 x50_3).f3.f0)) ∧ w'.cell? ⟨gb109, 4, none⟩ = some (.slice A108_4 ((rd_T30 l0_4 x50_3).f3.f1).length c108_4) ∧ w'.cell? ⟨gb109, 5, none⟩ = some (.bool ((rd_T30 l0_4 x50_3).f4.f0)) ∧ w'.cell? ⟨gb109, 6, none⟩ = some (.slice A108_6 ((rd_T30 l0_4 x50_3).f4.f1).length c108_6)) (ds := []) #[false, false, false, false, false, false, false, false, false, false, false, false, false, false, false, false, false, false, false] (by kernel_rfl) rfl rfl ⟨(blk_cell BK109.out 0).trans rfl, (blk_cell BK109.out 1).trans rfl, (blk_cell BK109.out 2).trans rfl, (blk_cell BK109.out 3).trans rfl, (blk_cell BK109.out 4).trans rfl, (blk_cell BK109.out 5).trans rfl, (blk_cell BK109.out 6).trans rfl⟩ (fun hHeld => ?_); refine with_tabW txn_May.tab8 txn_May.bits8 (fun HT_ HW_ => ?_)
                          generalize w55.drew = w56 at BK105 BK109 HB hHeld ⊢
                          refine take_ (i := 0) (N := some 55) (v := ?_) (a' := ?_) #[true, false, false, false, false, false, false, false, false, false, false, false, false, false, false, false, false, false, false] rfl rfl (take_ofW HT_.out HW_.out (by kernel_rfl)) (fun _ _ _ h => h) (Or.inl ⟨by rfl, ?_⟩) hHeld ?_ ?_
                          rotate_left
                          · rintro w' ⟨s0, s1, s2, s3, s4, s5, s6⟩
                            go_simp
                            with_reducible rfl
                          rotate_left
                          · simp only [Act.put, List.setIfInBounds_toArray, List.set_cons_zero, List.set_cons_succ, i64_w, i32_w]
                            rfl
                          refine one_ (i := 1) (N := some 56) #[true, true, false, false, false, false, false, false, false, false, false, false, false, false, false, false, false, false, false] rfl rfl (one_of HT_.out (by kernel_rfl)) (by decide) (fun K hK => ?_)
                          refine goes_ Try.func31 (by kernel_rfl) rfl #[.agg #[.int .i64 ((rd_T30 l0_4 x50_3).f0), .int .i64 ((rd_T30 l0_4 x50_3).f1), .int .i64 ((rd_T30 l0_4 x50_3).f2), .bool ((rd_T30 l0_4 x50_3).f3.f0), .slice A108_4 ((rd_T30 l0_4 x50_3).f3.f1).length c108_4, .bool ((rd_T30 l0_4 x50_3).f4.f0), .slice A108_6 ((rd_T30 l0_4 x50_3).f4.f1).length c108_6]] (by rfl) rfl rfl (by (try simp only [List.map_toArray, List.map_cons, List.map_nil]); first | done | rfl | (simp only [List.length_drop, List.length_take]; rfl)) ?_
                          with_reducible refine (txn_change.calls ((rd_T30 l0_4 x50_3).f0) ((rd_T30 l0_4 x50_3).f1) ((rd_T30 l0_4 x50_3).f2) ((rd_T30 l0_4 x50_3).f3.f0) _ _ ((rd_T30 l0_4 x50_3).f3.f1) ((rd_T30 l0_4 x50_3).f4.f0) _ _ ((rd_T30 l0_4 x50_3).f4.f1) false _ ?side1 ?side2 ?side3 ?side4 A27.out).mono ?_
                          (case side1 => repeat (first | exact (Kd.C_below HR108_4.out HB.out) | (with_reducible refine Kd.C_alloc ?_ _) | (with_reducible refine Kd.C_drewN ?_ _) | (with_reducible refine Kd.C_drew ?_)))
                          (case side2 => exact HC108_4.out)
                          (case side3 => repeat (first | exact (Kd.C_below HR108_6.out HB.out) | (with_reducible refine Kd.C_alloc ?_ _) | (with_reducible refine Kd.C_drewN ?_ _) | (with_reducible refine Kd.C_drew ?_)))
                          (case side4 => exact HC108_6.out)
                          rintro e w57 ⟨rfl, hb⟩
                          refine ⟨_, rfl, ?_⟩
                          have n0_ := Aside0.mk (blk_below (g := gb105) (o := .cells #[.int .i64 a0_0, .int .i64 a0_1, .int .i64 a0_2, .int .i64 a0_3, .slice (some ad108) l0_4.length c0_4, .slice A0_5 l0_5.length c0_5] 25 (0, 0)) (by (with_reducible repeat (first | refine blk_drewN ?_ _ | refine blk_drew ?_ | refine blk_alloc ?_ _)); exact BK105.out) hb)
                          have n1_ := Aside0.mk (blk_below (g := gb109) (o := .cells #[.int .i64 ((rd_T30 l0_4 x50_3).f0), .int .i64 ((rd_T30 l0_4 x50_3).f1), .int .i64 ((rd_T30 l0_4 x50_3).f2), .bool ((rd_T30 l0_4 x50_3).f3.f0), .slice A108_4 ((rd_T30 l0_4 x50_3).f3.f1).length c108_4, .bool ((rd_T30 l0_4 x50_3).f4.f0), .slice A108_6 ((rd_T30 l0_4 x50_3).f4.f1).length c108_6] 30 (0, 0)) (by (with_reducible repeat (first | refine blk_drewN ?_ _ | refine blk_drew ?_ | refine blk_alloc ?_ _)); exact BK109.out) hb)
                          have n2_ := Aside0.mk (below_step (by repeat (first | (with_reducible first | exact HB.out | apply below_alloc | apply pw_below_drewN | apply below_drew1 | refine below_set ?_ GE105.out | refine below_set ?_ GE109.out) | exact HB.out)) hb)
                          clear BK105
                          clear BK109
                          clear HB
                          have BK105 := n0_
                          have BK109 := n1_
                          have HB := n2_
                          clear n0_ n1_ n2_
                          (try clear hb)
                          (try clear hb2)
                          (try clear hk)
                          (try clear hi)
                          refine hK.out _ _ ⟨(blk_cell BK109.out 0).trans rfl, (blk_cell BK109.out 1).trans rfl, (blk_cell BK109.out 2).trans rfl, (blk_cell BK109.out 3).trans rfl, (blk_cell BK109.out 4).trans rfl, (blk_cell BK109.out 5).trans rfl, (blk_cell BK109.out 6).trans rfl⟩ (fun hHeld => ?_)
                          clear hK K
                          refine norm_ (a' := ?_) ?_ ?_
                          rotate_left
                          · show Act.put _ (some 56) _ = _
                            simp only [Act.put, List.setIfInBounds_toArray, List.set_cons_zero, List.set_cons_succ, i64_w, i32_w]
                            rfl
                          refine pure_ (i := 2) (N := some 57) (v := ?_) (a' := ?_) #[true, true, true, false, false, false, false, false, false, false, false, false, false, false, false, false, false, false, false] rfl rfl (any_of HT_.out (by kernel_rfl)) (fun _ _ _ h => h) (Or.inl ⟨by rfl, ?_⟩) ?_ ?_
                          rotate_left
                          · intro w'
                            go_simp
                            with_reducible rfl
                          rotate_left
                          · simp only [Act.put, List.setIfInBounds_toArray, List.set_cons_zero, List.set_cons_succ, i64_w, i32_w]
                            rfl
                          refine pure_ (i := 3) (N := some 58) (v := ?_) (a' := ?_) #[true, true, true, true, false, false, false, false, false, false, false, false, false, false, false, false, false, false, false] rfl rfl (any_of HT_.out (by kernel_rfl)) (fun _ _ _ h => h) (Or.inl ⟨by rfl, ?_⟩) ?_ ?_
                          rotate_left
                          · intro w'
                            go_simp
                            with_reducible rfl
                          rotate_left
                          · simp only [Act.put, List.setIfInBounds_toArray, List.set_cons_zero, List.set_cons_succ, i64_w, i32_w]
                            rfl
                          refine pure_ (i := 4) (N := some 59) (v := undef) (a' := ?_) #[true, true, true, true, true, false, false, false, false, false, false, false, false, false, false, false, false, false, false] rfl rfl (any_of HT_.out (by kernel_rfl)) (fun _ _ _ h => h) (Or.inr ⟨by rfl, rfl⟩) ?_ ?_
                          rotate_left
                          · simp only [Act.put, List.setIfInBounds_toArray, List.set_cons_zero, List.set_cons_succ, i64_w, i32_w]
                            rfl
                          refine pure_ (i := 5) (N := some 60) (v := undef) (a' := ?_) #[true, true, true, true, true, true, false, false, false, false, false, false, false, false, false, false, false, false, false] rfl rfl (any_of HT_.out (by kernel_rfl)) (fun _ _ _ h => h) (Or.inr ⟨by rfl, rfl⟩) ?_ ?_
                          rotate_left
                          · simp only [Act.put, List.setIfInBounds_toArray, List.set_cons_zero, List.set_cons_succ, i64_w, i32_w]
                            rfl
                          refine pure_ (i := 6) (N := some 61) (v := undef) (a' := ?_) #[true, true, true, true, true, true, true, false, false, false, false, false, false, false, false, false, false, false, false] rfl rfl (any_of HT_.out (by kernel_rfl)) (fun _ _ _ h => h) (Or.inr ⟨by rfl, rfl⟩) ?_ ?_
                          rotate_left
                          · simp only [Act.put, List.setIfInBounds_toArray, List.set_cons_zero, List.set_cons_succ, i64_w, i32_w]
                            rfl
                          refine pure_ (i := 7) (N := some 62) (v := undef) (a' := ?_) #[true, true, true, true, true, true, true, true, false, false, false, false, false, false, false, false, false, false, false] rfl rfl (any_of HT_.out (by kernel_rfl)) (fun _ _ _ h => h) (Or.inr ⟨by rfl, rfl⟩) ?_ ?_
                          rotate_left
                          · simp only [Act.put, List.setIfInBounds_toArray, List.set_cons_zero, List.set_cons_succ, i64_w, i32_w]
                            rfl
                          refine pure_ (i := 8) (N := some 63) (v := undef) (a' := ?_) #[true, true, true, true, true, true, true, true, true, false, false, false, false, false, false, false, false, false, false] rfl rfl (any_of HT_.out (by kernel_rfl)) (fun _ _ _ h => h) (Or.inr ⟨by rfl, rfl⟩) ?_ ?_
                          rotate_left
                          · simp only [Act.put, List.setIfInBounds_toArray, List.set_cons_zero, List.set_cons_succ, i64_w, i32_w]
                            rfl
                          refine pure_ (i := 9) (N := some 64) (v := undef) (a' := ?_) #[true, true, true, true, true, true, true, true, true, true, false, false, false, false, false, false, false, false, false] rfl rfl (any_of HT_.out (by kernel_rfl)) (fun _ _ _ h => h) (Or.inr ⟨by rfl, rfl⟩) ?_ ?_
                          rotate_left
                          · simp only [Act.put, List.setIfInBounds_toArray, List.set_cons_zero, List.set_cons_succ, i64_w, i32_w]
                            rfl
                          refine pure_ (i := 10) (N := some 65) (v := undef) (a' := ?_) #[true, true, true, true, true, true, true, true, true, true, true, false, false, false, false, false, false, false, false] rfl rfl (any_of HT_.out (by kernel_rfl)) (fun _ _ _ h => h) (Or.inr ⟨by rfl, rfl⟩) ?_ ?_
                          rotate_left
                          · simp only [Act.put, List.setIfInBounds_toArray, List.set_cons_zero, List.set_cons_succ, i64_w, i32_w]
                            rfl
                          refine pure_ (i := 11) (N := some 66) (v := undef) (a' := ?_) #[true, true, true, true, true, true, true, true, true, true, true, true, false, false, false, false, false, false, false] rfl rfl (any_of HT_.out (by kernel_rfl)) (fun _ _ _ h => h) (Or.inr ⟨by rfl, rfl⟩) ?_ ?_
                          rotate_left
                          · simp only [Act.put, List.setIfInBounds_toArray, List.set_cons_zero, List.set_cons_succ, i64_w, i32_w]
                            rfl
                          refine pure_ (i := 12) (N := some 67) (v := undef) (a' := ?_) #[true, true, true, true, true, true, true, true, true, true, true, true, true, false, false, false, false, false, false] rfl rfl (any_of HT_.out (by kernel_rfl)) (fun _ _ _ h => h) (Or.inr ⟨by rfl, rfl⟩) ?_ ?_
                          rotate_left
                          · simp only [Act.put, List.setIfInBounds_toArray, List.set_cons_zero, List.set_cons_succ, i64_w, i32_w]
                            rfl
                          refine pure_ (i := 13) (N := some 68) (v := undef) (a' := ?_) #[true, true, true, true, true, true, true, true, true, true, true, true, true, true, false, false, false, false, false] rfl rfl (any_of HT_.out (by kernel_rfl)) (fun _ _ _ h => h) (Or.inr ⟨by rfl, rfl⟩) ?_ ?_
                          rotate_left
                          · simp only [Act.put, List.setIfInBounds_toArray, List.set_cons_zero, List.set_cons_succ, i64_w, i32_w]
                            rfl
                          refine pure_ (i := 14) (N := some 69) (v := undef) (a' := ?_) #[true, true, true, true, true, true, true, true, true, true, true, true, true, true, true, false, false, false, false] rfl rfl (any_of HT_.out (by kernel_rfl)) (fun _ _ _ h => h) (Or.inr ⟨by rfl, rfl⟩) ?_ ?_
                          rotate_left
                          · simp only [Act.put, List.setIfInBounds_toArray, List.set_cons_zero, List.set_cons_succ, i64_w, i32_w]
                            rfl
                          refine pure_ (i := 15) (N := some 70) (v := undef) (a' := ?_) #[true, true, true, true, true, true, true, true, true, true, true, true, true, true, true, true, false, false, false] rfl rfl (any_of HT_.out (by kernel_rfl)) (fun _ _ _ h => h) (Or.inr ⟨by rfl, rfl⟩) ?_ ?_
                          rotate_left
                          · simp only [Act.put, List.setIfInBounds_toArray, List.set_cons_zero, List.set_cons_succ, i64_w, i32_w]
                            rfl
                          refine pure_ (i := 16) (N := some 71) (v := undef) (a' := ?_) #[true, true, true, true, true, true, true, true, true, true, true, true, true, true, true, true, true, false, false] rfl rfl (any_of HT_.out (by kernel_rfl)) (fun _ _ _ h => h) (Or.inr ⟨by rfl, rfl⟩) ?_ ?_
                          rotate_left
                          · simp only [Act.put, List.setIfInBounds_toArray, List.set_cons_zero, List.set_cons_succ, i64_w, i32_w]
                            rfl
                          refine pure_ (i := 17) (N := some 72) (v := undef) (a' := ?_) #[true, true, true, true, true, true, true, true, true, true, true, true, true, true, true, true, true, true, false] rfl rfl (any_of HT_.out (by kernel_rfl)) (fun _ _ _ h => h) (Or.inr ⟨by rfl, rfl⟩) ?_ ?_
                          rotate_left
                          · simp only [Act.put, List.setIfInBounds_toArray, List.set_cons_zero, List.set_cons_succ, i64_w, i32_w]
                            rfl
                          refine pure_ (i := 18) (N := some 73) (v := ?_) (a' := ?_) #[true, true, true, true, true, true, true, true, true, true, true, true, true, true, true, true, true, true, true] rfl rfl (any_of HT_.out (by kernel_rfl)) (fun _ _ _ h => h) (Or.inl ⟨by rfl, ?_⟩) ?_ ?_
                          rotate_left
                          · intro w'
                            go_simp
                            with_reducible rfl
                          rotate_left
                          · simp only [Act.put, List.setIfInBounds_toArray, List.set_cons_zero, List.set_cons_succ, i64_w, i32_w]
                            rfl
                          refine done_ (done_of HT_.out (by kernel_rfl)) ?_
                          try go_wp2
                          go_ret
                          exact ⟨by first | rfl | (simp [errW_none, errW_some] <;> rfl) | (simp [*, errW_none, errW_some] <;> rfl), by repeat (first | (with_reducible first | exact HB.out | apply below_alloc | apply pw_below_drewN | apply below_drew1 | refine below_set ?_ GE105.out | refine below_set ?_ GE109.out) | exact HB.out)⟩
                      · rw [if_neg c26] at H
                        exact absurd H (by simp)
                    · rw [if_neg c25] at H
                      exact absurd H (by simp)
                  · rw [if_neg c24] at H
                    have c24b0 : decide (x50_3 < (l0_4.length : Int)) = false := decide_eq_false c24
                    clear c24
                    have H' := Aside0.mk H
                    clear H
                    have hcz58_0 : wr.cell? ⟨gb105, 0, none⟩ = some (.int .i64 a0_0) := (blk_cell BK105.out 0).trans rfl
                    have hcz58_1 : wr.cell? ⟨gb105, 1, none⟩ = some (.int .i64 a0_1) := (blk_cell BK105.out 1).trans rfl
                    have hcz58_2 : wr.cell? ⟨gb105, 2, none⟩ = some (.int .i64 a0_2) := (blk_cell BK105.out 2).trans rfl
                    have hcz58_3 : wr.cell? ⟨gb105, 3, none⟩ = some (.int .i64 a0_3) := (blk_cell BK105.out 3).trans rfl
                    have hcz58_4 : wr.cell? ⟨gb105, 4, none⟩ = some (.slice A0_4 l0_4.length c0_4) := (blk_cell BK105.out 4).trans rfl
                    have hcz58_5 : wr.cell? ⟨gb105, 5, none⟩ = some (.slice A0_5 l0_5.length c0_5) := (blk_cell BK105.out 5).trans rfl
                    have hfz58_0 := blk_frozen BK105.out 0
                    have hfz58_1 := blk_frozen BK105.out 1
                    have hfz58_2 := blk_frozen BK105.out 2
                    have hfz58_3 := blk_frozen BK105.out 3
                    have hfz58_4 := blk_frozen BK105.out 4
                    have hfz58_5 := blk_frozen BK105.out 5
                    go_wp2
                    go_loopg [78] k3 (fun kq v78 w' => ∃ (x78_4 : Int), v78 = .int .i64 x78_4 ∧ Aside0 (txn_May.l1 kq l0_5 (l0_5.length : Int) x78_4 a0_0 a0_1 a0_2 a0_3 l0_4 l0_5 = some r) ∧ Aside0 (kq ≤ k3) ∧ Aside0 (w'.heap[gb105]? = some (.cells #[.int .i64 a0_0, .int .i64 a0_1, .int .i64 a0_2, .int .i64 a0_3, (.slice A0_4 l0_4.length c0_4), (.slice A0_5 l0_5.length c0_5)] 25 (0, 0))) ∧ Aside0 (Below w.heap.size w w'))
                    case atStart => exact ⟨(0), (by first | rfl | (simp; done) | (simp [*]; done)), H', ⟨Nat.le_refl _⟩, ⟨by (with_reducible repeat (first | refine blk_drewN ?_ _ | refine blk_drew ?_ | refine blk_alloc ?_ _)); exact BK105.out⟩, ⟨by repeat (first | (with_reducible first | exact HB.out | apply below_alloc | apply pw_below_drewN | apply below_drew1 | refine below_set ?_ GE105.out) | exact HB.out)⟩⟩
                    case round =>
                      clear H'
                      try clear c1
                      try clear p1
                      try clear q1
                      try clear hx1
                      try clear c2
                      try clear p2
                      try clear c3
                      try clear c4
                      try clear c5
                      try clear p6
                      try clear c10
                      try clear p10
                      try clear q10
                      try clear hx10
                      try clear c11
                      try clear p11
                      try clear q11
                      try clear hx11
                      try clear c24
                      try clear c24b0
                      try clear c25
                      try clear c26
                      try clear c28
                      try clear c29
                      try clear c29b0
                      try clear c31
                      try clear c32
                      try clear c47
                      try clear c53
                      try clear hcz48_0
                      try clear hcz48_1
                      try clear hcz48_2
                      try clear hcz48_3
                      try clear hcz48_4
                      try clear hcz48_5
                      try clear hcz48_6
                      try clear hcz54_0
                      try clear hcz54_1
                      try clear hcz54_2
                      try clear hcz54_3
                      try clear hcz54_4
                      try clear hcz54_5
                      try clear hcz54_6
                      try clear hcz58_0
                      try clear hcz58_1
                      try clear hcz58_2
                      try clear hcz58_3
                      try clear hcz58_4
                      try clear hcz58_5
                      try clear hfz48_0
                      try clear hfz48_1
                      try clear hfz48_2
                      try clear hfz48_3
                      try clear hfz48_4
                      try clear hfz48_5
                      try clear hfz48_6
                      try clear hfz54_0
                      try clear hfz54_1
                      try clear hfz54_2
                      try clear hfz54_3
                      try clear hfz54_4
                      try clear hfz54_5
                      try clear hfz54_6
                      try clear hfz58_0
                      try clear hfz58_1
                      try clear hfz58_2
                      try clear hfz58_3
                      try clear hfz58_4
                      try clear hfz58_5
                      try clear hx108_0
                      try clear hx108_1
                      try clear hx108_2
                      try clear hx108_3
                      try clear hx108_4
                      try clear hx108_5
                      try clear hx108_6
                      try clear hx111_0
                      try clear hx111_1
                      try clear hx111_2
                      try clear hx111_3
                      try clear hx111_4
                      try clear hx111_5
                      try clear hx111_6
                      try clear p108
                      try clear p111
                      try clear q108
                      try clear q111
                      obtain ⟨x78_4, rfl, HA, HK4, BK105, HB⟩ := hrel
                      cases gk with
                      | zero => exact absurd HA.out (by first | (intro h_; cases h_; done) | simp [txn_May.l1])
                      | succ k4 =>
                        have H := HA.out
                        clear HA
                        rw [txn_May.l1_eq] at H
                        by_cases c59 : x78_4 < (l0_5.length : Int)
                        · rw [if_pos c59] at H
                          have c59b0 : decide (x78_4 < (l0_5.length : Int)) = true := decide_eq_true c59
                          clear c59
                          by_cases c60 : 0 ≤ x78_4
                          · rw [if_pos c60] at H
                            have c60b0 : decide (0 ≤ x78_4) = true := decide_eq_true c60
                            clear c60
                            by_cases c61 : x78_4 < (l0_5.length : Int)
                            · rw [if_pos c61] at H
                              have c61b0 : decide (x78_4 < (l0_5.length : Int)) = true := decide_eq_true c61
                              clear c61
                              by_cases c62 : (rd l0_5 x78_4) < 0
                              · rw [if_pos c62] at H
                                have c62b0 : decide ((rd l0_5 x78_4) < 0) = true := decide_eq_true c62
                                clear c62
                                obtain rfl := Option.some.inj H
                                have p112 : 0 ≤ (x78_4 : Int) := of_decide_eq_true (by first | (with_reducible assumption) | assumption)
                                have q112 : x78_4 < (l0_5.length : Int) := of_decide_eq_true (by first | (with_reducible assumption) | assumption)
                                obtain ⟨ad112, e112, hx112_0⟩ := Kd.at_int HR0_5.out x78_4 p112 q112
                                cases e112
                                replace hx112_0 := (HB.out.cell (World.block_lt_of_cell? w _ hx112_0)).trans hx112_0
                                replace p112 := eq_true p112
                                replace q112 := eq_true q112
                                go_wp2
                                go_ret
                                exact ⟨by first | rfl | (simp [errW_none, errW_some] <;> rfl) | (simp [*, errW_none, errW_some] <;> rfl), by repeat (first | (with_reducible first | exact HB.out | apply below_alloc | apply pw_below_drewN | apply below_drew1 | refine below_set ?_ GE105.out) | exact HB.out)⟩
                              · rw [if_neg c62] at H
                                have c62b0 : decide ((rd l0_5 x78_4) < 0) = false := decide_eq_false c62
                                clear c62
                                by_cases c63 : (rd l0_5 x78_4) > (l0_4.length : Int)
                                · rw [if_pos c63] at H
                                  have c63b0 : decide ((l0_4.length : Int) < (rd l0_5 x78_4)) = true := decide_eq_true c63
                                  clear c63
                                  obtain rfl := Option.some.inj H
                                  have p112 : 0 ≤ (x78_4 : Int) := of_decide_eq_true (by first | (with_reducible assumption) | assumption)
                                  have q112 : x78_4 < (l0_5.length : Int) := of_decide_eq_true (by first | (with_reducible assumption) | assumption)
                                  obtain ⟨ad112, e112, hx112_0⟩ := Kd.at_int HR0_5.out x78_4 p112 q112
                                  cases e112
                                  replace hx112_0 := (HB.out.cell (World.block_lt_of_cell? w _ hx112_0)).trans hx112_0
                                  replace p112 := eq_true p112
                                  replace q112 := eq_true q112
                                  have hcz64_0 : wr.cell? ⟨gb105, 0, none⟩ = some (.int .i64 a0_0) := (blk_cell BK105.out 0).trans rfl
                                  have hcz64_1 : wr.cell? ⟨gb105, 1, none⟩ = some (.int .i64 a0_1) := (blk_cell BK105.out 1).trans rfl
                                  have hcz64_2 : wr.cell? ⟨gb105, 2, none⟩ = some (.int .i64 a0_2) := (blk_cell BK105.out 2).trans rfl
                                  have hcz64_3 : wr.cell? ⟨gb105, 3, none⟩ = some (.int .i64 a0_3) := (blk_cell BK105.out 3).trans rfl
                                  have hcz64_4 : wr.cell? ⟨gb105, 4, none⟩ = some (.slice A0_4 l0_4.length c0_4) := (blk_cell BK105.out 4).trans rfl
                                  have hcz64_5 : wr.cell? ⟨gb105, 5, none⟩ = some (.slice (some ad112) l0_5.length c0_5) := (blk_cell BK105.out 5).trans rfl
                                  have hfz64_0 := blk_frozen BK105.out 0
                                  have hfz64_1 := blk_frozen BK105.out 1
                                  have hfz64_2 := blk_frozen BK105.out 2
                                  have hfz64_3 := blk_frozen BK105.out 3
                                  have hfz64_4 := blk_frozen BK105.out 4
                                  have hfz64_5 := blk_frozen BK105.out 5
                                  go_wp2
                                  go_ret
                                  exact ⟨by first | rfl | (simp [errW_none, errW_some] <;> rfl) | (simp [*, errW_none, errW_some] <;> rfl), by repeat (first | (with_reducible first | exact HB.out | apply below_alloc | apply pw_below_drewN | apply below_drew1 | refine below_set ?_ GE105.out) | exact HB.out)⟩
                                · rw [if_neg c63] at H
                                  have c63b0 : decide ((l0_4.length : Int) < (rd l0_5 x78_4)) = false := decide_eq_false c63
                                  clear c63
                                  by_cases c65 : x78_4 > 0
                                  · rw [if_pos c65] at H
                                    have c65b0 : decide (0 < x78_4) = true := decide_eq_true c65
                                    clear c65
                                    obtain ⟨ji66, hji66⟩ : ∃ j_ : Int, (wrap64 (x78_4 - 1)) = j_ := ⟨_, rfl⟩
                                    replace H : (if 0 ≤ (ji66) then (if (ji66) < (l0_5.length : Int) then (if (rd l0_5 x78_4) < (rd l0_5 (ji66)) then (some false) else (txn_May.l1 k4 l0_5 (l0_5.length : Int) (wrap64 (x78_4 + 1)) a0_0 a0_1 a0_2 a0_3 l0_4 l0_5)) else (none)) else (none)) = some r := by first | (rw [hji66] at H; exact H) | (simp only [hji66] at H ⊢; exact H)
                                    have hji66w : (IntKind.i64.wrap (x78_4 - 1)) = ji66 := (i64_w _).trans hji66
                                    by_cases c67 : 0 ≤ (ji66)
                                    · rw [if_pos c67] at H
                                      have c67b0 : decide (0 ≤ (ji66)) = true := decide_eq_true c67
                                      clear c67
                                      by_cases c68 : (ji66) < (l0_5.length : Int)
                                      · rw [if_pos c68] at H
                                        have c68b0 : decide ((ji66) < (l0_5.length : Int)) = true := decide_eq_true c68
                                        clear c68
                                        by_cases c69 : (rd l0_5 x78_4) < (rd l0_5 (ji66))
                                        · rw [if_pos c69] at H
                                          have c69b0 : decide ((rd l0_5 x78_4) < (rd l0_5 (ji66))) = true := decide_eq_true c69
                                          clear c69
                                          obtain rfl := Option.some.inj H
                                          have p112 : 0 ≤ (x78_4 : Int) := of_decide_eq_true (by first | (with_reducible assumption) | assumption)
                                          have q112 : x78_4 < (l0_5.length : Int) := of_decide_eq_true (by first | (with_reducible assumption) | assumption)
                                          obtain ⟨ad112, e112, hx112_0⟩ := Kd.at_int HR0_5.out x78_4 p112 q112
                                          cases e112
                                          replace hx112_0 := (HB.out.cell (World.block_lt_of_cell? w _ hx112_0)).trans hx112_0
                                          replace p112 := eq_true p112
                                          replace q112 := eq_true q112
                                          have hcz70_0 : wr.cell? ⟨gb105, 0, none⟩ = some (.int .i64 a0_0) := (blk_cell BK105.out 0).trans rfl
                                          have hcz70_1 : wr.cell? ⟨gb105, 1, none⟩ = some (.int .i64 a0_1) := (blk_cell BK105.out 1).trans rfl
                                          have hcz70_2 : wr.cell? ⟨gb105, 2, none⟩ = some (.int .i64 a0_2) := (blk_cell BK105.out 2).trans rfl
                                          have hcz70_3 : wr.cell? ⟨gb105, 3, none⟩ = some (.int .i64 a0_3) := (blk_cell BK105.out 3).trans rfl
                                          have hcz70_4 : wr.cell? ⟨gb105, 4, none⟩ = some (.slice A0_4 l0_4.length c0_4) := (blk_cell BK105.out 4).trans rfl
                                          have hcz70_5 : wr.cell? ⟨gb105, 5, none⟩ = some (.slice (some ad112) l0_5.length c0_5) := (blk_cell BK105.out 5).trans rfl
                                          have hfz70_0 := blk_frozen BK105.out 0
                                          have hfz70_1 := blk_frozen BK105.out 1
                                          have hfz70_2 := blk_frozen BK105.out 2
                                          have hfz70_3 := blk_frozen BK105.out 3
                                          have hfz70_4 := blk_frozen BK105.out 4
                                          have hfz70_5 := blk_frozen BK105.out 5
                                          have p113 : 0 ≤ ((ji66) : Int) := of_decide_eq_true (by first | (with_reducible assumption) | assumption)
                                          have q113 : (ji66) < (l0_5.length : Int) := of_decide_eq_true (by first | (with_reducible assumption) | assumption)
                                          obtain ⟨ad113, e113, hx113_0⟩ := Kd.at_int HR0_5.out (ji66) p113 q113
                                          obtain rfl : ad112 = ad113 := (by injection e113)
                                          replace hx113_0 := (HB.out.cell (World.block_lt_of_cell? w _ hx113_0)).trans hx113_0
                                          replace p113 := eq_true p113
                                          replace q113 := eq_true q113
                                          go_wp2
                                          go_ret
                                          exact ⟨by first | rfl | (simp [errW_none, errW_some] <;> rfl) | (simp only [← hji66]; first | rfl | (simp [errW_none, errW_some] <;> rfl)) | (simp [*, errW_none, errW_some] <;> rfl), by repeat (first | (with_reducible first | exact HB.out | apply below_alloc | apply pw_below_drewN | apply below_drew1 | refine below_set ?_ GE105.out) | exact HB.out)⟩
                                        · rw [if_neg c69] at H
                                          have c69b0 : decide ((rd l0_5 x78_4) < (rd l0_5 (ji66))) = false := decide_eq_false c69
                                          clear c69
                                          have H' := Aside0.mk H
                                          clear H
                                          have p112 : 0 ≤ (x78_4 : Int) := of_decide_eq_true (by first | (with_reducible assumption) | assumption)
                                          have q112 : x78_4 < (l0_5.length : Int) := of_decide_eq_true (by first | (with_reducible assumption) | assumption)
                                          obtain ⟨ad112, e112, hx112_0⟩ := Kd.at_int HR0_5.out x78_4 p112 q112
                                          cases e112
                                          replace hx112_0 := (HB.out.cell (World.block_lt_of_cell? w _ hx112_0)).trans hx112_0
                                          replace p112 := eq_true p112
                                          replace q112 := eq_true q112
                                          have hcz71_0 : wr.cell? ⟨gb105, 0, none⟩ = some (.int .i64 a0_0) := (blk_cell BK105.out 0).trans rfl
                                          have hcz71_1 : wr.cell? ⟨gb105, 1, none⟩ = some (.int .i64 a0_1) := (blk_cell BK105.out 1).trans rfl
                                          have hcz71_2 : wr.cell? ⟨gb105, 2, none⟩ = some (.int .i64 a0_2) := (blk_cell BK105.out 2).trans rfl
                                          have hcz71_3 : wr.cell? ⟨gb105, 3, none⟩ = some (.int .i64 a0_3) := (blk_cell BK105.out 3).trans rfl
                                          have hcz71_4 : wr.cell? ⟨gb105, 4, none⟩ = some (.slice A0_4 l0_4.length c0_4) := (blk_cell BK105.out 4).trans rfl
                                          have hcz71_5 : wr.cell? ⟨gb105, 5, none⟩ = some (.slice (some ad112) l0_5.length c0_5) := (blk_cell BK105.out 5).trans rfl
                                          have hfz71_0 := blk_frozen BK105.out 0
                                          have hfz71_1 := blk_frozen BK105.out 1
                                          have hfz71_2 := blk_frozen BK105.out 2
                                          have hfz71_3 := blk_frozen BK105.out 3
                                          have hfz71_4 := blk_frozen BK105.out 4
                                          have hfz71_5 := blk_frozen BK105.out 5
                                          have p113 : 0 ≤ ((ji66) : Int) := of_decide_eq_true (by first | (with_reducible assumption) | assumption)
                                          have q113 : (ji66) < (l0_5.length : Int) := of_decide_eq_true (by first | (with_reducible assumption) | assumption)
                                          obtain ⟨ad113, e113, hx113_0⟩ := Kd.at_int HR0_5.out (ji66) p113 q113
                                          obtain rfl : ad112 = ad113 := (by injection e113)
                                          replace hx113_0 := (HB.out.cell (World.block_lt_of_cell? w _ hx113_0)).trans hx113_0
                                          replace p113 := eq_true p113
                                          replace q113 := eq_true q113
                                          go_wp2
                                          go_roundg k4
                                          case measure => have := HJ1.out; have := HJ17.out; have := HK3.out; have := HK4.out; omega
                                          case rel => exact ⟨(wrap64 (x78_4 + 1)), (by first | rfl | (simp; done) | (simp [*]; done)), H', ⟨by have := HJ1.out; have := HJ17.out; have := HK3.out; have := HK4.out; omega⟩, ⟨by (with_reducible repeat (first | refine blk_drewN ?_ _ | refine blk_drew ?_ | refine blk_alloc ?_ _)); exact BK105.out⟩, ⟨by repeat (first | (with_reducible first | exact HB.out | apply below_alloc | apply pw_below_drewN | apply below_drew1 | refine below_set ?_ GE105.out) | exact HB.out)⟩⟩
                                      · rw [if_neg c68] at H
                                        exact absurd H (by simp)
                                    · rw [if_neg c67] at H
                                      exact absurd H (by simp)
                                  · rw [if_neg c65] at H
                                    have c65b0 : decide (0 < x78_4) = false := decide_eq_false c65
                                    clear c65
                                    have H' := Aside0.mk H
                                    clear H
                                    have p112 : 0 ≤ (x78_4 : Int) := of_decide_eq_true (by first | (with_reducible assumption) | assumption)
                                    have q112 : x78_4 < (l0_5.length : Int) := of_decide_eq_true (by first | (with_reducible assumption) | assumption)
                                    obtain ⟨ad112, e112, hx112_0⟩ := Kd.at_int HR0_5.out x78_4 p112 q112
                                    cases e112
                                    replace hx112_0 := (HB.out.cell (World.block_lt_of_cell? w _ hx112_0)).trans hx112_0
                                    replace p112 := eq_true p112
                                    replace q112 := eq_true q112
                                    have hcz72_0 : wr.cell? ⟨gb105, 0, none⟩ = some (.int .i64 a0_0) := (blk_cell BK105.out 0).trans rfl
                                    have hcz72_1 : wr.cell? ⟨gb105, 1, none⟩ = some (.int .i64 a0_1) := (blk_cell BK105.out 1).trans rfl
                                    have hcz72_2 : wr.cell? ⟨gb105, 2, none⟩ = some (.int .i64 a0_2) := (blk_cell BK105.out 2).trans rfl
                                    have hcz72_3 : wr.cell? ⟨gb105, 3, none⟩ = some (.int .i64 a0_3) := (blk_cell BK105.out 3).trans rfl
                                    have hcz72_4 : wr.cell? ⟨gb105, 4, none⟩ = some (.slice A0_4 l0_4.length c0_4) := (blk_cell BK105.out 4).trans rfl
                                    have hcz72_5 : wr.cell? ⟨gb105, 5, none⟩ = some (.slice (some ad112) l0_5.length c0_5) := (blk_cell BK105.out 5).trans rfl
                                    have hfz72_0 := blk_frozen BK105.out 0
                                    have hfz72_1 := blk_frozen BK105.out 1
                                    have hfz72_2 := blk_frozen BK105.out 2
                                    have hfz72_3 := blk_frozen BK105.out 3
                                    have hfz72_4 := blk_frozen BK105.out 4
                                    have hfz72_5 := blk_frozen BK105.out 5
                                    go_wp2
                                    go_roundg k4
                                    case measure => have := HJ1.out; have := HJ17.out; have := HK3.out; have := HK4.out; omega
                                    case rel => exact ⟨(wrap64 (x78_4 + 1)), (by first | rfl | (simp; done) | (simp [*]; done)), H', ⟨by have := HJ1.out; have := HJ17.out; have := HK3.out; have := HK4.out; omega⟩, ⟨by (with_reducible repeat (first | refine blk_drewN ?_ _ | refine blk_drew ?_ | refine blk_alloc ?_ _)); exact BK105.out⟩, ⟨by repeat (first | (with_reducible first | exact HB.out | apply below_alloc | apply pw_below_drewN | apply below_drew1 | refine below_set ?_ GE105.out) | exact HB.out)⟩⟩
                            · rw [if_neg c61] at H
                              exact absurd H (by simp)
                          · rw [if_neg c60] at H
                            exact absurd H (by simp)
                        · rw [if_neg c59] at H
                          have c59b0 : decide (x78_4 < (l0_5.length : Int)) = false := decide_eq_false c59
                          clear c59
                          obtain rfl := Option.some.inj H
                          go_wp2
                          go_ret
                          exact ⟨by first | rfl | (simp [errW_none, errW_some] <;> rfl) | (simp [*, errW_none, errW_some] <;> rfl), by repeat (first | (with_reducible first | exact HB.out | apply below_alloc | apply pw_below_drewN | apply below_drew1 | refine below_set ?_ GE105.out) | exact HB.out)⟩
end Go.Proofs.Ytdbbibndjknafaa.Print
