-- Written by a program of this session (myprint.py over the kit's print.py) out of the translation. Not trusted: Lean checks it.
import Derived.Test.YtdbbibndjknafaaPrint0
import Derived.Test.YtdbbibndjknafaaPrint9
namespace Go.Proofs.Ytdbbibndjknafaa.Print
open Go.RowKit Go.Proofs.YtdbbibndjknafaaW.PrintWords Go.Proofs.YtdbbibndjknafaaW.PrintLast Go.Proofs.YtdbbibndjknafaaW.PrintMore
attribute [local go_sem] max2_int min2_int max_two min_two max_three min_three max_four min_four   -- for this text's walks alone
set_option linter.unusedVariables false
set_option linter.unusedSimpArgs false
mutual
def bobbinref14_Same.j0 : Nat → Bool → Int → Int → Int → Int → List (S30) → List Int → Int → Int → Int → Int → List (S30) → List Int → Option (Bool)
  | 0, _, _, _, _, _, _, _, _, _, _, _, _, _ => none
  | k + 1, x51, x325000, x325001, x325002, x325003, x325004, x325005, x326000, x326001, x326002, x326003, x326004, x326005 => if x51 = true then (some false) else (bobbinref14_Same.l0 k 0 x325000 x325001 x325002 x325003 x325004 x325005 x326000 x326001 x326002 x326003 x326004 x326005)
def bobbinref14_Same.l0 : Nat → Int → Int → Int → Int → Int → List (S30) → List Int → Int → Int → Int → Int → List (S30) → List Int → Option (Bool)
  | 0, _, _, _, _, _, _, _, _, _, _, _, _, _ => none
  | k + 1, x5, x325000, x325001, x325002, x325003, x325004, x325005, x326000, x326001, x326002, x326003, x326004, x326005 => if x5 < (x325004.length : Int) then (if 0 ≤ x5 then (if x5 < (x326004.length : Int) then ((bobbinref14_Changes.f k ((rd_T30 x325004 x5).f0) ((rd_T30 x325004 x5).f1) ((rd_T30 x325004 x5).f2) ((rd_T30 x325004 x5).f3.f0) ((rd_T30 x325004 x5).f3.f1) ((rd_T30 x325004 x5).f4.f0) ((rd_T30 x325004 x5).f4.f1) ((rd_T30 x326004 x5).f0) ((rd_T30 x326004 x5).f1) ((rd_T30 x326004 x5).f2) ((rd_T30 x326004 x5).f3.f0) ((rd_T30 x326004 x5).f3.f1) ((rd_T30 x326004 x5).f4.f0) ((rd_T30 x326004 x5).f4.f1)).bind fun t328 => (if t328 = true then (bobbinref14_Same.l0 k (wrap64 (x5 + 1)) x325000 x325001 x325002 x325003 x325004 x325005 x326000 x326001 x326002 x326003 x326004 x326005) else (some false))) else (none)) else (none)) else (bobbinref14_Same.l1 k 0 x325000 x325001 x325002 x325003 x325004 x325005 x326000 x326001 x326002 x326003 x326004 x326005)
def bobbinref14_Same.l1 : Nat → Int → Int → Int → Int → Int → List (S30) → List Int → Int → Int → Int → Int → List (S30) → List Int → Option (Bool)
  | 0, _, _, _, _, _, _, _, _, _, _, _, _, _ => none
  | k + 1, x7, x325000, x325001, x325002, x325003, x325004, x325005, x326000, x326001, x326002, x326003, x326004, x326005 => if x7 < (x325005.length : Int) then (if 0 ≤ x7 then (if x7 < (x326005.length : Int) then (if (rd x325005 x7) = (rd x326005 x7) then (bobbinref14_Same.l1 k (wrap64 (x7 + 1)) x325000 x325001 x325002 x325003 x325004 x325005 x326000 x326001 x326002 x326003 x326004 x326005) else (some false)) else (none)) else (none)) else (some true)
end
theorem bobbinref14_Same.j0_eq : ∀ (k : Nat) x51 x325000 x325001 x325002 x325003 x325004 x325005 x326000 x326001 x326002 x326003 x326004 x326005, bobbinref14_Same.j0 (k + 1) x51 x325000 x325001 x325002 x325003 x325004 x325005 x326000 x326001 x326002 x326003 x326004 x326005 = (if x51 = true then (some false) else (bobbinref14_Same.l0 k 0 x325000 x325001 x325002 x325003 x325004 x325005 x326000 x326001 x326002 x326003 x326004 x326005)) := fun _ _ _ _ _ _ _ _ _ _ _ _ _ _ => rfl
theorem bobbinref14_Same.l0_eq : ∀ (k : Nat) x5 x325000 x325001 x325002 x325003 x325004 x325005 x326000 x326001 x326002 x326003 x326004 x326005, bobbinref14_Same.l0 (k + 1) x5 x325000 x325001 x325002 x325003 x325004 x325005 x326000 x326001 x326002 x326003 x326004 x326005 = (if x5 < (x325004.length : Int) then (if 0 ≤ x5 then (if x5 < (x326004.length : Int) then ((bobbinref14_Changes.f k ((rd_T30 x325004 x5).f0) ((rd_T30 x325004 x5).f1) ((rd_T30 x325004 x5).f2) ((rd_T30 x325004 x5).f3.f0) ((rd_T30 x325004 x5).f3.f1) ((rd_T30 x325004 x5).f4.f0) ((rd_T30 x325004 x5).f4.f1) ((rd_T30 x326004 x5).f0) ((rd_T30 x326004 x5).f1) ((rd_T30 x326004 x5).f2) ((rd_T30 x326004 x5).f3.f0) ((rd_T30 x326004 x5).f3.f1) ((rd_T30 x326004 x5).f4.f0) ((rd_T30 x326004 x5).f4.f1)).bind fun t328 => (if t328 = true then (bobbinref14_Same.l0 k (wrap64 (x5 + 1)) x325000 x325001 x325002 x325003 x325004 x325005 x326000 x326001 x326002 x326003 x326004 x326005) else (some false))) else (none)) else (none)) else (bobbinref14_Same.l1 k 0 x325000 x325001 x325002 x325003 x325004 x325005 x326000 x326001 x326002 x326003 x326004 x326005)) := fun _ _ _ _ _ _ _ _ _ _ _ _ _ _ => rfl
theorem bobbinref14_Same.l1_eq : ∀ (k : Nat) x7 x325000 x325001 x325002 x325003 x325004 x325005 x326000 x326001 x326002 x326003 x326004 x326005, bobbinref14_Same.l1 (k + 1) x7 x325000 x325001 x325002 x325003 x325004 x325005 x326000 x326001 x326002 x326003 x326004 x326005 = (if x7 < (x325005.length : Int) then (if 0 ≤ x7 then (if x7 < (x326005.length : Int) then (if (rd x325005 x7) = (rd x326005 x7) then (bobbinref14_Same.l1 k (wrap64 (x7 + 1)) x325000 x325001 x325002 x325003 x325004 x325005 x326000 x326001 x326002 x326003 x326004 x326005) else (some false)) else (none)) else (none)) else (some true)) := fun _ _ _ _ _ _ _ _ _ _ _ _ _ _ => rfl
def bobbinref14_Same.f (k : Nat) (a0_0 : Int) (a0_1 : Int) (a0_2 : Int) (a0_3 : Int) (l0_4 : List (S30)) (l0_5 : List Int) (a1_0 : Int) (a1_1 : Int) (a1_2 : Int) (a1_3 : Int) (l1_4 : List (S30)) (l1_5 : List Int) : Option (Bool) := if a0_0 = a1_0 then (if a0_1 = a1_1 then (if a0_2 = a1_2 then (if a0_3 = a1_3 then (if (l0_4.length : Int) = (l1_4.length : Int) then (bobbinref14_Same.j0 k ((l0_5.length : Int) != (l1_5.length : Int)) a0_0 a0_1 a0_2 a0_3 l0_4 l0_5 a1_0 a1_1 a1_2 a1_3 l1_4 l1_5) else (bobbinref14_Same.j0 k true a0_0 a0_1 a0_2 a0_3 l0_4 l0_5 a1_0 a1_1 a1_2 a1_3 l1_4 l1_5)) else (bobbinref14_Same.j0 k true a0_0 a0_1 a0_2 a0_3 l0_4 l0_5 a1_0 a1_1 a1_2 a1_3 l1_4 l1_5)) else (bobbinref14_Same.j0 k true a0_0 a0_1 a0_2 a0_3 l0_4 l0_5 a1_0 a1_1 a1_2 a1_3 l1_4 l1_5)) else (bobbinref14_Same.j0 k true a0_0 a0_1 a0_2 a0_3 l0_4 l0_5 a1_0 a1_1 a1_2 a1_3 l1_4 l1_5)) else (bobbinref14_Same.j0 k true a0_0 a0_1 a0_2 a0_3 l0_4 l0_5 a1_0 a1_1 a1_2 a1_3 l1_4 l1_5)
theorem bobbinref14_Same.mono_l : ∀ k, (∀ y0 y1 y2 y3 y4 y5 y6 y7 y8 y9 y10 y11 y12, LeO (bobbinref14_Same.j0 k y0 y1 y2 y3 y4 y5 y6 y7 y8 y9 y10 y11 y12) (bobbinref14_Same.j0 (k + 1) y0 y1 y2 y3 y4 y5 y6 y7 y8 y9 y10 y11 y12)) ∧ (∀ y0 y1 y2 y3 y4 y5 y6 y7 y8 y9 y10 y11 y12, LeO (bobbinref14_Same.l0 k y0 y1 y2 y3 y4 y5 y6 y7 y8 y9 y10 y11 y12) (bobbinref14_Same.l0 (k + 1) y0 y1 y2 y3 y4 y5 y6 y7 y8 y9 y10 y11 y12)) ∧ (∀ y0 y1 y2 y3 y4 y5 y6 y7 y8 y9 y10 y11 y12, LeO (bobbinref14_Same.l1 k y0 y1 y2 y3 y4 y5 y6 y7 y8 y9 y10 y11 y12) (bobbinref14_Same.l1 (k + 1) y0 y1 y2 y3 y4 y5 y6 y7 y8 y9 y10 y11 y12))
  | 0 => ⟨fun _ _ _ _ _ _ _ _ _ _ _ _ _ r h => by first | (cases h; done) | simp [bobbinref14_Same.j0] at h, fun _ _ _ _ _ _ _ _ _ _ _ _ _ r h => by first | (cases h; done) | simp [bobbinref14_Same.l0] at h, fun _ _ _ _ _ _ _ _ _ _ _ _ _ r h => by first | (cases h; done) | simp [bobbinref14_Same.l1] at h⟩
  | k + 1 => by
    obtain ⟨ih0, ih1, ih2⟩ := bobbinref14_Same.mono_l k
    refine ⟨?_, ?_, ?_⟩
    · intro y0 y1 y2 y3 y4 y5 y6 y7 y8 y9 y10 y11 y12
      unfold bobbinref14_Same.j0
      repeat' first
      | (with_reducible exact ih0 _ _ _ _ _ _ _ _ _ _ _ _ _)
      | (with_reducible exact ih1 _ _ _ _ _ _ _ _ _ _ _ _ _)
      | (with_reducible exact ih2 _ _ _ _ _ _ _ _ _ _ _ _ _)
      | (with_reducible exact bobbinref14_Changes.mono _ _ _ _ _ _ _ _ _ _ _ _ _ _ _)
      | (with_reducible exact LeO.refl _)
      | (with_reducible exact LeO.none _)
      | (with_reducible refine LeO.ite ?_ ?_)
      | (with_reducible refine LeO.bind ?_ (fun _ => ?_))
      | exact ih0 _ _ _ _ _ _ _ _ _ _ _ _ _
      | exact ih1 _ _ _ _ _ _ _ _ _ _ _ _ _
      | exact ih2 _ _ _ _ _ _ _ _ _ _ _ _ _
      | exact bobbinref14_Changes.mono _ _ _ _ _ _ _ _ _ _ _ _ _ _ _
      | exact LeO.none _
      | refine LeO.ite ?_ ?_
      | refine LeO.bind ?_ (fun _ => ?_)
    · intro y0 y1 y2 y3 y4 y5 y6 y7 y8 y9 y10 y11 y12
      unfold bobbinref14_Same.l0
      repeat' first
      | (with_reducible exact ih0 _ _ _ _ _ _ _ _ _ _ _ _ _)
      | (with_reducible exact ih1 _ _ _ _ _ _ _ _ _ _ _ _ _)
      | (with_reducible exact ih2 _ _ _ _ _ _ _ _ _ _ _ _ _)
      | (with_reducible exact bobbinref14_Changes.mono _ _ _ _ _ _ _ _ _ _ _ _ _ _ _)
      | (with_reducible exact LeO.refl _)
      | (with_reducible exact LeO.none _)
      | (with_reducible refine LeO.ite ?_ ?_)
      | (with_reducible refine LeO.bind ?_ (fun _ => ?_))
      | exact ih0 _ _ _ _ _ _ _ _ _ _ _ _ _
      | exact ih1 _ _ _ _ _ _ _ _ _ _ _ _ _
      | exact ih2 _ _ _ _ _ _ _ _ _ _ _ _ _
      | exact bobbinref14_Changes.mono _ _ _ _ _ _ _ _ _ _ _ _ _ _ _
      | exact LeO.none _
      | refine LeO.ite ?_ ?_
      | refine LeO.bind ?_ (fun _ => ?_)
    · intro y0 y1 y2 y3 y4 y5 y6 y7 y8 y9 y10 y11 y12
      unfold bobbinref14_Same.l1
      repeat' first
      | (with_reducible exact ih0 _ _ _ _ _ _ _ _ _ _ _ _ _)
      | (with_reducible exact ih1 _ _ _ _ _ _ _ _ _ _ _ _ _)
      | (with_reducible exact ih2 _ _ _ _ _ _ _ _ _ _ _ _ _)
      | (with_reducible exact bobbinref14_Changes.mono _ _ _ _ _ _ _ _ _ _ _ _ _ _ _)
      | (with_reducible exact LeO.refl _)
      | (with_reducible exact LeO.none _)
      | (with_reducible refine LeO.ite ?_ ?_)
      | (with_reducible refine LeO.bind ?_ (fun _ => ?_))
      | exact ih0 _ _ _ _ _ _ _ _ _ _ _ _ _
      | exact ih1 _ _ _ _ _ _ _ _ _ _ _ _ _
      | exact ih2 _ _ _ _ _ _ _ _ _ _ _ _ _
      | exact bobbinref14_Changes.mono _ _ _ _ _ _ _ _ _ _ _ _ _ _ _
      | exact LeO.none _
      | refine LeO.ite ?_ ?_
      | refine LeO.bind ?_ (fun _ => ?_)
theorem bobbinref14_Same.mono : ∀ a0 a1 a2 a3 a4 a5 a6 a7 a8 a9 a10 a11 k, LeO (bobbinref14_Same.f k a0 a1 a2 a3 a4 a5 a6 a7 a8 a9 a10 a11) (bobbinref14_Same.f (k + 1) a0 a1 a2 a3 a4 a5 a6 a7 a8 a9 a10 a11) := by
  intro a0 a1 a2 a3 a4 a5 a6 a7 a8 a9 a10 a11 k
  obtain ⟨ih0, ih1, ih2⟩ := bobbinref14_Same.mono_l k
  unfold bobbinref14_Same.f
  repeat' first
      | (with_reducible exact ih0 _ _ _ _ _ _ _ _ _ _ _ _ _)
      | (with_reducible exact ih1 _ _ _ _ _ _ _ _ _ _ _ _ _)
      | (with_reducible exact ih2 _ _ _ _ _ _ _ _ _ _ _ _ _)
      | (with_reducible exact bobbinref14_Changes.mono _ _ _ _ _ _ _ _ _ _ _ _ _ _ _)
      | (with_reducible exact LeO.refl _)
      | (with_reducible exact LeO.none _)
      | (with_reducible refine LeO.ite ?_ ?_)
      | (with_reducible refine LeO.bind ?_ (fun _ => ?_))
      | exact ih0 _ _ _ _ _ _ _ _ _ _ _ _ _
      | exact ih1 _ _ _ _ _ _ _ _ _ _ _ _ _
      | exact ih2 _ _ _ _ _ _ _ _ _ _ _ _ _
      | exact bobbinref14_Changes.mono _ _ _ _ _ _ _ _ _ _ _ _ _ _ _
      | exact LeO.none _
      | refine LeO.ite ?_ ?_
      | refine LeO.bind ?_ (fun _ => ?_)
def bobbinref14_Same.T6 : Bool × List (List Nat × List Nat) := (true, [([], []), ([0], [0]), ([], []), ([1, 2], [1, 2]), ([3], [3]), ([], []), ([5], [5]), ([], []), ([6, 7], [6, 7]), ([8], [8]), ([4, 9], [4, 9]), ([10, 10, 0, 1, 2, 3, 4, 5, 6, 7, 8, 9, 10], [10])])
def bobbinref14_Same.B6 : List Nat := [0, 1, 0, 7, 15, 0, 32, 0, 224, 480, 1023, 2047]
theorem bobbinref14_Same.tab6 : rtab .any (opsOf Try.f20 6) = bobbinref14_Same.T6 := by kernel_rfl
theorem bobbinref14_Same.bits6 : waitsOk bobbinref14_Same.T6.2 bobbinref14_Same.B6 = true := by kernel_rfl
def bobbinref14_Same.T12 : Bool × List (List Nat × List Nat) := (true, [([], []), ([0], [0]), ([], []), ([1, 2], [1, 2]), ([3], [3]), ([], []), ([5], [5]), ([], []), ([6, 7], [6, 7]), ([8], [8]), ([4, 9], [4, 9])])
def bobbinref14_Same.B12 : List Nat := [0, 1, 0, 7, 15, 0, 32, 0, 224, 480, 1023]
theorem bobbinref14_Same.tab12 : rtab .any (opsOf Try.f20 12) = bobbinref14_Same.T12 := by kernel_rfl
theorem bobbinref14_Same.bits12 : waitsOk bobbinref14_Same.T12.2 bobbinref14_Same.B12 = true := by kernel_rfl
set_option maxHeartbeats 8000000 in
set_option maxRecDepth 100000 in
theorem bobbinref14_Same.calls (k : Nat) (a0_0 : Int) (a0_1 : Int) (a0_2 : Int) (a0_3 : Int) (A0_4 : Option Addr) (c0_4 : Nat) (l0_4 : List (S30)) (A0_5 : Option Addr) (c0_5 : Nat) (l0_5 : List Int) (a1_0 : Int) (a1_1 : Int) (a1_2 : Int) (a1_3 : Int) (A1_4 : Option Addr) (c1_4 : Nat) (l1_4 : List (S30)) (A1_5 : Option Addr) (c1_5 : Nat) (l1_5 : List Int) (r : Bool) (w : World) (hr0_4 : Kd.C k30 w A0_4 l0_4.length l0_4) (hc0_4 : l0_4.length ≤ c0_4) (hr0_5 : Kd.C (Kd.int .i64) w A0_5 l0_5.length l0_5) (hc0_5 : l0_5.length ≤ c0_5) (hr1_4 : Kd.C k30 w A1_4 l1_4.length l1_4) (hc1_4 : l1_4.length ≤ c1_4) (hr1_5 : Kd.C (Kd.int .i64) w A1_5 l1_5.length l1_5) (hc1_5 : l1_5.length ≤ c1_5) (h : bobbinref14_Same.f k a0_0 a0_1 a0_2 a0_3 l0_4 l0_5 a1_0 a1_1 a1_2 a1_3 l1_4 l1_5 = some r) :
    Calls Try.prog 20 #[.agg #[.int .i64 a0_0, .int .i64 a0_1, .int .i64 a0_2, .int .i64 a0_3, .slice A0_4 l0_4.length c0_4, .slice A0_5 l0_5.length c0_5], .agg #[.int .i64 a1_0, .int .i64 a1_1, .int .i64 a1_2, .int .i64 a1_3, .slice A1_4 l1_4.length c1_4, .slice A1_5 l1_5.length c1_5]] w fun e w' => e = .returned (.bool r) ∧ Below w.heap.size w w' := by
  have hu25 := Try.underlying25
  have hu30 := Try.underlying30
  have HR0_4 := Aside0.mk hr0_4
  have HC0_4 := Aside0.mk hc0_4
  clear hr0_4 hc0_4
  have HR0_5 := Aside0.mk hr0_5
  have HC0_5 := Aside0.mk hc0_5
  clear hr0_5 hc0_5
  have HR1_4 := Aside0.mk hr1_4
  have HC1_4 := Aside0.mk hc1_4
  clear hr1_4 hc1_4
  have HR1_5 := Aside0.mk hr1_5
  have HC1_5 := Aside0.mk hc1_5
  clear hr1_5 hc1_5
  have HB := Aside0.mk (Below.refl w.heap.size w)
  have H : (if a0_0 = a1_0 then (if a0_1 = a1_1 then (if a0_2 = a1_2 then (if a0_3 = a1_3 then (if (l0_4.length : Int) = (l1_4.length : Int) then (bobbinref14_Same.j0 k ((l0_5.length : Int) != (l1_5.length : Int)) a0_0 a0_1 a0_2 a0_3 l0_4 l0_5 a1_0 a1_1 a1_2 a1_3 l1_4 l1_5) else (bobbinref14_Same.j0 k true a0_0 a0_1 a0_2 a0_3 l0_4 l0_5 a1_0 a1_1 a1_2 a1_3 l1_4 l1_5)) else (bobbinref14_Same.j0 k true a0_0 a0_1 a0_2 a0_3 l0_4 l0_5 a1_0 a1_1 a1_2 a1_3 l1_4 l1_5)) else (bobbinref14_Same.j0 k true a0_0 a0_1 a0_2 a0_3 l0_4 l0_5 a1_0 a1_1 a1_2 a1_3 l1_4 l1_5)) else (bobbinref14_Same.j0 k true a0_0 a0_1 a0_2 a0_3 l0_4 l0_5 a1_0 a1_1 a1_2 a1_3 l1_4 l1_5)) else (bobbinref14_Same.j0 k true a0_0 a0_1 a0_2 a0_3 l0_4 l0_5 a1_0 a1_1 a1_2 a1_3 l1_4 l1_5)) = some r := h
  clear h
  have HC3 := Aside0.mk H
  clear H
  go_enter Try.func20, Try.ntmps20
  go_upto_region 1 with (first | ((with_reducible refine gate_dst (N := 2) rfl ?_); (try (refine gate_guard (by rfl) ?_; dsimp only)); refine box_event ?hg (N := 2) ?hd (cs := #[.int .i64 a0_0, .int .i64 a0_1, .int .i64 a0_2, .int .i64 a0_3, .slice A0_4 l0_4.length c0_4, .slice A0_5 l0_5.length c0_5]) (t := 25) ?hr ?_; (case hd => rfl); (case hg => rfl); (case hr => first | (go_simp; done) | (go_simp; rfl)); intro gb324 hg w4 hbox hb; have n0_ := Aside0.mk (below_step (by repeat (first | (with_reducible first | exact HB.out | apply below_alloc | apply pw_below_drewN | apply below_drew1) | exact HB.out)) hb); have n1_ := Aside0.mk (hbox); have n2_ := Aside0.mk ((by rw [hg]; exact (below_size (by repeat (first | (with_reducible first | exact HB.out | apply below_alloc | apply pw_below_drewN | apply below_drew1) | exact HB.out))) : w.heap.size ≤ gb324)); have n3_ := Aside0.mk ((by rw [hg]; exact (below_size (by repeat (first | (with_reducible first | exact HB.out | apply below_alloc | apply pw_below_drewN | apply below_drew1) | exact HB.out))) : w.heap.size ≤ gb324)); clear HB; have HB := n0_; have BK324 := n1_; have GW324 := n2_; have GE324 := n3_; clear n0_ n1_ n2_ n3_; clear hb hbox hg) | ((with_reducible refine gate_dst (N := 3) rfl ?_); (try (refine gate_guard (by rfl) ?_; dsimp only)); refine box_event ?hg (N := 3) ?hd (cs := #[.int .i64 a1_0, .int .i64 a1_1, .int .i64 a1_2, .int .i64 a1_3, .slice A1_4 l1_4.length c1_4, .slice A1_5 l1_5.length c1_5]) (t := 25) ?hr ?_; (case hd => rfl); (case hg => rfl); (case hr => first | (go_simp; done) | (go_simp; rfl)); intro gb325 hg w5 hbox hb; have n0_ := Aside0.mk (blk_below (g := gb324) (o := .cells #[.int .i64 a0_0, .int .i64 a0_1, .int .i64 a0_2, .int .i64 a0_3, .slice A0_4 l0_4.length c0_4, .slice A0_5 l0_5.length c0_5] 25 (0, 0)) (by (with_reducible repeat (first | refine blk_drewN ?_ _ | refine blk_drew ?_ | refine blk_alloc ?_ _)); exact BK324.out) hb); have n1_ := Aside0.mk (below_step (by repeat (first | (with_reducible first | exact HB.out | apply below_alloc | apply pw_below_drewN | apply below_drew1 | refine below_set ?_ GE324.out) | exact HB.out)) hb); have n2_ := Aside0.mk (hbox); have n3_ := Aside0.mk ((by rw [hg]; exact (below_size (by repeat (first | (with_reducible first | exact HB.out | apply below_alloc | apply pw_below_drewN | apply below_drew1 | refine below_set ?_ GE324.out) | exact HB.out))) : w.heap.size ≤ gb325)); have n4_ := Aside0.mk ((by rw [hg]; exact (below_size (by repeat (first | (with_reducible first | exact HB.out | apply below_alloc | apply pw_below_drewN | apply below_drew1 | refine below_set ?_ GE324.out) | exact HB.out))) : w.heap.size ≤ gb325)); have n5_ := Aside0.mk ((by rw [hg]; exact Nat.ne_of_lt (blk_lt (g := gb324) (o := .cells #[.int .i64 a0_0, .int .i64 a0_1, .int .i64 a0_2, .int .i64 a0_3, .slice A0_4 l0_4.length c0_4, .slice A0_5 l0_5.length c0_5] 25 (0, 0)) (by (with_reducible repeat (first | refine blk_drewN ?_ _ | refine blk_drew ?_ | refine blk_alloc ?_ _)); exact BK324.out)) : gb324 ≠ gb325)); have n6_ := Aside0.mk ((by rw [hg]; exact Nat.ne_of_gt (blk_lt (g := gb324) (o := .cells #[.int .i64 a0_0, .int .i64 a0_1, .int .i64 a0_2, .int .i64 a0_3, .slice A0_4 l0_4.length c0_4, .slice A0_5 l0_5.length c0_5] 25 (0, 0)) (by (with_reducible repeat (first | refine blk_drewN ?_ _ | refine blk_drew ?_ | refine blk_alloc ?_ _)); exact BK324.out)) : gb325 ≠ gb324)); clear BK324; clear HB; have BK324 := n0_; have HB := n1_; have BK325 := n2_; have GW325 := n3_; have GE325 := n4_; have NB324_325 := n5_; have NB325_324 := n6_; clear n0_ n1_ n2_ n3_ n4_ n5_ n6_; clear hb hbox hg))
  (try simp only [Act.put, List.setIfInBounds_toArray, List.set_cons_zero, List.set_cons_succ])
  go_cut [51] (fun v51 wc => ∃ (kq : Nat) (x51_2 : Bool), v51 = .bool x51_2 ∧ Aside0 (bobbinref14_Same.j0 kq x51_2 a0_0 a0_1 a0_2 a0_3 l0_4 l0_5 a1_0 a1_1 a1_2 a1_3 l1_4 l1_5 = some r) ∧ Aside0 (kq ≤ k) ∧ Aside0 (wc.heap[gb324]? = some (.cells #[.int .i64 a0_0, .int .i64 a0_1, .int .i64 a0_2, .int .i64 a0_3, (.slice A0_4 l0_4.length c0_4), (.slice A0_5 l0_5.length c0_5)] 25 (0, 0))) ∧ Aside0 (wc.heap[gb325]? = some (.cells #[.int .i64 a1_0, .int .i64 a1_1, .int .i64 a1_2, .int .i64 a1_3, (.slice A1_4 l1_4.length c1_4), (.slice A1_5 l1_5.length c1_5)] 25 (0, 0))) ∧ Aside0 (Below w.heap.size w wc))
  case first =>
    have H := HC3.out
    clear HC3
    by_cases c6 : a0_0 = a1_0
    · rw [if_pos c6] at H
      have c6b0 : (a0_0 == a1_0) = true := beq_iff_eq.mpr c6
      have c6b1 : (a0_0 != a1_0) = false := bne_eq_false_iff_eq.mpr c6
      clear c6
      (first | rw [c6b0] | (simp only [i64_w, i32_w]; rw [c6b0]) | skip)
      by_cases c7 : a0_1 = a1_1
      · rw [if_pos c7] at H
        have c7b0 : (a0_1 == a1_1) = true := beq_iff_eq.mpr c7
        have c7b1 : (a0_1 != a1_1) = false := bne_eq_false_iff_eq.mpr c7
        clear c7
        by_cases c8 : a0_2 = a1_2
        · rw [if_pos c8] at H
          have c8b0 : (a0_2 == a1_2) = true := beq_iff_eq.mpr c8
          have c8b1 : (a0_2 != a1_2) = false := bne_eq_false_iff_eq.mpr c8
          clear c8
          by_cases c9 : a0_3 = a1_3
          · rw [if_pos c9] at H
            have c9b0 : (a0_3 == a1_3) = true := beq_iff_eq.mpr c9
            have c9b1 : (a0_3 != a1_3) = false := bne_eq_false_iff_eq.mpr c9
            clear c9
            by_cases c10 : (l0_4.length : Int) = (l1_4.length : Int)
            · rw [if_pos c10] at H
              have c10b0 : ((l0_4.length : Int) == (l1_4.length : Int)) = true := beq_iff_eq.mpr c10
              have c10b1 : ((l0_4.length : Int) != (l1_4.length : Int)) = false := bne_eq_false_iff_eq.mpr c10
              have c10b2 : (l0_4.length == l1_4.length) = true := by first | simpa using c10 | (simp at c10 ⊢; omega)
              clear c10
              have H' := Aside0.mk H
              clear H
              have hnb11 := NB324_325.out
              have hnc11 := NB325_324.out
              have hcz12_0 : w5.cell? ⟨gb324, 0, none⟩ = some (.int .i64 a0_0) := (blk_cell BK324.out 0).trans rfl
              have hcz12_1 : w5.cell? ⟨gb324, 1, none⟩ = some (.int .i64 a0_1) := (blk_cell BK324.out 1).trans rfl
              have hcz12_2 : w5.cell? ⟨gb324, 2, none⟩ = some (.int .i64 a0_2) := (blk_cell BK324.out 2).trans rfl
              have hcz12_3 : w5.cell? ⟨gb324, 3, none⟩ = some (.int .i64 a0_3) := (blk_cell BK324.out 3).trans rfl
              have hcz12_4 : w5.cell? ⟨gb324, 4, none⟩ = some (.slice A0_4 l0_4.length c0_4) := (blk_cell BK324.out 4).trans rfl
              have hcz12_5 : w5.cell? ⟨gb324, 5, none⟩ = some (.slice A0_5 l0_5.length c0_5) := (blk_cell BK324.out 5).trans rfl
              have hfz12_0 := blk_frozen BK324.out 0
              have hfz12_1 := blk_frozen BK324.out 1
              have hfz12_2 := blk_frozen BK324.out 2
              have hfz12_3 := blk_frozen BK324.out 3
              have hfz12_4 := blk_frozen BK324.out 4
              have hfz12_5 := blk_frozen BK324.out 5
              have hcz13_0 : w5.cell? ⟨gb325, 0, none⟩ = some (.int .i64 a1_0) := (blk_cell BK325.out 0).trans rfl
              have hcz13_1 : w5.cell? ⟨gb325, 1, none⟩ = some (.int .i64 a1_1) := (blk_cell BK325.out 1).trans rfl
              have hcz13_2 : w5.cell? ⟨gb325, 2, none⟩ = some (.int .i64 a1_2) := (blk_cell BK325.out 2).trans rfl
              have hcz13_3 : w5.cell? ⟨gb325, 3, none⟩ = some (.int .i64 a1_3) := (blk_cell BK325.out 3).trans rfl
              have hcz13_4 : w5.cell? ⟨gb325, 4, none⟩ = some (.slice A1_4 l1_4.length c1_4) := (blk_cell BK325.out 4).trans rfl
              have hcz13_5 : w5.cell? ⟨gb325, 5, none⟩ = some (.slice A1_5 l1_5.length c1_5) := (blk_cell BK325.out 5).trans rfl
              have hfz13_0 := blk_frozen BK325.out 0
              have hfz13_1 := blk_frozen BK325.out 1
              have hfz13_2 := blk_frozen BK325.out 2
              have hfz13_3 := blk_frozen BK325.out 3
              have hfz13_4 := blk_frozen BK325.out 4
              have hfz13_5 := blk_frozen BK325.out 5
              go_wp2
              go_meet
              case rel => exact ⟨_, (((l0_5.length : Int) != (l1_5.length : Int))), (by first | rfl | (simp; done) | (simp [*]; done)), H', ⟨by first | omega | exact Nat.le_refl _⟩, ⟨by (with_reducible repeat (first | refine blk_drewN ?_ _ | refine blk_drew ?_ | refine blk_alloc ?_ _)); exact BK324.out⟩, ⟨by (with_reducible repeat (first | refine blk_drewN ?_ _ | refine blk_drew ?_ | refine blk_alloc ?_ _)); exact BK325.out⟩, ⟨by repeat (first | (with_reducible first | exact HB.out | apply below_alloc | apply pw_below_drewN | apply below_drew1 | refine below_set ?_ GE324.out | refine below_set ?_ GE325.out) | exact HB.out)⟩⟩
            · rw [if_neg c10] at H
              have c10b0 : ((l0_4.length : Int) == (l1_4.length : Int)) = false := beq_eq_false_iff_ne.mpr c10
              have c10b1 : ((l0_4.length : Int) != (l1_4.length : Int)) = true := bne_iff_ne.mpr c10
              have c10b2 : (l0_4.length == l1_4.length) = false := by first | simpa using c10 | (simp at c10 ⊢; omega)
              have H' := Aside0.mk H
              clear H
              have hnb14 := NB324_325.out
              have hnc14 := NB325_324.out
              have hcz15_0 : w5.cell? ⟨gb324, 0, none⟩ = some (.int .i64 a0_0) := (blk_cell BK324.out 0).trans rfl
              have hcz15_1 : w5.cell? ⟨gb324, 1, none⟩ = some (.int .i64 a0_1) := (blk_cell BK324.out 1).trans rfl
              have hcz15_2 : w5.cell? ⟨gb324, 2, none⟩ = some (.int .i64 a0_2) := (blk_cell BK324.out 2).trans rfl
              have hcz15_3 : w5.cell? ⟨gb324, 3, none⟩ = some (.int .i64 a0_3) := (blk_cell BK324.out 3).trans rfl
              have hcz15_4 : w5.cell? ⟨gb324, 4, none⟩ = some (.slice A0_4 l0_4.length c0_4) := (blk_cell BK324.out 4).trans rfl
              have hcz15_5 : w5.cell? ⟨gb324, 5, none⟩ = some (.slice A0_5 l0_5.length c0_5) := (blk_cell BK324.out 5).trans rfl
              have hfz15_0 := blk_frozen BK324.out 0
              have hfz15_1 := blk_frozen BK324.out 1
              have hfz15_2 := blk_frozen BK324.out 2
              have hfz15_3 := blk_frozen BK324.out 3
              have hfz15_4 := blk_frozen BK324.out 4
              have hfz15_5 := blk_frozen BK324.out 5
              have hcz16_0 : w5.cell? ⟨gb325, 0, none⟩ = some (.int .i64 a1_0) := (blk_cell BK325.out 0).trans rfl
              have hcz16_1 : w5.cell? ⟨gb325, 1, none⟩ = some (.int .i64 a1_1) := (blk_cell BK325.out 1).trans rfl
              have hcz16_2 : w5.cell? ⟨gb325, 2, none⟩ = some (.int .i64 a1_2) := (blk_cell BK325.out 2).trans rfl
              have hcz16_3 : w5.cell? ⟨gb325, 3, none⟩ = some (.int .i64 a1_3) := (blk_cell BK325.out 3).trans rfl
              have hcz16_4 : w5.cell? ⟨gb325, 4, none⟩ = some (.slice A1_4 l1_4.length c1_4) := (blk_cell BK325.out 4).trans rfl
              have hcz16_5 : w5.cell? ⟨gb325, 5, none⟩ = some (.slice A1_5 l1_5.length c1_5) := (blk_cell BK325.out 5).trans rfl
              have hfz16_0 := blk_frozen BK325.out 0
              have hfz16_1 := blk_frozen BK325.out 1
              have hfz16_2 := blk_frozen BK325.out 2
              have hfz16_3 := blk_frozen BK325.out 3
              have hfz16_4 := blk_frozen BK325.out 4
              have hfz16_5 := blk_frozen BK325.out 5
              go_wp2
              go_meet
              case rel => exact ⟨_, (true), (by first | rfl | (simp; done) | (simp [*]; done)), H', ⟨by first | omega | exact Nat.le_refl _⟩, ⟨by (with_reducible repeat (first | refine blk_drewN ?_ _ | refine blk_drew ?_ | refine blk_alloc ?_ _)); exact BK324.out⟩, ⟨by (with_reducible repeat (first | refine blk_drewN ?_ _ | refine blk_drew ?_ | refine blk_alloc ?_ _)); exact BK325.out⟩, ⟨by repeat (first | (with_reducible first | exact HB.out | apply below_alloc | apply pw_below_drewN | apply below_drew1 | refine below_set ?_ GE324.out | refine below_set ?_ GE325.out) | exact HB.out)⟩⟩
          · rw [if_neg c9] at H
            have c9b0 : (a0_3 == a1_3) = false := beq_eq_false_iff_ne.mpr c9
            have c9b1 : (a0_3 != a1_3) = true := bne_iff_ne.mpr c9
            have H' := Aside0.mk H
            clear H
            have hnb17 := NB324_325.out
            have hnc17 := NB325_324.out
            have hcz18_0 : w5.cell? ⟨gb324, 0, none⟩ = some (.int .i64 a0_0) := (blk_cell BK324.out 0).trans rfl
            have hcz18_1 : w5.cell? ⟨gb324, 1, none⟩ = some (.int .i64 a0_1) := (blk_cell BK324.out 1).trans rfl
            have hcz18_2 : w5.cell? ⟨gb324, 2, none⟩ = some (.int .i64 a0_2) := (blk_cell BK324.out 2).trans rfl
            have hcz18_3 : w5.cell? ⟨gb324, 3, none⟩ = some (.int .i64 a0_3) := (blk_cell BK324.out 3).trans rfl
            have hcz18_4 : w5.cell? ⟨gb324, 4, none⟩ = some (.slice A0_4 l0_4.length c0_4) := (blk_cell BK324.out 4).trans rfl
            have hcz18_5 : w5.cell? ⟨gb324, 5, none⟩ = some (.slice A0_5 l0_5.length c0_5) := (blk_cell BK324.out 5).trans rfl
            have hfz18_0 := blk_frozen BK324.out 0
            have hfz18_1 := blk_frozen BK324.out 1
            have hfz18_2 := blk_frozen BK324.out 2
            have hfz18_3 := blk_frozen BK324.out 3
            have hfz18_4 := blk_frozen BK324.out 4
            have hfz18_5 := blk_frozen BK324.out 5
            have hcz19_0 : w5.cell? ⟨gb325, 0, none⟩ = some (.int .i64 a1_0) := (blk_cell BK325.out 0).trans rfl
            have hcz19_1 : w5.cell? ⟨gb325, 1, none⟩ = some (.int .i64 a1_1) := (blk_cell BK325.out 1).trans rfl
            have hcz19_2 : w5.cell? ⟨gb325, 2, none⟩ = some (.int .i64 a1_2) := (blk_cell BK325.out 2).trans rfl
            have hcz19_3 : w5.cell? ⟨gb325, 3, none⟩ = some (.int .i64 a1_3) := (blk_cell BK325.out 3).trans rfl
            have hcz19_4 : w5.cell? ⟨gb325, 4, none⟩ = some (.slice A1_4 l1_4.length c1_4) := (blk_cell BK325.out 4).trans rfl
            have hcz19_5 : w5.cell? ⟨gb325, 5, none⟩ = some (.slice A1_5 l1_5.length c1_5) := (blk_cell BK325.out 5).trans rfl
            have hfz19_0 := blk_frozen BK325.out 0
            have hfz19_1 := blk_frozen BK325.out 1
            have hfz19_2 := blk_frozen BK325.out 2
            have hfz19_3 := blk_frozen BK325.out 3
            have hfz19_4 := blk_frozen BK325.out 4
            have hfz19_5 := blk_frozen BK325.out 5
            go_wp2
            go_meet
            case rel => exact ⟨_, (true), (by first | rfl | (simp; done) | (simp [*]; done)), H', ⟨by first | omega | exact Nat.le_refl _⟩, ⟨by (with_reducible repeat (first | refine blk_drewN ?_ _ | refine blk_drew ?_ | refine blk_alloc ?_ _)); exact BK324.out⟩, ⟨by (with_reducible repeat (first | refine blk_drewN ?_ _ | refine blk_drew ?_ | refine blk_alloc ?_ _)); exact BK325.out⟩, ⟨by repeat (first | (with_reducible first | exact HB.out | apply below_alloc | apply pw_below_drewN | apply below_drew1 | refine below_set ?_ GE324.out | refine below_set ?_ GE325.out) | exact HB.out)⟩⟩
        · rw [if_neg c8] at H
          have c8b0 : (a0_2 == a1_2) = false := beq_eq_false_iff_ne.mpr c8
          have c8b1 : (a0_2 != a1_2) = true := bne_iff_ne.mpr c8
          have H' := Aside0.mk H
          clear H
          have hnb20 := NB324_325.out
          have hnc20 := NB325_324.out
          have hcz21_0 : w5.cell? ⟨gb324, 0, none⟩ = some (.int .i64 a0_0) := (blk_cell BK324.out 0).trans rfl
          have hcz21_1 : w5.cell? ⟨gb324, 1, none⟩ = some (.int .i64 a0_1) := (blk_cell BK324.out 1).trans rfl
          have hcz21_2 : w5.cell? ⟨gb324, 2, none⟩ = some (.int .i64 a0_2) := (blk_cell BK324.out 2).trans rfl
          have hcz21_3 : w5.cell? ⟨gb324, 3, none⟩ = some (.int .i64 a0_3) := (blk_cell BK324.out 3).trans rfl
          have hcz21_4 : w5.cell? ⟨gb324, 4, none⟩ = some (.slice A0_4 l0_4.length c0_4) := (blk_cell BK324.out 4).trans rfl
          have hcz21_5 : w5.cell? ⟨gb324, 5, none⟩ = some (.slice A0_5 l0_5.length c0_5) := (blk_cell BK324.out 5).trans rfl
          have hfz21_0 := blk_frozen BK324.out 0
          have hfz21_1 := blk_frozen BK324.out 1
          have hfz21_2 := blk_frozen BK324.out 2
          have hfz21_3 := blk_frozen BK324.out 3
          have hfz21_4 := blk_frozen BK324.out 4
          have hfz21_5 := blk_frozen BK324.out 5
          have hcz22_0 : w5.cell? ⟨gb325, 0, none⟩ = some (.int .i64 a1_0) := (blk_cell BK325.out 0).trans rfl
          have hcz22_1 : w5.cell? ⟨gb325, 1, none⟩ = some (.int .i64 a1_1) := (blk_cell BK325.out 1).trans rfl
          have hcz22_2 : w5.cell? ⟨gb325, 2, none⟩ = some (.int .i64 a1_2) := (blk_cell BK325.out 2).trans rfl
          have hcz22_3 : w5.cell? ⟨gb325, 3, none⟩ = some (.int .i64 a1_3) := (blk_cell BK325.out 3).trans rfl
          have hcz22_4 : w5.cell? ⟨gb325, 4, none⟩ = some (.slice A1_4 l1_4.length c1_4) := (blk_cell BK325.out 4).trans rfl
          have hcz22_5 : w5.cell? ⟨gb325, 5, none⟩ = some (.slice A1_5 l1_5.length c1_5) := (blk_cell BK325.out 5).trans rfl
          have hfz22_0 := blk_frozen BK325.out 0
          have hfz22_1 := blk_frozen BK325.out 1
          have hfz22_2 := blk_frozen BK325.out 2
          have hfz22_3 := blk_frozen BK325.out 3
          have hfz22_4 := blk_frozen BK325.out 4
          have hfz22_5 := blk_frozen BK325.out 5
          go_wp2
          go_meet
          case rel => exact ⟨_, (true), (by first | rfl | (simp; done) | (simp [*]; done)), H', ⟨by first | omega | exact Nat.le_refl _⟩, ⟨by (with_reducible repeat (first | refine blk_drewN ?_ _ | refine blk_drew ?_ | refine blk_alloc ?_ _)); exact BK324.out⟩, ⟨by (with_reducible repeat (first | refine blk_drewN ?_ _ | refine blk_drew ?_ | refine blk_alloc ?_ _)); exact BK325.out⟩, ⟨by repeat (first | (with_reducible first | exact HB.out | apply below_alloc | apply pw_below_drewN | apply below_drew1 | refine below_set ?_ GE324.out | refine below_set ?_ GE325.out) | exact HB.out)⟩⟩
      · rw [if_neg c7] at H
        have c7b0 : (a0_1 == a1_1) = false := beq_eq_false_iff_ne.mpr c7
        have c7b1 : (a0_1 != a1_1) = true := bne_iff_ne.mpr c7
        have H' := Aside0.mk H
        clear H
        have hnb23 := NB324_325.out
        have hnc23 := NB325_324.out
        have hcz24_0 : w5.cell? ⟨gb324, 0, none⟩ = some (.int .i64 a0_0) := (blk_cell BK324.out 0).trans rfl
        have hcz24_1 : w5.cell? ⟨gb324, 1, none⟩ = some (.int .i64 a0_1) := (blk_cell BK324.out 1).trans rfl
        have hcz24_2 : w5.cell? ⟨gb324, 2, none⟩ = some (.int .i64 a0_2) := (blk_cell BK324.out 2).trans rfl
        have hcz24_3 : w5.cell? ⟨gb324, 3, none⟩ = some (.int .i64 a0_3) := (blk_cell BK324.out 3).trans rfl
        have hcz24_4 : w5.cell? ⟨gb324, 4, none⟩ = some (.slice A0_4 l0_4.length c0_4) := (blk_cell BK324.out 4).trans rfl
        have hcz24_5 : w5.cell? ⟨gb324, 5, none⟩ = some (.slice A0_5 l0_5.length c0_5) := (blk_cell BK324.out 5).trans rfl
        have hfz24_0 := blk_frozen BK324.out 0
        have hfz24_1 := blk_frozen BK324.out 1
        have hfz24_2 := blk_frozen BK324.out 2
        have hfz24_3 := blk_frozen BK324.out 3
        have hfz24_4 := blk_frozen BK324.out 4
        have hfz24_5 := blk_frozen BK324.out 5
        have hcz25_0 : w5.cell? ⟨gb325, 0, none⟩ = some (.int .i64 a1_0) := (blk_cell BK325.out 0).trans rfl
        have hcz25_1 : w5.cell? ⟨gb325, 1, none⟩ = some (.int .i64 a1_1) := (blk_cell BK325.out 1).trans rfl
        have hcz25_2 : w5.cell? ⟨gb325, 2, none⟩ = some (.int .i64 a1_2) := (blk_cell BK325.out 2).trans rfl
        have hcz25_3 : w5.cell? ⟨gb325, 3, none⟩ = some (.int .i64 a1_3) := (blk_cell BK325.out 3).trans rfl
        have hcz25_4 : w5.cell? ⟨gb325, 4, none⟩ = some (.slice A1_4 l1_4.length c1_4) := (blk_cell BK325.out 4).trans rfl
        have hcz25_5 : w5.cell? ⟨gb325, 5, none⟩ = some (.slice A1_5 l1_5.length c1_5) := (blk_cell BK325.out 5).trans rfl
        have hfz25_0 := blk_frozen BK325.out 0
        have hfz25_1 := blk_frozen BK325.out 1
        have hfz25_2 := blk_frozen BK325.out 2
        have hfz25_3 := blk_frozen BK325.out 3
        have hfz25_4 := blk_frozen BK325.out 4
        have hfz25_5 := blk_frozen BK325.out 5
        go_wp2
        go_meet
        case rel => exact ⟨_, (true), (by first | rfl | (simp; done) | (simp [*]; done)), H', ⟨by first | omega | exact Nat.le_refl _⟩, ⟨by (with_reducible repeat (first | refine blk_drewN ?_ _ | refine blk_drew ?_ | refine blk_alloc ?_ _)); exact BK324.out⟩, ⟨by (with_reducible repeat (first | refine blk_drewN ?_ _ | refine blk_drew ?_ | refine blk_alloc ?_ _)); exact BK325.out⟩, ⟨by repeat (first | (with_reducible first | exact HB.out | apply below_alloc | apply pw_below_drewN | apply below_drew1 | refine below_set ?_ GE324.out | refine below_set ?_ GE325.out) | exact HB.out)⟩⟩
    · rw [if_neg c6] at H
      have c6b0 : (a0_0 == a1_0) = false := beq_eq_false_iff_ne.mpr c6
      have c6b1 : (a0_0 != a1_0) = true := bne_iff_ne.mpr c6
      (first | rw [c6b0] | (simp only [i64_w, i32_w]; rw [c6b0]) | skip)
      have H' := Aside0.mk H
      clear H
      have hnb26 := NB324_325.out
      have hnc26 := NB325_324.out
      have hcz27_0 : w5.cell? ⟨gb324, 0, none⟩ = some (.int .i64 a0_0) := (blk_cell BK324.out 0).trans rfl
      have hcz27_1 : w5.cell? ⟨gb324, 1, none⟩ = some (.int .i64 a0_1) := (blk_cell BK324.out 1).trans rfl
      have hcz27_2 : w5.cell? ⟨gb324, 2, none⟩ = some (.int .i64 a0_2) := (blk_cell BK324.out 2).trans rfl
      have hcz27_3 : w5.cell? ⟨gb324, 3, none⟩ = some (.int .i64 a0_3) := (blk_cell BK324.out 3).trans rfl
      have hcz27_4 : w5.cell? ⟨gb324, 4, none⟩ = some (.slice A0_4 l0_4.length c0_4) := (blk_cell BK324.out 4).trans rfl
      have hcz27_5 : w5.cell? ⟨gb324, 5, none⟩ = some (.slice A0_5 l0_5.length c0_5) := (blk_cell BK324.out 5).trans rfl
      have hfz27_0 := blk_frozen BK324.out 0
      have hfz27_1 := blk_frozen BK324.out 1
      have hfz27_2 := blk_frozen BK324.out 2
      have hfz27_3 := blk_frozen BK324.out 3
      have hfz27_4 := blk_frozen BK324.out 4
      have hfz27_5 := blk_frozen BK324.out 5
      have hcz28_0 : w5.cell? ⟨gb325, 0, none⟩ = some (.int .i64 a1_0) := (blk_cell BK325.out 0).trans rfl
      have hcz28_1 : w5.cell? ⟨gb325, 1, none⟩ = some (.int .i64 a1_1) := (blk_cell BK325.out 1).trans rfl
      have hcz28_2 : w5.cell? ⟨gb325, 2, none⟩ = some (.int .i64 a1_2) := (blk_cell BK325.out 2).trans rfl
      have hcz28_3 : w5.cell? ⟨gb325, 3, none⟩ = some (.int .i64 a1_3) := (blk_cell BK325.out 3).trans rfl
      have hcz28_4 : w5.cell? ⟨gb325, 4, none⟩ = some (.slice A1_4 l1_4.length c1_4) := (blk_cell BK325.out 4).trans rfl
      have hcz28_5 : w5.cell? ⟨gb325, 5, none⟩ = some (.slice A1_5 l1_5.length c1_5) := (blk_cell BK325.out 5).trans rfl
      have hfz28_0 := blk_frozen BK325.out 0
      have hfz28_1 := blk_frozen BK325.out 1
      have hfz28_2 := blk_frozen BK325.out 2
      have hfz28_3 := blk_frozen BK325.out 3
      have hfz28_4 := blk_frozen BK325.out 4
      have hfz28_5 := blk_frozen BK325.out 5
      go_wp2
      go_meet
      case rel => exact ⟨_, (true), (by first | rfl | (simp; done) | (simp [*]; done)), H', ⟨by first | omega | exact Nat.le_refl _⟩, ⟨by (with_reducible repeat (first | refine blk_drewN ?_ _ | refine blk_drew ?_ | refine blk_alloc ?_ _)); exact BK324.out⟩, ⟨by (with_reducible repeat (first | refine blk_drewN ?_ _ | refine blk_drew ?_ | refine blk_alloc ?_ _)); exact BK325.out⟩, ⟨by repeat (first | (with_reducible first | exact HB.out | apply below_alloc | apply pw_below_drewN | apply below_drew1 | refine below_set ?_ GE324.out | refine below_set ?_ GE325.out) | exact HB.out)⟩⟩
  case rest =>
    clear HC3
    try clear c1
    try clear c2
    try clear p2
    try clear c6
    try clear c6b0
    try clear c6b1
    try clear c7
    try clear c7b0
    try clear c7b1
    try clear c8
    try clear c8b0
    try clear c8b1
    try clear c9
    try clear c9b0
    try clear c9b1
    try clear c10
    try clear c10b0
    try clear c10b1
    try clear c10b2
    try clear c11
    try clear c14
    try clear c17
    try clear c20
    try clear c23
    try clear c26
    try clear hcz12_0
    try clear hcz12_1
    try clear hcz12_2
    try clear hcz12_3
    try clear hcz12_4
    try clear hcz12_5
    try clear hcz13_0
    try clear hcz13_1
    try clear hcz13_2
    try clear hcz13_3
    try clear hcz13_4
    try clear hcz13_5
    try clear hcz15_0
    try clear hcz15_1
    try clear hcz15_2
    try clear hcz15_3
    try clear hcz15_4
    try clear hcz15_5
    try clear hcz16_0
    try clear hcz16_1
    try clear hcz16_2
    try clear hcz16_3
    try clear hcz16_4
    try clear hcz16_5
    try clear hcz18_0
    try clear hcz18_1
    try clear hcz18_2
    try clear hcz18_3
    try clear hcz18_4
    try clear hcz18_5
    try clear hcz19_0
    try clear hcz19_1
    try clear hcz19_2
    try clear hcz19_3
    try clear hcz19_4
    try clear hcz19_5
    try clear hcz21_0
    try clear hcz21_1
    try clear hcz21_2
    try clear hcz21_3
    try clear hcz21_4
    try clear hcz21_5
    try clear hcz22_0
    try clear hcz22_1
    try clear hcz22_2
    try clear hcz22_3
    try clear hcz22_4
    try clear hcz22_5
    try clear hcz24_0
    try clear hcz24_1
    try clear hcz24_2
    try clear hcz24_3
    try clear hcz24_4
    try clear hcz24_5
    try clear hcz25_0
    try clear hcz25_1
    try clear hcz25_2
    try clear hcz25_3
    try clear hcz25_4
    try clear hcz25_5
    try clear hcz27_0
    try clear hcz27_1
    try clear hcz27_2
    try clear hcz27_3
    try clear hcz27_4
    try clear hcz27_5
    try clear hcz28_0
    try clear hcz28_1
    try clear hcz28_2
    try clear hcz28_3
    try clear hcz28_4
    try clear hcz28_5
    try clear hfz12_0
    try clear hfz12_1
    try clear hfz12_2
    try clear hfz12_3
    try clear hfz12_4
    try clear hfz12_5
    try clear hfz13_0
    try clear hfz13_1
    try clear hfz13_2
    try clear hfz13_3
    try clear hfz13_4
    try clear hfz13_5
    try clear hfz15_0
    try clear hfz15_1
    try clear hfz15_2
    try clear hfz15_3
    try clear hfz15_4
    try clear hfz15_5
    try clear hfz16_0
    try clear hfz16_1
    try clear hfz16_2
    try clear hfz16_3
    try clear hfz16_4
    try clear hfz16_5
    try clear hfz18_0
    try clear hfz18_1
    try clear hfz18_2
    try clear hfz18_3
    try clear hfz18_4
    try clear hfz18_5
    try clear hfz19_0
    try clear hfz19_1
    try clear hfz19_2
    try clear hfz19_3
    try clear hfz19_4
    try clear hfz19_5
    try clear hfz21_0
    try clear hfz21_1
    try clear hfz21_2
    try clear hfz21_3
    try clear hfz21_4
    try clear hfz21_5
    try clear hfz22_0
    try clear hfz22_1
    try clear hfz22_2
    try clear hfz22_3
    try clear hfz22_4
    try clear hfz22_5
    try clear hfz24_0
    try clear hfz24_1
    try clear hfz24_2
    try clear hfz24_3
    try clear hfz24_4
    try clear hfz24_5
    try clear hfz25_0
    try clear hfz25_1
    try clear hfz25_2
    try clear hfz25_3
    try clear hfz25_4
    try clear hfz25_5
    try clear hfz27_0
    try clear hfz27_1
    try clear hfz27_2
    try clear hfz27_3
    try clear hfz27_4
    try clear hfz27_5
    try clear hfz28_0
    try clear hfz28_1
    try clear hfz28_2
    try clear hfz28_3
    try clear hfz28_4
    try clear hfz28_5
    obtain ⟨kq, x51_2, rfl, HA, HJ2, BK324, BK325, HB⟩ := hcut
    cases kq with
    | zero => exact absurd HA.out (by first | (intro h_; cases h_; done) | simp [bobbinref14_Same.j0])
    | succ kj2 =>
      have H := HA.out
      clear HA
      rw [bobbinref14_Same.j0_eq] at H
      by_cases c29 : x51_2 = true
      · subst c29
        have H1 : (some false) = some r := by rw [if_pos rfl] at H; exact H
        clear H
        have H := H1
        clear H1
        obtain rfl := Option.some.inj H
        go_wp2
        go_ret
        exact ⟨by first | rfl | (simp [errW_none, errW_some] <;> rfl) | (simp [*, errW_none, errW_some] <;> rfl), by repeat (first | (with_reducible first | exact HB.out | apply below_alloc | apply pw_below_drewN | apply below_drew1 | refine below_set ?_ GE324.out | refine below_set ?_ GE325.out) | exact HB.out)⟩
      · replace c29 := Bool.eq_false_iff.mpr c29
        subst c29
        have H1 : (bobbinref14_Same.l0 kj2 0 a0_0 a0_1 a0_2 a0_3 l0_4 l0_5 a1_0 a1_1 a1_2 a1_3 l1_4 l1_5) = some r := by rw [if_neg (show ¬ (false = true) by decide)] at H; exact H
        clear H
        have H := H1
        clear H1
        have H' := Aside0.mk H
        clear H
        go_wp2
        go_loopg [5] kj2 (fun kq v5 w' => ∃ (x5_2 : Int), v5 = .int .i64 x5_2 ∧ Aside0 (bobbinref14_Same.l0 kq x5_2 a0_0 a0_1 a0_2 a0_3 l0_4 l0_5 a1_0 a1_1 a1_2 a1_3 l1_4 l1_5 = some r) ∧ Aside0 (kq ≤ kj2) ∧ Aside0 (w'.heap[gb324]? = some (.cells #[.int .i64 a0_0, .int .i64 a0_1, .int .i64 a0_2, .int .i64 a0_3, (.slice A0_4 l0_4.length c0_4), (.slice A0_5 l0_5.length c0_5)] 25 (0, 0))) ∧ Aside0 (w'.heap[gb325]? = some (.cells #[.int .i64 a1_0, .int .i64 a1_1, .int .i64 a1_2, .int .i64 a1_3, (.slice A1_4 l1_4.length c1_4), (.slice A1_5 l1_5.length c1_5)] 25 (0, 0))) ∧ Aside0 (Below w.heap.size w w'))
        case atStart => exact ⟨(0), (by first | rfl | (simp; done) | (simp [*]; done)), H', ⟨Nat.le_refl _⟩, ⟨by (with_reducible repeat (first | refine blk_drewN ?_ _ | refine blk_drew ?_ | refine blk_alloc ?_ _)); exact BK324.out⟩, ⟨by (with_reducible repeat (first | refine blk_drewN ?_ _ | refine blk_drew ?_ | refine blk_alloc ?_ _)); exact BK325.out⟩, ⟨by repeat (first | (with_reducible first | exact HB.out | apply below_alloc | apply pw_below_drewN | apply below_drew1 | refine below_set ?_ GE324.out | refine below_set ?_ GE325.out) | exact HB.out)⟩⟩
        case round =>
          clear H'
          try clear c1
          try clear c2
          try clear p2
          try clear c6
          try clear c6b0
          try clear c6b1
          try clear c7
          try clear c7b0
          try clear c7b1
          try clear c8
          try clear c8b0
          try clear c8b1
          try clear c9
          try clear c9b0
          try clear c9b1
          try clear c10
          try clear c10b0
          try clear c10b1
          try clear c10b2
          try clear c11
          try clear c14
          try clear c17
          try clear c20
          try clear c23
          try clear c26
          try clear c29
          try clear hcz12_0
          try clear hcz12_1
          try clear hcz12_2
          try clear hcz12_3
          try clear hcz12_4
          try clear hcz12_5
          try clear hcz13_0
          try clear hcz13_1
          try clear hcz13_2
          try clear hcz13_3
          try clear hcz13_4
          try clear hcz13_5
          try clear hcz15_0
          try clear hcz15_1
          try clear hcz15_2
          try clear hcz15_3
          try clear hcz15_4
          try clear hcz15_5
          try clear hcz16_0
          try clear hcz16_1
          try clear hcz16_2
          try clear hcz16_3
          try clear hcz16_4
          try clear hcz16_5
          try clear hcz18_0
          try clear hcz18_1
          try clear hcz18_2
          try clear hcz18_3
          try clear hcz18_4
          try clear hcz18_5
          try clear hcz19_0
          try clear hcz19_1
          try clear hcz19_2
          try clear hcz19_3
          try clear hcz19_4
          try clear hcz19_5
          try clear hcz21_0
          try clear hcz21_1
          try clear hcz21_2
          try clear hcz21_3
          try clear hcz21_4
          try clear hcz21_5
          try clear hcz22_0
          try clear hcz22_1
          try clear hcz22_2
          try clear hcz22_3
          try clear hcz22_4
          try clear hcz22_5
          try clear hcz24_0
          try clear hcz24_1
          try clear hcz24_2
          try clear hcz24_3
          try clear hcz24_4
          try clear hcz24_5
          try clear hcz25_0
          try clear hcz25_1
          try clear hcz25_2
          try clear hcz25_3
          try clear hcz25_4
          try clear hcz25_5
          try clear hcz27_0
          try clear hcz27_1
          try clear hcz27_2
          try clear hcz27_3
          try clear hcz27_4
          try clear hcz27_5
          try clear hcz28_0
          try clear hcz28_1
          try clear hcz28_2
          try clear hcz28_3
          try clear hcz28_4
          try clear hcz28_5
          try clear hfz12_0
          try clear hfz12_1
          try clear hfz12_2
          try clear hfz12_3
          try clear hfz12_4
          try clear hfz12_5
          try clear hfz13_0
          try clear hfz13_1
          try clear hfz13_2
          try clear hfz13_3
          try clear hfz13_4
          try clear hfz13_5
          try clear hfz15_0
          try clear hfz15_1
          try clear hfz15_2
          try clear hfz15_3
          try clear hfz15_4
          try clear hfz15_5
          try clear hfz16_0
          try clear hfz16_1
          try clear hfz16_2
          try clear hfz16_3
          try clear hfz16_4
          try clear hfz16_5
          try clear hfz18_0
          try clear hfz18_1
          try clear hfz18_2
          try clear hfz18_3
          try clear hfz18_4
          try clear hfz18_5
          try clear hfz19_0
          try clear hfz19_1
          try clear hfz19_2
          try clear hfz19_3
          try clear hfz19_4
          try clear hfz19_5
          try clear hfz21_0
          try clear hfz21_1
          try clear hfz21_2
          try clear hfz21_3
          try clear hfz21_4
          try clear hfz21_5
          try clear hfz22_0
          try clear hfz22_1
          try clear hfz22_2
          try clear hfz22_3
          try clear hfz22_4
          try clear hfz22_5
          try clear hfz24_0
          try clear hfz24_1
          try clear hfz24_2
          try clear hfz24_3
          try clear hfz24_4
          try clear hfz24_5
          try clear hfz25_0
          try clear hfz25_1
          try clear hfz25_2
          try clear hfz25_3
          try clear hfz25_4
          try clear hfz25_5
          try clear hfz27_0
          try clear hfz27_1
          try clear hfz27_2
          try clear hfz27_3
          try clear hfz27_4
          try clear hfz27_5
          try clear hfz28_0
          try clear hfz28_1
          try clear hfz28_2
          try clear hfz28_3
          try clear hfz28_4
          try clear hfz28_5
          try clear p2
          obtain ⟨x5_2, rfl, HA, HK2, BK324, BK325, HB⟩ := hrel
          cases gk with
          | zero => exact absurd HA.out (by first | (intro h_; cases h_; done) | simp [bobbinref14_Same.l0])
          | succ k2 =>
            have H := HA.out
            clear HA
            rw [bobbinref14_Same.l0_eq] at H
            by_cases c30 : x5_2 < (l0_4.length : Int)
            · rw [if_pos c30] at H
              have c30b0 : decide (x5_2 < (l0_4.length : Int)) = true := decide_eq_true c30
              clear c30
              by_cases c31 : 0 ≤ x5_2
              · rw [if_pos c31] at H
                have c31b0 : decide (0 ≤ x5_2) = true := decide_eq_true c31
                clear c31
                by_cases c32 : x5_2 < (l1_4.length : Int)
                · rw [if_pos c32] at H
                  have c32b0 : decide (x5_2 < (l1_4.length : Int)) = true := decide_eq_true c32
                  clear c32
                  replace H := Option.bind_eq_some_iff.mp H
                  obtain ⟨t328, A330, H⟩ := H
                  replace H : (if t328 = true then (bobbinref14_Same.l0 k2 (wrap64 (x5_2 + 1)) a0_0 a0_1 a0_2 a0_3 l0_4 l0_5 a1_0 a1_1 a1_2 a1_3 l1_4 l1_5) else (some false)) = some r := H
                  have A33 := Aside0.mk A330
                  clear A330
                  by_cases c34 : t328 = true
                  · subst c34
                    have H1 : (bobbinref14_Same.l0 k2 (wrap64 (x5_2 + 1)) a0_0 a0_1 a0_2 a0_3 l0_4 l0_5 a1_0 a1_1 a1_2 a1_3 l1_4 l1_5) = some r := by rw [if_pos rfl] at H; exact H
                    clear H
                    have H := H1
                    clear H1
                    have H' := Aside0.mk H
                    clear H
                    have hnb35 := NB324_325.out
                    have hnc35 := NB325_324.out
                    have hcz36_0 : wr.cell? ⟨gb324, 0, none⟩ = some (.int .i64 a0_0) := (blk_cell BK324.out 0).trans rfl
                    have hcz36_1 : wr.cell? ⟨gb324, 1, none⟩ = some (.int .i64 a0_1) := (blk_cell BK324.out 1).trans rfl
                    have hcz36_2 : wr.cell? ⟨gb324, 2, none⟩ = some (.int .i64 a0_2) := (blk_cell BK324.out 2).trans rfl
                    have hcz36_3 : wr.cell? ⟨gb324, 3, none⟩ = some (.int .i64 a0_3) := (blk_cell BK324.out 3).trans rfl
                    have hcz36_4 : wr.cell? ⟨gb324, 4, none⟩ = some (.slice A0_4 l0_4.length c0_4) := (blk_cell BK324.out 4).trans rfl
                    have hcz36_5 : wr.cell? ⟨gb324, 5, none⟩ = some (.slice A0_5 l0_5.length c0_5) := (blk_cell BK324.out 5).trans rfl
                    have hfz36_0 := blk_frozen BK324.out 0
                    have hfz36_1 := blk_frozen BK324.out 1
                    have hfz36_2 := blk_frozen BK324.out 2
                    have hfz36_3 := blk_frozen BK324.out 3
                    have hfz36_4 := blk_frozen BK324.out 4
                    have hfz36_5 := blk_frozen BK324.out 5
                    try go_wp2
                    have n0_ := Aside0.mk (blk_drew BK324.out)
                    have n1_ := Aside0.mk (blk_drew BK325.out)
                    have n2_ := Aside0.mk (below_drew1 HB.out)
                    clear BK324
                    clear BK325
                    clear HB
                    have BK324 := n0_
                    have BK325 := n1_
                    have HB := n2_
                    clear n0_ n1_ n2_
                    have p326 : 0 ≤ (x5_2 : Int) := of_decide_eq_true (by first | (with_reducible assumption) | assumption)
                    have q326 : x5_2 < (l0_4.length : Int) := of_decide_eq_true (by first | (with_reducible assumption) | assumption)
                    obtain ⟨ad326, A326_4, c326_4, A326_6, c326_6, e326, hx326_0, hx326_1, hx326_2, hx326_3, hx326_4, hx326_5, hx326_6, hl326_4, hi326_4, hl326_6, hi326_6⟩ := at_T30 HR0_4.out x5_2 p326 q326
                    have hw326_6 := hx326_6
                    have hw326_5 := hx326_5
                    have hw326_4 := hx326_4
                    have hw326_3 := hx326_3
                    have hw326_2 := hx326_2
                    have hw326_1 := hx326_1
                    have hw326_0 := hx326_0
                    cases e326
                    replace hx326_0 := (HB.out.cell (World.block_lt_of_cell? w _ hx326_0)).trans hx326_0
                    replace hx326_1 := (HB.out.cell (World.block_lt_of_cell? w _ hx326_1)).trans hx326_1
                    replace hx326_2 := (HB.out.cell (World.block_lt_of_cell? w _ hx326_2)).trans hx326_2
                    replace hx326_3 := (HB.out.cell (World.block_lt_of_cell? w _ hx326_3)).trans hx326_3
                    replace hx326_4 := (HB.out.cell (World.block_lt_of_cell? w _ hx326_4)).trans hx326_4
                    replace hx326_5 := (HB.out.cell (World.block_lt_of_cell? w _ hx326_5)).trans hx326_5
                    replace hx326_6 := (HB.out.cell (World.block_lt_of_cell? w _ hx326_6)).trans hx326_6
                    have HR326_4 := Aside0.mk hi326_4
                    have HC326_4 := Aside0.mk hl326_4
                    clear hi326_4 hl326_4
                    have HR326_6 := Aside0.mk hi326_6
                    have HC326_6 := Aside0.mk hl326_6
                    clear hi326_6 hl326_6
                    replace p326 := eq_true p326
                    replace q326 := eq_true q326
                    have p327 : 0 ≤ (x5_2 : Int) := of_decide_eq_true (by first | (with_reducible assumption) | assumption)
                    have q327 : x5_2 < (l1_4.length : Int) := of_decide_eq_true (by first | (with_reducible assumption) | assumption)
                    obtain ⟨ad327, A327_4, c327_4, A327_6, c327_6, e327, hx327_0, hx327_1, hx327_2, hx327_3, hx327_4, hx327_5, hx327_6, hl327_4, hi327_4, hl327_6, hi327_6⟩ := at_T30 HR1_4.out x5_2 p327 q327
                    have hw327_6 := hx327_6
                    have hw327_5 := hx327_5
                    have hw327_4 := hx327_4
                    have hw327_3 := hx327_3
                    have hw327_2 := hx327_2
                    have hw327_1 := hx327_1
                    have hw327_0 := hx327_0
                    cases e327
                    replace hx327_0 := (HB.out.cell (World.block_lt_of_cell? w _ hx327_0)).trans hx327_0
                    replace hx327_1 := (HB.out.cell (World.block_lt_of_cell? w _ hx327_1)).trans hx327_1
                    replace hx327_2 := (HB.out.cell (World.block_lt_of_cell? w _ hx327_2)).trans hx327_2
                    replace hx327_3 := (HB.out.cell (World.block_lt_of_cell? w _ hx327_3)).trans hx327_3
                    replace hx327_4 := (HB.out.cell (World.block_lt_of_cell? w _ hx327_4)).trans hx327_4
                    replace hx327_5 := (HB.out.cell (World.block_lt_of_cell? w _ hx327_5)).trans hx327_5
                    replace hx327_6 := (HB.out.cell (World.block_lt_of_cell? w _ hx327_6)).trans hx327_6
                    have HR327_4 := Aside0.mk hi327_4
                    have HC327_4 := Aside0.mk hl327_4
                    clear hi327_4 hl327_4
                    have HR327_6 := Aside0.mk hi327_6
                    have HC327_6 := Aside0.mk hl327_6
                    clear hi327_6 hl327_6
                    replace p327 := eq_true p327
                    replace q327 := eq_true q327
                    refine start_ (n := 12) (S := fun w' => w'.cell? ⟨gb324, 0, none⟩ = some (.int .i64 a0_0) ∧ w'.cell? ⟨gb324, 1, none⟩ = some (.int .i64 a0_1) ∧ w'.cell? ⟨gb324, 2, none⟩ = some (.int .i64 a0_2) ∧ w'.cell? ⟨gb324, 3, none⟩ = some (.int .i64 a0_3) ∧ w'.cell? ⟨gb324, 4, none⟩ = some (.slice (some ad326) l0_4.length c0_4) ∧ w'.cell? ⟨gb324, 5, none⟩ = some (.slice A0_5 l0_5.length c0_5) ∧ w'.cell? ⟨gb325, 0, none⟩ = some (.int .i64 a1_0) ∧ w'.cell? ⟨gb325, 1, none⟩ = some (.int .i64 a1_1) ∧ w'.cell? ⟨gb325, 2, none⟩ = some (.int .i64 a1_2) ∧ w'.cell? ⟨gb325, 3, none⟩ = some (.int .i64 a1_3) ∧ w'.cell? ⟨gb325, 4, none⟩ = some (.slice (some ad327) l1_4.length c1_4) ∧ w'.cell? ⟨gb325, 5, none⟩ = some (.slice A1_5 l1_5.length c1_5) ∧ w'.cell? (ad326.add ((x5_2).toNat * 7)) = some (.int .i64 ((rd_T30 l0_4 x5_2).f0)) ∧ w'.cell? ⟨(ad326.add ((x5_2).toNat * 7)).block, (ad326.add ((x5_2).toNat * 7)).off + 1, none⟩ = some (.int .i64 ((rd_T30 l0_4 x5_2).f1)) ∧ w'.cell? ⟨(ad326.add ((x5_2).toNat * 7)).block, (ad326.add ((x5_2).toNat * 7)).off + 2, none⟩ = some (.int .i64 ((rd_T30 l0_4 x5_2).f2)) ∧ w'.cell? ⟨(ad326.add ((x5_2).toNat * 7)).block, (ad326.add ((x5_2).toNat * 7)).off + 3, none⟩ = some (.bool ((rd_T30 l0_4 x5_2).f3.f0)) ∧ w'.cell? ⟨(ad326.add ((x5_2).toNat * 7)).block, (ad326.add ((x5_2).toNat * 7)).off + 4, none⟩ = some (.slice A326_4 ((rd_T30 l0_4 x5_2).f3.f1).length c326_4) ∧ w'.cell? ⟨(ad326.add ((x5_2).toNat * 7)).block, (ad326.add ((x5_2).toNat * 7)).off + 5, none⟩ = some (.bool ((rd_T30 l0_4 x5_2).f4.f0)) ∧ w'.cell? ⟨(ad326.add ((x5_2).toNat * 7)).block, (ad326.add ((x5_2).toNat * 7)).off + 6, none⟩ = some (.slice A326_6 ((rd_T30 l0_4 x5_2).f4.f1).length c326_6) ∧ w'.cell? (ad327.add ((x5_2).toNat * 7)) = some (.int .i64 ((rd_T30 l1_4 x5_2).f0)) ∧ w'.cell? ⟨(ad327.add ((x5_2).toNat * 7)).block, (ad327.add ((x5_2).toNat * 7)).off + 1, none⟩ = some (.int .i64 ((rd_T30 l1_4 x5_2).f1)) ∧ w'.cell? ⟨(ad327.add ((x5_2).toNat * 7)).block, (ad327.add ((x5_2).toNat * 7)).off + 2, none⟩ = some (.int .i64 ((rd_T30 l1_4 x5_2).f2)) ∧ w'.cell? ⟨(ad327.add ((x5_2).toNat * 7)).block, (ad327.add ((x5_2).toNat * 7)).off + 3, none⟩ = some (.bool ((rd_T30 l1_4 x5_2).f3.f0)) ∧ w'.cell? ⟨(ad327.add ((x5_2).toNat * 7)).block, (ad327.add ((x5_2).toNat * 7)).off + 4, none⟩ = some (.slice A327_4 ((rd_T30 l1_4 x5_2).f3.f1).length c327_4) ∧ w'.cell? ⟨(ad327.add ((x5_2).toNat * 7)).block, (ad327.add ((x5_2).toNat * 7)).off + 5, none⟩ = some (.bool ((rd_T30 l1_4 x5_2).f4.f0)) ∧ w'.cell? ⟨(ad327.add ((x5_2).toNat * 7)).block, (ad327.add ((x5_2).toNat * 7)).off + 6, none⟩ = some (.slice A327_6 ((rd_T30 l1_4 x5_2).f4.f1).length c327_6)) (ds := []) #[false, false, false, false, false, false, false, false, false, false, false, false] (by kernel_rfl) rfl rfl ⟨(blk_cell BK324.out 0).trans rfl, (blk_cell BK324.out 1).trans rfl, (blk_cell BK324.out 2).trans rfl, (blk_cell BK324.out 3).trans rfl, (blk_cell BK324.out 4).trans rfl, (blk_cell BK324.out 5).trans rfl, (blk_cell BK325.out 0).trans rfl, (blk_cell BK325.out 1).trans rfl, (blk_cell BK325.out 2).trans rfl, (blk_cell BK325.out 3).trans rfl, (blk_cell BK325.out 4).trans rfl, (blk_cell BK325.out 5).trans rfl, ((HB.out.cell (World.block_lt_of_cell? w _ hw326_0)).trans hw326_0), ((HB.out.cell (World.block_lt_of_cell? w _ hw326_1)).trans hw326_1), ((HB.out.cell (World.block_lt_of_cell? w _ hw326_2)).trans hw326_2), ((HB.out.cell (World.block_lt_of_cell? w _ hw326_3)).trans hw326_3), ((HB.out.cell (World.block_lt_of_cell? w _ hw326_4)).trans hw326_4), ((HB.out.cell (World.block_lt_of_cell? w _ hw326_5)).trans hw326_5), ((HB.out.cell (World.block_lt_of_cell? w _ hw326_6)).trans hw326_6), ((HB.out.cell (World.block_lt_of_cell? w _ hw327_0)).trans hw327_0), ((HB.out.cell (World.block_lt_of_cell? w _ hw327_1)).trans hw327_1), ((HB.out.cell (World.block_lt_of_cell? w _ hw327_2)).trans hw327_2), ((HB.out.cell (World.block_lt_of_cell? w _ hw327_3)).trans hw327_3), ((HB.out.cell (World.block_lt_of_cell? w _ hw327_4)).trans hw327_4), ((HB.out.cell (World.block_lt_of_cell? w _ hw327_5)).trans hw327_5), ((HB.out.cell (World.block_lt_of_cell? w _ hw327_6)).trans hw327_6)⟩ (fun hHeld => ?_); refine with_tabW bobbinref14_Same.tab6 bobbinref14_Same.bits6 (fun HT_ HW_ => ?_)
                    generalize wr.drew = w37 at BK324 BK325 HB HR326_4 HR326_6 HR327_4 HR327_6 hx326_0 hx326_1 hx326_2 hx326_3 hx326_4 hx326_5 hx326_6 hx327_0 hx327_1 hx327_2 hx327_3 hx327_4 hx327_5 hx327_6 hHeld ⊢
                    refine pure_ (i := 0) (N := some 59) (v := ?_) (a' := ?_) #[true, false, false, false, false, false, false, false, false, false, false, false] rfl rfl (any_of HT_.out (by kernel_rfl)) (fun _ _ _ h => h) (Or.inl ⟨by rfl, ?_⟩) ?_ ?_
                    rotate_left
                    · intro w'
                      go_simp
                      with_reducible rfl
                    rotate_left
                    · simp only [Act.put, List.setIfInBounds_toArray, List.set_cons_zero, List.set_cons_succ, i64_w, i32_w]
                      rfl
                    refine pure_ (i := 2) (N := some 61) (v := ?_) (a' := ?_) #[true, false, true, false, false, false, false, false, false, false, false, false] rfl rfl (any_of HT_.out (by kernel_rfl)) (fun _ _ _ h => h) (Or.inl ⟨by rfl, ?_⟩) ?_ ?_
                    rotate_left
                    · intro w'
                      go_simp
                      with_reducible rfl
                    rotate_left
                    · simp only [Act.put, List.setIfInBounds_toArray, List.set_cons_zero, List.set_cons_succ, i64_w, i32_w]
                      rfl
                    refine pure_ (i := 5) (N := some 64) (v := ?_) (a' := ?_) #[true, false, true, false, false, true, false, false, false, false, false, false] rfl rfl (any_of HT_.out (by kernel_rfl)) (fun _ _ _ h => h) (Or.inl ⟨by rfl, ?_⟩) ?_ ?_
                    rotate_left
                    · intro w'
                      go_simp
                      with_reducible rfl
                    rotate_left
                    · simp only [Act.put, List.setIfInBounds_toArray, List.set_cons_zero, List.set_cons_succ, i64_w, i32_w]
                      rfl
                    refine pure_ (i := 7) (N := some 66) (v := ?_) (a' := ?_) #[true, false, true, false, false, true, false, true, false, false, false, false] rfl rfl (any_of HT_.out (by kernel_rfl)) (fun _ _ _ h => h) (Or.inl ⟨by rfl, ?_⟩) ?_ ?_
                    rotate_left
                    · intro w'
                      go_simp
                      with_reducible rfl
                    rotate_left
                    · simp only [Act.put, List.setIfInBounds_toArray, List.set_cons_zero, List.set_cons_succ, i64_w, i32_w]
                      rfl
                    refine take_ (i := 1) (N := some 60) (v := ?_) (a' := ?_) #[true, true, true, false, false, true, false, true, false, false, false, false] rfl rfl (take_ofW HT_.out HW_.out (by kernel_rfl)) (fun _ _ _ h => h) (Or.inl ⟨by rfl, ?_⟩) hHeld ?_ ?_
                    rotate_left
                    · rintro w' ⟨s0, s1, s2, s3, s4, s5, s6, s7, s8, s9, s10, s11, s12, s13, s14, s15, s16, s17, s18, s19, s20, s21, s22, s23, s24, s25⟩
                      go_simp
                      with_reducible rfl
                    rotate_left
                    · simp only [Act.put, List.setIfInBounds_toArray, List.set_cons_zero, List.set_cons_succ, i64_w, i32_w]
                      rfl
                    refine pure_ (i := 3) (N := some 62) (v := ?_) (a' := ?_) #[true, true, true, true, false, true, false, true, false, false, false, false] rfl rfl (any_of HT_.out (by kernel_rfl)) (fun _ _ _ h => h) (Or.inl ⟨by rfl, ?_⟩) ?_ ?_
                    rotate_left
                    · intro w'
                      go_simp
                      with_reducible rfl
                    rotate_left
                    · simp only [Act.put, List.setIfInBounds_toArray, List.set_cons_zero, List.set_cons_succ, i64_w, i32_w]
                      rfl
                    refine take_ (i := 4) (N := some 63) (v := ?_) (a' := ?_) #[true, true, true, true, true, true, false, true, false, false, false, false] rfl rfl (take_ofW HT_.out HW_.out (by kernel_rfl)) (fun _ _ _ h => h) (Or.inl ⟨by rfl, ?_⟩) hHeld ?_ ?_
                    rotate_left
                    · rintro w' ⟨s0, s1, s2, s3, s4, s5, s6, s7, s8, s9, s10, s11, s12, s13, s14, s15, s16, s17, s18, s19, s20, s21, s22, s23, s24, s25⟩
                      go_simp
                      with_reducible rfl
                    rotate_left
                    · simp only [Act.put, List.setIfInBounds_toArray, List.set_cons_zero, List.set_cons_succ, i64_w, i32_w]
                      rfl
                    refine take_ (i := 6) (N := some 65) (v := ?_) (a' := ?_) #[true, true, true, true, true, true, true, true, false, false, false, false] rfl rfl (take_ofW HT_.out HW_.out (by kernel_rfl)) (fun _ _ _ h => h) (Or.inl ⟨by rfl, ?_⟩) hHeld ?_ ?_
                    rotate_left
                    · rintro w' ⟨s0, s1, s2, s3, s4, s5, s6, s7, s8, s9, s10, s11, s12, s13, s14, s15, s16, s17, s18, s19, s20, s21, s22, s23, s24, s25⟩
                      go_simp
                      with_reducible rfl
                    rotate_left
                    · simp only [Act.put, List.setIfInBounds_toArray, List.set_cons_zero, List.set_cons_succ, i64_w, i32_w]
                      rfl
                    refine pure_ (i := 8) (N := some 67) (v := ?_) (a' := ?_) #[true, true, true, true, true, true, true, true, true, false, false, false] rfl rfl (any_of HT_.out (by kernel_rfl)) (fun _ _ _ h => h) (Or.inl ⟨by rfl, ?_⟩) ?_ ?_
                    rotate_left
                    · intro w'
                      go_simp
                      with_reducible rfl
                    rotate_left
                    · simp only [Act.put, List.setIfInBounds_toArray, List.set_cons_zero, List.set_cons_succ, i64_w, i32_w]
                      rfl
                    refine take_ (i := 9) (N := some 68) (v := ?_) (a' := ?_) #[true, true, true, true, true, true, true, true, true, true, false, false] rfl rfl (take_ofW HT_.out HW_.out (by kernel_rfl)) (fun _ _ _ h => h) (Or.inl ⟨by rfl, ?_⟩) hHeld ?_ ?_
                    rotate_left
                    · rintro w' ⟨s0, s1, s2, s3, s4, s5, s6, s7, s8, s9, s10, s11, s12, s13, s14, s15, s16, s17, s18, s19, s20, s21, s22, s23, s24, s25⟩
                      go_simp
                      with_reducible rfl
                    rotate_left
                    · simp only [Act.put, List.setIfInBounds_toArray, List.set_cons_zero, List.set_cons_succ, i64_w, i32_w]
                      rfl
                    refine one_ (i := 10) (N := some 69) #[true, true, true, true, true, true, true, true, true, true, true, false] rfl rfl (one_of HT_.out (by kernel_rfl)) (by decide) (fun K hK => ?_)
                    refine goes_ Try.func21 (by kernel_rfl) rfl #[.agg #[.int .i64 ((rd_T30 l0_4 x5_2).f0), .int .i64 ((rd_T30 l0_4 x5_2).f1), .int .i64 ((rd_T30 l0_4 x5_2).f2), .bool ((rd_T30 l0_4 x5_2).f3.f0), .slice A326_4 ((rd_T30 l0_4 x5_2).f3.f1).length c326_4, .bool ((rd_T30 l0_4 x5_2).f4.f0), .slice A326_6 ((rd_T30 l0_4 x5_2).f4.f1).length c326_6], .agg #[.int .i64 ((rd_T30 l1_4 x5_2).f0), .int .i64 ((rd_T30 l1_4 x5_2).f1), .int .i64 ((rd_T30 l1_4 x5_2).f2), .bool ((rd_T30 l1_4 x5_2).f3.f0), .slice A327_4 ((rd_T30 l1_4 x5_2).f3.f1).length c327_4, .bool ((rd_T30 l1_4 x5_2).f4.f0), .slice A327_6 ((rd_T30 l1_4 x5_2).f4.f1).length c327_6]] (by rfl) rfl rfl (by (try simp only [List.map_toArray, List.map_cons, List.map_nil]); first | done | rfl | (simp only [List.length_drop, List.length_take]; rfl)) ?_
                    with_reducible refine (bobbinref14_Changes.calls k2 ((rd_T30 l0_4 x5_2).f0) ((rd_T30 l0_4 x5_2).f1) ((rd_T30 l0_4 x5_2).f2) ((rd_T30 l0_4 x5_2).f3.f0) _ _ ((rd_T30 l0_4 x5_2).f3.f1) ((rd_T30 l0_4 x5_2).f4.f0) _ _ ((rd_T30 l0_4 x5_2).f4.f1) ((rd_T30 l1_4 x5_2).f0) ((rd_T30 l1_4 x5_2).f1) ((rd_T30 l1_4 x5_2).f2) ((rd_T30 l1_4 x5_2).f3.f0) _ _ ((rd_T30 l1_4 x5_2).f3.f1) ((rd_T30 l1_4 x5_2).f4.f0) _ _ ((rd_T30 l1_4 x5_2).f4.f1) true _ ?side1 ?side2 ?side3 ?side4 ?side5 ?side6 ?side7 ?side8 A33.out).mono ?_
                    (case side1 => repeat (first | exact (Kd.C_below HR326_4.out HB.out) | (with_reducible refine Kd.C_alloc ?_ _) | (with_reducible refine Kd.C_drewN ?_ _) | (with_reducible refine Kd.C_drew ?_)))
                    (case side2 => exact HC326_4.out)
                    (case side3 => repeat (first | exact (Kd.C_below HR326_6.out HB.out) | (with_reducible refine Kd.C_alloc ?_ _) | (with_reducible refine Kd.C_drewN ?_ _) | (with_reducible refine Kd.C_drew ?_)))
                    (case side4 => exact HC326_6.out)
                    (case side5 => repeat (first | exact (Kd.C_below HR327_4.out HB.out) | (with_reducible refine Kd.C_alloc ?_ _) | (with_reducible refine Kd.C_drewN ?_ _) | (with_reducible refine Kd.C_drew ?_)))
                    (case side6 => exact HC327_4.out)
                    (case side7 => repeat (first | exact (Kd.C_below HR327_6.out HB.out) | (with_reducible refine Kd.C_alloc ?_ _) | (with_reducible refine Kd.C_drewN ?_ _) | (with_reducible refine Kd.C_drew ?_)))
                    (case side8 => exact HC327_6.out)
                    rintro e w38 ⟨rfl, hb⟩
                    refine ⟨_, rfl, ?_⟩
                    have n0_ := Aside0.mk (blk_below (g := gb324) (o := .cells #[.int .i64 a0_0, .int .i64 a0_1, .int .i64 a0_2, .int .i64 a0_3, .slice (some ad326) l0_4.length c0_4, .slice A0_5 l0_5.length c0_5] 25 (0, 0)) (by (with_reducible repeat (first | refine blk_drewN ?_ _ | refine blk_drew ?_ | refine blk_alloc ?_ _)); exact BK324.out) hb)
                    have n1_ := Aside0.mk (blk_below (g := gb325) (o := .cells #[.int .i64 a1_0, .int .i64 a1_1, .int .i64 a1_2, .int .i64 a1_3, .slice (some ad327) l1_4.length c1_4, .slice A1_5 l1_5.length c1_5] 25 (0, 0)) (by (with_reducible repeat (first | refine blk_drewN ?_ _ | refine blk_drew ?_ | refine blk_alloc ?_ _)); exact BK325.out) hb)
                    have n2_ := Aside0.mk (below_step (by repeat (first | (with_reducible first | exact HB.out | apply below_alloc | apply pw_below_drewN | apply below_drew1 | refine below_set ?_ GE324.out | refine below_set ?_ GE325.out) | exact HB.out)) hb)
                    clear BK324
                    clear BK325
                    clear HB
                    have BK324 := n0_
                    have BK325 := n1_
                    have HB := n2_
                    clear n0_ n1_ n2_
                    (try clear hb)
                    (try clear hb2)
                    (try clear hk)
                    (try clear hi)
                    refine hK.out _ _ ⟨(blk_cell BK324.out 0).trans rfl, (blk_cell BK324.out 1).trans rfl, (blk_cell BK324.out 2).trans rfl, (blk_cell BK324.out 3).trans rfl, (blk_cell BK324.out 4).trans rfl, (blk_cell BK324.out 5).trans rfl, (blk_cell BK325.out 0).trans rfl, (blk_cell BK325.out 1).trans rfl, (blk_cell BK325.out 2).trans rfl, (blk_cell BK325.out 3).trans rfl, (blk_cell BK325.out 4).trans rfl, (blk_cell BK325.out 5).trans rfl, ((HB.out.cell (World.block_lt_of_cell? w _ hw326_0)).trans hw326_0), ((HB.out.cell (World.block_lt_of_cell? w _ hw326_1)).trans hw326_1), ((HB.out.cell (World.block_lt_of_cell? w _ hw326_2)).trans hw326_2), ((HB.out.cell (World.block_lt_of_cell? w _ hw326_3)).trans hw326_3), ((HB.out.cell (World.block_lt_of_cell? w _ hw326_4)).trans hw326_4), ((HB.out.cell (World.block_lt_of_cell? w _ hw326_5)).trans hw326_5), ((HB.out.cell (World.block_lt_of_cell? w _ hw326_6)).trans hw326_6), ((HB.out.cell (World.block_lt_of_cell? w _ hw327_0)).trans hw327_0), ((HB.out.cell (World.block_lt_of_cell? w _ hw327_1)).trans hw327_1), ((HB.out.cell (World.block_lt_of_cell? w _ hw327_2)).trans hw327_2), ((HB.out.cell (World.block_lt_of_cell? w _ hw327_3)).trans hw327_3), ((HB.out.cell (World.block_lt_of_cell? w _ hw327_4)).trans hw327_4), ((HB.out.cell (World.block_lt_of_cell? w _ hw327_5)).trans hw327_5), ((HB.out.cell (World.block_lt_of_cell? w _ hw327_6)).trans hw327_6)⟩ (fun hHeld => ?_)
                    clear hK K
                    refine norm_ (a' := ?_) ?_ ?_
                    rotate_left
                    · show Act.put _ (some 69) _ = _
                      simp only [Act.put, List.setIfInBounds_toArray, List.set_cons_zero, List.set_cons_succ, i64_w, i32_w]
                      rfl
                    refine pure_ (i := 11) (N := some 6) (v := ?_) (a' := ?_) #[true, true, true, true, true, true, true, true, true, true, true, true] rfl rfl (any_of HT_.out (by kernel_rfl)) (fun _ _ _ h => h) (Or.inl ⟨by rfl, ?_⟩) ?_ ?_
                    rotate_left
                    · intro w'
                      go_simp
                      with_reducible rfl
                    rotate_left
                    · simp only [Act.put, List.setIfInBounds_toArray, List.set_cons_zero, List.set_cons_succ, i64_w, i32_w]
                      rfl
                    refine done_ (done_of HT_.out (by kernel_rfl)) ?_
                    try go_wp2
                    go_roundg k2
                    case measure => have := HJ2.out; have := HK2.out; omega
                    case rel => exact ⟨(wrap64 (x5_2 + 1)), (by first | rfl | (simp; done) | (simp [*]; done)), H', ⟨by have := HJ2.out; have := HK2.out; omega⟩, ⟨by (with_reducible repeat (first | refine blk_drewN ?_ _ | refine blk_drew ?_ | refine blk_alloc ?_ _)); exact BK324.out⟩, ⟨by (with_reducible repeat (first | refine blk_drewN ?_ _ | refine blk_drew ?_ | refine blk_alloc ?_ _)); exact BK325.out⟩, ⟨by repeat (first | (with_reducible first | exact HB.out | apply below_alloc | apply pw_below_drewN | apply below_drew1 | refine below_set ?_ GE324.out | refine below_set ?_ GE325.out) | exact HB.out)⟩⟩
                  · replace c34 := Bool.eq_false_iff.mpr c34
                    subst c34
                    have H1 : (some false) = some r := by rw [if_neg (show ¬ (false = true) by decide)] at H; exact H
                    clear H
                    have H := H1
                    clear H1
                    obtain rfl := Option.some.inj H
                    have hnb39 := NB324_325.out
                    have hnc39 := NB325_324.out
                    have hcz40_0 : wr.cell? ⟨gb324, 0, none⟩ = some (.int .i64 a0_0) := (blk_cell BK324.out 0).trans rfl
                    have hcz40_1 : wr.cell? ⟨gb324, 1, none⟩ = some (.int .i64 a0_1) := (blk_cell BK324.out 1).trans rfl
                    have hcz40_2 : wr.cell? ⟨gb324, 2, none⟩ = some (.int .i64 a0_2) := (blk_cell BK324.out 2).trans rfl
                    have hcz40_3 : wr.cell? ⟨gb324, 3, none⟩ = some (.int .i64 a0_3) := (blk_cell BK324.out 3).trans rfl
                    have hcz40_4 : wr.cell? ⟨gb324, 4, none⟩ = some (.slice A0_4 l0_4.length c0_4) := (blk_cell BK324.out 4).trans rfl
                    have hcz40_5 : wr.cell? ⟨gb324, 5, none⟩ = some (.slice A0_5 l0_5.length c0_5) := (blk_cell BK324.out 5).trans rfl
                    have hfz40_0 := blk_frozen BK324.out 0
                    have hfz40_1 := blk_frozen BK324.out 1
                    have hfz40_2 := blk_frozen BK324.out 2
                    have hfz40_3 := blk_frozen BK324.out 3
                    have hfz40_4 := blk_frozen BK324.out 4
                    have hfz40_5 := blk_frozen BK324.out 5
                    try go_wp2
                    have n0_ := Aside0.mk (blk_drew BK324.out)
                    have n1_ := Aside0.mk (blk_drew BK325.out)
                    have n2_ := Aside0.mk (below_drew1 HB.out)
                    clear BK324
                    clear BK325
                    clear HB
                    have BK324 := n0_
                    have BK325 := n1_
                    have HB := n2_
                    clear n0_ n1_ n2_
                    have p326 : 0 ≤ (x5_2 : Int) := of_decide_eq_true (by first | (with_reducible assumption) | assumption)
                    have q326 : x5_2 < (l0_4.length : Int) := of_decide_eq_true (by first | (with_reducible assumption) | assumption)
                    obtain ⟨ad326, A326_4, c326_4, A326_6, c326_6, e326, hx326_0, hx326_1, hx326_2, hx326_3, hx326_4, hx326_5, hx326_6, hl326_4, hi326_4, hl326_6, hi326_6⟩ := at_T30 HR0_4.out x5_2 p326 q326
                    have hw326_6 := hx326_6
                    have hw326_5 := hx326_5
                    have hw326_4 := hx326_4
                    have hw326_3 := hx326_3
                    have hw326_2 := hx326_2
                    have hw326_1 := hx326_1
                    have hw326_0 := hx326_0
                    cases e326
                    replace hx326_0 := (HB.out.cell (World.block_lt_of_cell? w _ hx326_0)).trans hx326_0
                    replace hx326_1 := (HB.out.cell (World.block_lt_of_cell? w _ hx326_1)).trans hx326_1
                    replace hx326_2 := (HB.out.cell (World.block_lt_of_cell? w _ hx326_2)).trans hx326_2
                    replace hx326_3 := (HB.out.cell (World.block_lt_of_cell? w _ hx326_3)).trans hx326_3
                    replace hx326_4 := (HB.out.cell (World.block_lt_of_cell? w _ hx326_4)).trans hx326_4
                    replace hx326_5 := (HB.out.cell (World.block_lt_of_cell? w _ hx326_5)).trans hx326_5
                    replace hx326_6 := (HB.out.cell (World.block_lt_of_cell? w _ hx326_6)).trans hx326_6
                    have HR326_4 := Aside0.mk hi326_4
                    have HC326_4 := Aside0.mk hl326_4
                    clear hi326_4 hl326_4
                    have HR326_6 := Aside0.mk hi326_6
                    have HC326_6 := Aside0.mk hl326_6
                    clear hi326_6 hl326_6
                    replace p326 := eq_true p326
                    replace q326 := eq_true q326
                    have p327 : 0 ≤ (x5_2 : Int) := of_decide_eq_true (by first | (with_reducible assumption) | assumption)
                    have q327 : x5_2 < (l1_4.length : Int) := of_decide_eq_true (by first | (with_reducible assumption) | assumption)
                    obtain ⟨ad327, A327_4, c327_4, A327_6, c327_6, e327, hx327_0, hx327_1, hx327_2, hx327_3, hx327_4, hx327_5, hx327_6, hl327_4, hi327_4, hl327_6, hi327_6⟩ := at_T30 HR1_4.out x5_2 p327 q327
                    have hw327_6 := hx327_6
                    have hw327_5 := hx327_5
                    have hw327_4 := hx327_4
                    have hw327_3 := hx327_3
                    have hw327_2 := hx327_2
                    have hw327_1 := hx327_1
                    have hw327_0 := hx327_0
                    cases e327
                    replace hx327_0 := (HB.out.cell (World.block_lt_of_cell? w _ hx327_0)).trans hx327_0
                    replace hx327_1 := (HB.out.cell (World.block_lt_of_cell? w _ hx327_1)).trans hx327_1
                    replace hx327_2 := (HB.out.cell (World.block_lt_of_cell? w _ hx327_2)).trans hx327_2
                    replace hx327_3 := (HB.out.cell (World.block_lt_of_cell? w _ hx327_3)).trans hx327_3
                    replace hx327_4 := (HB.out.cell (World.block_lt_of_cell? w _ hx327_4)).trans hx327_4
                    replace hx327_5 := (HB.out.cell (World.block_lt_of_cell? w _ hx327_5)).trans hx327_5
                    replace hx327_6 := (HB.out.cell (World.block_lt_of_cell? w _ hx327_6)).trans hx327_6
                    have HR327_4 := Aside0.mk hi327_4
                    have HC327_4 := Aside0.mk hl327_4
                    clear hi327_4 hl327_4
                    have HR327_6 := Aside0.mk hi327_6
                    have HC327_6 := Aside0.mk hl327_6
                    clear hi327_6 hl327_6
                    replace p327 := eq_true p327
                    replace q327 := eq_true q327
                    refine start_ (n := 12) (S := fun w' => w'.cell? ⟨gb324, 0, none⟩ = some (.int .i64 a0_0) ∧ w'.cell? ⟨gb324, 1, none⟩ = some (.int .i64 a0_1) ∧ w'.cell? ⟨gb324, 2, none⟩ = some (.int .i64 a0_2) ∧ w'.cell? ⟨gb324, 3, none⟩ = some (.int .i64 a0_3) ∧ w'.cell? ⟨gb324, 4, none⟩ = some (.slice (some ad326) l0_4.length c0_4) ∧ w'.cell? ⟨gb324, 5, none⟩ = some (.slice A0_5 l0_5.length c0_5) ∧ w'.cell? ⟨gb325, 0, none⟩ = some (.int .i64 a1_0) ∧ w'.cell? ⟨gb325, 1, none⟩ = some (.int .i64 a1_1) ∧ w'.cell? ⟨gb325, 2, none⟩ = some (.int .i64 a1_2) ∧ w'.cell? ⟨gb325, 3, none⟩ = some (.int .i64 a1_3) ∧ w'.cell? ⟨gb325, 4, none⟩ = some (.slice (some ad327) l1_4.length c1_4) ∧ w'.cell? ⟨gb325, 5, none⟩ = some (.slice A1_5 l1_5.length c1_5) ∧ w'.cell? (ad326.add ((x5_2).toNat * 7)) = some (.int .i64 ((rd_T30 l0_4 x5_2).f0)) ∧ w'.cell? ⟨(ad326.add ((x5_2).toNat * 7)).block, (ad326.add ((x5_2).toNat * 7)).off + 1, none⟩ = some (.int .i64 ((rd_T30 l0_4 x5_2).f1)) ∧ w'.cell? ⟨(ad326.add ((x5_2).toNat * 7)).block, (ad326.add ((x5_2).toNat * 7)).off + 2, none⟩ = some (.int .i64 ((rd_T30 l0_4 x5_2).f2)) ∧ w'.cell? ⟨(ad326.add ((x5_2).toNat * 7)).block, (ad326.add ((x5_2).toNat * 7)).off + 3, none⟩ = some (.bool ((rd_T30 l0_4 x5_2).f3.f0)) ∧ w'.cell? ⟨(ad326.add ((x5_2).toNat * 7)).block, (ad326.add ((x5_2).toNat * 7)).off + 4, none⟩ = some (.slice A326_4 ((rd_T30 l0_4 x5_2).f3.f1).length c326_4) ∧ w'.cell? ⟨(ad326.add ((x5_2).toNat * 7)).block, (ad326.add ((x5_2).toNat * 7)).off + 5, none⟩ = some (.bool ((rd_T30 l0_4 x5_2).f4.f0)) ∧ w'.cell? ⟨(ad326.add ((x5_2).toNat * 7)).block, (ad326.add ((x5_2).toNat * 7)).off + 6, none⟩ = some (.slice A326_6 ((rd_T30 l0_4 x5_2).f4.f1).length c326_6) ∧ w'.cell? (ad327.add ((x5_2).toNat * 7)) = some (.int .i64 ((rd_T30 l1_4 x5_2).f0)) ∧ w'.cell? ⟨(ad327.add ((x5_2).toNat * 7)).block, (ad327.add ((x5_2).toNat * 7)).off + 1, none⟩ = some (.int .i64 ((rd_T30 l1_4 x5_2).f1)) ∧ w'.cell? ⟨(ad327.add ((x5_2).toNat * 7)).block, (ad327.add ((x5_2).toNat * 7)).off + 2, none⟩ = some (.int .i64 ((rd_T30 l1_4 x5_2).f2)) ∧ w'.cell? ⟨(ad327.add ((x5_2).toNat * 7)).block, (ad327.add ((x5_2).toNat * 7)).off + 3, none⟩ = some (.bool ((rd_T30 l1_4 x5_2).f3.f0)) ∧ w'.cell? ⟨(ad327.add ((x5_2).toNat * 7)).block, (ad327.add ((x5_2).toNat * 7)).off + 4, none⟩ = some (.slice A327_4 ((rd_T30 l1_4 x5_2).f3.f1).length c327_4) ∧ w'.cell? ⟨(ad327.add ((x5_2).toNat * 7)).block, (ad327.add ((x5_2).toNat * 7)).off + 5, none⟩ = some (.bool ((rd_T30 l1_4 x5_2).f4.f0)) ∧ w'.cell? ⟨(ad327.add ((x5_2).toNat * 7)).block, (ad327.add ((x5_2).toNat * 7)).off + 6, none⟩ = some (.slice A327_6 ((rd_T30 l1_4 x5_2).f4.f1).length c327_6)) (ds := []) #[false, false, false, false, false, false, false, false, false, false, false, false] (by kernel_rfl) rfl rfl ⟨(blk_cell BK324.out 0).trans rfl, (blk_cell BK324.out 1).trans rfl, (blk_cell BK324.out 2).trans rfl, (blk_cell BK324.out 3).trans rfl, (blk_cell BK324.out 4).trans rfl, (blk_cell BK324.out 5).trans rfl, (blk_cell BK325.out 0).trans rfl, (blk_cell BK325.out 1).trans rfl, (blk_cell BK325.out 2).trans rfl, (blk_cell BK325.out 3).trans rfl, (blk_cell BK325.out 4).trans rfl, (blk_cell BK325.out 5).trans rfl, ((HB.out.cell (World.block_lt_of_cell? w _ hw326_0)).trans hw326_0), ((HB.out.cell (World.block_lt_of_cell? w _ hw326_1)).trans hw326_1), ((HB.out.cell (World.block_lt_of_cell? w _ hw326_2)).trans hw326_2), ((HB.out.cell (World.block_lt_of_cell? w _ hw326_3)).trans hw326_3), ((HB.out.cell (World.block_lt_of_cell? w _ hw326_4)).trans hw326_4), ((HB.out.cell (World.block_lt_of_cell? w _ hw326_5)).trans hw326_5), ((HB.out.cell (World.block_lt_of_cell? w _ hw326_6)).trans hw326_6), ((HB.out.cell (World.block_lt_of_cell? w _ hw327_0)).trans hw327_0), ((HB.out.cell (World.block_lt_of_cell? w _ hw327_1)).trans hw327_1), ((HB.out.cell (World.block_lt_of_cell? w _ hw327_2)).trans hw327_2), ((HB.out.cell (World.block_lt_of_cell? w _ hw327_3)).trans hw327_3), ((HB.out.cell (World.block_lt_of_cell? w _ hw327_4)).trans hw327_4), ((HB.out.cell (World.block_lt_of_cell? w _ hw327_5)).trans hw327_5), ((HB.out.cell (World.block_lt_of_cell? w _ hw327_6)).trans hw327_6)⟩ (fun hHeld => ?_); refine with_tabW bobbinref14_Same.tab6 bobbinref14_Same.bits6 (fun HT_ HW_ => ?_)
                    generalize wr.drew = w41 at BK324 BK325 HB HR326_4 HR326_6 HR327_4 HR327_6 hx326_0 hx326_1 hx326_2 hx326_3 hx326_4 hx326_5 hx326_6 hx327_0 hx327_1 hx327_2 hx327_3 hx327_4 hx327_5 hx327_6 hHeld ⊢
                    refine pure_ (i := 0) (N := some 59) (v := ?_) (a' := ?_) #[true, false, false, false, false, false, false, false, false, false, false, false] rfl rfl (any_of HT_.out (by kernel_rfl)) (fun _ _ _ h => h) (Or.inl ⟨by rfl, ?_⟩) ?_ ?_
                    rotate_left
                    · intro w'
                      go_simp
                      with_reducible rfl
                    rotate_left
                    · simp only [Act.put, List.setIfInBounds_toArray, List.set_cons_zero, List.set_cons_succ, i64_w, i32_w]
                      rfl
                    refine pure_ (i := 2) (N := some 61) (v := ?_) (a' := ?_) #[true, false, true, false, false, false, false, false, false, false, false, false] rfl rfl (any_of HT_.out (by kernel_rfl)) (fun _ _ _ h => h) (Or.inl ⟨by rfl, ?_⟩) ?_ ?_
                    rotate_left
                    · intro w'
                      go_simp
                      with_reducible rfl
                    rotate_left
                    · simp only [Act.put, List.setIfInBounds_toArray, List.set_cons_zero, List.set_cons_succ, i64_w, i32_w]
                      rfl
                    refine pure_ (i := 5) (N := some 64) (v := ?_) (a' := ?_) #[true, false, true, false, false, true, false, false, false, false, false, false] rfl rfl (any_of HT_.out (by kernel_rfl)) (fun _ _ _ h => h) (Or.inl ⟨by rfl, ?_⟩) ?_ ?_
                    rotate_left
                    · intro w'
                      go_simp
                      with_reducible rfl
                    rotate_left
                    · simp only [Act.put, List.setIfInBounds_toArray, List.set_cons_zero, List.set_cons_succ, i64_w, i32_w]
                      rfl
                    refine pure_ (i := 7) (N := some 66) (v := ?_) (a' := ?_) #[true, false, true, false, false, true, false, true, false, false, false, false] rfl rfl (any_of HT_.out (by kernel_rfl)) (fun _ _ _ h => h) (Or.inl ⟨by rfl, ?_⟩) ?_ ?_
                    rotate_left
                    · intro w'
                      go_simp
                      with_reducible rfl
                    rotate_left
                    · simp only [Act.put, List.setIfInBounds_toArray, List.set_cons_zero, List.set_cons_succ, i64_w, i32_w]
                      rfl
                    refine take_ (i := 1) (N := some 60) (v := ?_) (a' := ?_) #[true, true, true, false, false, true, false, true, false, false, false, false] rfl rfl (take_ofW HT_.out HW_.out (by kernel_rfl)) (fun _ _ _ h => h) (Or.inl ⟨by rfl, ?_⟩) hHeld ?_ ?_
                    rotate_left
                    · rintro w' ⟨s0, s1, s2, s3, s4, s5, s6, s7, s8, s9, s10, s11, s12, s13, s14, s15, s16, s17, s18, s19, s20, s21, s22, s23, s24, s25⟩
                      go_simp
                      with_reducible rfl
                    rotate_left
                    · simp only [Act.put, List.setIfInBounds_toArray, List.set_cons_zero, List.set_cons_succ, i64_w, i32_w]
                      rfl
                    refine pure_ (i := 3) (N := some 62) (v := ?_) (a' := ?_) #[true, true, true, true, false, true, false, true, false, false, false, false] rfl rfl (any_of HT_.out (by kernel_rfl)) (fun _ _ _ h => h) (Or.inl ⟨by rfl, ?_⟩) ?_ ?_
                    rotate_left
                    · intro w'
                      go_simp
                      with_reducible rfl
                    rotate_left
                    · simp only [Act.put, List.setIfInBounds_toArray, List.set_cons_zero, List.set_cons_succ, i64_w, i32_w]
                      rfl
                    refine take_ (i := 4) (N := some 63) (v := ?_) (a' := ?_) #[true, true, true, true, true, true, false, true, false, false, false, false] rfl rfl (take_ofW HT_.out HW_.out (by kernel_rfl)) (fun _ _ _ h => h) (Or.inl ⟨by rfl, ?_⟩) hHeld ?_ ?_
                    rotate_left
                    · rintro w' ⟨s0, s1, s2, s3, s4, s5, s6, s7, s8, s9, s10, s11, s12, s13, s14, s15, s16, s17, s18, s19, s20, s21, s22, s23, s24, s25⟩
                      go_simp
                      with_reducible rfl
                    rotate_left
                    · simp only [Act.put, List.setIfInBounds_toArray, List.set_cons_zero, List.set_cons_succ, i64_w, i32_w]
                      rfl
                    refine take_ (i := 6) (N := some 65) (v := ?_) (a' := ?_) #[true, true, true, true, true, true, true, true, false, false, false, false] rfl rfl (take_ofW HT_.out HW_.out (by kernel_rfl)) (fun _ _ _ h => h) (Or.inl ⟨by rfl, ?_⟩) hHeld ?_ ?_
                    rotate_left
                    · rintro w' ⟨s0, s1, s2, s3, s4, s5, s6, s7, s8, s9, s10, s11, s12, s13, s14, s15, s16, s17, s18, s19, s20, s21, s22, s23, s24, s25⟩
                      go_simp
                      with_reducible rfl
                    rotate_left
                    · simp only [Act.put, List.setIfInBounds_toArray, List.set_cons_zero, List.set_cons_succ, i64_w, i32_w]
                      rfl
                    refine pure_ (i := 8) (N := some 67) (v := ?_) (a' := ?_) #[true, true, true, true, true, true, true, true, true, false, false, false] rfl rfl (any_of HT_.out (by kernel_rfl)) (fun _ _ _ h => h) (Or.inl ⟨by rfl, ?_⟩) ?_ ?_
                    rotate_left
                    · intro w'
                      go_simp
                      with_reducible rfl
                    rotate_left
                    · simp only [Act.put, List.setIfInBounds_toArray, List.set_cons_zero, List.set_cons_succ, i64_w, i32_w]
                      rfl
                    refine take_ (i := 9) (N := some 68) (v := ?_) (a' := ?_) #[true, true, true, true, true, true, true, true, true, true, false, false] rfl rfl (take_ofW HT_.out HW_.out (by kernel_rfl)) (fun _ _ _ h => h) (Or.inl ⟨by rfl, ?_⟩) hHeld ?_ ?_
                    rotate_left
                    · rintro w' ⟨s0, s1, s2, s3, s4, s5, s6, s7, s8, s9, s10, s11, s12, s13, s14, s15, s16, s17, s18, s19, s20, s21, s22, s23, s24, s25⟩
                      go_simp
                      with_reducible rfl
                    rotate_left
                    · simp only [Act.put, List.setIfInBounds_toArray, List.set_cons_zero, List.set_cons_succ, i64_w, i32_w]
                      rfl
                    refine one_ (i := 10) (N := some 69) #[true, true, true, true, true, true, true, true, true, true, true, false] rfl rfl (one_of HT_.out (by kernel_rfl)) (by decide) (fun K hK => ?_)
                    refine goes_ Try.func21 (by kernel_rfl) rfl #[.agg #[.int .i64 ((rd_T30 l0_4 x5_2).f0), .int .i64 ((rd_T30 l0_4 x5_2).f1), .int .i64 ((rd_T30 l0_4 x5_2).f2), .bool ((rd_T30 l0_4 x5_2).f3.f0), .slice A326_4 ((rd_T30 l0_4 x5_2).f3.f1).length c326_4, .bool ((rd_T30 l0_4 x5_2).f4.f0), .slice A326_6 ((rd_T30 l0_4 x5_2).f4.f1).length c326_6], .agg #[.int .i64 ((rd_T30 l1_4 x5_2).f0), .int .i64 ((rd_T30 l1_4 x5_2).f1), .int .i64 ((rd_T30 l1_4 x5_2).f2), .bool ((rd_T30 l1_4 x5_2).f3.f0), .slice A327_4 ((rd_T30 l1_4 x5_2).f3.f1).length c327_4, .bool ((rd_T30 l1_4 x5_2).f4.f0), .slice A327_6 ((rd_T30 l1_4 x5_2).f4.f1).length c327_6]] (by rfl) rfl rfl (by (try simp only [List.map_toArray, List.map_cons, List.map_nil]); first | done | rfl | (simp only [List.length_drop, List.length_take]; rfl)) ?_
                    with_reducible refine (bobbinref14_Changes.calls k2 ((rd_T30 l0_4 x5_2).f0) ((rd_T30 l0_4 x5_2).f1) ((rd_T30 l0_4 x5_2).f2) ((rd_T30 l0_4 x5_2).f3.f0) _ _ ((rd_T30 l0_4 x5_2).f3.f1) ((rd_T30 l0_4 x5_2).f4.f0) _ _ ((rd_T30 l0_4 x5_2).f4.f1) ((rd_T30 l1_4 x5_2).f0) ((rd_T30 l1_4 x5_2).f1) ((rd_T30 l1_4 x5_2).f2) ((rd_T30 l1_4 x5_2).f3.f0) _ _ ((rd_T30 l1_4 x5_2).f3.f1) ((rd_T30 l1_4 x5_2).f4.f0) _ _ ((rd_T30 l1_4 x5_2).f4.f1) false _ ?side1 ?side2 ?side3 ?side4 ?side5 ?side6 ?side7 ?side8 A33.out).mono ?_
                    (case side1 => repeat (first | exact (Kd.C_below HR326_4.out HB.out) | (with_reducible refine Kd.C_alloc ?_ _) | (with_reducible refine Kd.C_drewN ?_ _) | (with_reducible refine Kd.C_drew ?_)))
                    (case side2 => exact HC326_4.out)
                    (case side3 => repeat (first | exact (Kd.C_below HR326_6.out HB.out) | (with_reducible refine Kd.C_alloc ?_ _) | (with_reducible refine Kd.C_drewN ?_ _) | (with_reducible refine Kd.C_drew ?_)))
                    (case side4 => exact HC326_6.out)
                    (case side5 => repeat (first | exact (Kd.C_below HR327_4.out HB.out) | (with_reducible refine Kd.C_alloc ?_ _) | (with_reducible refine Kd.C_drewN ?_ _) | (with_reducible refine Kd.C_drew ?_)))
                    (case side6 => exact HC327_4.out)
                    (case side7 => repeat (first | exact (Kd.C_below HR327_6.out HB.out) | (with_reducible refine Kd.C_alloc ?_ _) | (with_reducible refine Kd.C_drewN ?_ _) | (with_reducible refine Kd.C_drew ?_)))
                    (case side8 => exact HC327_6.out)
                    rintro e w42 ⟨rfl, hb⟩
                    refine ⟨_, rfl, ?_⟩
                    have n0_ := Aside0.mk (blk_below (g := gb324) (o := .cells #[.int .i64 a0_0, .int .i64 a0_1, .int .i64 a0_2, .int .i64 a0_3, .slice (some ad326) l0_4.length c0_4, .slice A0_5 l0_5.length c0_5] 25 (0, 0)) (by (with_reducible repeat (first | refine blk_drewN ?_ _ | refine blk_drew ?_ | refine blk_alloc ?_ _)); exact BK324.out) hb)
                    have n1_ := Aside0.mk (blk_below (g := gb325) (o := .cells #[.int .i64 a1_0, .int .i64 a1_1, .int .i64 a1_2, .int .i64 a1_3, .slice (some ad327) l1_4.length c1_4, .slice A1_5 l1_5.length c1_5] 25 (0, 0)) (by (with_reducible repeat (first | refine blk_drewN ?_ _ | refine blk_drew ?_ | refine blk_alloc ?_ _)); exact BK325.out) hb)
                    have n2_ := Aside0.mk (below_step (by repeat (first | (with_reducible first | exact HB.out | apply below_alloc | apply pw_below_drewN | apply below_drew1 | refine below_set ?_ GE324.out | refine below_set ?_ GE325.out) | exact HB.out)) hb)
                    clear BK324
                    clear BK325
                    clear HB
                    have BK324 := n0_
                    have BK325 := n1_
                    have HB := n2_
                    clear n0_ n1_ n2_
                    (try clear hb)
                    (try clear hb2)
                    (try clear hk)
                    (try clear hi)
                    refine hK.out _ _ ⟨(blk_cell BK324.out 0).trans rfl, (blk_cell BK324.out 1).trans rfl, (blk_cell BK324.out 2).trans rfl, (blk_cell BK324.out 3).trans rfl, (blk_cell BK324.out 4).trans rfl, (blk_cell BK324.out 5).trans rfl, (blk_cell BK325.out 0).trans rfl, (blk_cell BK325.out 1).trans rfl, (blk_cell BK325.out 2).trans rfl, (blk_cell BK325.out 3).trans rfl, (blk_cell BK325.out 4).trans rfl, (blk_cell BK325.out 5).trans rfl, ((HB.out.cell (World.block_lt_of_cell? w _ hw326_0)).trans hw326_0), ((HB.out.cell (World.block_lt_of_cell? w _ hw326_1)).trans hw326_1), ((HB.out.cell (World.block_lt_of_cell? w _ hw326_2)).trans hw326_2), ((HB.out.cell (World.block_lt_of_cell? w _ hw326_3)).trans hw326_3), ((HB.out.cell (World.block_lt_of_cell? w _ hw326_4)).trans hw326_4), ((HB.out.cell (World.block_lt_of_cell? w _ hw326_5)).trans hw326_5), ((HB.out.cell (World.block_lt_of_cell? w _ hw326_6)).trans hw326_6), ((HB.out.cell (World.block_lt_of_cell? w _ hw327_0)).trans hw327_0), ((HB.out.cell (World.block_lt_of_cell? w _ hw327_1)).trans hw327_1), ((HB.out.cell (World.block_lt_of_cell? w _ hw327_2)).trans hw327_2), ((HB.out.cell (World.block_lt_of_cell? w _ hw327_3)).trans hw327_3), ((HB.out.cell (World.block_lt_of_cell? w _ hw327_4)).trans hw327_4), ((HB.out.cell (World.block_lt_of_cell? w _ hw327_5)).trans hw327_5), ((HB.out.cell (World.block_lt_of_cell? w _ hw327_6)).trans hw327_6)⟩ (fun hHeld => ?_)
                    clear hK K
                    refine norm_ (a' := ?_) ?_ ?_
                    rotate_left
                    · show Act.put _ (some 69) _ = _
                      simp only [Act.put, List.setIfInBounds_toArray, List.set_cons_zero, List.set_cons_succ, i64_w, i32_w]
                      rfl
                    refine pure_ (i := 11) (N := some 6) (v := ?_) (a' := ?_) #[true, true, true, true, true, true, true, true, true, true, true, true] rfl rfl (any_of HT_.out (by kernel_rfl)) (fun _ _ _ h => h) (Or.inl ⟨by rfl, ?_⟩) ?_ ?_
                    rotate_left
                    · intro w'
                      go_simp
                      with_reducible rfl
                    rotate_left
                    · simp only [Act.put, List.setIfInBounds_toArray, List.set_cons_zero, List.set_cons_succ, i64_w, i32_w]
                      rfl
                    refine done_ (done_of HT_.out (by kernel_rfl)) ?_
                    try go_wp2
                    go_ret
                    exact ⟨by first | rfl | (simp [errW_none, errW_some] <;> rfl) | (simp [*, errW_none, errW_some] <;> rfl), by repeat (first | (with_reducible first | exact HB.out | apply below_alloc | apply pw_below_drewN | apply below_drew1 | refine below_set ?_ GE324.out | refine below_set ?_ GE325.out) | exact HB.out)⟩
                · rw [if_neg c32] at H
                  exact absurd H (by simp)
              · rw [if_neg c31] at H
                exact absurd H (by simp)
            · rw [if_neg c30] at H
              have c30b0 : decide (x5_2 < (l0_4.length : Int)) = false := decide_eq_false c30
              clear c30
              have H' := Aside0.mk H
              clear H
              have hnb43 := NB324_325.out
              have hnc43 := NB325_324.out
              have hcz44_0 : wr.cell? ⟨gb324, 0, none⟩ = some (.int .i64 a0_0) := (blk_cell BK324.out 0).trans rfl
              have hcz44_1 : wr.cell? ⟨gb324, 1, none⟩ = some (.int .i64 a0_1) := (blk_cell BK324.out 1).trans rfl
              have hcz44_2 : wr.cell? ⟨gb324, 2, none⟩ = some (.int .i64 a0_2) := (blk_cell BK324.out 2).trans rfl
              have hcz44_3 : wr.cell? ⟨gb324, 3, none⟩ = some (.int .i64 a0_3) := (blk_cell BK324.out 3).trans rfl
              have hcz44_4 : wr.cell? ⟨gb324, 4, none⟩ = some (.slice A0_4 l0_4.length c0_4) := (blk_cell BK324.out 4).trans rfl
              have hcz44_5 : wr.cell? ⟨gb324, 5, none⟩ = some (.slice A0_5 l0_5.length c0_5) := (blk_cell BK324.out 5).trans rfl
              have hfz44_0 := blk_frozen BK324.out 0
              have hfz44_1 := blk_frozen BK324.out 1
              have hfz44_2 := blk_frozen BK324.out 2
              have hfz44_3 := blk_frozen BK324.out 3
              have hfz44_4 := blk_frozen BK324.out 4
              have hfz44_5 := blk_frozen BK324.out 5
              go_wp2
              go_loopg [7] k2 (fun kq v7 w' => ∃ (x7_3 : Int), v7 = .int .i64 x7_3 ∧ Aside0 (bobbinref14_Same.l1 kq x7_3 a0_0 a0_1 a0_2 a0_3 l0_4 l0_5 a1_0 a1_1 a1_2 a1_3 l1_4 l1_5 = some r) ∧ Aside0 (kq ≤ k2) ∧ Aside0 (w'.heap[gb324]? = some (.cells #[.int .i64 a0_0, .int .i64 a0_1, .int .i64 a0_2, .int .i64 a0_3, (.slice A0_4 l0_4.length c0_4), (.slice A0_5 l0_5.length c0_5)] 25 (0, 0))) ∧ Aside0 (w'.heap[gb325]? = some (.cells #[.int .i64 a1_0, .int .i64 a1_1, .int .i64 a1_2, .int .i64 a1_3, (.slice A1_4 l1_4.length c1_4), (.slice A1_5 l1_5.length c1_5)] 25 (0, 0))) ∧ Aside0 (Below w.heap.size w w'))
              case atStart => exact ⟨(0), (by first | rfl | (simp; done) | (simp [*]; done)), H', ⟨Nat.le_refl _⟩, ⟨by (with_reducible repeat (first | refine blk_drewN ?_ _ | refine blk_drew ?_ | refine blk_alloc ?_ _)); exact BK324.out⟩, ⟨by (with_reducible repeat (first | refine blk_drewN ?_ _ | refine blk_drew ?_ | refine blk_alloc ?_ _)); exact BK325.out⟩, ⟨by repeat (first | (with_reducible first | exact HB.out | apply below_alloc | apply pw_below_drewN | apply below_drew1 | refine below_set ?_ GE324.out | refine below_set ?_ GE325.out) | exact HB.out)⟩⟩
              case round =>
                clear H'
                try clear c1
                try clear c2
                try clear p2
                try clear c3
                try clear p3
                try clear q3
                try clear hx3
                try clear c4
                try clear p6
                try clear c21
                try clear c30
                try clear c30b0
                try clear c31
                try clear c31b0
                try clear c32
                try clear c32b0
                try clear p32
                try clear q32
                try clear hx32
                try clear c34
                try clear c35
                try clear c39
                try clear c43
                try clear hcz16_5
                try clear hcz18_0
                try clear hcz18_1
                try clear hcz18_2
                try clear hcz18_3
                try clear hcz18_4
                try clear hcz18_5
                try clear hcz19_0
                try clear hcz19_1
                try clear hcz19_2
                try clear hcz19_3
                try clear hcz19_4
                try clear hcz19_5
                try clear hcz21_0
                try clear hcz21_1
                try clear hcz21_2
                try clear hcz21_3
                try clear hcz21_4
                try clear hcz21_5
                try clear hcz22_0
                try clear hcz22_1
                try clear hcz22_2
                try clear hcz22_3
                try clear hcz22_4
                try clear hcz22_5
                try clear hcz24_0
                try clear hcz24_1
                try clear hcz24_2
                try clear hcz24_3
                try clear hcz24_4
                try clear hcz24_5
                try clear hcz25_0
                try clear hcz25_1
                try clear hcz25_2
                try clear hcz25_3
                try clear hcz25_4
                try clear hcz25_5
                try clear hcz27_0
                try clear hcz27_1
                try clear hcz27_2
                try clear hcz27_3
                try clear hcz27_4
                try clear hcz27_5
                try clear hcz28_0
                try clear hcz28_1
                try clear hcz28_2
                try clear hcz28_3
                try clear hcz28_4
                try clear hcz28_5
                try clear hcz36_0
                try clear hcz36_1
                try clear hcz36_2
                try clear hcz36_3
                try clear hcz36_4
                try clear hcz36_5
                try clear hcz40_0
                try clear hcz40_1
                try clear hcz40_2
                try clear hcz40_3
                try clear hcz40_4
                try clear hcz40_5
                try clear hcz44_0
                try clear hcz44_1
                try clear hcz44_2
                try clear hcz44_3
                try clear hcz44_4
                try clear hcz44_5
                try clear hfz12_0
                try clear hfz12_1
                try clear hfz12_2
                try clear hfz12_3
                try clear hfz12_4
                try clear hfz12_5
                try clear hfz13_0
                try clear hfz13_1
                try clear hfz13_2
                try clear hfz13_3
                try clear hfz13_4
                try clear hfz13_5
                try clear hfz15_0
                try clear hfz15_1
                try clear hfz15_2
                try clear hfz15_3
                try clear hfz15_4
                try clear hfz15_5
                try clear hfz16_0
                try clear hfz16_1
                try clear hfz16_2
                try clear hfz16_3
                try clear hfz16_4
                try clear hfz16_5
                try clear hfz18_0
                try clear hfz18_1
                try clear hfz18_2
                try clear hfz18_3
                try clear hfz18_4
                try clear hfz18_5
                try clear hfz19_0
                try clear hfz19_1
                try clear hfz19_2
                try clear hfz19_3
                try clear hfz19_4
                try clear hfz19_5
                try clear hfz21_0
                try clear hfz21_1
                try clear hfz21_2
                try clear hfz21_3
                try clear hfz21_4
                try clear hfz21_5
                try clear hfz22_0
                try clear hfz22_1
                try clear hfz22_2
                try clear hfz22_3
                try clear hfz22_4
                try clear hfz22_5
                try clear hfz24_0
                try clear hfz24_1
                try clear hfz24_2
                try clear hfz24_3
                try clear hfz24_4
                try clear hfz24_5
                try clear hfz25_0
                try clear hfz25_1
                try clear hfz25_2
                try clear hfz25_3
                try clear hfz25_4
                try clear hfz25_5
                try clear hfz27_0
                try clear hfz27_1
                try clear hfz27_2
                try clear hfz27_3
                try clear hfz27_4
                try clear hfz27_5
                try clear hfz28_0
                try clear hfz28_1
                try clear hfz28_2
                try clear hfz28_3
                try clear hfz28_4
                try clear hfz28_5
                try clear hfz36_0
                try clear hfz36_1
                try clear hfz36_2
                try clear hfz36_3
                try clear hfz36_4
                try clear hfz36_5
                try clear hfz40_0
                try clear hfz40_1
                try clear hfz40_2
                try clear hfz40_3
                try clear hfz40_4
                try clear hfz40_5
                try clear hfz44_0
                try clear hfz44_1
                try clear hfz44_2
                try clear hfz44_3
                try clear hfz44_4
                try clear hfz44_5
                try clear hx326_0
                try clear hx326_1
                try clear hx326_2
                try clear hx326_3
                try clear hx326_4
                try clear hx326_5
                try clear hx326_6
                try clear hx327_0
                try clear hx327_1
                try clear hx327_2
                try clear hx327_3
                try clear hx327_4
                try clear hx327_5
                try clear hx327_6
                try clear p2
                try clear p326
                try clear p327
                try clear q326
                try clear q327
                obtain ⟨x7_3, rfl, HA, HK3, BK324, BK325, HB⟩ := hrel
                cases gk with
                | zero => exact absurd HA.out (by first | (intro h_; cases h_; done) | simp [bobbinref14_Same.l1])
                | succ k3 =>
                  have H := HA.out
                  clear HA
                  rw [bobbinref14_Same.l1_eq] at H
                  by_cases c45 : x7_3 < (l0_5.length : Int)
                  · rw [if_pos c45] at H
                    have c45b0 : decide (x7_3 < (l0_5.length : Int)) = true := decide_eq_true c45
                    clear c45
                    by_cases c46 : 0 ≤ x7_3
                    · rw [if_pos c46] at H
                      have c46b0 : decide (0 ≤ x7_3) = true := decide_eq_true c46
                      clear c46
                      by_cases c47 : x7_3 < (l1_5.length : Int)
                      · rw [if_pos c47] at H
                        have c47b0 : decide (x7_3 < (l1_5.length : Int)) = true := decide_eq_true c47
                        clear c47
                        by_cases c48 : (rd l0_5 x7_3) = (rd l1_5 x7_3)
                        · rw [if_pos c48] at H
                          have c48b0 : ((rd l0_5 x7_3) == (rd l1_5 x7_3)) = true := beq_iff_eq.mpr c48
                          have c48b1 : ((rd l0_5 x7_3) != (rd l1_5 x7_3)) = false := bne_eq_false_iff_eq.mpr c48
                          clear c48
                          have H' := Aside0.mk H
                          clear H
                          have hnb49 := NB324_325.out
                          have hnc49 := NB325_324.out
                          have hcz50_0 : wr.cell? ⟨gb324, 0, none⟩ = some (.int .i64 a0_0) := (blk_cell BK324.out 0).trans rfl
                          have hcz50_1 : wr.cell? ⟨gb324, 1, none⟩ = some (.int .i64 a0_1) := (blk_cell BK324.out 1).trans rfl
                          have hcz50_2 : wr.cell? ⟨gb324, 2, none⟩ = some (.int .i64 a0_2) := (blk_cell BK324.out 2).trans rfl
                          have hcz50_3 : wr.cell? ⟨gb324, 3, none⟩ = some (.int .i64 a0_3) := (blk_cell BK324.out 3).trans rfl
                          have hcz50_4 : wr.cell? ⟨gb324, 4, none⟩ = some (.slice A0_4 l0_4.length c0_4) := (blk_cell BK324.out 4).trans rfl
                          have hcz50_5 : wr.cell? ⟨gb324, 5, none⟩ = some (.slice A0_5 l0_5.length c0_5) := (blk_cell BK324.out 5).trans rfl
                          have hfz50_0 := blk_frozen BK324.out 0
                          have hfz50_1 := blk_frozen BK324.out 1
                          have hfz50_2 := blk_frozen BK324.out 2
                          have hfz50_3 := blk_frozen BK324.out 3
                          have hfz50_4 := blk_frozen BK324.out 4
                          have hfz50_5 := blk_frozen BK324.out 5
                          try go_wp2
                          have n0_ := Aside0.mk (blk_drew BK324.out)
                          have n1_ := Aside0.mk (blk_drew BK325.out)
                          have n2_ := Aside0.mk (below_drew1 HB.out)
                          clear BK324
                          clear BK325
                          clear HB
                          have BK324 := n0_
                          have BK325 := n1_
                          have HB := n2_
                          clear n0_ n1_ n2_
                          have p329 : 0 ≤ (x7_3 : Int) := of_decide_eq_true (by first | (with_reducible assumption) | assumption)
                          have q329 : x7_3 < (l0_5.length : Int) := of_decide_eq_true (by first | (with_reducible assumption) | assumption)
                          obtain ⟨ad329, e329, hx329_0⟩ := Kd.at_int HR0_5.out x7_3 p329 q329
                          have hw329_0 := hx329_0
                          cases e329
                          replace hx329_0 := (HB.out.cell (World.block_lt_of_cell? w _ hx329_0)).trans hx329_0
                          replace p329 := eq_true p329
                          replace q329 := eq_true q329
                          have p330 : 0 ≤ (x7_3 : Int) := of_decide_eq_true (by first | (with_reducible assumption) | assumption)
                          have q330 : x7_3 < (l1_5.length : Int) := of_decide_eq_true (by first | (with_reducible assumption) | assumption)
                          obtain ⟨ad330, e330, hx330_0⟩ := Kd.at_int HR1_5.out x7_3 p330 q330
                          have hw330_0 := hx330_0
                          cases e330
                          replace hx330_0 := (HB.out.cell (World.block_lt_of_cell? w _ hx330_0)).trans hx330_0
                          replace p330 := eq_true p330
                          replace q330 := eq_true q330
                          refine start_ (n := 11) (S := fun w' => w'.cell? ⟨gb324, 0, none⟩ = some (.int .i64 a0_0) ∧ w'.cell? ⟨gb324, 1, none⟩ = some (.int .i64 a0_1) ∧ w'.cell? ⟨gb324, 2, none⟩ = some (.int .i64 a0_2) ∧ w'.cell? ⟨gb324, 3, none⟩ = some (.int .i64 a0_3) ∧ w'.cell? ⟨gb324, 4, none⟩ = some (.slice A0_4 l0_4.length c0_4) ∧ w'.cell? ⟨gb324, 5, none⟩ = some (.slice (some ad329) l0_5.length c0_5) ∧ w'.cell? ⟨gb325, 0, none⟩ = some (.int .i64 a1_0) ∧ w'.cell? ⟨gb325, 1, none⟩ = some (.int .i64 a1_1) ∧ w'.cell? ⟨gb325, 2, none⟩ = some (.int .i64 a1_2) ∧ w'.cell? ⟨gb325, 3, none⟩ = some (.int .i64 a1_3) ∧ w'.cell? ⟨gb325, 4, none⟩ = some (.slice A1_4 l1_4.length c1_4) ∧ w'.cell? ⟨gb325, 5, none⟩ = some (.slice (some ad330) l1_5.length c1_5) ∧ w'.cell? (ad329.add (x7_3).toNat) = some (.int .i64 (rd l0_5 x7_3)) ∧ w'.cell? (ad330.add (x7_3).toNat) = some (.int .i64 (rd l1_5 x7_3))) (ds := []) #[false, false, false, false, false, false, false, false, false, false, false] (by kernel_rfl) rfl rfl ⟨(blk_cell BK324.out 0).trans rfl, (blk_cell BK324.out 1).trans rfl, (blk_cell BK324.out 2).trans rfl, (blk_cell BK324.out 3).trans rfl, (blk_cell BK324.out 4).trans rfl, (blk_cell BK324.out 5).trans rfl, (blk_cell BK325.out 0).trans rfl, (blk_cell BK325.out 1).trans rfl, (blk_cell BK325.out 2).trans rfl, (blk_cell BK325.out 3).trans rfl, (blk_cell BK325.out 4).trans rfl, (blk_cell BK325.out 5).trans rfl, ((HB.out.cell (World.block_lt_of_cell? w _ hw329_0)).trans hw329_0), ((HB.out.cell (World.block_lt_of_cell? w _ hw330_0)).trans hw330_0)⟩ (fun hHeld => ?_); refine with_tabW bobbinref14_Same.tab12 bobbinref14_Same.bits12 (fun HT_ HW_ => ?_)
                          generalize wr.drew = w51 at BK324 BK325 HB hx329_0 hx330_0 hHeld ⊢
                          refine pure_ (i := 0) (N := some 79) (v := ?_) (a' := ?_) #[true, false, false, false, false, false, false, false, false, false, false] rfl rfl (any_of HT_.out (by kernel_rfl)) (fun _ _ _ h => h) (Or.inl ⟨by rfl, ?_⟩) ?_ ?_
                          rotate_left
                          · intro w'
                            go_simp
                            with_reducible rfl
                          rotate_left
                          · simp only [Act.put, List.setIfInBounds_toArray, List.set_cons_zero, List.set_cons_succ, i64_w, i32_w]
                            rfl
                          refine pure_ (i := 2) (N := some 81) (v := ?_) (a' := ?_) #[true, false, true, false, false, false, false, false, false, false, false] rfl rfl (any_of HT_.out (by kernel_rfl)) (fun _ _ _ h => h) (Or.inl ⟨by rfl, ?_⟩) ?_ ?_
                          rotate_left
                          · intro w'
                            go_simp
                            with_reducible rfl
                          rotate_left
                          · simp only [Act.put, List.setIfInBounds_toArray, List.set_cons_zero, List.set_cons_succ, i64_w, i32_w]
                            rfl
                          refine pure_ (i := 5) (N := some 84) (v := ?_) (a' := ?_) #[true, false, true, false, false, true, false, false, false, false, false] rfl rfl (any_of HT_.out (by kernel_rfl)) (fun _ _ _ h => h) (Or.inl ⟨by rfl, ?_⟩) ?_ ?_
                          rotate_left
                          · intro w'
                            go_simp
                            with_reducible rfl
                          rotate_left
                          · simp only [Act.put, List.setIfInBounds_toArray, List.set_cons_zero, List.set_cons_succ, i64_w, i32_w]
                            rfl
                          refine pure_ (i := 7) (N := some 86) (v := ?_) (a' := ?_) #[true, false, true, false, false, true, false, true, false, false, false] rfl rfl (any_of HT_.out (by kernel_rfl)) (fun _ _ _ h => h) (Or.inl ⟨by rfl, ?_⟩) ?_ ?_
                          rotate_left
                          · intro w'
                            go_simp
                            with_reducible rfl
                          rotate_left
                          · simp only [Act.put, List.setIfInBounds_toArray, List.set_cons_zero, List.set_cons_succ, i64_w, i32_w]
                            rfl
                          refine take_ (i := 1) (N := some 80) (v := ?_) (a' := ?_) #[true, true, true, false, false, true, false, true, false, false, false] rfl rfl (take_ofW HT_.out HW_.out (by kernel_rfl)) (fun _ _ _ h => h) (Or.inl ⟨by rfl, ?_⟩) hHeld ?_ ?_
                          rotate_left
                          · rintro w' ⟨s0, s1, s2, s3, s4, s5, s6, s7, s8, s9, s10, s11, s12, s13⟩
                            go_simp
                            with_reducible rfl
                          rotate_left
                          · simp only [Act.put, List.setIfInBounds_toArray, List.set_cons_zero, List.set_cons_succ, i64_w, i32_w]
                            rfl
                          refine pure_ (i := 3) (N := some 82) (v := ?_) (a' := ?_) #[true, true, true, true, false, true, false, true, false, false, false] rfl rfl (any_of HT_.out (by kernel_rfl)) (fun _ _ _ h => h) (Or.inl ⟨by rfl, ?_⟩) ?_ ?_
                          rotate_left
                          · intro w'
                            go_simp
                            with_reducible rfl
                          rotate_left
                          · simp only [Act.put, List.setIfInBounds_toArray, List.set_cons_zero, List.set_cons_succ, i64_w, i32_w]
                            rfl
                          refine take_ (i := 4) (N := some 83) (v := ?_) (a' := ?_) #[true, true, true, true, true, true, false, true, false, false, false] rfl rfl (take_ofW HT_.out HW_.out (by kernel_rfl)) (fun _ _ _ h => h) (Or.inl ⟨by rfl, ?_⟩) hHeld ?_ ?_
                          rotate_left
                          · rintro w' ⟨s0, s1, s2, s3, s4, s5, s6, s7, s8, s9, s10, s11, s12, s13⟩
                            go_simp
                            with_reducible rfl
                          rotate_left
                          · simp only [Act.put, List.setIfInBounds_toArray, List.set_cons_zero, List.set_cons_succ, i64_w, i32_w]
                            rfl
                          refine take_ (i := 6) (N := some 85) (v := ?_) (a' := ?_) #[true, true, true, true, true, true, true, true, false, false, false] rfl rfl (take_ofW HT_.out HW_.out (by kernel_rfl)) (fun _ _ _ h => h) (Or.inl ⟨by rfl, ?_⟩) hHeld ?_ ?_
                          rotate_left
                          · rintro w' ⟨s0, s1, s2, s3, s4, s5, s6, s7, s8, s9, s10, s11, s12, s13⟩
                            go_simp
                            with_reducible rfl
                          rotate_left
                          · simp only [Act.put, List.setIfInBounds_toArray, List.set_cons_zero, List.set_cons_succ, i64_w, i32_w]
                            rfl
                          refine pure_ (i := 8) (N := some 87) (v := ?_) (a' := ?_) #[true, true, true, true, true, true, true, true, true, false, false] rfl rfl (any_of HT_.out (by kernel_rfl)) (fun _ _ _ h => h) (Or.inl ⟨by rfl, ?_⟩) ?_ ?_
                          rotate_left
                          · intro w'
                            go_simp
                            with_reducible rfl
                          rotate_left
                          · simp only [Act.put, List.setIfInBounds_toArray, List.set_cons_zero, List.set_cons_succ, i64_w, i32_w]
                            rfl
                          refine take_ (i := 9) (N := some 88) (v := ?_) (a' := ?_) #[true, true, true, true, true, true, true, true, true, true, false] rfl rfl (take_ofW HT_.out HW_.out (by kernel_rfl)) (fun _ _ _ h => h) (Or.inl ⟨by rfl, ?_⟩) hHeld ?_ ?_
                          rotate_left
                          · rintro w' ⟨s0, s1, s2, s3, s4, s5, s6, s7, s8, s9, s10, s11, s12, s13⟩
                            go_simp
                            with_reducible rfl
                          rotate_left
                          · simp only [Act.put, List.setIfInBounds_toArray, List.set_cons_zero, List.set_cons_succ, i64_w, i32_w]
                            rfl
                          refine pure_ (i := 10) (N := some 89) (v := ?_) (a' := ?_) #[true, true, true, true, true, true, true, true, true, true, true] rfl rfl (any_of HT_.out (by kernel_rfl)) (fun _ _ _ h => h) (Or.inl ⟨by rfl, ?_⟩) ?_ ?_
                          rotate_left
                          · intro w'
                            go_simp
                            with_reducible rfl
                          rotate_left
                          · simp only [Act.put, List.setIfInBounds_toArray, List.set_cons_zero, List.set_cons_succ, i64_w, i32_w]
                            rfl
                          refine done_ (done_of HT_.out (by kernel_rfl)) ?_
                          try go_wp2
                          go_roundg k3
                          case measure => have := HJ2.out; have := HK2.out; have := HK3.out; omega
                          case rel => exact ⟨(wrap64 (x7_3 + 1)), (by first | rfl | (simp; done) | (simp [*]; done)), H', ⟨by have := HJ2.out; have := HK2.out; have := HK3.out; omega⟩, ⟨by (with_reducible repeat (first | refine blk_drewN ?_ _ | refine blk_drew ?_ | refine blk_alloc ?_ _)); exact BK324.out⟩, ⟨by (with_reducible repeat (first | refine blk_drewN ?_ _ | refine blk_drew ?_ | refine blk_alloc ?_ _)); exact BK325.out⟩, ⟨by repeat (first | (with_reducible first | exact HB.out | apply below_alloc | apply pw_below_drewN | apply below_drew1 | refine below_set ?_ GE324.out | refine below_set ?_ GE325.out) | exact HB.out)⟩⟩
                        · rw [if_neg c48] at H
                          have c48b0 : ((rd l0_5 x7_3) == (rd l1_5 x7_3)) = false := beq_eq_false_iff_ne.mpr c48
                          have c48b1 : ((rd l0_5 x7_3) != (rd l1_5 x7_3)) = true := bne_iff_ne.mpr c48
                          obtain rfl := Option.some.inj H
                          have hnb52 := NB324_325.out
                          have hnc52 := NB325_324.out
                          have hcz53_0 : wr.cell? ⟨gb324, 0, none⟩ = some (.int .i64 a0_0) := (blk_cell BK324.out 0).trans rfl
                          have hcz53_1 : wr.cell? ⟨gb324, 1, none⟩ = some (.int .i64 a0_1) := (blk_cell BK324.out 1).trans rfl
                          have hcz53_2 : wr.cell? ⟨gb324, 2, none⟩ = some (.int .i64 a0_2) := (blk_cell BK324.out 2).trans rfl
                          have hcz53_3 : wr.cell? ⟨gb324, 3, none⟩ = some (.int .i64 a0_3) := (blk_cell BK324.out 3).trans rfl
                          have hcz53_4 : wr.cell? ⟨gb324, 4, none⟩ = some (.slice A0_4 l0_4.length c0_4) := (blk_cell BK324.out 4).trans rfl
                          have hcz53_5 : wr.cell? ⟨gb324, 5, none⟩ = some (.slice A0_5 l0_5.length c0_5) := (blk_cell BK324.out 5).trans rfl
                          have hfz53_0 := blk_frozen BK324.out 0
                          have hfz53_1 := blk_frozen BK324.out 1
                          have hfz53_2 := blk_frozen BK324.out 2
                          have hfz53_3 := blk_frozen BK324.out 3
                          have hfz53_4 := blk_frozen BK324.out 4
                          have hfz53_5 := blk_frozen BK324.out 5
                          try go_wp2
                          have n0_ := Aside0.mk (blk_drew BK324.out)
                          have n1_ := Aside0.mk (blk_drew BK325.out)
                          have n2_ := Aside0.mk (below_drew1 HB.out)
                          clear BK324
                          clear BK325
                          clear HB
                          have BK324 := n0_
                          have BK325 := n1_
                          have HB := n2_
                          clear n0_ n1_ n2_
                          have p329 : 0 ≤ (x7_3 : Int) := of_decide_eq_true (by first | (with_reducible assumption) | assumption)
                          have q329 : x7_3 < (l0_5.length : Int) := of_decide_eq_true (by first | (with_reducible assumption) | assumption)
                          obtain ⟨ad329, e329, hx329_0⟩ := Kd.at_int HR0_5.out x7_3 p329 q329
                          have hw329_0 := hx329_0
                          cases e329
                          replace hx329_0 := (HB.out.cell (World.block_lt_of_cell? w _ hx329_0)).trans hx329_0
                          replace p329 := eq_true p329
                          replace q329 := eq_true q329
                          have p330 : 0 ≤ (x7_3 : Int) := of_decide_eq_true (by first | (with_reducible assumption) | assumption)
                          have q330 : x7_3 < (l1_5.length : Int) := of_decide_eq_true (by first | (with_reducible assumption) | assumption)
                          obtain ⟨ad330, e330, hx330_0⟩ := Kd.at_int HR1_5.out x7_3 p330 q330
                          have hw330_0 := hx330_0
                          cases e330
                          replace hx330_0 := (HB.out.cell (World.block_lt_of_cell? w _ hx330_0)).trans hx330_0
                          replace p330 := eq_true p330
                          replace q330 := eq_true q330
                          refine start_ (n := 11) (S := fun w' => w'.cell? ⟨gb324, 0, none⟩ = some (.int .i64 a0_0) ∧ w'.cell? ⟨gb324, 1, none⟩ = some (.int .i64 a0_1) ∧ w'.cell? ⟨gb324, 2, none⟩ = some (.int .i64 a0_2) ∧ w'.cell? ⟨gb324, 3, none⟩ = some (.int .i64 a0_3) ∧ w'.cell? ⟨gb324, 4, none⟩ = some (.slice A0_4 l0_4.length c0_4) ∧ w'.cell? ⟨gb324, 5, none⟩ = some (.slice (some ad329) l0_5.length c0_5) ∧ w'.cell? ⟨gb325, 0, none⟩ = some (.int .i64 a1_0) ∧ w'.cell? ⟨gb325, 1, none⟩ = some (.int .i64 a1_1) ∧ w'.cell? ⟨gb325, 2, none⟩ = some (.int .i64 a1_2) ∧ w'.cell? ⟨gb325, 3, none⟩ = some (.int .i64 a1_3) ∧ w'.cell? ⟨gb325, 4, none⟩ = some (.slice A1_4 l1_4.length c1_4) ∧ w'.cell? ⟨gb325, 5, none⟩ = some (.slice (some ad330) l1_5.length c1_5) ∧ w'.cell? (ad329.add (x7_3).toNat) = some (.int .i64 (rd l0_5 x7_3)) ∧ w'.cell? (ad330.add (x7_3).toNat) = some (.int .i64 (rd l1_5 x7_3))) (ds := []) #[false, false, false, false, false, false, false, false, false, false, false] (by kernel_rfl) rfl rfl ⟨(blk_cell BK324.out 0).trans rfl, (blk_cell BK324.out 1).trans rfl, (blk_cell BK324.out 2).trans rfl, (blk_cell BK324.out 3).trans rfl, (blk_cell BK324.out 4).trans rfl, (blk_cell BK324.out 5).trans rfl, (blk_cell BK325.out 0).trans rfl, (blk_cell BK325.out 1).trans rfl, (blk_cell BK325.out 2).trans rfl, (blk_cell BK325.out 3).trans rfl, (blk_cell BK325.out 4).trans rfl, (blk_cell BK325.out 5).trans rfl, ((HB.out.cell (World.block_lt_of_cell? w _ hw329_0)).trans hw329_0), ((HB.out.cell (World.block_lt_of_cell? w _ hw330_0)).trans hw330_0)⟩ (fun hHeld => ?_); refine with_tabW bobbinref14_Same.tab12 bobbinref14_Same.bits12 (fun HT_ HW_ => ?_)
                          generalize wr.drew = w54 at BK324 BK325 HB hx329_0 hx330_0 hHeld ⊢
                          refine pure_ (i := 0) (N := some 79) (v := ?_) (a' := ?_) #[true, false, false, false, false, false, false, false, false, false, false] rfl rfl (any_of HT_.out (by kernel_rfl)) (fun _ _ _ h => h) (Or.inl ⟨by rfl, ?_⟩) ?_ ?_
                          rotate_left
                          · intro w'
                            go_simp
                            with_reducible rfl
                          rotate_left
                          · simp only [Act.put, List.setIfInBounds_toArray, List.set_cons_zero, List.set_cons_succ, i64_w, i32_w]
                            rfl
                          refine pure_ (i := 2) (N := some 81) (v := ?_) (a' := ?_) #[true, false, true, false, false, false, false, false, false, false, false] rfl rfl (any_of HT_.out (by kernel_rfl)) (fun _ _ _ h => h) (Or.inl ⟨by rfl, ?_⟩) ?_ ?_
                          rotate_left
                          · intro w'
                            go_simp
                            with_reducible rfl
                          rotate_left
                          · simp only [Act.put, List.setIfInBounds_toArray, List.set_cons_zero, List.set_cons_succ, i64_w, i32_w]
                            rfl
                          refine pure_ (i := 5) (N := some 84) (v := ?_) (a' := ?_) #[true, false, true, false, false, true, false, false, false, false, false] rfl rfl (any_of HT_.out (by kernel_rfl)) (fun _ _ _ h => h) (Or.inl ⟨by rfl, ?_⟩) ?_ ?_
                          rotate_left
                          · intro w'
                            go_simp
                            with_reducible rfl
                          rotate_left
                          · simp only [Act.put, List.setIfInBounds_toArray, List.set_cons_zero, List.set_cons_succ, i64_w, i32_w]
                            rfl
                          refine pure_ (i := 7) (N := some 86) (v := ?_) (a' := ?_) #[true, false, true, false, false, true, false, true, false, false, false] rfl rfl (any_of HT_.out (by kernel_rfl)) (fun _ _ _ h => h) (Or.inl ⟨by rfl, ?_⟩) ?_ ?_
                          rotate_left
                          · intro w'
                            go_simp
                            with_reducible rfl
                          rotate_left
                          · simp only [Act.put, List.setIfInBounds_toArray, List.set_cons_zero, List.set_cons_succ, i64_w, i32_w]
                            rfl
                          refine take_ (i := 1) (N := some 80) (v := ?_) (a' := ?_) #[true, true, true, false, false, true, false, true, false, false, false] rfl rfl (take_ofW HT_.out HW_.out (by kernel_rfl)) (fun _ _ _ h => h) (Or.inl ⟨by rfl, ?_⟩) hHeld ?_ ?_
                          rotate_left
                          · rintro w' ⟨s0, s1, s2, s3, s4, s5, s6, s7, s8, s9, s10, s11, s12, s13⟩
                            go_simp
                            with_reducible rfl
                          rotate_left
                          · simp only [Act.put, List.setIfInBounds_toArray, List.set_cons_zero, List.set_cons_succ, i64_w, i32_w]
                            rfl
                          refine pure_ (i := 3) (N := some 82) (v := ?_) (a' := ?_) #[true, true, true, true, false, true, false, true, false, false, false] rfl rfl (any_of HT_.out (by kernel_rfl)) (fun _ _ _ h => h) (Or.inl ⟨by rfl, ?_⟩) ?_ ?_
                          rotate_left
                          · intro w'
                            go_simp
                            with_reducible rfl
                          rotate_left
                          · simp only [Act.put, List.setIfInBounds_toArray, List.set_cons_zero, List.set_cons_succ, i64_w, i32_w]
                            rfl
                          refine take_ (i := 4) (N := some 83) (v := ?_) (a' := ?_) #[true, true, true, true, true, true, false, true, false, false, false] rfl rfl (take_ofW HT_.out HW_.out (by kernel_rfl)) (fun _ _ _ h => h) (Or.inl ⟨by rfl, ?_⟩) hHeld ?_ ?_
                          rotate_left
                          · rintro w' ⟨s0, s1, s2, s3, s4, s5, s6, s7, s8, s9, s10, s11, s12, s13⟩
                            go_simp
                            with_reducible rfl
                          rotate_left
                          · simp only [Act.put, List.setIfInBounds_toArray, List.set_cons_zero, List.set_cons_succ, i64_w, i32_w]
                            rfl
                          refine take_ (i := 6) (N := some 85) (v := ?_) (a' := ?_) #[true, true, true, true, true, true, true, true, false, false, false] rfl rfl (take_ofW HT_.out HW_.out (by kernel_rfl)) (fun _ _ _ h => h) (Or.inl ⟨by rfl, ?_⟩) hHeld ?_ ?_
                          rotate_left
                          · rintro w' ⟨s0, s1, s2, s3, s4, s5, s6, s7, s8, s9, s10, s11, s12, s13⟩
                            go_simp
                            with_reducible rfl
                          rotate_left
                          · simp only [Act.put, List.setIfInBounds_toArray, List.set_cons_zero, List.set_cons_succ, i64_w, i32_w]
                            rfl
                          refine pure_ (i := 8) (N := some 87) (v := ?_) (a' := ?_) #[true, true, true, true, true, true, true, true, true, false, false] rfl rfl (any_of HT_.out (by kernel_rfl)) (fun _ _ _ h => h) (Or.inl ⟨by rfl, ?_⟩) ?_ ?_
                          rotate_left
                          · intro w'
                            go_simp
                            with_reducible rfl
                          rotate_left
                          · simp only [Act.put, List.setIfInBounds_toArray, List.set_cons_zero, List.set_cons_succ, i64_w, i32_w]
                            rfl
                          refine take_ (i := 9) (N := some 88) (v := ?_) (a' := ?_) #[true, true, true, true, true, true, true, true, true, true, false] rfl rfl (take_ofW HT_.out HW_.out (by kernel_rfl)) (fun _ _ _ h => h) (Or.inl ⟨by rfl, ?_⟩) hHeld ?_ ?_
                          rotate_left
                          · rintro w' ⟨s0, s1, s2, s3, s4, s5, s6, s7, s8, s9, s10, s11, s12, s13⟩
                            go_simp
                            with_reducible rfl
                          rotate_left
                          · simp only [Act.put, List.setIfInBounds_toArray, List.set_cons_zero, List.set_cons_succ, i64_w, i32_w]
                            rfl
                          refine pure_ (i := 10) (N := some 89) (v := ?_) (a' := ?_) #[true, true, true, true, true, true, true, true, true, true, true] rfl rfl (any_of HT_.out (by kernel_rfl)) (fun _ _ _ h => h) (Or.inl ⟨by rfl, ?_⟩) ?_ ?_
                          rotate_left
                          · intro w'
                            go_simp
                            with_reducible rfl
                          rotate_left
                          · simp only [Act.put, List.setIfInBounds_toArray, List.set_cons_zero, List.set_cons_succ, i64_w, i32_w]
                            rfl
                          refine done_ (done_of HT_.out (by kernel_rfl)) ?_
                          try go_wp2
                          go_ret
                          exact ⟨by first | rfl | (simp [errW_none, errW_some] <;> rfl) | (simp [*, errW_none, errW_some] <;> rfl), by repeat (first | (with_reducible first | exact HB.out | apply below_alloc | apply pw_below_drewN | apply below_drew1 | refine below_set ?_ GE324.out | refine below_set ?_ GE325.out) | exact HB.out)⟩
                      · rw [if_neg c47] at H
                        exact absurd H (by simp)
                    · rw [if_neg c46] at H
                      exact absurd H (by simp)
                  · rw [if_neg c45] at H
                    have c45b0 : decide (x7_3 < (l0_5.length : Int)) = false := decide_eq_false c45
                    clear c45
                    obtain rfl := Option.some.inj H
                    have hnb55 := NB324_325.out
                    have hnc55 := NB325_324.out
                    have hcz56_0 : wr.cell? ⟨gb324, 0, none⟩ = some (.int .i64 a0_0) := (blk_cell BK324.out 0).trans rfl
                    have hcz56_1 : wr.cell? ⟨gb324, 1, none⟩ = some (.int .i64 a0_1) := (blk_cell BK324.out 1).trans rfl
                    have hcz56_2 : wr.cell? ⟨gb324, 2, none⟩ = some (.int .i64 a0_2) := (blk_cell BK324.out 2).trans rfl
                    have hcz56_3 : wr.cell? ⟨gb324, 3, none⟩ = some (.int .i64 a0_3) := (blk_cell BK324.out 3).trans rfl
                    have hcz56_4 : wr.cell? ⟨gb324, 4, none⟩ = some (.slice A0_4 l0_4.length c0_4) := (blk_cell BK324.out 4).trans rfl
                    have hcz56_5 : wr.cell? ⟨gb324, 5, none⟩ = some (.slice A0_5 l0_5.length c0_5) := (blk_cell BK324.out 5).trans rfl
                    have hfz56_0 := blk_frozen BK324.out 0
                    have hfz56_1 := blk_frozen BK324.out 1
                    have hfz56_2 := blk_frozen BK324.out 2
                    have hfz56_3 := blk_frozen BK324.out 3
                    have hfz56_4 := blk_frozen BK324.out 4
                    have hfz56_5 := blk_frozen BK324.out 5
                    go_wp2
                    go_ret
                    exact ⟨by first | rfl | (simp [errW_none, errW_some] <;> rfl) | (simp [*, errW_none, errW_some] <;> rfl), by repeat (first | (with_reducible first | exact HB.out | apply below_alloc | apply pw_below_drewN | apply below_drew1 | refine below_set ?_ GE324.out | refine below_set ?_ GE325.out) | exact HB.out)⟩
end Go.Proofs.Ytdbbibndjknafaa.Print
