-- Written by a program of this session (myprint.py over the kit's print.py) out of the translation. Not trusted: Lean checks it.
import Derived.Test.YtoklljioloekmaaPrint0
import Derived.Test.YtoklljioloekmaaPrint6
import Derived.Test.YtoklljioloekmaaPrint7
import Derived.Test.YtoklljioloekmaaPrint8
namespace Go.Proofs.Ytoklljioloekmaa.Print
open Go.RowKit Go.Proofs.YtoklljioloekmaaW.PrintWords Go.Proofs.YtoklljioloekmaaW.PrintLast Go.Proofs.YtoklljioloekmaaW.PrintMore
attribute [local go_sem] max2_int min2_int max_two min_two max_three min_three max_four min_four   -- for this text's walks alone
set_option linter.unusedVariables false
set_option linter.unusedSimpArgs false

/-! ### bobbinref16_Admit: function 16 -/
mutual
def bobbinref16_Admit.j0 : Nat → Int → Int → Bool → Int → List (S32) → Option (Int × (List (S32)) × Int × Int)
  | 0, _, _, _, _, _ => none
  | k + 1, x1, x2, x41, x209000, x209001 => if x41 = true then (some (0, ([] : List (S32)), 0, 1)) else ((bobbinref16_find.f k x209001 x2).bind fun t211 => (if t211 ≥ 0 then (some (0, ([] : List (S32)), 0, 5)) else (if (x209001.length : Int) < x1 then (if ([] : List (S32)).length + x209001.length < 8796093022208 then ((some (([] : List (S32)) ++ x209001 : List (S32))).bind fun y213 => (if y213.length < 8796093022208 then (some (x209000, (y213 ++ [(⟨x2, true, false⟩ : S32)]), (-1), 0)) else (none))) else (none)) else (bobbinref16_Admit.l0 k 0 x209000 x209001 x2 true false))))
def bobbinref16_Admit.l0 : Nat → Int → Int → List (S32) → Int → Bool → Bool → Option (Int × (List (S32)) × Int × Int)
  | 0, _, _, _, _, _, _ => none
  | k + 1, x12, x209000, x209001, x213000, x213001, x213002 => if x12 < (wrap64 (2 * (x209001.length : Int))) then (if 0 ≤ x209000 then (if x209000 < (x209001.length : Int) then (if (wrap64 (x209000 + 1)) = (x209001.length : Int) then (bobbinref16_Admit.j2 k x12 x209000 0 x209001 x213000 x213001 x213002 ((rd_T32 x209001 x209000).f0) ((rd_T32 x209001 x209000).f1) ((rd_T32 x209001 x209000).f2)) else (bobbinref16_Admit.j2 k x12 x209000 (wrap64 (x209000 + 1)) x209001 x213000 x213001 x213002 ((rd_T32 x209001 x209000).f0) ((rd_T32 x209001 x209000).f1) ((rd_T32 x209001 x209000).f2))) else (none)) else (none)) else (some (0, ([] : List (S32)), 0, 4))
def bobbinref16_Admit.j2 : Nat → Int → Int → Int → List (S32) → Int → Bool → Bool → Int → Bool → Bool → Option (Int × (List (S32)) × Int × Int)
  | 0, _, _, _, _, _, _, _, _, _, _ => none
  | k + 1, x12, x13, x209000, x209001, x213000, x213001, x213002, x221000, x221001, x221002 => if x221002 = true then (bobbinref16_Admit.l0 k (wrap64 (x12 + 1)) x209000 x209001 x213000 x213001 x213002) else (if x221001 = true then ((bobbinref16_put.f x209000 x209001 x13 x221000 false x221002).bind fun bt221 => (bobbinref16_Admit.l0 k (wrap64 (x12 + 1)) bt221.1 bt221.2 x213000 x213001 x213002)) else ((bobbinref16_put.f x209000 x209001 x13 x213000 x213001 x213002).bind fun bt225 => (some (bt225.1, bt225.2, x221000, 0))))
end
theorem bobbinref16_Admit.j0_eq : ∀ (k : Nat) x1 x2 x41 x209000 x209001, bobbinref16_Admit.j0 (k + 1) x1 x2 x41 x209000 x209001 = (if x41 = true then (some (0, ([] : List (S32)), 0, 1)) else ((bobbinref16_find.f k x209001 x2).bind fun t211 => (if t211 ≥ 0 then (some (0, ([] : List (S32)), 0, 5)) else (if (x209001.length : Int) < x1 then (if ([] : List (S32)).length + x209001.length < 8796093022208 then ((some (([] : List (S32)) ++ x209001 : List (S32))).bind fun y213 => (if y213.length < 8796093022208 then (some (x209000, (y213 ++ [(⟨x2, true, false⟩ : S32)]), (-1), 0)) else (none))) else (none)) else (bobbinref16_Admit.l0 k 0 x209000 x209001 x2 true false))))) := fun _ _ _ _ _ _ => rfl
theorem bobbinref16_Admit.l0_eq : ∀ (k : Nat) x12 x209000 x209001 x213000 x213001 x213002, bobbinref16_Admit.l0 (k + 1) x12 x209000 x209001 x213000 x213001 x213002 = (if x12 < (wrap64 (2 * (x209001.length : Int))) then (if 0 ≤ x209000 then (if x209000 < (x209001.length : Int) then (if (wrap64 (x209000 + 1)) = (x209001.length : Int) then (bobbinref16_Admit.j2 k x12 x209000 0 x209001 x213000 x213001 x213002 ((rd_T32 x209001 x209000).f0) ((rd_T32 x209001 x209000).f1) ((rd_T32 x209001 x209000).f2)) else (bobbinref16_Admit.j2 k x12 x209000 (wrap64 (x209000 + 1)) x209001 x213000 x213001 x213002 ((rd_T32 x209001 x209000).f0) ((rd_T32 x209001 x209000).f1) ((rd_T32 x209001 x209000).f2))) else (none)) else (none)) else (some (0, ([] : List (S32)), 0, 4))) := fun _ _ _ _ _ _ _ => rfl
theorem bobbinref16_Admit.j2_eq : ∀ (k : Nat) x12 x13 x209000 x209001 x213000 x213001 x213002 x221000 x221001 x221002, bobbinref16_Admit.j2 (k + 1) x12 x13 x209000 x209001 x213000 x213001 x213002 x221000 x221001 x221002 = (if x221002 = true then (bobbinref16_Admit.l0 k (wrap64 (x12 + 1)) x209000 x209001 x213000 x213001 x213002) else (if x221001 = true then ((bobbinref16_put.f x209000 x209001 x13 x221000 false x221002).bind fun bt221 => (bobbinref16_Admit.l0 k (wrap64 (x12 + 1)) bt221.1 bt221.2 x213000 x213001 x213002)) else ((bobbinref16_put.f x209000 x209001 x13 x213000 x213001 x213002).bind fun bt225 => (some (bt225.1, bt225.2, x221000, 0))))) := fun _ _ _ _ _ _ _ _ _ _ _ => rfl
def bobbinref16_Admit.f (k : Nat) (a0_0 : Int) (l0_1 : List (S32)) (a1 : Int) (a2 : Int) : Option (Int × (List (S32)) × Int × Int) := (bobbinref16_May.f k a0_0 l0_1).bind fun t210 => (if t210 = true then (if a2 < 0 then (bobbinref16_Admit.j0 k a1 a2 true a0_0 l0_1) else (if a2 > 255 then (bobbinref16_Admit.j0 k a1 a2 true a0_0 l0_1) else (if a1 < 1 then (bobbinref16_Admit.j0 k a1 a2 true a0_0 l0_1) else (if a1 > 16 then (bobbinref16_Admit.j0 k a1 a2 true a0_0 l0_1) else (bobbinref16_Admit.j0 k a1 a2 (decide ((l0_1.length : Int) > a1)) a0_0 l0_1))))) else (bobbinref16_Admit.j0 k a1 a2 true a0_0 l0_1))
theorem bobbinref16_Admit.mono_l : ∀ k, (∀ y0 y1 y2 y3 y4, LeO (bobbinref16_Admit.j0 k y0 y1 y2 y3 y4) (bobbinref16_Admit.j0 (k + 1) y0 y1 y2 y3 y4)) ∧ (∀ y0 y1 y2 y3 y4 y5, LeO (bobbinref16_Admit.l0 k y0 y1 y2 y3 y4 y5) (bobbinref16_Admit.l0 (k + 1) y0 y1 y2 y3 y4 y5)) ∧ (∀ y0 y1 y2 y3 y4 y5 y6 y7 y8 y9, LeO (bobbinref16_Admit.j2 k y0 y1 y2 y3 y4 y5 y6 y7 y8 y9) (bobbinref16_Admit.j2 (k + 1) y0 y1 y2 y3 y4 y5 y6 y7 y8 y9))
  | 0 => ⟨fun _ _ _ _ _ r h => by first | (cases h; done) | simp [bobbinref16_Admit.j0] at h, fun _ _ _ _ _ _ r h => by first | (cases h; done) | simp [bobbinref16_Admit.l0] at h, fun _ _ _ _ _ _ _ _ _ _ r h => by first | (cases h; done) | simp [bobbinref16_Admit.j2] at h⟩
  | k + 1 => by
    obtain ⟨ih0, ih1, ih2⟩ := bobbinref16_Admit.mono_l k
    refine ⟨?_, ?_, ?_⟩
    · intro y0 y1 y2 y3 y4
      unfold bobbinref16_Admit.j0
      repeat' first
      | (with_reducible exact ih0 _ _ _ _ _)
      | (with_reducible exact ih1 _ _ _ _ _ _)
      | (with_reducible exact ih2 _ _ _ _ _ _ _ _ _ _)
      | (with_reducible exact bobbinref16_May.mono _ _ _)
      | (with_reducible exact bobbinref16_find.mono _ _ _)
      | (with_reducible exact LeO.refl _)
      | (with_reducible exact LeO.none _)
      | (with_reducible refine LeO.ite ?_ ?_)
      | (with_reducible refine LeO.bind ?_ (fun _ => ?_))
      | exact ih0 _ _ _ _ _
      | exact ih1 _ _ _ _ _ _
      | exact ih2 _ _ _ _ _ _ _ _ _ _
      | exact bobbinref16_May.mono _ _ _
      | exact bobbinref16_find.mono _ _ _
      | exact LeO.none _
      | refine LeO.ite ?_ ?_
      | refine LeO.bind ?_ (fun _ => ?_)
    · intro y0 y1 y2 y3 y4 y5
      unfold bobbinref16_Admit.l0
      repeat' first
      | (with_reducible exact ih0 _ _ _ _ _)
      | (with_reducible exact ih1 _ _ _ _ _ _)
      | (with_reducible exact ih2 _ _ _ _ _ _ _ _ _ _)
      | (with_reducible exact bobbinref16_May.mono _ _ _)
      | (with_reducible exact bobbinref16_find.mono _ _ _)
      | (with_reducible exact LeO.refl _)
      | (with_reducible exact LeO.none _)
      | (with_reducible refine LeO.ite ?_ ?_)
      | (with_reducible refine LeO.bind ?_ (fun _ => ?_))
      | exact ih0 _ _ _ _ _
      | exact ih1 _ _ _ _ _ _
      | exact ih2 _ _ _ _ _ _ _ _ _ _
      | exact bobbinref16_May.mono _ _ _
      | exact bobbinref16_find.mono _ _ _
      | exact LeO.none _
      | refine LeO.ite ?_ ?_
      | refine LeO.bind ?_ (fun _ => ?_)
    · intro y0 y1 y2 y3 y4 y5 y6 y7 y8 y9
      unfold bobbinref16_Admit.j2
      repeat' first
      | (with_reducible exact ih0 _ _ _ _ _)
      | (with_reducible exact ih1 _ _ _ _ _ _)
      | (with_reducible exact ih2 _ _ _ _ _ _ _ _ _ _)
      | (with_reducible exact bobbinref16_May.mono _ _ _)
      | (with_reducible exact bobbinref16_find.mono _ _ _)
      | (with_reducible exact LeO.refl _)
      | (with_reducible exact LeO.none _)
      | (with_reducible refine LeO.ite ?_ ?_)
      | (with_reducible refine LeO.bind ?_ (fun _ => ?_))
      | exact ih0 _ _ _ _ _
      | exact ih1 _ _ _ _ _ _
      | exact ih2 _ _ _ _ _ _ _ _ _ _
      | exact bobbinref16_May.mono _ _ _
      | exact bobbinref16_find.mono _ _ _
      | exact LeO.none _
      | refine LeO.ite ?_ ?_
      | refine LeO.bind ?_ (fun _ => ?_)
theorem bobbinref16_Admit.mono : ∀ a0 a1 a2 a3 k, LeO (bobbinref16_Admit.f k a0 a1 a2 a3) (bobbinref16_Admit.f (k + 1) a0 a1 a2 a3) := by
  intro a0 a1 a2 a3 k
  obtain ⟨ih0, ih1, ih2⟩ := bobbinref16_Admit.mono_l k
  unfold bobbinref16_Admit.f
  repeat' first
      | (with_reducible exact ih0 _ _ _ _ _)
      | (with_reducible exact ih1 _ _ _ _ _ _)
      | (with_reducible exact ih2 _ _ _ _ _ _ _ _ _ _)
      | (with_reducible exact bobbinref16_May.mono _ _ _)
      | (with_reducible exact bobbinref16_find.mono _ _ _)
      | (with_reducible exact LeO.refl _)
      | (with_reducible exact LeO.none _)
      | (with_reducible refine LeO.ite ?_ ?_)
      | (with_reducible refine LeO.bind ?_ (fun _ => ?_))
      | exact ih0 _ _ _ _ _
      | exact ih1 _ _ _ _ _ _
      | exact ih2 _ _ _ _ _ _ _ _ _ _
      | exact bobbinref16_May.mono _ _ _
      | exact bobbinref16_find.mono _ _ _
      | exact LeO.none _
      | refine LeO.ite ?_ ?_
      | refine LeO.bind ?_ (fun _ => ?_)
def bobbinref16_Admit.T9 : Bool × List (List Nat × List Nat) := (true, [([], []), ([0], [0]), ([], []), ([], []), ([3], [3]), ([2, 4], [2, 4]), ([1, 5], [1, 5]), ([6, 5, 0, 1, 2, 3, 4, 5, 6], [6]), ([7, 0, 1, 2, 3, 4, 5, 6, 7], []), ([8, 0, 1, 2, 3, 4, 5, 6, 7, 8], [])])
def bobbinref16_Admit.B9 : List Nat := [0, 1, 0, 0, 8, 28, 63, 127, 255, 511]
theorem bobbinref16_Admit.tab9 : rtab .any (opsOf Try.f16 9) = bobbinref16_Admit.T9 := by kernel_rfl
theorem bobbinref16_Admit.bits9 : waitsOk bobbinref16_Admit.T9.2 bobbinref16_Admit.B9 = true := by kernel_rfl
def bobbinref16_Admit.T20 : Bool × List (List Nat × List Nat) := (true, [([], []), ([], []), ([], []), ([0, 1, 2], [0, 1, 2]), ([], []), ([4], [4]), ([3, 3, 0, 1, 2, 3], [3]), ([5, 6, 0, 1, 2, 3, 4, 5, 6], [5]), ([7, 0, 1, 2, 3, 4, 5, 6, 7], [])])
def bobbinref16_Admit.B20 : List Nat := [0, 0, 0, 7, 0, 16, 15, 127, 255]
theorem bobbinref16_Admit.tab20 : rtab .any (opsOf Try.f16 20) = bobbinref16_Admit.T20 := by kernel_rfl
theorem bobbinref16_Admit.bits20 : waitsOk bobbinref16_Admit.T20.2 bobbinref16_Admit.B20 = true := by kernel_rfl
set_option maxHeartbeats 8000000 in
set_option maxRecDepth 100000 in
theorem bobbinref16_Admit.calls (k : Nat) (a0_0 : Int) (P0_1_ : Nat → Prop) (A0_1 : Option Addr) (c0_1 : Nat) (l0_1 : List (S32)) (a1 : Int) (a2 : Int) (r1 : Int) (r2 : List (S32)) (r3 : Int) (r4 : Int) (w : World) (hs0_1 : Kd.V k32 32 w w.heap.size (fun k_ => P0_1_ k_) (.slice A0_1 l0_1.length c0_1) l0_1) (h : bobbinref16_Admit.f k a0_0 l0_1 a1 a2 = some (r1, r2, r3, r4)) :
    Calls Try.prog 16 #[.agg #[.int .i64 a0_0, .slice A0_1 l0_1.length c0_1], .int .i64 a1, .int .i64 a2] w fun e w' => ∃ v1_ : Value, e = .returned (.tuple #[.agg #[.int .i64 r1, v1_], .int .i64 r3, .int .i64 r4]) ∧ Kd.R k32 32 w' w.heap.size (fun k_ => (w.heap.size ≤ k_)) v1_ r2 ∧ Below w.heap.size w w' := by
  have hu24 := Try.underlying24
  have hu32 := Try.underlying32
  have HO0_1 := Aside0.mk (show Kd.V k32 32 w w.heap.size (fun k_ => (P0_1_ k_ ∨ w.heap.size ≤ k_)) (.slice A0_1 l0_1.length c0_1) l0_1 from Kd.V_mono hs0_1 (fun k_ hk => .inl hk))
  have HB := Aside0.mk (Below.refl w.heap.size w)
  have H : ((bobbinref16_May.f k a0_0 l0_1).bind fun t210 => (if t210 = true then (if a2 < 0 then (bobbinref16_Admit.j0 k a1 a2 true a0_0 l0_1) else (if a2 > 255 then (bobbinref16_Admit.j0 k a1 a2 true a0_0 l0_1) else (if a1 < 1 then (bobbinref16_Admit.j0 k a1 a2 true a0_0 l0_1) else (if a1 > 16 then (bobbinref16_Admit.j0 k a1 a2 true a0_0 l0_1) else (bobbinref16_Admit.j0 k a1 a2 (decide ((l0_1.length : Int) > a1)) a0_0 l0_1))))) else (bobbinref16_Admit.j0 k a1 a2 true a0_0 l0_1))) = some (r1, r2, r3, r4) := h
  clear h
  replace H := Option.bind_eq_some_iff.mp H
  obtain ⟨t210, A40, H⟩ := H
  replace H : (if t210 = true then (if a2 < 0 then (bobbinref16_Admit.j0 k a1 a2 true a0_0 l0_1) else (if a2 > 255 then (bobbinref16_Admit.j0 k a1 a2 true a0_0 l0_1) else (if a1 < 1 then (bobbinref16_Admit.j0 k a1 a2 true a0_0 l0_1) else (if a1 > 16 then (bobbinref16_Admit.j0 k a1 a2 true a0_0 l0_1) else (bobbinref16_Admit.j0 k a1 a2 (decide ((l0_1.length : Int) > a1)) a0_0 l0_1))))) else (bobbinref16_Admit.j0 k a1 a2 true a0_0 l0_1)) = some (r1, r2, r3, r4) := H
  have A4 := Aside0.mk A40
  clear A40
  have HC5 := Aside0.mk H
  clear H
  go_enter Try.func16, Try.ntmps16
  go_upto_region 2 with (first | ((with_reducible refine gate_dst (N := 3) rfl ?_); (try (refine gate_guard (by rfl) ?_; dsimp only)); refine box_event ?hg (N := 3) ?hd (cs := #[.int .i64 a0_0, .slice A0_1 l0_1.length c0_1]) (t := 24) ?hr ?_; (case hd => rfl); (case hg => rfl); (case hr => first | (go_simp; done) | (go_simp; rfl)); intro gb208 hg w6 hbox hb; have n0_ := Aside0.mk (Kd.V_below (Kd.V_elderB (by (with_reducible repeat (first | apply Kd.V_alloc | apply Kd.V_drewN | apply Kd.V_drew)); exact HO0_1.out) gb208 (Nat.le_of_eq hg.symm)) hb); have n1_ := Aside0.mk (below_step (by repeat (first | (with_reducible first | exact HB.out | apply below_alloc | apply pw_below_drewN | apply below_drew1) | exact HB.out)) hb); have n2_ := Aside0.mk (hbox); have n3_ := Aside0.mk ((by rw [hg]; exact (below_size (by repeat (first | (with_reducible first | exact HB.out | apply below_alloc | apply pw_below_drewN | apply below_drew1) | exact HB.out))) : w.heap.size ≤ gb208)); have n4_ := Aside0.mk ((by rw [hg]; exact (below_size (by repeat (first | (with_reducible first | exact HB.out | apply below_alloc | apply pw_below_drewN | apply below_drew1) | exact HB.out))) : w.heap.size ≤ gb208)); clear HO0_1; clear HB; have HO0_1 := n0_; have HB := n1_; have BK208 := n2_; have GW208 := n3_; have GE208 := n4_; clear n0_ n1_ n2_ n3_ n4_; clear hb hbox hg) | ((with_reducible refine gate_dst (N := 6) rfl ?_); (try (refine gate_guard (by rfl) ?_; dsimp only)); refine box_event ?hg (N := 6) ?hd (cs := #[.int .i64 0, .slice none 0 0]) (t := 24) ?hr ?_; (case hd => rfl); (case hg => rfl); (case hr => first | (go_simp; done) | (go_simp; rfl)); intro gb209 hg w7 hbox hb; have n0_ := Aside0.mk (Kd.V_below (Kd.V_elderB (by (with_reducible repeat (first | apply Kd.V_alloc | apply Kd.V_drewN | apply Kd.V_drew)); exact HO0_1.out) gb209 (Nat.le_of_eq hg.symm)) hb); have n1_ := Aside0.mk (blk_below (g := gb208) (o := .cells #[.int .i64 a0_0, .slice A0_1 l0_1.length c0_1] 24 (0, 0)) (by (with_reducible repeat (first | refine blk_drewN ?_ _ | refine blk_drew ?_ | refine blk_alloc ?_ _)); exact BK208.out) hb); have n2_ := Aside0.mk (below_step (by repeat (first | (with_reducible first | exact HB.out | apply below_alloc | apply pw_below_drewN | apply below_drew1 | refine below_set ?_ GE208.out) | exact HB.out)) hb); have n3_ := Aside0.mk (hbox); have n4_ := Aside0.mk ((by rw [hg]; exact (below_size (by repeat (first | (with_reducible first | exact HB.out | apply below_alloc | apply pw_below_drewN | apply below_drew1 | refine below_set ?_ GE208.out) | exact HB.out))) : w.heap.size ≤ gb209)); have n5_ := Aside0.mk ((by rw [hg]; exact (below_size (by repeat (first | (with_reducible first | exact HB.out | apply below_alloc | apply pw_below_drewN | apply below_drew1 | refine below_set ?_ GE208.out) | exact HB.out))) : w.heap.size ≤ gb209)); have n6_ := Aside0.mk ((by rw [hg]; exact Nat.ne_of_lt (blk_lt (g := gb208) (o := .cells #[.int .i64 a0_0, .slice A0_1 l0_1.length c0_1] 24 (0, 0)) (by (with_reducible repeat (first | refine blk_drewN ?_ _ | refine blk_drew ?_ | refine blk_alloc ?_ _)); exact BK208.out)) : gb208 ≠ gb209)); have n7_ := Aside0.mk ((by rw [hg]; exact Nat.ne_of_gt (blk_lt (g := gb208) (o := .cells #[.int .i64 a0_0, .slice A0_1 l0_1.length c0_1] 24 (0, 0)) (by (with_reducible repeat (first | refine blk_drewN ?_ _ | refine blk_drew ?_ | refine blk_alloc ?_ _)); exact BK208.out)) : gb209 ≠ gb208)); clear HO0_1; clear BK208; clear HB; have HO0_1 := n0_; have BK208 := n1_; have HB := n2_; have BK209 := n3_; have GW209 := n4_; have GE209 := n5_; have NB208_209 := n6_; have NB209_208 := n7_; clear n0_ n1_ n2_ n3_ n4_ n5_ n6_ n7_; clear hb hbox hg; have hnb8 := NB208_209.out; have hnc8 := NB209_208.out; have hcz9_0 : w7.cell? ⟨gb208, 0, none⟩ = some (.int .i64 a0_0) := (blk_cell BK208.out 0).trans rfl; have hcz9_1 : w7.cell? ⟨gb208, 1, none⟩ = some (.slice A0_1 l0_1.length c0_1) := (blk_cell BK208.out 1).trans rfl; have hfz9_0 := blk_frozen BK208.out 0; have hfz9_1 := blk_frozen BK208.out 1) | ((with_reducible refine gate_callee (f := 18) rfl ?_); refine goesL_ (some 16) rfl rfl Try.func18 (by kernel_rfl) rfl #[.agg #[.int .i64 a0_0, .slice A0_1 l0_1.length c0_1]] rfl (by (try simp only [List.map_toArray, List.map_cons, List.map_nil]); first | done | rfl | (simp only [List.length_drop, List.length_take]; rfl)) ?_; (with_reducible refine (bobbinref16_May.calls k a0_0 _ _ l0_1 t210 _ ?side1 ?side2 A4.out).mono ?_); (case side1 => repeat (first | exact (Kd.V_reads' HO0_1.out).2.2 | (with_reducible refine Kd.C_alloc ?_ _) | (with_reducible refine Kd.C_drewN ?_ _) | (with_reducible refine Kd.C_drew ?_))); (case side2 => exact (Kd.V_reads' HO0_1.out).2.1); rintro e w10 ⟨rfl, hb⟩; refine ⟨_, rfl, ?_⟩; have n0_ := Aside0.mk (Kd.V_below (by (with_reducible repeat (first | apply Kd.V_alloc | apply Kd.V_drewN | apply Kd.V_drew)); exact HO0_1.out) hb); have n1_ := Aside0.mk (blk_below (g := gb208) (o := .cells #[.int .i64 a0_0, .slice A0_1 l0_1.length c0_1] 24 (0, 0)) (by (with_reducible repeat (first | refine blk_drewN ?_ _ | refine blk_drew ?_ | refine blk_alloc ?_ _)); exact BK208.out) hb); have n2_ := Aside0.mk (blk_below (g := gb209) (o := .cells #[.int .i64 0, .slice none 0 0] 24 (0, 0)) (by (with_reducible repeat (first | refine blk_drewN ?_ _ | refine blk_drew ?_ | refine blk_alloc ?_ _)); exact BK209.out) hb); have n3_ := Aside0.mk (below_step (by repeat (first | (with_reducible first | exact HB.out | apply below_alloc | apply pw_below_drewN | apply below_drew1 | refine below_set ?_ GE208.out | refine below_set ?_ GE209.out) | exact HB.out)) hb); clear HO0_1; clear BK208; clear BK209; clear HB; have HO0_1 := n0_; have BK208 := n1_; have BK209 := n2_; have HB := n3_; clear n0_ n1_ n2_ n3_; (try clear hb); (try clear hb2); (try clear hk); (try clear hi)))
  (try simp only [Act.put, List.setIfInBounds_toArray, List.set_cons_zero, List.set_cons_succ])
  go_cut [41] (fun v41 wc => ∃ (kq : Nat) (x41_4 : Bool), v41 = .bool x41_4 ∧ Aside0 (bobbinref16_Admit.j0 kq a1 a2 x41_4 a0_0 l0_1 = some (r1, r2, r3, r4)) ∧ Aside0 (kq ≤ k) ∧ Aside0 (Kd.V k32 32 wc w.heap.size (fun k_ => (P0_1_ k_ ∨ w.heap.size ≤ k_) ∧ k_ ≠ gb208 ∧ k_ ≠ gb209) (.slice A0_1 l0_1.length c0_1) l0_1) ∧ Aside0 (wc.heap[gb208]? = some (.cells #[.int .i64 a0_0, (.slice A0_1 l0_1.length c0_1)] 24 (0, 0))) ∧ Aside0 (wc.heap[gb209]? = some (.cells #[.int .i64 0, (.slice none 0 0)] 24 (0, 0))) ∧ Aside0 (Below w.heap.size w wc))
  case first =>
    have H := HC5.out
    clear HC5
    by_cases c11 : t210 = true
    · subst c11
      have H1 : (if a2 < 0 then (bobbinref16_Admit.j0 k a1 a2 true a0_0 l0_1) else (if a2 > 255 then (bobbinref16_Admit.j0 k a1 a2 true a0_0 l0_1) else (if a1 < 1 then (bobbinref16_Admit.j0 k a1 a2 true a0_0 l0_1) else (if a1 > 16 then (bobbinref16_Admit.j0 k a1 a2 true a0_0 l0_1) else (bobbinref16_Admit.j0 k a1 a2 (decide ((l0_1.length : Int) > a1)) a0_0 l0_1))))) = some (r1, r2, r3, r4) := by rw [if_pos rfl] at H; exact H
      clear H
      have H := H1
      clear H1
      by_cases c12 : a2 < 0
      · rw [if_pos c12] at H
        have c12b0 : decide (a2 < 0) = true := decide_eq_true c12
        clear c12
        (first | rw [c12b0] | (simp only [i64_w, i32_w]; rw [c12b0]) | skip)
        have H' := Aside0.mk H
        clear H
        go_wp2
        go_meet
        case rel => exact ⟨_, (true), (by first | rfl | (simp; done) | (simp [*]; done)), H', ⟨by first | omega | exact Nat.le_refl _⟩, ⟨by (with_reducible repeat (first | apply Kd.V_alloc | apply Kd.V_drewN | apply Kd.V_drew)); exact Kd.V_mono HO0_1.out (fun _ hk => ⟨hk.1.1, ⟨hk.1.2, hk.2⟩⟩)⟩, ⟨by (with_reducible repeat (first | refine blk_drewN ?_ _ | refine blk_drew ?_ | refine blk_alloc ?_ _)); exact BK208.out⟩, ⟨by (with_reducible repeat (first | refine blk_drewN ?_ _ | refine blk_drew ?_ | refine blk_alloc ?_ _)); exact BK209.out⟩, ⟨by repeat (first | (with_reducible first | exact HB.out | apply below_alloc | apply pw_below_drewN | apply below_drew1 | refine below_set ?_ GE208.out | refine below_set ?_ GE209.out) | exact HB.out)⟩⟩
      · rw [if_neg c12] at H
        have c12b0 : decide (a2 < 0) = false := decide_eq_false c12
        clear c12
        (first | rw [c12b0] | (simp only [i64_w, i32_w]; rw [c12b0]) | skip)
        by_cases c13 : a2 > 255
        · rw [if_pos c13] at H
          have c13b0 : decide (255 < a2) = true := decide_eq_true c13
          clear c13
          have H' := Aside0.mk H
          clear H
          go_wp2
          go_meet
          case rel => exact ⟨_, (true), (by first | rfl | (simp; done) | (simp [*]; done)), H', ⟨by first | omega | exact Nat.le_refl _⟩, ⟨by (with_reducible repeat (first | apply Kd.V_alloc | apply Kd.V_drewN | apply Kd.V_drew)); exact Kd.V_mono HO0_1.out (fun _ hk => ⟨hk.1.1, ⟨hk.1.2, hk.2⟩⟩)⟩, ⟨by (with_reducible repeat (first | refine blk_drewN ?_ _ | refine blk_drew ?_ | refine blk_alloc ?_ _)); exact BK208.out⟩, ⟨by (with_reducible repeat (first | refine blk_drewN ?_ _ | refine blk_drew ?_ | refine blk_alloc ?_ _)); exact BK209.out⟩, ⟨by repeat (first | (with_reducible first | exact HB.out | apply below_alloc | apply pw_below_drewN | apply below_drew1 | refine below_set ?_ GE208.out | refine below_set ?_ GE209.out) | exact HB.out)⟩⟩
        · rw [if_neg c13] at H
          have c13b0 : decide (255 < a2) = false := decide_eq_false c13
          clear c13
          by_cases c14 : a1 < 1
          · rw [if_pos c14] at H
            have c14b0 : decide (a1 < 1) = true := decide_eq_true c14
            clear c14
            have H' := Aside0.mk H
            clear H
            go_wp2
            go_meet
            case rel => exact ⟨_, (true), (by first | rfl | (simp; done) | (simp [*]; done)), H', ⟨by first | omega | exact Nat.le_refl _⟩, ⟨by (with_reducible repeat (first | apply Kd.V_alloc | apply Kd.V_drewN | apply Kd.V_drew)); exact Kd.V_mono HO0_1.out (fun _ hk => ⟨hk.1.1, ⟨hk.1.2, hk.2⟩⟩)⟩, ⟨by (with_reducible repeat (first | refine blk_drewN ?_ _ | refine blk_drew ?_ | refine blk_alloc ?_ _)); exact BK208.out⟩, ⟨by (with_reducible repeat (first | refine blk_drewN ?_ _ | refine blk_drew ?_ | refine blk_alloc ?_ _)); exact BK209.out⟩, ⟨by repeat (first | (with_reducible first | exact HB.out | apply below_alloc | apply pw_below_drewN | apply below_drew1 | refine below_set ?_ GE208.out | refine below_set ?_ GE209.out) | exact HB.out)⟩⟩
          · rw [if_neg c14] at H
            have c14b0 : decide (a1 < 1) = false := decide_eq_false c14
            clear c14
            by_cases c15 : a1 > 16
            · rw [if_pos c15] at H
              have c15b0 : decide (16 < a1) = true := decide_eq_true c15
              clear c15
              have H' := Aside0.mk H
              clear H
              go_wp2
              go_meet
              case rel => exact ⟨_, (true), (by first | rfl | (simp; done) | (simp [*]; done)), H', ⟨by first | omega | exact Nat.le_refl _⟩, ⟨by (with_reducible repeat (first | apply Kd.V_alloc | apply Kd.V_drewN | apply Kd.V_drew)); exact Kd.V_mono HO0_1.out (fun _ hk => ⟨hk.1.1, ⟨hk.1.2, hk.2⟩⟩)⟩, ⟨by (with_reducible repeat (first | refine blk_drewN ?_ _ | refine blk_drew ?_ | refine blk_alloc ?_ _)); exact BK208.out⟩, ⟨by (with_reducible repeat (first | refine blk_drewN ?_ _ | refine blk_drew ?_ | refine blk_alloc ?_ _)); exact BK209.out⟩, ⟨by repeat (first | (with_reducible first | exact HB.out | apply below_alloc | apply pw_below_drewN | apply below_drew1 | refine below_set ?_ GE208.out | refine below_set ?_ GE209.out) | exact HB.out)⟩⟩
            · rw [if_neg c15] at H
              have c15b0 : decide (16 < a1) = false := decide_eq_false c15
              clear c15
              have H' := Aside0.mk H
              clear H
              have hnb16 := NB208_209.out
              have hnc16 := NB209_208.out
              have hcz17_0 : w10.cell? ⟨gb208, 0, none⟩ = some (.int .i64 a0_0) := (blk_cell BK208.out 0).trans rfl
              have hcz17_1 : w10.cell? ⟨gb208, 1, none⟩ = some (.slice A0_1 l0_1.length c0_1) := (blk_cell BK208.out 1).trans rfl
              have hfz17_0 := blk_frozen BK208.out 0
              have hfz17_1 := blk_frozen BK208.out 1
              go_wp2
              go_meet
              case rel => exact ⟨_, (decide ((l0_1.length : Int) > a1)), (by first | rfl | (simp; done) | (simp [*]; done)), H', ⟨by first | omega | exact Nat.le_refl _⟩, ⟨by (with_reducible repeat (first | apply Kd.V_alloc | apply Kd.V_drewN | apply Kd.V_drew)); exact Kd.V_mono HO0_1.out (fun _ hk => ⟨hk.1.1, ⟨hk.1.2, hk.2⟩⟩)⟩, ⟨by (with_reducible repeat (first | refine blk_drewN ?_ _ | refine blk_drew ?_ | refine blk_alloc ?_ _)); exact BK208.out⟩, ⟨by (with_reducible repeat (first | refine blk_drewN ?_ _ | refine blk_drew ?_ | refine blk_alloc ?_ _)); exact BK209.out⟩, ⟨by repeat (first | (with_reducible first | exact HB.out | apply below_alloc | apply pw_below_drewN | apply below_drew1 | refine below_set ?_ GE208.out | refine below_set ?_ GE209.out) | exact HB.out)⟩⟩
    · replace c11 := Bool.eq_false_iff.mpr c11
      subst c11
      have H1 : (bobbinref16_Admit.j0 k a1 a2 true a0_0 l0_1) = some (r1, r2, r3, r4) := by rw [if_neg (show ¬ (false = true) by decide)] at H; exact H
      clear H
      have H := H1
      clear H1
      have H' := Aside0.mk H
      clear H
      go_wp2
      go_meet
      case rel => exact ⟨_, (true), (by first | rfl | (simp; done) | (simp [*]; done)), H', ⟨by first | omega | exact Nat.le_refl _⟩, ⟨by (with_reducible repeat (first | apply Kd.V_alloc | apply Kd.V_drewN | apply Kd.V_drew)); exact Kd.V_mono HO0_1.out (fun _ hk => ⟨hk.1.1, ⟨hk.1.2, hk.2⟩⟩)⟩, ⟨by (with_reducible repeat (first | refine blk_drewN ?_ _ | refine blk_drew ?_ | refine blk_alloc ?_ _)); exact BK208.out⟩, ⟨by (with_reducible repeat (first | refine blk_drewN ?_ _ | refine blk_drew ?_ | refine blk_alloc ?_ _)); exact BK209.out⟩, ⟨by repeat (first | (with_reducible first | exact HB.out | apply below_alloc | apply pw_below_drewN | apply below_drew1 | refine below_set ?_ GE208.out | refine below_set ?_ GE209.out) | exact HB.out)⟩⟩
  case rest =>
    clear HC5
    try clear c1
    try clear p2
    try clear c8
    try clear c11
    try clear c12
    try clear c12b0
    try clear c13
    try clear c13b0
    try clear c14
    try clear c14b0
    try clear c15
    try clear c15b0
    try clear c16
    try clear hcz17_0
    try clear hcz17_1
    try clear hcz9_0
    try clear hcz9_1
    try clear hfz17_0
    try clear hfz17_1
    try clear hfz9_0
    try clear hfz9_1
    obtain ⟨kq, x41_4, rfl, HA, HJ4, HO_209001, BK208, BK209, HB⟩ := hcut
    cases kq with
    | zero => exact absurd HA.out (by first | (intro h_; cases h_; done) | simp [bobbinref16_Admit.j0])
    | succ kj4 =>
      have H := HA.out
      clear HA
      rw [bobbinref16_Admit.j0_eq] at H
      by_cases c18 : x41_4 = true
      · subst c18
        have H1 : (some (0, ([] : List (S32)), 0, 1)) = some (r1, r2, r3, r4) := by rw [if_pos rfl] at H; exact H
        clear H
        have H := H1
        clear H1
        simp only [Option.some.injEq, Prod.mk.injEq] at H
        obtain ⟨rfl, rfl, rfl, rfl⟩ := H
        have hnb19 := NB209_208.out
        have hnc19 := NB208_209.out
        have hcz20_0 : wc.cell? ⟨gb209, 0, none⟩ = some (.int .i64 0) := (blk_cell BK209.out 0).trans rfl
        have hcz20_1 : wc.cell? ⟨gb209, 1, none⟩ = some (.slice none 0 0) := (blk_cell BK209.out 1).trans rfl
        have hfz20_0 := blk_frozen BK209.out 0
        have hfz20_1 := blk_frozen BK209.out 1
        go_wp2
        refine bodyPost_ret (results_ctt rfl _ _ gb209 24 #[.int .i64 0, .slice none 0 0] (0, 0) _ rfl (by (with_reducible repeat (first | refine blk_drewN ?_ _ | refine blk_drew ?_ | refine blk_alloc ?_ _)); refine blk_put (cs := #[.int .i64 0, .slice none 0 0]) ?_ 1 _ rfl; (with_reducible repeat (first | refine blk_drewN ?_ _ | refine blk_drew ?_ | refine blk_alloc ?_ _)); refine blk_put (cs := #[.int .i64 0, .slice none 0 0]) ?_ 0 _ rfl; (with_reducible repeat (first | refine blk_drewN ?_ _ | refine blk_drew ?_ | refine blk_alloc ?_ _)); exact BK209.out) Try.underlying24 rfl (by kernel_rfl)) rfl ?_
        exact ⟨_, by first | rfl | (simp [errW_none, errW_some] <;> rfl) | (simp [*, errW_none, errW_some] <;> rfl), by first | exact Kd.R_nil _ _ _ _ _ | exact Kd.N_nil _ _ _ _ _ | exact Kd.V_nil _ _ _ _ _ | exact Kd.Q_nil _ _ _ _ _ | exact Kd.S_nil _ _ _ _ _, by repeat (first | (with_reducible first | exact HB.out | apply below_alloc | apply pw_below_drewN | apply below_drew1 | refine below_set ?_ GE208.out | refine below_set ?_ GE209.out) | exact HB.out)⟩
      · replace c18 := Bool.eq_false_iff.mpr c18
        subst c18
        have H1 : ((bobbinref16_find.f kj4 l0_1 a2).bind fun t211 => (if t211 ≥ 0 then (some (0, ([] : List (S32)), 0, 5)) else (if (l0_1.length : Int) < a1 then (if ([] : List (S32)).length + l0_1.length < 8796093022208 then ((some (([] : List (S32)) ++ l0_1 : List (S32))).bind fun y213 => (if y213.length < 8796093022208 then (some (a0_0, (y213 ++ [(⟨a2, true, false⟩ : S32)]), (-1), 0)) else (none))) else (none)) else (bobbinref16_Admit.l0 kj4 0 a0_0 l0_1 a2 true false)))) = some (r1, r2, r3, r4) := by rw [if_neg (show ¬ (false = true) by decide)] at H; exact H
        clear H
        have H := H1
        clear H1
        replace H := Option.bind_eq_some_iff.mp H
        obtain ⟨t211, A210, H⟩ := H
        replace H : (if t211 ≥ 0 then (some (0, ([] : List (S32)), 0, 5)) else (if (l0_1.length : Int) < a1 then (if ([] : List (S32)).length + l0_1.length < 8796093022208 then ((some (([] : List (S32)) ++ l0_1 : List (S32))).bind fun y213 => (if y213.length < 8796093022208 then (some (a0_0, (y213 ++ [(⟨a2, true, false⟩ : S32)]), (-1), 0)) else (none))) else (none)) else (bobbinref16_Admit.l0 kj4 0 a0_0 l0_1 a2 true false))) = some (r1, r2, r3, r4) := H
        have A21 := Aside0.mk A210
        clear A210
        by_cases c22 : t211 ≥ 0
        · rw [if_pos c22] at H
          have c22b0 : decide (0 ≤ t211) = true := decide_eq_true c22
          clear c22
          simp only [Option.some.injEq, Prod.mk.injEq] at H
          obtain ⟨rfl, rfl, rfl, rfl⟩ := H
          have hnb23 := NB208_209.out
          have hnc23 := NB209_208.out
          have hcz24_0 : wc.cell? ⟨gb208, 0, none⟩ = some (.int .i64 a0_0) := (blk_cell BK208.out 0).trans rfl
          have hcz24_1 : wc.cell? ⟨gb208, 1, none⟩ = some (.slice A0_1 l0_1.length c0_1) := (blk_cell BK208.out 1).trans rfl
          have hfz24_0 := blk_frozen BK208.out 0
          have hfz24_1 := blk_frozen BK208.out 1
          go_wp2_with (first | ((with_reducible refine gate_callee (f := 26) rfl ?_); refine goesL_ (some 46) rfl rfl Try.func26 (by kernel_rfl) rfl #[.slice A0_1 l0_1.length c0_1, .int .i64 a2] rfl (by (try simp only [List.map_toArray, List.map_cons, List.map_nil]); first | done | rfl | (simp only [List.length_drop, List.length_take]; rfl)) ?_; (with_reducible refine (bobbinref16_find.calls kj4 _ _ l0_1 a2 t211 _ ?side1 ?side2 A21.out).mono ?_); (case side1 => repeat (first | exact (Kd.V_reads' HO_209001.out).2.2 | (with_reducible refine Kd.C_alloc ?_ _) | (with_reducible refine Kd.C_drewN ?_ _) | (with_reducible refine Kd.C_drew ?_))); (case side2 => exact (Kd.V_reads' HO_209001.out).2.1); rintro e w' ⟨rfl, ⟨nd, rfl⟩⟩; refine ⟨_, rfl, ?_⟩; (try (rw [drewN_self wc]; generalize hq_ : World.drewN wc _ = wc; have n0_ : Aside0 (Kd.V k32 32 wc w.heap.size (fun k_ => (P0_1_ k_ ∨ w.heap.size ≤ k_) ∧ k_ ≠ gb208 ∧ k_ ≠ gb209) (.slice A0_1 l0_1.length c0_1) l0_1) := ⟨by rw [← hq_]; exact (by (with_reducible repeat (first | apply Kd.V_alloc | apply Kd.V_drewN | apply Kd.V_drew)); exact HO_209001.out)⟩; have n1_ : Aside0 (wc.heap[gb208]? = some (.cells #[.int .i64 a0_0, .slice A0_1 l0_1.length c0_1] 24 (0, 0))) := ⟨by rw [← hq_]; exact (by (with_reducible repeat (first | refine blk_drewN ?_ _ | refine blk_drew ?_ | refine blk_alloc ?_ _)); exact BK208.out)⟩; have n2_ : Aside0 (wc.heap[gb209]? = some (.cells #[.int .i64 0, .slice none 0 0] 24 (0, 0))) := ⟨by rw [← hq_]; exact (by (with_reducible repeat (first | refine blk_drewN ?_ _ | refine blk_drew ?_ | refine blk_alloc ?_ _)); exact BK209.out)⟩; have n3_ : Aside0 (Below w.heap.size w wc) := ⟨by rw [← hq_]; exact (by repeat (first | (with_reducible first | exact HB.out | apply below_alloc | apply pw_below_drewN | apply below_drew1 | refine below_set ?_ GE208.out | refine below_set ?_ GE209.out) | exact HB.out))⟩; clear HO_209001 BK208 BK209 HB hq_; have HO_209001 := n0_; have BK208 := n1_; have BK209 := n2_; have HB := n3_; clear n0_ n1_ n2_ n3_)); (try obtain ⟨hqz208_0, hqz208_1, hqf208_0, hqf208_1⟩ := two_cells BK208.out); (try obtain ⟨hqz209_0, hqz209_1, hqf209_0, hqf209_1⟩ := two_cells BK209.out); have hcz25_0 : wc.cell? ⟨gb209, 0, none⟩ = some (.int .i64 0) := (blk_cell BK209.out 0).trans rfl; have hcz25_1 : wc.cell? ⟨gb209, 1, none⟩ = some (.slice none 0 0) := (blk_cell BK209.out 1).trans rfl; have hfz25_0 := blk_frozen BK209.out 0; have hfz25_1 := blk_frozen BK209.out 1))
          refine bodyPost_ret (results_ctt rfl _ _ gb209 24 #[.int .i64 0, .slice none 0 0] (0, 0) _ rfl (by (with_reducible repeat (first | refine blk_drewN ?_ _ | refine blk_drew ?_ | refine blk_alloc ?_ _)); refine blk_put (cs := #[.int .i64 0, .slice none 0 0]) ?_ 1 _ rfl; (with_reducible repeat (first | refine blk_drewN ?_ _ | refine blk_drew ?_ | refine blk_alloc ?_ _)); refine blk_put (cs := #[.int .i64 0, .slice none 0 0]) ?_ 0 _ rfl; (with_reducible repeat (first | refine blk_drewN ?_ _ | refine blk_drew ?_ | refine blk_alloc ?_ _)); exact BK209.out) Try.underlying24 rfl (by kernel_rfl)) rfl ?_
          exact ⟨_, by first | rfl | (simp [errW_none, errW_some] <;> rfl) | (simp [*, errW_none, errW_some] <;> rfl), by first | exact Kd.R_nil _ _ _ _ _ | exact Kd.N_nil _ _ _ _ _ | exact Kd.V_nil _ _ _ _ _ | exact Kd.Q_nil _ _ _ _ _ | exact Kd.S_nil _ _ _ _ _, by repeat (first | (with_reducible first | exact HB.out | apply below_alloc | apply pw_below_drewN | apply below_drew1 | refine below_set ?_ GE208.out | refine below_set ?_ GE209.out) | exact HB.out)⟩
        · rw [if_neg c22] at H
          have c22b0 : decide (0 ≤ t211) = false := decide_eq_false c22
          clear c22
          by_cases c26 : (l0_1.length : Int) < a1
          · rw [if_pos c26] at H
            have c26b0 : decide ((l0_1.length : Int) < a1) = true := decide_eq_true c26
            clear c26
            by_cases c27 : ([] : List (S32)).length + l0_1.length < 8796093022208
            · rw [if_pos c27] at H
              have LMc27 := Aside0.mk c27
              clear c27
              obtain ⟨y213, hy213⟩ : ∃ y_ : List (S32), y_ = (([] : List (S32)) ++ l0_1) := ⟨_, rfl⟩
              replace H : (if y213.length < 8796093022208 then (some (a0_0, (y213 ++ [(⟨a2, true, false⟩ : S32)]), (-1), 0)) else (none)) = some (r1, r2, r3, r4) := by first | (rw [hy213]; with_reducible exact H) | (have H2_ := (Option.bind_some _ _).symm.trans H; rw [hy213]; with_reducible exact H2_) | (have H2_ := (Option.bind_some _ _).symm.trans H; with_reducible exact H2_) | with_reducible exact H | (rw [hy213]; exact H) | exact H
              have Ny213 := Aside0.mk hy213
              clear hy213
              by_cases c28 : y213.length < 8796093022208
              · rw [if_pos c28] at H
                have LMc28 := Aside0.mk c28
                clear c28
                obtain ⟨y216, hy216⟩ : ∃ y_ : List (S32), y_ = (y213 ++ [(⟨a2, true, false⟩ : S32)]) := ⟨_, rfl⟩
                replace H : (some (a0_0, y216, (-1), 0)) = some (r1, r2, r3, r4) := by first | (rw [hy216]; with_reducible exact H) | (have H2_ := (Option.bind_some _ _).symm.trans H; rw [hy216]; with_reducible exact H2_) | (have H2_ := (Option.bind_some _ _).symm.trans H; with_reducible exact H2_) | with_reducible exact H | (rw [hy216]; exact H) | exact H
                have Ny216 := Aside0.mk hy216
                clear hy216
                simp only [Option.some.injEq, Prod.mk.injEq] at H
                obtain ⟨rfl, rfl, rfl, rfl⟩ := H
                have hnb29 := NB208_209.out
                have hnc29 := NB209_208.out
                have hcz30_0 : wc.cell? ⟨gb208, 0, none⟩ = some (.int .i64 a0_0) := (blk_cell BK208.out 0).trans rfl
                have hcz30_1 : wc.cell? ⟨gb208, 1, none⟩ = some (.slice A0_1 l0_1.length c0_1) := (blk_cell BK208.out 1).trans rfl
                have hfz30_0 := blk_frozen BK208.out 0
                have hfz30_1 := blk_frozen BK208.out 1
                try go_wp2_with (first | ((with_reducible refine gate_callee (f := 26) rfl ?_); refine goesL_ (some 46) rfl rfl Try.func26 (by kernel_rfl) rfl #[.slice A0_1 l0_1.length c0_1, .int .i64 a2] rfl (by (try simp only [List.map_toArray, List.map_cons, List.map_nil]); first | done | rfl | (simp only [List.length_drop, List.length_take]; rfl)) ?_; (with_reducible refine (bobbinref16_find.calls kj4 _ _ l0_1 a2 t211 _ ?side1 ?side2 A21.out).mono ?_); (case side1 => repeat (first | exact (Kd.V_reads' HO_209001.out).2.2 | (with_reducible refine Kd.C_alloc ?_ _) | (with_reducible refine Kd.C_drewN ?_ _) | (with_reducible refine Kd.C_drew ?_))); (case side2 => exact (Kd.V_reads' HO_209001.out).2.1); rintro e w' ⟨rfl, ⟨nd, rfl⟩⟩; refine ⟨_, rfl, ?_⟩; (try (rw [drewN_self wc]; generalize hq_ : World.drewN wc _ = wc; have n0_ : Aside0 (Kd.V k32 32 wc w.heap.size (fun k_ => (P0_1_ k_ ∨ w.heap.size ≤ k_) ∧ k_ ≠ gb208 ∧ k_ ≠ gb209) (.slice A0_1 l0_1.length c0_1) l0_1) := ⟨by rw [← hq_]; exact (by (with_reducible repeat (first | apply Kd.V_alloc | apply Kd.V_drewN | apply Kd.V_drew)); exact HO_209001.out)⟩; have n1_ : Aside0 (wc.heap[gb208]? = some (.cells #[.int .i64 a0_0, .slice A0_1 l0_1.length c0_1] 24 (0, 0))) := ⟨by rw [← hq_]; exact (by (with_reducible repeat (first | refine blk_drewN ?_ _ | refine blk_drew ?_ | refine blk_alloc ?_ _)); exact BK208.out)⟩; have n2_ : Aside0 (wc.heap[gb209]? = some (.cells #[.int .i64 0, .slice none 0 0] 24 (0, 0))) := ⟨by rw [← hq_]; exact (by (with_reducible repeat (first | refine blk_drewN ?_ _ | refine blk_drew ?_ | refine blk_alloc ?_ _)); exact BK209.out)⟩; have n3_ : Aside0 (Below w.heap.size w wc) := ⟨by rw [← hq_]; exact (by repeat (first | (with_reducible first | exact HB.out | apply below_alloc | apply pw_below_drewN | apply below_drew1 | refine below_set ?_ GE208.out | refine below_set ?_ GE209.out) | exact HB.out))⟩; clear HO_209001 BK208 BK209 HB hq_; have HO_209001 := n0_; have BK208 := n1_; have BK209 := n2_; have HB := n3_; clear n0_ n1_ n2_ n3_))) | ((with_reducible refine gate_dst (N := 10) rfl ?_); (try (refine gate_guard (by rfl) ?_; dsimp only)); refine box_event ?hg (N := 10) ?hd (cs := #[.int .i64 0, .bool false, .bool false]) (t := 32) ?hr ?_; (case hd => rfl); (case hg => rfl); (case hr => first | (go_simp; done) | (go_simp; rfl)); intro gb212 hg w31 hbox hb; have n0_ := Aside0.mk (Kd.V_below (Kd.V_elderB (by (with_reducible repeat (first | apply Kd.V_alloc | apply Kd.V_drewN | apply Kd.V_drew)); exact HO_209001.out) gb212 (Nat.le_of_eq hg.symm)) hb); have n1_ := Aside0.mk (blk_below (g := gb208) (o := .cells #[.int .i64 a0_0, .slice A0_1 l0_1.length c0_1] 24 (0, 0)) (by (with_reducible repeat (first | refine blk_drewN ?_ _ | refine blk_drew ?_ | refine blk_alloc ?_ _)); exact BK208.out) hb); have n2_ := Aside0.mk (blk_below (g := gb209) (o := .cells #[.int .i64 0, .slice none 0 0] 24 (0, 0)) (by (with_reducible repeat (first | refine blk_drewN ?_ _ | refine blk_drew ?_ | refine blk_alloc ?_ _)); exact BK209.out) hb); have n3_ := Aside0.mk (below_step (by repeat (first | (with_reducible first | exact HB.out | apply below_alloc | apply pw_below_drewN | apply below_drew1 | refine below_set ?_ GE208.out | refine below_set ?_ GE209.out) | exact HB.out)) hb); have n4_ := Aside0.mk (hbox); have n5_ := Aside0.mk ((by rw [hg]; exact (below_size (by repeat (first | (with_reducible first | exact HB.out | apply below_alloc | apply pw_below_drewN | apply below_drew1 | refine below_set ?_ GE208.out | refine below_set ?_ GE209.out) | exact HB.out))) : w.heap.size ≤ gb212)); have n6_ := Aside0.mk ((by rw [hg]; exact (below_size (by repeat (first | (with_reducible first | exact HB.out | apply below_alloc | apply pw_below_drewN | apply below_drew1 | refine below_set ?_ GE208.out | refine below_set ?_ GE209.out) | exact HB.out))) : w.heap.size ≤ gb212)); have n7_ := Aside0.mk ((by rw [hg]; exact Nat.ne_of_lt (blk_lt (g := gb208) (o := .cells #[.int .i64 a0_0, .slice A0_1 l0_1.length c0_1] 24 (0, 0)) (by (with_reducible repeat (first | refine blk_drewN ?_ _ | refine blk_drew ?_ | refine blk_alloc ?_ _)); exact BK208.out)) : gb208 ≠ gb212)); have n8_ := Aside0.mk ((by rw [hg]; exact Nat.ne_of_gt (blk_lt (g := gb208) (o := .cells #[.int .i64 a0_0, .slice A0_1 l0_1.length c0_1] 24 (0, 0)) (by (with_reducible repeat (first | refine blk_drewN ?_ _ | refine blk_drew ?_ | refine blk_alloc ?_ _)); exact BK208.out)) : gb212 ≠ gb208)); have n9_ := Aside0.mk ((by rw [hg]; exact Nat.ne_of_lt (blk_lt (g := gb209) (o := .cells #[.int .i64 0, .slice none 0 0] 24 (0, 0)) (by (with_reducible repeat (first | refine blk_drewN ?_ _ | refine blk_drew ?_ | refine blk_alloc ?_ _)); exact BK209.out)) : gb209 ≠ gb212)); have n10_ := Aside0.mk ((by rw [hg]; exact Nat.ne_of_gt (blk_lt (g := gb209) (o := .cells #[.int .i64 0, .slice none 0 0] 24 (0, 0)) (by (with_reducible repeat (first | refine blk_drewN ?_ _ | refine blk_drew ?_ | refine blk_alloc ?_ _)); exact BK209.out)) : gb212 ≠ gb209)); clear HO_209001; clear BK208; clear BK209; clear HB; have HO_209001 := n0_; have BK208 := n1_; have BK209 := n2_; have HB := n3_; have BK212 := n4_; have GW212 := n5_; have GE212 := n6_; have NB208_212 := n7_; have NB212_208 := n8_; have NB209_212 := n9_; have NB212_209 := n10_; clear n0_ n1_ n2_ n3_ n4_ n5_ n6_ n7_ n8_ n9_ n10_; clear hb hbox hg; have hnb32 := NB212_208.out; have hnc32 := NB208_212.out; have hnb33 := NB212_209.out; have hnc33 := NB209_212.out; have hcz34_0 : w31.cell? ⟨gb212, 0, none⟩ = some (.int .i64 0) := (blk_cell BK212.out 0).trans rfl; have hcz34_1 : w31.cell? ⟨gb212, 1, none⟩ = some (.bool false) := (blk_cell BK212.out 1).trans rfl; have hcz34_2 : w31.cell? ⟨gb212, 2, none⟩ = some (.bool false) := (blk_cell BK212.out 2).trans rfl; have hfz34_0 := blk_frozen BK212.out 0; have hfz34_1 := blk_frozen BK212.out 1; have hfz34_2 := blk_frozen BK212.out 2; have hcz35_0 : w31.cell? ⟨gb208, 0, none⟩ = some (.int .i64 a0_0) := (blk_cell BK208.out 0).trans rfl; have hcz35_1 : w31.cell? ⟨gb208, 1, none⟩ = some (.slice A0_1 l0_1.length c0_1) := (blk_cell BK208.out 1).trans rfl; have hfz35_0 := blk_frozen BK208.out 0; have hfz35_1 := blk_frozen BK208.out 1) | ((with_reducible refine gate_builtin (b := .append) (xs := #[.const (.slice none 0 0), .tmp 57]) rfl ?_); (try (refine gate_guard (by rfl) ?_; dsimp only)); at_builtin; refine Kd.R_append_rows k32 (w0 := w) w.heap.size rfl (.const (.slice none 0 0)) (.tmp 57) 22 32 (.agg #[(.int .i64 0), (.bool false), (.bool false)]) 16 rfl Try.underlying22 info32 rfl (by decide) (by omega) (.slice none 0 0) ([] : List (S32)) l0_1 _ _ _ (fun k_ => (w.heap.size ≤ k_) ∧ k_ ≠ gb212) (fun _ => False) rfl rfl ?aO ?aR (fun _ _ h => h) (fun _ h => h.elim) ?aF ?aB ?aS ?aL ?_; (case aR => refine (Kd.V_reads' (e := 32) (base := w.heap.size) (ok := fun k_ => ((((P0_1_ k_ ∨ w.heap.size ≤ k_)) ∧ (k_ ≠ gb208 ∧ k_ ≠ gb209)) ∧ k_ ≠ gb212)) (n := l0_1.length) (c := c0_1) ?_).2.2; exact (by (with_reducible repeat (first | apply Kd.V_alloc | apply Kd.V_drewN | apply Kd.V_drew)); exact (Kd.V_mono (Kd.V_far (p := ⟨gb212, 2, none⟩) (Kd.V_far (p := ⟨gb212, 1, none⟩) (Kd.V_far (p := ⟨gb212, 0, none⟩) (Kd.V_mono HO_209001.out (fun k_ hk => (⟨hk, hk.2⟩ : _ ∧ k_ ≠ gb212))) (fun _ hk => hk.2) (.int .i64 a2)) (fun _ hk => hk.2) (.bool true)) (fun _ hk => hk.2) (.bool false)) (fun _ h_ => h_.1)))); (case aB => exact (by repeat (first | (with_reducible first | exact HB.out | apply below_alloc | apply pw_below_drewN | apply below_drew1 | refine below_set ?_ GE208.out | refine below_set ?_ GE209.out | refine below_set ?_ GE212.out) | exact HB.out))); (case aF => exact (fun k_ hk => ⟨(Nat.le_trans (below_size (by repeat (first | (with_reducible first | exact HB.out | apply below_alloc | apply pw_below_drewN | apply below_drew1 | refine below_set ?_ GE208.out | refine below_set ?_ GE209.out | refine below_set ?_ GE212.out) | exact HB.out))) hk), Kd.freshB (g := gb212) (o := .cells #[.int .i64 a2, .bool true, .bool false] 32 (0, 0)) (by (with_reducible repeat (first | refine blk_drewN ?_ _ | refine blk_drew ?_ | refine blk_alloc ?_ _)); refine blk_put (cs := #[.int .i64 a2, .bool true, .bool false]) ?_ 2 _ rfl; (with_reducible repeat (first | refine blk_drewN ?_ _ | refine blk_drew ?_ | refine blk_alloc ?_ _)); refine blk_put (cs := #[.int .i64 a2, .bool false, .bool false]) ?_ 1 _ rfl; (with_reducible repeat (first | refine blk_drewN ?_ _ | refine blk_drew ?_ | refine blk_alloc ?_ _)); refine blk_put (cs := #[.int .i64 0, .bool false, .bool false]) ?_ 0 _ rfl; (with_reducible repeat (first | refine blk_drewN ?_ _ | refine blk_drew ?_ | refine blk_alloc ?_ _)); exact BK212.out) k_ hk⟩)); (case aO => exact ((Kd.R_nil _ _ _ _ (fun k_ => (w.heap.size ≤ k_) ∧ k_ ≠ gb212)))); (case aS => exact (below_size (by repeat (first | (with_reducible first | exact HB.out | apply below_alloc | apply pw_below_drewN | apply below_drew1 | refine below_set ?_ GE208.out | refine below_set ?_ GE209.out | refine below_set ?_ GE212.out) | exact HB.out)))); (case aL => have := LMc27.out; omega); intro v214 w36 ho hb hg hat; rw [← Ny213.out] at ho; have n0_ := Aside0.mk (Kd.V_afterv (Kd.V_apart_nil (by (with_reducible repeat (first | apply Kd.V_alloc | apply Kd.V_drewN | apply Kd.V_drew)); exact (Kd.V_mono (Kd.V_far (p := ⟨gb212, 2, none⟩) (Kd.V_far (p := ⟨gb212, 1, none⟩) (Kd.V_far (p := ⟨gb212, 0, none⟩) (Kd.V_mono HO_209001.out (fun k_ hk => (⟨hk, hk.2⟩ : _ ∧ k_ ≠ gb212))) (fun _ hk => hk.2) (.int .i64 a2)) (fun _ hk => hk.2) (.bool true)) (fun _ hk => hk.2) (.bool false)) (fun _ h_ => h_.1)))) hg hat); have n1_ := Aside0.mk (blk_grown (g := gb208) (o := .cells #[.int .i64 a0_0, .slice A0_1 l0_1.length c0_1] 24 (0, 0)) (by (with_reducible repeat (first | refine blk_drewN ?_ _ | refine blk_drew ?_ | refine blk_alloc ?_ _)); refine blk_far ?_ NB208_212.out _; (with_reducible repeat (first | refine blk_drewN ?_ _ | refine blk_drew ?_ | refine blk_alloc ?_ _)); refine blk_far ?_ NB208_212.out _; (with_reducible repeat (first | refine blk_drewN ?_ _ | refine blk_drew ?_ | refine blk_alloc ?_ _)); refine blk_far ?_ NB208_212.out _; (with_reducible repeat (first | refine blk_drewN ?_ _ | refine blk_drew ?_ | refine blk_alloc ?_ _)); exact BK208.out) hg (by simp [Value.ownBlock])); have n2_ := Aside0.mk (blk_grown (g := gb209) (o := .cells #[.int .i64 0, .slice none 0 0] 24 (0, 0)) (by (with_reducible repeat (first | refine blk_drewN ?_ _ | refine blk_drew ?_ | refine blk_alloc ?_ _)); refine blk_far ?_ NB209_212.out _; (with_reducible repeat (first | refine blk_drewN ?_ _ | refine blk_drew ?_ | refine blk_alloc ?_ _)); refine blk_far ?_ NB209_212.out _; (with_reducible repeat (first | refine blk_drewN ?_ _ | refine blk_drew ?_ | refine blk_alloc ?_ _)); refine blk_far ?_ NB209_212.out _; (with_reducible repeat (first | refine blk_drewN ?_ _ | refine blk_drew ?_ | refine blk_alloc ?_ _)); exact BK209.out) hg (by simp [Value.ownBlock])); have n3_ := Aside0.mk (blk_grown (g := gb212) (o := .cells #[.int .i64 a2, .bool true, .bool false] 32 (0, 0)) (by (with_reducible repeat (first | refine blk_drewN ?_ _ | refine blk_drew ?_ | refine blk_alloc ?_ _)); refine blk_put (cs := #[.int .i64 a2, .bool true, .bool false]) ?_ 2 _ rfl; (with_reducible repeat (first | refine blk_drewN ?_ _ | refine blk_drew ?_ | refine blk_alloc ?_ _)); refine blk_put (cs := #[.int .i64 a2, .bool false, .bool false]) ?_ 1 _ rfl; (with_reducible repeat (first | refine blk_drewN ?_ _ | refine blk_drew ?_ | refine blk_alloc ?_ _)); refine blk_put (cs := #[.int .i64 0, .bool false, .bool false]) ?_ 0 _ rfl; (with_reducible repeat (first | refine blk_drewN ?_ _ | refine blk_drew ?_ | refine blk_alloc ?_ _)); exact BK212.out) hg (by simp [Value.ownBlock])); have n4_ := Aside0.mk (hb); have n5_ := Aside0.mk (ho); clear HO_209001; clear BK208; clear BK209; clear BK212; clear HB; have HO_209001 := n0_; have BK208 := n1_; have BK209 := n2_; have BK212 := n3_; have HB := n4_; have HO215 := n5_; clear n0_ n1_ n2_ n3_ n4_ n5_; clear ho hb hg hat))
                have n0_ := Aside0.mk (Kd.V_drew HO_209001.out)
                have n1_ := Aside0.mk (Kd.R_drew HO215.out)
                have n2_ := Aside0.mk (blk_drew BK208.out)
                have n3_ := Aside0.mk (blk_drew BK209.out)
                have n4_ := Aside0.mk (blk_drew BK212.out)
                have n5_ := Aside0.mk (below_drew1 HB.out)
                clear HO_209001
                clear HO215
                clear BK208
                clear BK209
                clear BK212
                clear HB
                have HO_209001 := n0_
                have HO215 := n1_
                have BK208 := n2_
                have BK209 := n3_
                have BK212 := n4_
                have HB := n5_
                clear n0_ n1_ n2_ n3_ n4_ n5_
                refine start_ (n := 10) (S := fun w' => w'.cell? ⟨gb208, 0, none⟩ = some (.int .i64 a0_0) ∧ w'.cell? ⟨gb208, 1, none⟩ = some (.slice A0_1 l0_1.length c0_1) ∧ w'.cell? ⟨gb212, 0, none⟩ = some (.int .i64 a2) ∧ w'.cell? ⟨gb212, 1, none⟩ = some (.bool true) ∧ w'.cell? ⟨gb212, 2, none⟩ = some (.bool false)) (ds := []) #[false, false, false, false, false, false, false, false, false, false] (by kernel_rfl) rfl rfl ⟨(blk_cell BK208.out 0).trans rfl, (blk_cell BK208.out 1).trans rfl, (blk_cell BK212.out 0).trans rfl, (blk_cell BK212.out 1).trans rfl, (blk_cell BK212.out 2).trans rfl⟩ (fun hHeld => ?_); refine with_tabW bobbinref16_Admit.tab9 bobbinref16_Admit.bits9 (fun HT_ HW_ => ?_)
                generalize w36.drew = w37 at HO_209001 HO215 BK208 BK209 BK212 HB hHeld ⊢
                refine pure_ (i := 0) (N := some 59) (v := ?_) (a' := ?_) #[true, false, false, false, false, false, false, false, false, false] rfl rfl (any_of HT_.out (by kernel_rfl)) (fun _ _ _ h => h) (Or.inl ⟨by rfl, ?_⟩) ?_ ?_
                rotate_left
                · intro w'
                  go_simp
                  with_reducible rfl
                rotate_left
                · simp only [Act.put, List.setIfInBounds_toArray, List.set_cons_zero, List.set_cons_succ, i64_w, i32_w]
                  rfl
                refine pure_ (i := 2) (N := some 61) (v := ?_) (a' := ?_) #[true, false, true, false, false, false, false, false, false, false] rfl rfl (any_of HT_.out (by kernel_rfl)) (fun _ _ _ h => h) (Or.inl ⟨by rfl, ?_⟩) ?_ ?_
                rotate_left
                · intro w'
                  go_simp
                  with_reducible rfl
                rotate_left
                · simp only [Act.put, List.setIfInBounds_toArray, List.set_cons_zero, List.set_cons_succ, i64_w, i32_w]
                  rfl
                refine take_ (i := 1) (N := some 60) (v := ?_) (a' := ?_) #[true, true, true, false, false, false, false, false, false, false] rfl rfl (take_ofW HT_.out HW_.out (by kernel_rfl)) (fun _ _ _ h => h) (Or.inl ⟨by rfl, ?_⟩) hHeld ?_ ?_
                rotate_left
                · rintro w' ⟨s0, s1, s2, s3, s4⟩
                  go_simp
                  with_reducible rfl
                rotate_left
                · simp only [Act.put, List.setIfInBounds_toArray, List.set_cons_zero, List.set_cons_succ, i64_w, i32_w]
                  rfl
                refine take_ (i := 3) (N := some 62) (v := ?_) (a' := ?_) #[true, true, true, true, false, false, false, false, false, false] rfl rfl (take_ofW HT_.out HW_.out (by kernel_rfl)) (fun _ _ _ h => h) (Or.inl ⟨by rfl, ?_⟩) hHeld ?_ ?_
                rotate_left
                · rintro w' ⟨s0, s1, s2, s3, s4⟩
                  go_simp
                  with_reducible rfl
                rotate_left
                · simp only [Act.put, List.setIfInBounds_toArray, List.set_cons_zero, List.set_cons_succ, i64_w, i32_w]
                  rfl
                refine one_ (i := 4) (N := some 63) #[true, true, true, true, true, false, false, false, false, false] rfl rfl (one_of HT_.out (by kernel_rfl)) (by decide) (fun K hK => ?_)
                refine value_ (w1 := ?_) (v := ?_) (by rfl) rfl ?_ ?_
                rotate_left 2
                · go_simp
                  constructor
                  · rfl
                  · rfl
                refine hK.out _ _ ⟨(blk_cell (blk_alloc BK208.out _) 0).trans rfl, (blk_cell (blk_alloc BK208.out _) 1).trans rfl, (blk_cell (blk_alloc BK212.out _) 0).trans rfl, (blk_cell (blk_alloc BK212.out _) 1).trans rfl, (blk_cell (blk_alloc BK212.out _) 2).trans rfl⟩ (fun hHeld => ?_)
                clear hK K
                refine norm_ (a' := ?_) ?_ ?_
                rotate_left
                · show Act.put _ (some 63) _ = _
                  simp only [Act.put, List.setIfInBounds_toArray, List.set_cons_zero, List.set_cons_succ, i64_w, i32_w]
                  rfl
                refine one_ (i := 5) (N := some 64) #[true, true, true, true, true, true, false, false, false, false] rfl rfl (one_of HT_.out (by kernel_rfl)) (by decide) (fun K hK => ?_)
                refine Kd.R_append_step k32 (w0 := w) w.heap.size (by rfl) (.tmp 61) (.tmp 63) 22 32 (.agg #[(.int .i64 0), (.bool false), (.bool false)]) 16 rfl Try.underlying22 info32 rfl (by decide) (by omega) v214 y213 (⟨a2, true, false⟩ : S32) [.int .i64 a2, .bool true, .bool false] (fun k_ => (w.heap.size ≤ k_) ∧ k_ ≠ gb212) (fun _ => False) rfl rfl ?aP (fun _ hk => hk.elim) ?aF ?aO ?aB ?aS ?aL ?_
                (case aP => exact k32_mkM _ _ _ (⟨a2, true, false⟩ : S32))
                (case aB => exact (by repeat (first | (with_reducible first | exact HB.out | apply below_alloc | apply pw_below_drewN | apply below_drew1 | refine below_set ?_ GE208.out | refine below_set ?_ GE209.out | refine below_set ?_ GE212.out) | exact HB.out)))
                (case aF => exact (fun k_ hk => ⟨(Nat.le_trans (below_size (by repeat (first | (with_reducible first | exact HB.out | apply below_alloc | apply pw_below_drewN | apply below_drew1 | refine below_set ?_ GE208.out | refine below_set ?_ GE209.out | refine below_set ?_ GE212.out) | exact HB.out))) hk), Kd.freshB (g := gb212) (o := .cells #[.int .i64 a2, .bool true, .bool false] 32 (0, 0)) (by (with_reducible repeat (first | refine blk_drewN ?_ _ | refine blk_drew ?_ | refine blk_alloc ?_ _)); exact BK212.out) k_ hk⟩))
                (case aO => exact (by (with_reducible repeat (first | apply Kd.R_alloc | apply Kd.R_drewN | apply Kd.R_drew)); exact HO215.out))
                (case aS => exact (below_size (by repeat (first | (with_reducible first | exact HB.out | apply below_alloc | apply pw_below_drewN | apply below_drew1 | refine below_set ?_ GE208.out | refine below_set ?_ GE209.out | refine below_set ?_ GE212.out) | exact HB.out))))
                (case aL => have := LMc28.out; omega)
                intro v217 w38 ho hb hg hat
                rw [← Ny216.out] at ho
                have n0_ := Aside0.mk (Kd.V_afterv (ok := (fun k_ => (P0_1_ k_ ∨ w.heap.size ≤ k_) ∧ k_ ≠ gb208 ∧ k_ ≠ gb209 ∧ k_ ≠ gb212)) (by (with_reducible repeat (first | apply Kd.V_alloc | apply Kd.V_drewN | apply Kd.V_drew)); exact Kd.V_mono HO_209001.out (fun _ hk => ⟨⟨hk.1.1.1, ⟨hk.1.1.2.1, ⟨hk.1.1.2.2, hk.1.2⟩⟩⟩, hk.2⟩)) hg hat)
                have n1_ := Aside0.mk (blk_grown (g := gb208) (o := .cells #[.int .i64 a0_0, .slice A0_1 l0_1.length c0_1] 24 (0, 0)) (by (with_reducible repeat (first | refine blk_drewN ?_ _ | refine blk_drew ?_ | refine blk_alloc ?_ _)); exact BK208.out) hg (Kd.R_ne HO215.out BK208.out (by decide)))
                have n2_ := Aside0.mk (blk_grown (g := gb209) (o := .cells #[.int .i64 0, .slice none 0 0] 24 (0, 0)) (by (with_reducible repeat (first | refine blk_drewN ?_ _ | refine blk_drew ?_ | refine blk_alloc ?_ _)); exact BK209.out) hg (Kd.R_ne HO215.out BK209.out (by decide)))
                have n3_ := Aside0.mk (blk_grown (g := gb212) (o := .cells #[.int .i64 a2, .bool true, .bool false] 32 (0, 0)) (by (with_reducible repeat (first | refine blk_drewN ?_ _ | refine blk_drew ?_ | refine blk_alloc ?_ _)); exact BK212.out) hg (Kd.R_away HO215.out (fun _ hk => hk.2)))
                have n4_ := Aside0.mk (hb)
                have n5_ := Aside0.mk (ho)
                clear HO_209001
                clear BK208
                clear BK209
                clear BK212
                clear HB
                clear HO215
                have HO_209001 := n0_
                have BK208 := n1_
                have BK209 := n2_
                have BK212 := n3_
                have HB := n4_
                have HO218 := n5_
                clear n0_ n1_ n2_ n3_ n4_ n5_
                clear ho hb hg hat
                obtain ⟨Ao39, co39, eo39⟩ := Kd.R_slice HO218.out
                (first | subst eo39 | (injection eo39 with f1_ f2_ f3_; have f4_ := f1_.symm; have f5_ := f3_.symm; clear f1_ f2_ f3_; subst f4_; subst f5_))
                refine hK.out _ _ ⟨(blk_cell BK208.out 0).trans rfl, (blk_cell BK208.out 1).trans rfl, (blk_cell BK212.out 0).trans rfl, (blk_cell BK212.out 1).trans rfl, (blk_cell BK212.out 2).trans rfl⟩ (fun hHeld => ?_)
                clear hK K
                refine norm_ (a' := ?_) ?_ ?_
                rotate_left
                · show Act.put _ (some 64) _ = _
                  simp only [Act.put, List.setIfInBounds_toArray, List.set_cons_zero, List.set_cons_succ, i64_w, i32_w]
                  rfl
                refine pure_ (i := 6) (N := some 65) (v := ?_) (a' := ?_) #[true, true, true, true, true, true, true, false, false, false] rfl rfl (any_of HT_.out (by kernel_rfl)) (fun _ _ _ h => h) (Or.inl ⟨by rfl, ?_⟩) ?_ ?_
                rotate_left
                · intro w'
                  go_simp
                  with_reducible rfl
                rotate_left
                · simp only [Act.put, List.setIfInBounds_toArray, List.set_cons_zero, List.set_cons_succ, i64_w, i32_w]
                  rfl
                refine one_ (i := 7) (N := none) #[true, true, true, true, true, true, true, true, false, false] rfl rfl (one_of HT_.out (by kernel_rfl)) (by decide) (fun K hK => ?_)
                have hs40 : w38.cell? ⟨gb209, 0, none⟩ = some (.int .i64 0) := (blk_cell BK209.out 0).trans rfl
                have hfs40 := blk_frozen BK209.out 0
                have hns40_0 := NB208_209.out
                have hns40_2 := NB212_209.out
                have hms40_0 := NB209_208.out
                have hms40_2 := NB209_212.out
                have hs41 : w38.cell? ⟨gb209, 1, none⟩ = some (.slice none 0 0) := (blk_cell BK209.out 1).trans rfl
                have hfs41 := blk_frozen BK209.out 1
                have hns41_0 := NB208_209.out
                have hns41_2 := NB212_209.out
                have hms41_0 := NB209_208.out
                have hms41_2 := NB209_212.out
                refine skip_ (w1 := ?_) (by rfl) rfl ?_ ?_
                rotate_left
                · go_simp
                  rfl
                refine hK.out _ _ ⟨((cell_far (p := ⟨gb209, _, none⟩) NB208_209.out _).trans (((cell_far (p := ⟨gb209, _, none⟩) NB208_209.out _).trans (hHeld.1)))), ((cell_far (p := ⟨gb209, _, none⟩) NB208_209.out _).trans (((cell_far (p := ⟨gb209, _, none⟩) NB208_209.out _).trans (hHeld.2.1)))), ((cell_far (p := ⟨gb209, _, none⟩) NB212_209.out _).trans (((cell_far (p := ⟨gb209, _, none⟩) NB212_209.out _).trans (hHeld.2.2.1)))), ((cell_far (p := ⟨gb209, _, none⟩) NB212_209.out _).trans (((cell_far (p := ⟨gb209, _, none⟩) NB212_209.out _).trans (hHeld.2.2.2.1)))), ((cell_far (p := ⟨gb209, _, none⟩) NB212_209.out _).trans (((cell_far (p := ⟨gb209, _, none⟩) NB212_209.out _).trans (hHeld.2.2.2.2))))⟩ (fun hHeld => ?_)
                clear hK K
                refine pure_ (i := 8) (N := some 7) (v := ?_) (a' := ?_) #[true, true, true, true, true, true, true, true, true, false] rfl rfl (any_of HT_.out (by kernel_rfl)) (fun _ _ _ h => h) (Or.inl ⟨by rfl, ?_⟩) ?_ ?_
                rotate_left
                · intro w'
                  go_simp
                  with_reducible rfl
                rotate_left
                · simp only [Act.put, List.setIfInBounds_toArray, List.set_cons_zero, List.set_cons_succ, i64_w, i32_w]
                  rfl
                refine pure_ (i := 9) (N := some 8) (v := ?_) (a' := ?_) #[true, true, true, true, true, true, true, true, true, true] rfl rfl (any_of HT_.out (by kernel_rfl)) (fun _ _ _ h => h) (Or.inl ⟨by rfl, ?_⟩) ?_ ?_
                rotate_left
                · intro w'
                  go_simp
                  with_reducible rfl
                rotate_left
                · simp only [Act.put, List.setIfInBounds_toArray, List.set_cons_zero, List.set_cons_succ, i64_w, i32_w]
                  rfl
                refine done_ (done_of HT_.out (by kernel_rfl)) ?_
                try go_wp2
                refine bodyPost_ret (results_ctt rfl _ _ gb209 24 #[.int .i64 a0_0, .slice Ao39 y216.length co39] (0, 0) _ rfl (by (with_reducible repeat (first | refine blk_drewN ?_ _ | refine blk_drew ?_ | refine blk_alloc ?_ _)); refine blk_put (cs := #[.int .i64 a0_0, .slice none 0 0]) ?_ 1 _ rfl; (with_reducible repeat (first | refine blk_drewN ?_ _ | refine blk_drew ?_ | refine blk_alloc ?_ _)); refine blk_put (cs := #[.int .i64 0, .slice none 0 0]) ?_ 0 _ rfl; (with_reducible repeat (first | refine blk_drewN ?_ _ | refine blk_drew ?_ | refine blk_alloc ?_ _)); exact BK209.out) Try.underlying24 rfl (by kernel_rfl)) rfl ?_
                exact ⟨_, by first | rfl | (simp [errW_none, errW_some] <;> rfl) | (simp [*, errW_none, errW_some] <;> rfl), by (with_reducible repeat (first | apply Kd.R_alloc | apply Kd.R_drewN | apply Kd.R_drew)); exact Kd.R_mono (Kd.R_far (p := ⟨gb209, 1, none⟩) (Kd.R_far (p := ⟨gb209, 0, none⟩) (Kd.R_types HO218.out BK209.out (by decide)) (fun _ hk => hk.2) (.int .i64 a0_0)) (fun _ hk => hk.2) (.slice Ao39 y216.length co39)) (fun _ hk => hk.1.1), by repeat (first | (with_reducible first | exact HB.out | apply below_alloc | apply pw_below_drewN | apply below_drew1 | refine below_set ?_ GE208.out | refine below_set ?_ GE209.out | refine below_set ?_ GE212.out) | exact HB.out)⟩
              · rw [if_neg c28] at H
                exact absurd H (by simp)
            · rw [if_neg c27] at H
              exact absurd H (by simp)
          · rw [if_neg c26] at H
            have c26b0 : decide ((l0_1.length : Int) < a1) = false := decide_eq_false c26
            clear c26
            have H' := Aside0.mk H
            clear H
            have hnb42 := NB208_209.out
            have hnc42 := NB209_208.out
            have hcz43_0 : wc.cell? ⟨gb208, 0, none⟩ = some (.int .i64 a0_0) := (blk_cell BK208.out 0).trans rfl
            have hcz43_1 : wc.cell? ⟨gb208, 1, none⟩ = some (.slice A0_1 l0_1.length c0_1) := (blk_cell BK208.out 1).trans rfl
            have hfz43_0 := blk_frozen BK208.out 0
            have hfz43_1 := blk_frozen BK208.out 1
            go_wp2_with (first | ((with_reducible refine gate_callee (f := 26) rfl ?_); refine goesL_ (some 46) rfl rfl Try.func26 (by kernel_rfl) rfl #[.slice A0_1 l0_1.length c0_1, .int .i64 a2] rfl (by (try simp only [List.map_toArray, List.map_cons, List.map_nil]); first | done | rfl | (simp only [List.length_drop, List.length_take]; rfl)) ?_; (with_reducible refine (bobbinref16_find.calls kj4 _ _ l0_1 a2 t211 _ ?side1 ?side2 A21.out).mono ?_); (case side1 => repeat (first | exact (Kd.V_reads' HO_209001.out).2.2 | (with_reducible refine Kd.C_alloc ?_ _) | (with_reducible refine Kd.C_drewN ?_ _) | (with_reducible refine Kd.C_drew ?_))); (case side2 => exact (Kd.V_reads' HO_209001.out).2.1); rintro e w' ⟨rfl, ⟨nd, rfl⟩⟩; refine ⟨_, rfl, ?_⟩; (try (rw [drewN_self wc]; generalize hq_ : World.drewN wc _ = wc; have n0_ : Aside0 (Kd.V k32 32 wc w.heap.size (fun k_ => (P0_1_ k_ ∨ w.heap.size ≤ k_) ∧ k_ ≠ gb208 ∧ k_ ≠ gb209) (.slice A0_1 l0_1.length c0_1) l0_1) := ⟨by rw [← hq_]; exact (by (with_reducible repeat (first | apply Kd.V_alloc | apply Kd.V_drewN | apply Kd.V_drew)); exact HO_209001.out)⟩; have n1_ : Aside0 (wc.heap[gb208]? = some (.cells #[.int .i64 a0_0, .slice A0_1 l0_1.length c0_1] 24 (0, 0))) := ⟨by rw [← hq_]; exact (by (with_reducible repeat (first | refine blk_drewN ?_ _ | refine blk_drew ?_ | refine blk_alloc ?_ _)); exact BK208.out)⟩; have n2_ : Aside0 (wc.heap[gb209]? = some (.cells #[.int .i64 0, .slice none 0 0] 24 (0, 0))) := ⟨by rw [← hq_]; exact (by (with_reducible repeat (first | refine blk_drewN ?_ _ | refine blk_drew ?_ | refine blk_alloc ?_ _)); exact BK209.out)⟩; have n3_ : Aside0 (Below w.heap.size w wc) := ⟨by rw [← hq_]; exact (by repeat (first | (with_reducible first | exact HB.out | apply below_alloc | apply pw_below_drewN | apply below_drew1 | refine below_set ?_ GE208.out | refine below_set ?_ GE209.out) | exact HB.out))⟩; clear HO_209001 BK208 BK209 HB hq_; have HO_209001 := n0_; have BK208 := n1_; have BK209 := n2_; have HB := n3_; clear n0_ n1_ n2_ n3_))) | ((with_reducible refine gate_dst (N := 10) rfl ?_); (try (refine gate_guard (by rfl) ?_; dsimp only)); refine box_event ?hg (N := 10) ?hd (cs := #[.int .i64 0, .bool false, .bool false]) (t := 32) ?hr ?_; (case hd => rfl); (case hg => rfl); (case hr => first | (go_simp; done) | (go_simp; rfl)); intro gb212 hg w44 hbox hb; have n0_ := Aside0.mk (Kd.V_below (Kd.V_elderB (by (with_reducible repeat (first | apply Kd.V_alloc | apply Kd.V_drewN | apply Kd.V_drew)); exact HO_209001.out) gb212 (Nat.le_of_eq hg.symm)) hb); have n1_ := Aside0.mk (blk_below (g := gb208) (o := .cells #[.int .i64 a0_0, .slice A0_1 l0_1.length c0_1] 24 (0, 0)) (by (with_reducible repeat (first | refine blk_drewN ?_ _ | refine blk_drew ?_ | refine blk_alloc ?_ _)); exact BK208.out) hb); have n2_ := Aside0.mk (blk_below (g := gb209) (o := .cells #[.int .i64 0, .slice none 0 0] 24 (0, 0)) (by (with_reducible repeat (first | refine blk_drewN ?_ _ | refine blk_drew ?_ | refine blk_alloc ?_ _)); exact BK209.out) hb); have n3_ := Aside0.mk (below_step (by repeat (first | (with_reducible first | exact HB.out | apply below_alloc | apply pw_below_drewN | apply below_drew1 | refine below_set ?_ GE208.out | refine below_set ?_ GE209.out) | exact HB.out)) hb); have n4_ := Aside0.mk (hbox); have n5_ := Aside0.mk ((by rw [hg]; exact (below_size (by repeat (first | (with_reducible first | exact HB.out | apply below_alloc | apply pw_below_drewN | apply below_drew1 | refine below_set ?_ GE208.out | refine below_set ?_ GE209.out) | exact HB.out))) : w.heap.size ≤ gb212)); have n6_ := Aside0.mk ((by rw [hg]; exact (below_size (by repeat (first | (with_reducible first | exact HB.out | apply below_alloc | apply pw_below_drewN | apply below_drew1 | refine below_set ?_ GE208.out | refine below_set ?_ GE209.out) | exact HB.out))) : w.heap.size ≤ gb212)); have n7_ := Aside0.mk ((by rw [hg]; exact Nat.ne_of_lt (blk_lt (g := gb208) (o := .cells #[.int .i64 a0_0, .slice A0_1 l0_1.length c0_1] 24 (0, 0)) (by (with_reducible repeat (first | refine blk_drewN ?_ _ | refine blk_drew ?_ | refine blk_alloc ?_ _)); exact BK208.out)) : gb208 ≠ gb212)); have n8_ := Aside0.mk ((by rw [hg]; exact Nat.ne_of_gt (blk_lt (g := gb208) (o := .cells #[.int .i64 a0_0, .slice A0_1 l0_1.length c0_1] 24 (0, 0)) (by (with_reducible repeat (first | refine blk_drewN ?_ _ | refine blk_drew ?_ | refine blk_alloc ?_ _)); exact BK208.out)) : gb212 ≠ gb208)); have n9_ := Aside0.mk ((by rw [hg]; exact Nat.ne_of_lt (blk_lt (g := gb209) (o := .cells #[.int .i64 0, .slice none 0 0] 24 (0, 0)) (by (with_reducible repeat (first | refine blk_drewN ?_ _ | refine blk_drew ?_ | refine blk_alloc ?_ _)); exact BK209.out)) : gb209 ≠ gb212)); have n10_ := Aside0.mk ((by rw [hg]; exact Nat.ne_of_gt (blk_lt (g := gb209) (o := .cells #[.int .i64 0, .slice none 0 0] 24 (0, 0)) (by (with_reducible repeat (first | refine blk_drewN ?_ _ | refine blk_drew ?_ | refine blk_alloc ?_ _)); exact BK209.out)) : gb212 ≠ gb209)); clear HO_209001; clear BK208; clear BK209; clear HB; have HO_209001 := n0_; have BK208 := n1_; have BK209 := n2_; have HB := n3_; have BK212 := n4_; have GW212 := n5_; have GE212 := n6_; have NB208_212 := n7_; have NB212_208 := n8_; have NB209_212 := n9_; have NB212_209 := n10_; clear n0_ n1_ n2_ n3_ n4_ n5_ n6_ n7_ n8_ n9_ n10_; clear hb hbox hg; have hnb45 := NB212_208.out; have hnc45 := NB208_212.out; have hnb46 := NB212_209.out; have hnc46 := NB209_212.out; have hcz47_0 : w44.cell? ⟨gb212, 0, none⟩ = some (.int .i64 0) := (blk_cell BK212.out 0).trans rfl; have hcz47_1 : w44.cell? ⟨gb212, 1, none⟩ = some (.bool false) := (blk_cell BK212.out 1).trans rfl; have hcz47_2 : w44.cell? ⟨gb212, 2, none⟩ = some (.bool false) := (blk_cell BK212.out 2).trans rfl; have hfz47_0 := blk_frozen BK212.out 0; have hfz47_1 := blk_frozen BK212.out 1; have hfz47_2 := blk_frozen BK212.out 2; have hcz48_0 : w44.cell? ⟨gb208, 0, none⟩ = some (.int .i64 a0_0) := (blk_cell BK208.out 0).trans rfl; have hcz48_1 : w44.cell? ⟨gb208, 1, none⟩ = some (.slice A0_1 l0_1.length c0_1) := (blk_cell BK208.out 1).trans rfl; have hfz48_0 := blk_frozen BK208.out 0; have hfz48_1 := blk_frozen BK208.out 1))
            go_loopg [12] kj4 (fun kq v12 w' => ∃ (x12_2 : Int) (x209000_2 : Int) (x209001_2 : List (S32)) (x210000_2 : Int) (u209001 : Value), v12 = .int .i64 x12_2 ∧ Aside0 (bobbinref16_Admit.l0 kq x12_2 x209000_2 x209001_2 a2 true false = some (r1, r2, r3, r4)) ∧ Aside0 (kq ≤ kj4) ∧ Aside0 (Kd.V k32 32 w' w.heap.size (fun k_ => (P0_1_ k_ ∨ w.heap.size ≤ k_) ∧ k_ ≠ gb208 ∧ k_ ≠ gb209 ∧ k_ ≠ gb212) u209001 x209001_2) ∧ Aside0 (w'.heap[gb208]? = some (.cells #[.int .i64 x209000_2, u209001] 24 (0, 0))) ∧ Aside0 (w'.heap[gb209]? = some (.cells #[.int .i64 x210000_2, (.slice none 0 0)] 24 (0, 0))) ∧ Aside0 (w'.heap[gb212]? = some (.cells #[.int .i64 a2, .bool true, .bool false] 32 (0, 0))) ∧ Aside0 (Below w.heap.size w w'))
            case atStart => exact ⟨(0), (a0_0), (l0_1), (0), (.slice A0_1 l0_1.length c0_1), (by first | rfl | (simp; done) | (simp [*]; done)), H', ⟨Nat.le_refl _⟩, ⟨by (with_reducible repeat (first | apply Kd.V_alloc | apply Kd.V_drewN | apply Kd.V_drew)); exact Kd.V_mono (Kd.V_far (p := ⟨gb212, 2, none⟩) (Kd.V_far (p := ⟨gb212, 1, none⟩) (Kd.V_far (p := ⟨gb212, 0, none⟩) (Kd.V_mono HO_209001.out (fun k_ hk => (⟨hk, hk.2⟩ : _ ∧ k_ ≠ gb212))) (fun _ hk => hk.2) (.int .i64 a2)) (fun _ hk => hk.2) (.bool true)) (fun _ hk => hk.2) (.bool false)) (fun _ hk => ⟨hk.1.1.1, ⟨hk.1.1.2.1, ⟨hk.1.1.2.2, hk.1.2⟩⟩⟩)⟩, ⟨by (with_reducible repeat (first | refine blk_drewN ?_ _ | refine blk_drew ?_ | refine blk_alloc ?_ _)); refine blk_far ?_ NB208_212.out _; (with_reducible repeat (first | refine blk_drewN ?_ _ | refine blk_drew ?_ | refine blk_alloc ?_ _)); refine blk_far ?_ NB208_212.out _; (with_reducible repeat (first | refine blk_drewN ?_ _ | refine blk_drew ?_ | refine blk_alloc ?_ _)); refine blk_far ?_ NB208_212.out _; (with_reducible repeat (first | refine blk_drewN ?_ _ | refine blk_drew ?_ | refine blk_alloc ?_ _)); exact BK208.out⟩, ⟨by (with_reducible repeat (first | refine blk_drewN ?_ _ | refine blk_drew ?_ | refine blk_alloc ?_ _)); refine blk_far ?_ NB209_212.out _; (with_reducible repeat (first | refine blk_drewN ?_ _ | refine blk_drew ?_ | refine blk_alloc ?_ _)); refine blk_far ?_ NB209_212.out _; (with_reducible repeat (first | refine blk_drewN ?_ _ | refine blk_drew ?_ | refine blk_alloc ?_ _)); refine blk_far ?_ NB209_212.out _; (with_reducible repeat (first | refine blk_drewN ?_ _ | refine blk_drew ?_ | refine blk_alloc ?_ _)); exact BK209.out⟩, ⟨by (with_reducible repeat (first | refine blk_drewN ?_ _ | refine blk_drew ?_ | refine blk_alloc ?_ _)); refine blk_put (cs := #[.int .i64 a2, .bool true, .bool false]) ?_ 2 _ rfl; (with_reducible repeat (first | refine blk_drewN ?_ _ | refine blk_drew ?_ | refine blk_alloc ?_ _)); refine blk_put (cs := #[.int .i64 a2, .bool false, .bool false]) ?_ 1 _ rfl; (with_reducible repeat (first | refine blk_drewN ?_ _ | refine blk_drew ?_ | refine blk_alloc ?_ _)); refine blk_put (cs := #[.int .i64 0, .bool false, .bool false]) ?_ 0 _ rfl; (with_reducible repeat (first | refine blk_drewN ?_ _ | refine blk_drew ?_ | refine blk_alloc ?_ _)); exact BK212.out⟩, ⟨by repeat (first | (with_reducible first | exact HB.out | apply below_alloc | apply pw_below_drewN | apply below_drew1 | refine below_set ?_ GE208.out | refine below_set ?_ GE209.out | refine below_set ?_ GE212.out) | exact HB.out)⟩⟩
            case round =>
              clear H'
              try clear c1
              try clear c2
              try clear p2
              try clear c3
              try clear c4
              try clear c8
              try clear c11
              try clear c12
              try clear c12b0
              try clear c13
              try clear c13b0
              try clear c14
              try clear c14b0
              try clear c15
              try clear c15b0
              try clear c16
              try clear c18
              try clear c19
              try clear c22
              try clear c22b0
              try clear c23
              try clear c26
              try clear c26b0
              try clear c27
              try clear c28
              try clear c29
              try clear c32
              try clear c33
              try clear c42
              try clear c45
              try clear c46
              try clear hcz17_0
              try clear hcz17_1
              try clear hcz20_0
              try clear hcz20_1
              try clear hcz24_0
              try clear hcz24_1
              try clear hcz25_0
              try clear hcz25_1
              try clear hcz30_0
              try clear hcz30_1
              try clear hcz34_0
              try clear hcz34_1
              try clear hcz34_2
              try clear hcz35_0
              try clear hcz35_1
              try clear hcz43_0
              try clear hcz43_1
              try clear hcz47_0
              try clear hcz47_1
              try clear hcz47_2
              try clear hcz48_0
              try clear hcz48_1
              try clear hcz9_0
              try clear hcz9_1
              try clear hfz17_0
              try clear hfz17_1
              try clear hfz20_0
              try clear hfz20_1
              try clear hfz24_0
              try clear hfz24_1
              try clear hfz25_0
              try clear hfz25_1
              try clear hfz30_0
              try clear hfz30_1
              try clear hfz34_0
              try clear hfz34_1
              try clear hfz34_2
              try clear hfz35_0
              try clear hfz35_1
              try clear hfz43_0
              try clear hfz43_1
              try clear hfz47_0
              try clear hfz47_1
              try clear hfz47_2
              try clear hfz48_0
              try clear hfz48_1
              try clear hfz9_0
              try clear hfz9_1
              try clear p2
              obtain ⟨x12_2, x209000_2, x209001_2, x210000_2, u209001, rfl, HA, HK2, HO_209001, BK208, BK209, BK212, HB⟩ := hrel
              cases gk with
              | zero => exact absurd HA.out (by first | (intro h_; cases h_; done) | simp [bobbinref16_Admit.l0])
              | succ k2 =>
                have H := HA.out
                clear HA
                rw [bobbinref16_Admit.l0_eq] at H
                by_cases c49 : x12_2 < (wrap64 (2 * (x209001_2.length : Int)))
                · rw [if_pos c49] at H
                  have c49b0 : decide (x12_2 < (wrap64 (2 * (x209001_2.length : Int)))) = true := decide_eq_true c49
                  clear c49
                  by_cases c50 : 0 ≤ x209000_2
                  · rw [if_pos c50] at H
                    have c50b0 : decide (0 ≤ x209000_2) = true := decide_eq_true c50
                    clear c50
                    by_cases c51 : x209000_2 < (x209001_2.length : Int)
                    · rw [if_pos c51] at H
                      have c51b0 : decide (x209000_2 < (x209001_2.length : Int)) = true := decide_eq_true c51
                      clear c51
                      have HC52 := Aside0.mk H
                      clear H
                      have hnb53 := NB208_209.out
                      have hnc53 := NB209_208.out
                      have hnb54 := NB208_212.out
                      have hnc54 := NB212_208.out
                      have hcz55_0 : wr.cell? ⟨gb208, 0, none⟩ = some (.int .i64 x209000_2) := (blk_cell BK208.out 0).trans rfl
                      have hcz55_1 : wr.cell? ⟨gb208, 1, none⟩ = some (u209001) := (blk_cell BK208.out 1).trans rfl
                      have hfz55_0 := blk_frozen BK208.out 0
                      have hfz55_1 := blk_frozen BK208.out 1
                      obtain ⟨Ao56, co56, eo56⟩ := Kd.V_slice HO_209001.out
                      subst eo56
                      have p219 : 0 ≤ (x209000_2 : Int) := of_decide_eq_true (by first | (with_reducible assumption) | assumption)
                      have q219 : x209000_2 < (x209001_2.length : Int) := of_decide_eq_true (by first | (with_reducible assumption) | assumption)
                      obtain ⟨ad219, e219, hx219_0, hx219_1, hx219_2⟩ := at_T32 (Kd.V_reads' HO_209001.out).2.2 x209000_2 p219 q219
                      cases e219
                      replace p219 := eq_true p219
                      replace q219 := eq_true q219
                      go_upto_if 89 with (first | ((with_reducible refine gate_dst (N := 14) rfl ?_); (try (refine gate_guard (by rfl) ?_; dsimp only)); refine box_event ?hg (N := 14) ?hd (cs := #[.int .i64 0, .bool false, .bool false]) (t := 32) ?hr ?_; (case hd => rfl); (case hg => rfl); (case hr => first | (go_simp; done) | (go_simp; rfl)); intro gb220 hg w57 hbox hb; have n0_ := Aside0.mk (Kd.V_below (Kd.V_elderB (by (with_reducible repeat (first | apply Kd.V_alloc | apply Kd.V_drewN | apply Kd.V_drew)); exact HO_209001.out) gb220 (Nat.le_of_eq hg.symm)) hb); have n1_ := Aside0.mk (blk_below (g := gb208) (o := .cells #[.int .i64 x209000_2, .slice (some ad219) x209001_2.length co56] 24 (0, 0)) (by (with_reducible repeat (first | refine blk_drewN ?_ _ | refine blk_drew ?_ | refine blk_alloc ?_ _)); exact BK208.out) hb); have n2_ := Aside0.mk (blk_below (g := gb209) (o := .cells #[.int .i64 x210000_2, .slice none 0 0] 24 (0, 0)) (by (with_reducible repeat (first | refine blk_drewN ?_ _ | refine blk_drew ?_ | refine blk_alloc ?_ _)); exact BK209.out) hb); have n3_ := Aside0.mk (blk_below (g := gb212) (o := .cells #[.int .i64 a2, .bool true, .bool false] 32 (0, 0)) (by (with_reducible repeat (first | refine blk_drewN ?_ _ | refine blk_drew ?_ | refine blk_alloc ?_ _)); exact BK212.out) hb); have n4_ := Aside0.mk (below_step (by repeat (first | (with_reducible first | exact HB.out | apply below_alloc | apply pw_below_drewN | apply below_drew1 | refine below_set ?_ GE208.out | refine below_set ?_ GE209.out | refine below_set ?_ GE212.out) | exact HB.out)) hb); have n5_ := Aside0.mk (hbox); have n6_ := Aside0.mk ((by rw [hg]; exact (below_size (by repeat (first | (with_reducible first | exact HB.out | apply below_alloc | apply pw_below_drewN | apply below_drew1 | refine below_set ?_ GE208.out | refine below_set ?_ GE209.out | refine below_set ?_ GE212.out) | exact HB.out))) : w.heap.size ≤ gb220)); have n7_ := Aside0.mk ((by rw [hg]; exact (below_size (by repeat (first | (with_reducible first | exact HB.out | apply below_alloc | apply pw_below_drewN | apply below_drew1 | refine below_set ?_ GE208.out | refine below_set ?_ GE209.out | refine below_set ?_ GE212.out) | exact HB.out))) : w.heap.size ≤ gb220)); have n8_ := Aside0.mk ((by rw [hg]; exact Nat.ne_of_lt (blk_lt (g := gb208) (o := .cells #[.int .i64 x209000_2, .slice (some ad219) x209001_2.length co56] 24 (0, 0)) (by (with_reducible repeat (first | refine blk_drewN ?_ _ | refine blk_drew ?_ | refine blk_alloc ?_ _)); exact BK208.out)) : gb208 ≠ gb220)); have n9_ := Aside0.mk ((by rw [hg]; exact Nat.ne_of_gt (blk_lt (g := gb208) (o := .cells #[.int .i64 x209000_2, .slice (some ad219) x209001_2.length co56] 24 (0, 0)) (by (with_reducible repeat (first | refine blk_drewN ?_ _ | refine blk_drew ?_ | refine blk_alloc ?_ _)); exact BK208.out)) : gb220 ≠ gb208)); have n10_ := Aside0.mk ((by rw [hg]; exact Nat.ne_of_lt (blk_lt (g := gb209) (o := .cells #[.int .i64 x210000_2, .slice none 0 0] 24 (0, 0)) (by (with_reducible repeat (first | refine blk_drewN ?_ _ | refine blk_drew ?_ | refine blk_alloc ?_ _)); exact BK209.out)) : gb209 ≠ gb220)); have n11_ := Aside0.mk ((by rw [hg]; exact Nat.ne_of_gt (blk_lt (g := gb209) (o := .cells #[.int .i64 x210000_2, .slice none 0 0] 24 (0, 0)) (by (with_reducible repeat (first | refine blk_drewN ?_ _ | refine blk_drew ?_ | refine blk_alloc ?_ _)); exact BK209.out)) : gb220 ≠ gb209)); have n12_ := Aside0.mk ((by rw [hg]; exact Nat.ne_of_lt (blk_lt (g := gb212) (o := .cells #[.int .i64 a2, .bool true, .bool false] 32 (0, 0)) (by (with_reducible repeat (first | refine blk_drewN ?_ _ | refine blk_drew ?_ | refine blk_alloc ?_ _)); exact BK212.out)) : gb212 ≠ gb220)); have n13_ := Aside0.mk ((by rw [hg]; exact Nat.ne_of_gt (blk_lt (g := gb212) (o := .cells #[.int .i64 a2, .bool true, .bool false] 32 (0, 0)) (by (with_reducible repeat (first | refine blk_drewN ?_ _ | refine blk_drew ?_ | refine blk_alloc ?_ _)); exact BK212.out)) : gb220 ≠ gb212)); clear HO_209001; clear BK208; clear BK209; clear BK212; clear HB; have HO_209001 := n0_; have BK208 := n1_; have BK209 := n2_; have BK212 := n3_; have HB := n4_; have BK220 := n5_; have GW220 := n6_; have GE220 := n7_; have NB208_220 := n8_; have NB220_208 := n9_; have NB209_220 := n10_; have NB220_209 := n11_; have NB212_220 := n12_; have NB220_212 := n13_; clear n0_ n1_ n2_ n3_ n4_ n5_ n6_ n7_ n8_ n9_ n10_ n11_ n12_ n13_; clear hb hbox hg; have hnb58 := NB220_208.out; have hnc58 := NB208_220.out; have hnb59 := NB220_209.out; have hnc59 := NB209_220.out; have hnb60 := NB220_212.out; have hnc60 := NB212_220.out; have hcz61_0 : w57.cell? ⟨gb220, 0, none⟩ = some (.int .i64 0) := (blk_cell BK220.out 0).trans rfl; have hcz61_1 : w57.cell? ⟨gb220, 1, none⟩ = some (.bool false) := (blk_cell BK220.out 1).trans rfl; have hcz61_2 : w57.cell? ⟨gb220, 2, none⟩ = some (.bool false) := (blk_cell BK220.out 2).trans rfl; have hfz61_0 := blk_frozen BK220.out 0; have hfz61_1 := blk_frozen BK220.out 1; have hfz61_2 := blk_frozen BK220.out 2; have hcz62_0 : w57.cell? ⟨gb208, 0, none⟩ = some (.int .i64 x209000_2) := (blk_cell BK208.out 0).trans rfl; have hcz62_1 : w57.cell? ⟨gb208, 1, none⟩ = some (.slice (some ad219) x209001_2.length co56) := (blk_cell BK208.out 1).trans rfl; have hfz62_0 := blk_frozen BK208.out 0; have hfz62_1 := blk_frozen BK208.out 1))
                      (try simp only [Act.put, List.setIfInBounds_toArray, List.set_cons_zero, List.set_cons_succ])
                      go_cut [] (fun wc => ∃ (kq : Nat) (x209000_51 : Int), Aside0 (bobbinref16_Admit.j2 kq x12_2 x209000_2 x209000_51 x209001_2 a2 true false ((rd_T32 x209001_2 x209000_2).f0) ((rd_T32 x209001_2 x209000_2).f1) ((rd_T32 x209001_2 x209000_2).f2) = some (r1, r2, r3, r4)) ∧ Aside0 (kq ≤ k2) ∧ Aside0 (Kd.V k32 32 wc w.heap.size (fun k_ => (P0_1_ k_ ∨ w.heap.size ≤ k_) ∧ k_ ≠ gb208 ∧ k_ ≠ gb209 ∧ k_ ≠ gb212 ∧ k_ ≠ gb220) (.slice (some ad219) x209001_2.length co56) x209001_2) ∧ Aside0 (wc.heap[gb208]? = some (.cells #[.int .i64 x209000_51, (.slice (some ad219) x209001_2.length co56)] 24 (0, 0))) ∧ Aside0 (wc.heap[gb209]? = some (.cells #[.int .i64 x210000_2, (.slice none 0 0)] 24 (0, 0))) ∧ Aside0 (wc.heap[gb212]? = some (.cells #[.int .i64 a2, .bool true, .bool false] 32 (0, 0))) ∧ Aside0 (wc.heap[gb220]? = some (.cells #[.int .i64 ((rd_T32 x209001_2 x209000_2).f0), .bool ((rd_T32 x209001_2 x209000_2).f1), .bool ((rd_T32 x209001_2 x209000_2).f2)] 32 (0, 0))) ∧ Aside0 (Below w.heap.size w wc))
                      case first =>
                        have H := HC52.out
                        clear HC52
                        by_cases c63 : (wrap64 (x209000_2 + 1)) = (x209001_2.length : Int)
                        · rw [if_pos c63] at H
                          have c63b0 : ((wrap64 (x209000_2 + 1)) == (x209001_2.length : Int)) = true := beq_iff_eq.mpr c63
                          have c63b1 : ((wrap64 (x209000_2 + 1)) != (x209001_2.length : Int)) = false := bne_eq_false_iff_eq.mpr c63
                          clear c63
                          (first | rw [c63b0] | (simp only [i64_w, i32_w]; rw [c63b0]) | skip)
                          have H' := Aside0.mk H
                          clear H
                          have hnb64 := NB208_209.out
                          have hnc64 := NB209_208.out
                          have hnb65 := NB208_212.out
                          have hnc65 := NB212_208.out
                          have hnb66 := NB208_220.out
                          have hnc66 := NB220_208.out
                          have hcz67_0 : w57.cell? ⟨gb208, 0, none⟩ = some (.int .i64 x209000_2) := (blk_cell BK208.out 0).trans rfl
                          have hcz67_1 : w57.cell? ⟨gb208, 1, none⟩ = some (.slice (some ad219) x209001_2.length co56) := (blk_cell BK208.out 1).trans rfl
                          have hfz67_0 := blk_frozen BK208.out 0
                          have hfz67_1 := blk_frozen BK208.out 1
                          go_wp2
                          go_meet
                          case rel => exact ⟨_, (0), H', ⟨by have := HJ4.out; have := HK2.out; first | omega | exact Nat.le_refl _⟩, ⟨by (with_reducible repeat (first | apply Kd.V_alloc | apply Kd.V_drewN | apply Kd.V_drew)); exact Kd.V_mono (Kd.V_far (p := ⟨gb208, 0, none⟩) (Kd.V_far (p := ⟨gb208, 0, none⟩) (Kd.V_far (p := ⟨gb220, 2, none⟩) (Kd.V_far (p := ⟨gb220, 1, none⟩) (Kd.V_far (p := ⟨gb220, 0, none⟩) (Kd.V_mono (Kd.V_mono HO_209001.out (fun k_ hk => (⟨hk, hk.2⟩ : _ ∧ k_ ≠ gb220))) (fun k_ hk => (⟨hk, hk.1.1.2.1⟩ : _ ∧ k_ ≠ gb208))) (fun _ hk => hk.1.2) (.int .i64 ((rd_T32 x209001_2 x209000_2).f0))) (fun _ hk => hk.1.2) (.bool ((rd_T32 x209001_2 x209000_2).f1))) (fun _ hk => hk.1.2) (.bool ((rd_T32 x209001_2 x209000_2).f2))) (fun _ hk => hk.2) (.int .i64 (wrap64 (x209000_2 + 1)))) (fun _ hk => hk.2) (.int .i64 0)) (fun _ hk => ⟨hk.1.1.1.1, ⟨hk.1.1.1.2.1, ⟨hk.1.1.1.2.2.1, ⟨hk.1.1.1.2.2.2, hk.1.1.2⟩⟩⟩⟩)⟩, ⟨by (with_reducible repeat (first | refine blk_drewN ?_ _ | refine blk_drew ?_ | refine blk_alloc ?_ _)); refine blk_put (cs := #[.int .i64 (wrap64 (x209000_2 + 1)), .slice (some ad219) x209001_2.length co56]) ?_ 0 _ rfl; (with_reducible repeat (first | refine blk_drewN ?_ _ | refine blk_drew ?_ | refine blk_alloc ?_ _)); refine blk_put (cs := #[.int .i64 x209000_2, .slice (some ad219) x209001_2.length co56]) ?_ 0 _ rfl; (with_reducible repeat (first | refine blk_drewN ?_ _ | refine blk_drew ?_ | refine blk_alloc ?_ _)); refine blk_far ?_ NB208_220.out _; (with_reducible repeat (first | refine blk_drewN ?_ _ | refine blk_drew ?_ | refine blk_alloc ?_ _)); refine blk_far ?_ NB208_220.out _; (with_reducible repeat (first | refine blk_drewN ?_ _ | refine blk_drew ?_ | refine blk_alloc ?_ _)); refine blk_far ?_ NB208_220.out _; (with_reducible repeat (first | refine blk_drewN ?_ _ | refine blk_drew ?_ | refine blk_alloc ?_ _)); exact BK208.out⟩, ⟨by (with_reducible repeat (first | refine blk_drewN ?_ _ | refine blk_drew ?_ | refine blk_alloc ?_ _)); refine blk_far ?_ NB209_208.out _; (with_reducible repeat (first | refine blk_drewN ?_ _ | refine blk_drew ?_ | refine blk_alloc ?_ _)); refine blk_far ?_ NB209_208.out _; (with_reducible repeat (first | refine blk_drewN ?_ _ | refine blk_drew ?_ | refine blk_alloc ?_ _)); refine blk_far ?_ NB209_220.out _; (with_reducible repeat (first | refine blk_drewN ?_ _ | refine blk_drew ?_ | refine blk_alloc ?_ _)); refine blk_far ?_ NB209_220.out _; (with_reducible repeat (first | refine blk_drewN ?_ _ | refine blk_drew ?_ | refine blk_alloc ?_ _)); refine blk_far ?_ NB209_220.out _; (with_reducible repeat (first | refine blk_drewN ?_ _ | refine blk_drew ?_ | refine blk_alloc ?_ _)); exact BK209.out⟩, ⟨by (with_reducible repeat (first | refine blk_drewN ?_ _ | refine blk_drew ?_ | refine blk_alloc ?_ _)); refine blk_far ?_ NB212_208.out _; (with_reducible repeat (first | refine blk_drewN ?_ _ | refine blk_drew ?_ | refine blk_alloc ?_ _)); refine blk_far ?_ NB212_208.out _; (with_reducible repeat (first | refine blk_drewN ?_ _ | refine blk_drew ?_ | refine blk_alloc ?_ _)); refine blk_far ?_ NB212_220.out _; (with_reducible repeat (first | refine blk_drewN ?_ _ | refine blk_drew ?_ | refine blk_alloc ?_ _)); refine blk_far ?_ NB212_220.out _; (with_reducible repeat (first | refine blk_drewN ?_ _ | refine blk_drew ?_ | refine blk_alloc ?_ _)); refine blk_far ?_ NB212_220.out _; (with_reducible repeat (first | refine blk_drewN ?_ _ | refine blk_drew ?_ | refine blk_alloc ?_ _)); exact BK212.out⟩, ⟨by (with_reducible repeat (first | refine blk_drewN ?_ _ | refine blk_drew ?_ | refine blk_alloc ?_ _)); refine blk_far ?_ NB220_208.out _; (with_reducible repeat (first | refine blk_drewN ?_ _ | refine blk_drew ?_ | refine blk_alloc ?_ _)); refine blk_far ?_ NB220_208.out _; (with_reducible repeat (first | refine blk_drewN ?_ _ | refine blk_drew ?_ | refine blk_alloc ?_ _)); refine blk_put (cs := #[.int .i64 ((rd_T32 x209001_2 x209000_2).f0), .bool ((rd_T32 x209001_2 x209000_2).f1), .bool false]) ?_ 2 _ rfl; (with_reducible repeat (first | refine blk_drewN ?_ _ | refine blk_drew ?_ | refine blk_alloc ?_ _)); refine blk_put (cs := #[.int .i64 ((rd_T32 x209001_2 x209000_2).f0), .bool false, .bool false]) ?_ 1 _ rfl; (with_reducible repeat (first | refine blk_drewN ?_ _ | refine blk_drew ?_ | refine blk_alloc ?_ _)); refine blk_put (cs := #[.int .i64 0, .bool false, .bool false]) ?_ 0 _ rfl; (with_reducible repeat (first | refine blk_drewN ?_ _ | refine blk_drew ?_ | refine blk_alloc ?_ _)); exact BK220.out⟩, ⟨by repeat (first | (with_reducible first | exact HB.out | apply below_alloc | apply pw_below_drewN | apply below_drew1 | refine below_set ?_ GE208.out | refine below_set ?_ GE209.out | refine below_set ?_ GE212.out | refine below_set ?_ GE220.out) | exact HB.out)⟩⟩
                        · rw [if_neg c63] at H
                          have c63b0 : ((wrap64 (x209000_2 + 1)) == (x209001_2.length : Int)) = false := beq_eq_false_iff_ne.mpr c63
                          have c63b1 : ((wrap64 (x209000_2 + 1)) != (x209001_2.length : Int)) = true := bne_iff_ne.mpr c63
                          (first | rw [c63b0] | (simp only [i64_w, i32_w]; rw [c63b0]) | skip)
                          have H' := Aside0.mk H
                          clear H
                          go_wp2
                          go_meet
                          case rel => exact ⟨_, (wrap64 (x209000_2 + 1)), H', ⟨by have := HJ4.out; have := HK2.out; first | omega | exact Nat.le_refl _⟩, ⟨by (with_reducible repeat (first | apply Kd.V_alloc | apply Kd.V_drewN | apply Kd.V_drew)); exact Kd.V_mono (Kd.V_far (p := ⟨gb208, 0, none⟩) (Kd.V_far (p := ⟨gb220, 2, none⟩) (Kd.V_far (p := ⟨gb220, 1, none⟩) (Kd.V_far (p := ⟨gb220, 0, none⟩) (Kd.V_mono (Kd.V_mono HO_209001.out (fun k_ hk => (⟨hk, hk.2⟩ : _ ∧ k_ ≠ gb220))) (fun k_ hk => (⟨hk, hk.1.1.2.1⟩ : _ ∧ k_ ≠ gb208))) (fun _ hk => hk.1.2) (.int .i64 ((rd_T32 x209001_2 x209000_2).f0))) (fun _ hk => hk.1.2) (.bool ((rd_T32 x209001_2 x209000_2).f1))) (fun _ hk => hk.1.2) (.bool ((rd_T32 x209001_2 x209000_2).f2))) (fun _ hk => hk.2) (.int .i64 (wrap64 (x209000_2 + 1)))) (fun _ hk => ⟨hk.1.1.1.1, ⟨hk.1.1.1.2.1, ⟨hk.1.1.1.2.2.1, ⟨hk.1.1.1.2.2.2, hk.1.1.2⟩⟩⟩⟩)⟩, ⟨by (with_reducible repeat (first | refine blk_drewN ?_ _ | refine blk_drew ?_ | refine blk_alloc ?_ _)); refine blk_put (cs := #[.int .i64 x209000_2, .slice (some ad219) x209001_2.length co56]) ?_ 0 _ rfl; (with_reducible repeat (first | refine blk_drewN ?_ _ | refine blk_drew ?_ | refine blk_alloc ?_ _)); refine blk_far ?_ NB208_220.out _; (with_reducible repeat (first | refine blk_drewN ?_ _ | refine blk_drew ?_ | refine blk_alloc ?_ _)); refine blk_far ?_ NB208_220.out _; (with_reducible repeat (first | refine blk_drewN ?_ _ | refine blk_drew ?_ | refine blk_alloc ?_ _)); refine blk_far ?_ NB208_220.out _; (with_reducible repeat (first | refine blk_drewN ?_ _ | refine blk_drew ?_ | refine blk_alloc ?_ _)); exact BK208.out⟩, ⟨by (with_reducible repeat (first | refine blk_drewN ?_ _ | refine blk_drew ?_ | refine blk_alloc ?_ _)); refine blk_far ?_ NB209_208.out _; (with_reducible repeat (first | refine blk_drewN ?_ _ | refine blk_drew ?_ | refine blk_alloc ?_ _)); refine blk_far ?_ NB209_220.out _; (with_reducible repeat (first | refine blk_drewN ?_ _ | refine blk_drew ?_ | refine blk_alloc ?_ _)); refine blk_far ?_ NB209_220.out _; (with_reducible repeat (first | refine blk_drewN ?_ _ | refine blk_drew ?_ | refine blk_alloc ?_ _)); refine blk_far ?_ NB209_220.out _; (with_reducible repeat (first | refine blk_drewN ?_ _ | refine blk_drew ?_ | refine blk_alloc ?_ _)); exact BK209.out⟩, ⟨by (with_reducible repeat (first | refine blk_drewN ?_ _ | refine blk_drew ?_ | refine blk_alloc ?_ _)); refine blk_far ?_ NB212_208.out _; (with_reducible repeat (first | refine blk_drewN ?_ _ | refine blk_drew ?_ | refine blk_alloc ?_ _)); refine blk_far ?_ NB212_220.out _; (with_reducible repeat (first | refine blk_drewN ?_ _ | refine blk_drew ?_ | refine blk_alloc ?_ _)); refine blk_far ?_ NB212_220.out _; (with_reducible repeat (first | refine blk_drewN ?_ _ | refine blk_drew ?_ | refine blk_alloc ?_ _)); refine blk_far ?_ NB212_220.out _; (with_reducible repeat (first | refine blk_drewN ?_ _ | refine blk_drew ?_ | refine blk_alloc ?_ _)); exact BK212.out⟩, ⟨by (with_reducible repeat (first | refine blk_drewN ?_ _ | refine blk_drew ?_ | refine blk_alloc ?_ _)); refine blk_far ?_ NB220_208.out _; (with_reducible repeat (first | refine blk_drewN ?_ _ | refine blk_drew ?_ | refine blk_alloc ?_ _)); refine blk_put (cs := #[.int .i64 ((rd_T32 x209001_2 x209000_2).f0), .bool ((rd_T32 x209001_2 x209000_2).f1), .bool false]) ?_ 2 _ rfl; (with_reducible repeat (first | refine blk_drewN ?_ _ | refine blk_drew ?_ | refine blk_alloc ?_ _)); refine blk_put (cs := #[.int .i64 ((rd_T32 x209001_2 x209000_2).f0), .bool false, .bool false]) ?_ 1 _ rfl; (with_reducible repeat (first | refine blk_drewN ?_ _ | refine blk_drew ?_ | refine blk_alloc ?_ _)); refine blk_put (cs := #[.int .i64 0, .bool false, .bool false]) ?_ 0 _ rfl; (with_reducible repeat (first | refine blk_drewN ?_ _ | refine blk_drew ?_ | refine blk_alloc ?_ _)); exact BK220.out⟩, ⟨by repeat (first | (with_reducible first | exact HB.out | apply below_alloc | apply pw_below_drewN | apply below_drew1 | refine below_set ?_ GE208.out | refine below_set ?_ GE209.out | refine below_set ?_ GE212.out | refine below_set ?_ GE220.out) | exact HB.out)⟩⟩
                      case rest =>
                        clear HC52
                        try clear c1
                        try clear c2
                        try clear p2
                        try clear q2
                        try clear hx2
                        try clear c3
                        try clear c4
                        try clear c5
                        try clear c6
                        try clear p6
                        try clear c8
                        try clear c11
                        try clear c12
                        try clear c12b0
                        try clear c13
                        try clear c13b0
                        try clear c14
                        try clear c14b0
                        try clear c15
                        try clear c15b0
                        try clear c16
                        try clear c18
                        try clear c19
                        try clear p21
                        try clear q21
                        try clear hx21
                        try clear c22
                        try clear c22b0
                        try clear c23
                        try clear c26
                        try clear c26b0
                        try clear c27
                        try clear c28
                        try clear c29
                        try clear c32
                        try clear c33
                        try clear c42
                        try clear c45
                        try clear c46
                        try clear c49
                        try clear c49b0
                        try clear c50
                        try clear c50b0
                        try clear c51
                        try clear c51b0
                        try clear c53
                        try clear c54
                        try clear c58
                        try clear c59
                        try clear c60
                        try clear c63
                        try clear c63b0
                        try clear c63b1
                        try clear c64
                        try clear p64
                        try clear c65
                        try clear c66
                        try clear hcz17_0
                        try clear hcz17_1
                        try clear hcz20_0
                        try clear hcz20_1
                        try clear hcz24_0
                        try clear hcz24_1
                        try clear hcz25_0
                        try clear hcz25_1
                        try clear hcz30_0
                        try clear hcz30_1
                        try clear hcz34_0
                        try clear hcz34_1
                        try clear hcz34_2
                        try clear hcz35_0
                        try clear hcz35_1
                        try clear hcz43_0
                        try clear hcz43_1
                        try clear hcz47_0
                        try clear hcz47_1
                        try clear hcz47_2
                        try clear hcz48_0
                        try clear hcz48_1
                        try clear hcz55_0
                        try clear hcz55_1
                        try clear hcz61_0
                        try clear hcz61_1
                        try clear hcz61_2
                        try clear hcz62_0
                        try clear hcz62_1
                        try clear hcz67_0
                        try clear hcz67_1
                        try clear hcz9_0
                        try clear hcz9_1
                        try clear hfz17_0
                        try clear hfz17_1
                        try clear hfz20_0
                        try clear hfz20_1
                        try clear hfz24_0
                        try clear hfz24_1
                        try clear hfz25_0
                        try clear hfz25_1
                        try clear hfz30_0
                        try clear hfz30_1
                        try clear hfz34_0
                        try clear hfz34_1
                        try clear hfz34_2
                        try clear hfz35_0
                        try clear hfz35_1
                        try clear hfz43_0
                        try clear hfz43_1
                        try clear hfz47_0
                        try clear hfz47_1
                        try clear hfz47_2
                        try clear hfz48_0
                        try clear hfz48_1
                        try clear hfz55_0
                        try clear hfz55_1
                        try clear hfz61_0
                        try clear hfz61_1
                        try clear hfz61_2
                        try clear hfz62_0
                        try clear hfz62_1
                        try clear hfz67_0
                        try clear hfz67_1
                        try clear hfz9_0
                        try clear hfz9_1
                        try clear hx219_0
                        try clear hx219_1
                        try clear hx219_2
                        try clear p2
                        try clear p219
                        try clear q219
                        obtain ⟨kq, x209000_51, HA, HJ51, HO_209001, BK208, BK209, BK212, BK220, HB⟩ := hcut
                        cases kq with
                        | zero => exact absurd HA.out (by first | (intro h_; cases h_; done) | simp [bobbinref16_Admit.j2])
                        | succ kj51 =>
                          have H := HA.out
                          clear HA
                          rw [bobbinref16_Admit.j2_eq] at H
                          by_cases c68 : ((rd_T32 x209001_2 x209000_2).f2) = true
                          · rw [if_pos c68] at H
                            have c68b0 : ((rd_T32 x209001_2 x209000_2).f2) = true := c68
                            clear c68
                            have H' := Aside0.mk H
                            clear H
                            have hnb69 := NB220_208.out
                            have hnc69 := NB208_220.out
                            have hnb70 := NB220_209.out
                            have hnc70 := NB209_220.out
                            have hnb71 := NB220_212.out
                            have hnc71 := NB212_220.out
                            have hcz72_0 : wc.cell? ⟨gb220, 0, none⟩ = some (.int .i64 ((rd_T32 x209001_2 x209000_2).f0)) := (blk_cell BK220.out 0).trans rfl
                            have hcz72_1 : wc.cell? ⟨gb220, 1, none⟩ = some (.bool ((rd_T32 x209001_2 x209000_2).f1)) := (blk_cell BK220.out 1).trans rfl
                            have hcz72_2 : wc.cell? ⟨gb220, 2, none⟩ = some (.bool ((rd_T32 x209001_2 x209000_2).f2)) := (blk_cell BK220.out 2).trans rfl
                            have hfz72_0 := blk_frozen BK220.out 0
                            have hfz72_1 := blk_frozen BK220.out 1
                            have hfz72_2 := blk_frozen BK220.out 2
                            go_wp2
                            go_roundg kj51
                            case measure => have := HJ4.out; have := HK2.out; have := HJ51.out; omega
                            case rel => exact ⟨(wrap64 (x12_2 + 1)), (x209000_51), (x209001_2), (x210000_2), (.slice (some ad219) x209001_2.length co56), (by first | rfl | (simp; done) | (simp [*]; done)), H', ⟨by have := HJ4.out; have := HK2.out; have := HJ51.out; omega⟩, ⟨by (with_reducible repeat (first | apply Kd.V_alloc | apply Kd.V_drewN | apply Kd.V_drew)); exact Kd.V_mono HO_209001.out (fun _ hk => ⟨hk.1, ⟨hk.2.1, ⟨hk.2.2.1, hk.2.2.2.1⟩⟩⟩)⟩, ⟨by (with_reducible repeat (first | refine blk_drewN ?_ _ | refine blk_drew ?_ | refine blk_alloc ?_ _)); exact BK208.out⟩, ⟨by (with_reducible repeat (first | refine blk_drewN ?_ _ | refine blk_drew ?_ | refine blk_alloc ?_ _)); exact BK209.out⟩, ⟨by (with_reducible repeat (first | refine blk_drewN ?_ _ | refine blk_drew ?_ | refine blk_alloc ?_ _)); exact BK212.out⟩, ⟨by repeat (first | (with_reducible first | exact HB.out | apply below_alloc | apply pw_below_drewN | apply below_drew1 | refine below_set ?_ GE208.out | refine below_set ?_ GE209.out | refine below_set ?_ GE212.out | refine below_set ?_ GE220.out) | exact HB.out)⟩⟩
                          · rw [if_neg c68] at H
                            have c68b0 : ((rd_T32 x209001_2 x209000_2).f2) = false := by simpa using c68
                            clear c68
                            by_cases c73 : ((rd_T32 x209001_2 x209000_2).f1) = true
                            · rw [if_pos c73] at H
                              have c73b0 : ((rd_T32 x209001_2 x209000_2).f1) = true := c73
                              clear c73
                              replace H := Option.bind_eq_some_iff.mp H
                              obtain ⟨⟨t221, t222⟩, A740, H⟩ := H
                              replace H : (bobbinref16_Admit.l0 kj51 (wrap64 (x12_2 + 1)) t221 t222 a2 true false) = some (r1, r2, r3, r4) := H
                              have A74 := Aside0.mk A740
                              clear A740
                              have H' := Aside0.mk H
                              clear H
                              have hnb75 := NB220_208.out
                              have hnc75 := NB208_220.out
                              have hnb76 := NB220_209.out
                              have hnc76 := NB209_220.out
                              have hnb77 := NB220_212.out
                              have hnc77 := NB212_220.out
                              have hcz78_0 : wc.cell? ⟨gb220, 0, none⟩ = some (.int .i64 ((rd_T32 x209001_2 x209000_2).f0)) := (blk_cell BK220.out 0).trans rfl
                              have hcz78_1 : wc.cell? ⟨gb220, 1, none⟩ = some (.bool ((rd_T32 x209001_2 x209000_2).f1)) := (blk_cell BK220.out 1).trans rfl
                              have hcz78_2 : wc.cell? ⟨gb220, 2, none⟩ = some (.bool ((rd_T32 x209001_2 x209000_2).f2)) := (blk_cell BK220.out 2).trans rfl
                              have hfz78_0 := blk_frozen BK220.out 0
                              have hfz78_1 := blk_frozen BK220.out 1
                              have hfz78_2 := blk_frozen BK220.out 2
                              have hnb79 := NB208_209.out
                              have hnc79 := NB209_208.out
                              have hnb80 := NB208_212.out
                              have hnc80 := NB212_208.out
                              have hcz81_0 : wc.cell? ⟨gb208, 0, none⟩ = some (.int .i64 x209000_51) := (blk_cell BK208.out 0).trans rfl
                              have hcz81_1 : wc.cell? ⟨gb208, 1, none⟩ = some (.slice (some ad219) x209001_2.length co56) := (blk_cell BK208.out 1).trans rfl
                              have hfz81_0 := blk_frozen BK208.out 0
                              have hfz81_1 := blk_frozen BK208.out 1
                              have A74_ := A74.out
                              rw [c68b0] at A74_
                              go_wp2_with fail
                              have hV := Kd.V_far (p := ⟨gb220, 1, none⟩) HO_209001.out (fun k hk => hk.2.2.2.2) (.bool false)
                              have g208 := blk_far BK208.out (p := ⟨gb220, 1, none⟩) NB208_220.out (.bool false)
                              have g209 := blk_far BK209.out (p := ⟨gb220, 1, none⟩) NB209_220.out (.bool false)
                              have g212 := blk_far BK212.out (p := ⟨gb220, 1, none⟩) NB212_220.out (.bool false)
                              have gHB := below_set (j := 1) (v := .bool false) HB.out GE220.out
                              generalize wc.setCell ⟨gb220, 1, none⟩ (.bool false) = wz at *
                              have l208 := blk_lt g208
                              have l209 := blk_lt g209
                              have l212 := blk_lt g212
                              refine (bobbinref16_put.calls x209000_51 _ _ x209001_2 x209000_2 ((rd_T32 x209001_2 x209000_2).f0) false false t221 t222 wz (Kd.V_reads' hV).2.2 (Kd.V_reads' hV).2.1 A74_).mono ?_
                              rintro e w82 ⟨v223, rfl, ho0, hb⟩
                              obtain ⟨Ao84, co84, rfl⟩ := Kd.R_slice ho0
                              have k208 := Aside0.mk (blk_below g208 hb)
                              have k209 := Aside0.mk (blk_below g209 hb)
                              have k212 := Aside0.mk (blk_below g212 hb)
                              have kHB := Aside0.mk (gHB.trans (hb.mono gHB.size))
                              have hR := Aside0.mk (Kd.R_far (p := ⟨gb208, 1, none⟩) (Kd.R_far (p := ⟨gb208, 0, none⟩) (Kd.R_newM (w := wz) (M := fun k => wz.heap.size ≤ k) ho0 (Nat.le_refl _) (fun _ hk => hk)) (fun k hk => by have : wz.heap.size ≤ k := hk.1; show k ≠ gb208; omega) (.int .i64 t221)) (fun k hk => by have : wz.heap.size ≤ k := hk.1; show k ≠ gb208; omega) (.slice Ao84 t222.length co84))
                              have hzw : Aside0 (w.heap.size ≤ wz.heap.size) := ⟨gHB.size⟩
                              replace l208 := Aside0.mk l208
                              replace l209 := Aside0.mk l209
                              replace l212 := Aside0.mk l212
                              clear hV g208 g209 g212 gHB hb ho0
                              obtain ⟨m0_, m1_, m2_, m3_⟩ := two_cells k208.out
                              go_wp2_with fail
                              go_roundg kj51
                              case measure => have := HJ4.out; have := HK2.out; have := HJ51.out; omega
                              case rel => exact ⟨(wrap64 (x12_2 + 1)), t221, t222, x210000_2, (.slice Ao84 t222.length co84), (by first | rfl | (simp; done) | (simp [*]; done)), H', ⟨by have := HJ4.out; have := HK2.out; have := HJ51.out; omega⟩, ⟨Kd.V_mono (Kd.R_V hR.out) (fun k hk => by have h1 : wz.heap.size ≤ k := hk.1; have := l208.out; have := l209.out; have := l212.out; have := hzw.out; exact ⟨.inr (by omega), by omega, by omega, by omega⟩)⟩, ⟨bb_set1 (bb_set0 k208.out _) _⟩, ⟨blk_far (blk_far k209.out NB209_208.out _) NB209_208.out _⟩, ⟨blk_far (blk_far k212.out NB212_208.out _) NB212_208.out _⟩, ⟨below_set (below_set kHB.out GE208.out) GE208.out⟩⟩
                            · rw [if_neg c73] at H
                              have c73b0 : ((rd_T32 x209001_2 x209000_2).f1) = false := by simpa using c73
                              clear c73
                              replace H := Option.bind_eq_some_iff.mp H
                              obtain ⟨⟨t225, t226⟩, A850, H⟩ := H
                              replace H : (some (t225, t226, ((rd_T32 x209001_2 x209000_2).f0), 0)) = some (r1, r2, r3, r4) := H
                              have A85 := Aside0.mk A850
                              clear A850
                              simp only [Option.some.injEq, Prod.mk.injEq] at H
                              obtain ⟨rfl, rfl, rfl, rfl⟩ := H
                              have hnb86 := NB220_208.out
                              have hnc86 := NB208_220.out
                              have hnb87 := NB220_209.out
                              have hnc87 := NB209_220.out
                              have hnb88 := NB220_212.out
                              have hnc88 := NB212_220.out
                              have hcz89_0 : wc.cell? ⟨gb220, 0, none⟩ = some (.int .i64 ((rd_T32 x209001_2 x209000_2).f0)) := (blk_cell BK220.out 0).trans rfl
                              have hcz89_1 : wc.cell? ⟨gb220, 1, none⟩ = some (.bool ((rd_T32 x209001_2 x209000_2).f1)) := (blk_cell BK220.out 1).trans rfl
                              have hcz89_2 : wc.cell? ⟨gb220, 2, none⟩ = some (.bool ((rd_T32 x209001_2 x209000_2).f2)) := (blk_cell BK220.out 2).trans rfl
                              have hfz89_0 := blk_frozen BK220.out 0
                              have hfz89_1 := blk_frozen BK220.out 1
                              have hfz89_2 := blk_frozen BK220.out 2
                              try go_wp2
                              have n0_ := Aside0.mk (Kd.V_drew HO_209001.out)
                              have n1_ := Aside0.mk (blk_drew BK208.out)
                              have n2_ := Aside0.mk (blk_drew BK209.out)
                              have n3_ := Aside0.mk (blk_drew BK212.out)
                              have n4_ := Aside0.mk (blk_drew BK220.out)
                              have n5_ := Aside0.mk (below_drew1 HB.out)
                              clear HO_209001
                              clear BK208
                              clear BK209
                              clear BK212
                              clear BK220
                              clear HB
                              have HO_209001 := n0_
                              have BK208 := n1_
                              have BK209 := n2_
                              have BK212 := n3_
                              have BK220 := n4_
                              have HB := n5_
                              clear n0_ n1_ n2_ n3_ n4_ n5_
                              refine start_ (n := 9) (S := fun w' => w'.cell? ⟨gb208, 0, none⟩ = some (.int .i64 x209000_51) ∧ w'.cell? ⟨gb208, 1, none⟩ = some (.slice (some ad219) x209001_2.length co56) ∧ w'.cell? ⟨gb212, 0, none⟩ = some (.int .i64 a2) ∧ w'.cell? ⟨gb212, 1, none⟩ = some (.bool true) ∧ w'.cell? ⟨gb212, 2, none⟩ = some (.bool false) ∧ w'.cell? ⟨gb220, 0, none⟩ = some (.int .i64 ((rd_T32 x209001_2 x209000_2).f0)) ∧ w'.cell? ⟨gb220, 1, none⟩ = some (.bool ((rd_T32 x209001_2 x209000_2).f1)) ∧ w'.cell? ⟨gb220, 2, none⟩ = some (.bool ((rd_T32 x209001_2 x209000_2).f2))) (ds := []) #[false, false, false, false, false, false, false, false, false] (by kernel_rfl) rfl rfl ⟨(blk_cell BK208.out 0).trans rfl, (blk_cell BK208.out 1).trans rfl, (blk_cell BK212.out 0).trans rfl, (blk_cell BK212.out 1).trans rfl, (blk_cell BK212.out 2).trans rfl, (blk_cell BK220.out 0).trans rfl, (blk_cell BK220.out 1).trans rfl, (blk_cell BK220.out 2).trans rfl⟩ (fun hHeld => ?_); refine with_tabW bobbinref16_Admit.tab20 bobbinref16_Admit.bits20 (fun HT_ HW_ => ?_)
                              generalize wc.drew = w90 at HO_209001 BK208 BK209 BK212 BK220 HB hHeld ⊢
                              refine pure_ (i := 1) (N := some 97) (v := ?_) (a' := ?_) #[false, true, false, false, false, false, false, false, false] rfl rfl (any_of HT_.out (by kernel_rfl)) (fun _ _ _ h => h) (Or.inl ⟨by rfl, ?_⟩) ?_ ?_
                              rotate_left
                              · intro w'
                                go_simp
                                with_reducible rfl
                              rotate_left
                              · simp only [Act.put, List.setIfInBounds_toArray, List.set_cons_zero, List.set_cons_succ, i64_w, i32_w]
                                rfl
                              refine pure_ (i := 4) (N := some 100) (v := ?_) (a' := ?_) #[false, true, false, false, true, false, false, false, false] rfl rfl (any_of HT_.out (by kernel_rfl)) (fun _ _ _ h => h) (Or.inl ⟨by rfl, ?_⟩) ?_ ?_
                              rotate_left
                              · intro w'
                                go_simp
                                with_reducible rfl
                              rotate_left
                              · simp only [Act.put, List.setIfInBounds_toArray, List.set_cons_zero, List.set_cons_succ, i64_w, i32_w]
                                rfl
                              refine take_ (i := 0) (N := some 96) (v := ?_) (a' := ?_) #[true, true, false, false, true, false, false, false, false] rfl rfl (take_ofW HT_.out HW_.out (by kernel_rfl)) (fun _ _ _ h => h) (Or.inl ⟨by rfl, ?_⟩) hHeld ?_ ?_
                              rotate_left
                              · rintro w' ⟨s0, s1, s2, s3, s4, s5, s6, s7⟩
                                go_simp
                                with_reducible rfl
                              rotate_left
                              · simp only [Act.put, List.setIfInBounds_toArray, List.set_cons_zero, List.set_cons_succ, i64_w, i32_w]
                                rfl
                              refine take_ (i := 2) (N := some 98) (v := ?_) (a' := ?_) #[true, true, true, false, true, false, false, false, false] rfl rfl (take_ofW HT_.out HW_.out (by kernel_rfl)) (fun _ _ _ h => h) (Or.inl ⟨by rfl, ?_⟩) hHeld ?_ ?_
                              rotate_left
                              · rintro w' ⟨s0, s1, s2, s3, s4, s5, s6, s7⟩
                                go_simp
                                with_reducible rfl
                              rotate_left
                              · simp only [Act.put, List.setIfInBounds_toArray, List.set_cons_zero, List.set_cons_succ, i64_w, i32_w]
                                rfl
                              refine take_ (i := 5) (N := some 101) (v := ?_) (a' := ?_) #[true, true, true, false, true, true, false, false, false] rfl rfl (take_ofW HT_.out HW_.out (by kernel_rfl)) (fun _ _ _ h => h) (Or.inl ⟨by rfl, ?_⟩) hHeld ?_ ?_
                              rotate_left
                              · rintro w' ⟨s0, s1, s2, s3, s4, s5, s6, s7⟩
                                go_simp
                                with_reducible rfl
                              rotate_left
                              · simp only [Act.put, List.setIfInBounds_toArray, List.set_cons_zero, List.set_cons_succ, i64_w, i32_w]
                                rfl
                              refine one_ (i := 3) (N := some 99) #[true, true, true, true, true, true, false, false, false] rfl rfl (one_of HT_.out (by kernel_rfl)) (by decide) (fun K hK => ?_)
                              refine goes_ Try.func27 (by kernel_rfl) rfl #[.agg #[.int .i64 x209000_51, .slice (some ad219) x209001_2.length co56], .int .i64 x209000_2, .agg #[.int .i64 a2, .bool true, .bool false]] (by rfl) rfl rfl (by (try simp only [List.map_toArray, List.map_cons, List.map_nil]); first | done | rfl | (simp only [List.length_drop, List.length_take]; rfl)) ?_
                              with_reducible refine (bobbinref16_put.calls x209000_51 _ _ x209001_2 x209000_2 a2 true false t225 t226 _ ?side1 ?side2 A85.out).mono ?_
                              (case side1 => repeat (first | exact (Kd.V_reads' HO_209001.out).2.2 | (with_reducible refine Kd.C_alloc ?_ _) | (with_reducible refine Kd.C_drewN ?_ _) | (with_reducible refine Kd.C_drew ?_)))
                              (case side2 => exact (Kd.V_reads' HO_209001.out).2.1)
                              rintro e w91 ⟨v227, rfl, ho0, hb⟩
                              refine ⟨_, rfl, ?_⟩
                              have n0_ := Aside0.mk (Kd.V_elder' (by (with_reducible repeat (first | apply Kd.V_alloc | apply Kd.V_drewN | apply Kd.V_drew)); exact HO_209001.out) (Kd.R_base ho0) hb)
                              have n1_ := Aside0.mk (Kd.R_lower (Kd.R_newB (Kd.R_newB (Kd.R_newM (M := fun k_ => (w.heap.size ≤ k_)) ho0 (below_size (by repeat (first | (with_reducible first | exact HB.out | apply below_alloc | apply pw_below_drewN | apply below_drew1 | refine below_set ?_ GE208.out | refine below_set ?_ GE209.out | refine below_set ?_ GE212.out | refine below_set ?_ GE220.out) | exact HB.out))) (fun k_ h_ => h_)) (g := gb212) (o := .cells #[.int .i64 a2, .bool true, .bool false] 32 (0, 0)) (by (with_reducible repeat (first | refine blk_drewN ?_ _ | refine blk_drew ?_ | refine blk_alloc ?_ _)); exact BK212.out)) (g := gb220) (o := .cells #[.int .i64 ((rd_T32 x209001_2 x209000_2).f0), .bool ((rd_T32 x209001_2 x209000_2).f1), .bool ((rd_T32 x209001_2 x209000_2).f2)] 32 (0, 0)) (by (with_reducible repeat (first | refine blk_drewN ?_ _ | refine blk_drew ?_ | refine blk_alloc ?_ _)); exact BK220.out)) (below_size (by repeat (first | (with_reducible first | exact HB.out | apply below_alloc | apply pw_below_drewN | apply below_drew1 | refine below_set ?_ GE208.out | refine below_set ?_ GE209.out | refine below_set ?_ GE212.out | refine below_set ?_ GE220.out) | exact HB.out))))
                              have n2_ := Aside0.mk (blk_below (g := gb208) (o := .cells #[.int .i64 x209000_51, .slice (some ad219) x209001_2.length co56] 24 (0, 0)) (by (with_reducible repeat (first | refine blk_drewN ?_ _ | refine blk_drew ?_ | refine blk_alloc ?_ _)); exact BK208.out) hb)
                              have n3_ := Aside0.mk (blk_below (g := gb209) (o := .cells #[.int .i64 x210000_2, .slice none 0 0] 24 (0, 0)) (by (with_reducible repeat (first | refine blk_drewN ?_ _ | refine blk_drew ?_ | refine blk_alloc ?_ _)); exact BK209.out) hb)
                              have n4_ := Aside0.mk (blk_below (g := gb212) (o := .cells #[.int .i64 a2, .bool true, .bool false] 32 (0, 0)) (by (with_reducible repeat (first | refine blk_drewN ?_ _ | refine blk_drew ?_ | refine blk_alloc ?_ _)); exact BK212.out) hb)
                              have n5_ := Aside0.mk (blk_below (g := gb220) (o := .cells #[.int .i64 ((rd_T32 x209001_2 x209000_2).f0), .bool ((rd_T32 x209001_2 x209000_2).f1), .bool ((rd_T32 x209001_2 x209000_2).f2)] 32 (0, 0)) (by (with_reducible repeat (first | refine blk_drewN ?_ _ | refine blk_drew ?_ | refine blk_alloc ?_ _)); exact BK220.out) hb)
                              have n6_ := Aside0.mk (below_step (by repeat (first | (with_reducible first | exact HB.out | apply below_alloc | apply pw_below_drewN | apply below_drew1 | refine below_set ?_ GE208.out | refine below_set ?_ GE209.out | refine below_set ?_ GE212.out | refine below_set ?_ GE220.out) | exact HB.out)) hb)
                              clear HO_209001
                              clear BK208
                              clear BK209
                              clear BK212
                              clear BK220
                              clear HB
                              have HO_209001 := n0_
                              have HO228 := n1_
                              have BK208 := n2_
                              have BK209 := n3_
                              have BK212 := n4_
                              have BK220 := n5_
                              have HB := n6_
                              clear n0_ n1_ n2_ n3_ n4_ n5_ n6_
                              (try clear hb)
                              (try clear hb2)
                              (try clear hk)
                              (try clear hi)
                              (try clear ho0)
                              obtain ⟨Ao93, co93, eo93⟩ := Kd.R_slice HO228.out
                              (first | subst eo93 | (injection eo93 with f1_ f2_ f3_; have f4_ := f1_.symm; have f5_ := f3_.symm; clear f1_ f2_ f3_; subst f4_; subst f5_))
                              refine hK.out _ _ ⟨(blk_cell BK208.out 0).trans rfl, (blk_cell BK208.out 1).trans rfl, (blk_cell BK212.out 0).trans rfl, (blk_cell BK212.out 1).trans rfl, (blk_cell BK212.out 2).trans rfl, (blk_cell BK220.out 0).trans rfl, (blk_cell BK220.out 1).trans rfl, (blk_cell BK220.out 2).trans rfl⟩ (fun hHeld => ?_)
                              clear hK K
                              refine norm_ (a' := ?_) ?_ ?_
                              rotate_left
                              · show Act.put _ (some 99) _ = _
                                simp only [Act.put, List.setIfInBounds_toArray, List.set_cons_zero, List.set_cons_succ, i64_w, i32_w]
                                rfl
                              refine one_ (i := 6) (N := none) #[true, true, true, true, true, true, true, false, false] rfl rfl (one_of HT_.out (by kernel_rfl)) (by decide) (fun K hK => ?_)
                              have hs92 : w91.cell? ⟨gb209, 0, none⟩ = some (.int .i64 x210000_2) := (blk_cell BK209.out 0).trans rfl
                              have hfs92 := blk_frozen BK209.out 0
                              have hns92_0 := NB208_209.out
                              have hns92_2 := NB212_209.out
                              have hns92_3 := NB220_209.out
                              have hms92_0 := NB209_208.out
                              have hms92_2 := NB209_212.out
                              have hms92_3 := NB209_220.out
                              have hs94 : w91.cell? ⟨gb209, 1, none⟩ = some (.slice none 0 0) := (blk_cell BK209.out 1).trans rfl
                              have hfs94 := blk_frozen BK209.out 1
                              have hns94_0 := NB208_209.out
                              have hns94_2 := NB212_209.out
                              have hns94_3 := NB220_209.out
                              have hms94_0 := NB209_208.out
                              have hms94_2 := NB209_212.out
                              have hms94_3 := NB209_220.out
                              refine skip_ (w1 := ?_) (by rfl) rfl ?_ ?_
                              rotate_left
                              · go_simp
                                rfl
                              refine hK.out _ _ ⟨((cell_far (p := ⟨gb209, _, none⟩) NB208_209.out _).trans (((cell_far (p := ⟨gb209, _, none⟩) NB208_209.out _).trans (hHeld.1)))), ((cell_far (p := ⟨gb209, _, none⟩) NB208_209.out _).trans (((cell_far (p := ⟨gb209, _, none⟩) NB208_209.out _).trans (hHeld.2.1)))), ((cell_far (p := ⟨gb209, _, none⟩) NB212_209.out _).trans (((cell_far (p := ⟨gb209, _, none⟩) NB212_209.out _).trans (hHeld.2.2.1)))), ((cell_far (p := ⟨gb209, _, none⟩) NB212_209.out _).trans (((cell_far (p := ⟨gb209, _, none⟩) NB212_209.out _).trans (hHeld.2.2.2.1)))), ((cell_far (p := ⟨gb209, _, none⟩) NB212_209.out _).trans (((cell_far (p := ⟨gb209, _, none⟩) NB212_209.out _).trans (hHeld.2.2.2.2.1)))), ((cell_far (p := ⟨gb209, _, none⟩) NB220_209.out _).trans (((cell_far (p := ⟨gb209, _, none⟩) NB220_209.out _).trans (hHeld.2.2.2.2.2.1)))), ((cell_far (p := ⟨gb209, _, none⟩) NB220_209.out _).trans (((cell_far (p := ⟨gb209, _, none⟩) NB220_209.out _).trans (hHeld.2.2.2.2.2.2.1)))), ((cell_far (p := ⟨gb209, _, none⟩) NB220_209.out _).trans (((cell_far (p := ⟨gb209, _, none⟩) NB220_209.out _).trans (hHeld.2.2.2.2.2.2.2))))⟩ (fun hHeld => ?_)
                              clear hK K
                              refine pure_ (i := 7) (N := some 7) (v := ?_) (a' := ?_) #[true, true, true, true, true, true, true, true, false] rfl rfl (any_of HT_.out (by kernel_rfl)) (fun _ _ _ h => h) (Or.inl ⟨by rfl, ?_⟩) ?_ ?_
                              rotate_left
                              · intro w'
                                go_simp
                                with_reducible rfl
                              rotate_left
                              · simp only [Act.put, List.setIfInBounds_toArray, List.set_cons_zero, List.set_cons_succ, i64_w, i32_w]
                                rfl
                              refine pure_ (i := 8) (N := some 8) (v := ?_) (a' := ?_) #[true, true, true, true, true, true, true, true, true] rfl rfl (any_of HT_.out (by kernel_rfl)) (fun _ _ _ h => h) (Or.inl ⟨by rfl, ?_⟩) ?_ ?_
                              rotate_left
                              · intro w'
                                go_simp
                                with_reducible rfl
                              rotate_left
                              · simp only [Act.put, List.setIfInBounds_toArray, List.set_cons_zero, List.set_cons_succ, i64_w, i32_w]
                                rfl
                              refine done_ (done_of HT_.out (by kernel_rfl)) ?_
                              try go_wp2
                              refine bodyPost_ret (results_ctt rfl _ _ gb209 24 #[.int .i64 t225, .slice Ao93 t226.length co93] (0, 0) _ rfl (by (with_reducible repeat (first | refine blk_drewN ?_ _ | refine blk_drew ?_ | refine blk_alloc ?_ _)); refine blk_put (cs := #[.int .i64 t225, .slice none 0 0]) ?_ 1 _ rfl; (with_reducible repeat (first | refine blk_drewN ?_ _ | refine blk_drew ?_ | refine blk_alloc ?_ _)); refine blk_put (cs := #[.int .i64 x210000_2, .slice none 0 0]) ?_ 0 _ rfl; (with_reducible repeat (first | refine blk_drewN ?_ _ | refine blk_drew ?_ | refine blk_alloc ?_ _)); exact BK209.out) Try.underlying24 rfl (by kernel_rfl)) rfl ?_
                              exact ⟨_, by first | rfl | (simp [errW_none, errW_some] <;> rfl) | (simp [*, errW_none, errW_some] <;> rfl), by (with_reducible repeat (first | apply Kd.R_alloc | apply Kd.R_drewN | apply Kd.R_drew)); exact Kd.R_mono (Kd.R_far (p := ⟨gb209, 1, none⟩) (Kd.R_far (p := ⟨gb209, 0, none⟩) (Kd.R_types HO228.out BK209.out (by decide)) (fun _ hk => hk.2) (.int .i64 t225)) (fun _ hk => hk.2) (.slice Ao93 t226.length co93)) (fun _ hk => hk.1.1.1.1), by repeat (first | (with_reducible first | exact HB.out | apply below_alloc | apply pw_below_drewN | apply below_drew1 | refine below_set ?_ GE208.out | refine below_set ?_ GE209.out | refine below_set ?_ GE212.out | refine below_set ?_ GE220.out) | exact HB.out)⟩
                    · rw [if_neg c51] at H
                      exact absurd H (by simp)
                  · rw [if_neg c50] at H
                    exact absurd H (by simp)
                · rw [if_neg c49] at H
                  have c49b0 : decide (x12_2 < (wrap64 (2 * (x209001_2.length : Int)))) = false := decide_eq_false c49
                  clear c49
                  simp only [Option.some.injEq, Prod.mk.injEq] at H
                  obtain ⟨rfl, rfl, rfl, rfl⟩ := H
                  have hnb95 := NB208_209.out
                  have hnc95 := NB209_208.out
                  have hnb96 := NB208_212.out
                  have hnc96 := NB212_208.out
                  have hcz97_0 : wr.cell? ⟨gb208, 0, none⟩ = some (.int .i64 x209000_2) := (blk_cell BK208.out 0).trans rfl
                  have hcz97_1 : wr.cell? ⟨gb208, 1, none⟩ = some (u209001) := (blk_cell BK208.out 1).trans rfl
                  have hfz97_0 := blk_frozen BK208.out 0
                  have hfz97_1 := blk_frozen BK208.out 1
                  obtain ⟨Ao98, co98, eo98⟩ := Kd.V_slice HO_209001.out
                  subst eo98
                  have hnb99 := NB209_212.out
                  have hnc99 := NB212_209.out
                  have hcz100_0 : wr.cell? ⟨gb209, 0, none⟩ = some (.int .i64 x210000_2) := (blk_cell BK209.out 0).trans rfl
                  have hcz100_1 : wr.cell? ⟨gb209, 1, none⟩ = some (.slice none 0 0) := (blk_cell BK209.out 1).trans rfl
                  have hfz100_0 := blk_frozen BK209.out 0
                  have hfz100_1 := blk_frozen BK209.out 1
                  go_wp2
                  refine bodyPost_ret (results_ctt rfl _ _ gb209 24 #[.int .i64 0, .slice none 0 0] (0, 0) _ rfl (by (with_reducible repeat (first | refine blk_drewN ?_ _ | refine blk_drew ?_ | refine blk_alloc ?_ _)); refine blk_put (cs := #[.int .i64 0, .slice none 0 0]) ?_ 1 _ rfl; (with_reducible repeat (first | refine blk_drewN ?_ _ | refine blk_drew ?_ | refine blk_alloc ?_ _)); refine blk_put (cs := #[.int .i64 x210000_2, .slice none 0 0]) ?_ 0 _ rfl; (with_reducible repeat (first | refine blk_drewN ?_ _ | refine blk_drew ?_ | refine blk_alloc ?_ _)); exact BK209.out) Try.underlying24 rfl (by kernel_rfl)) rfl ?_
                  exact ⟨_, by first | rfl | (simp [errW_none, errW_some] <;> rfl) | (simp [*, errW_none, errW_some] <;> rfl), by first | exact Kd.R_nil _ _ _ _ _ | exact Kd.N_nil _ _ _ _ _ | exact Kd.V_nil _ _ _ _ _ | exact Kd.Q_nil _ _ _ _ _ | exact Kd.S_nil _ _ _ _ _, by repeat (first | (with_reducible first | exact HB.out | apply below_alloc | apply pw_below_drewN | apply below_drew1 | refine below_set ?_ GE208.out | refine below_set ?_ GE209.out | refine below_set ?_ GE212.out) | exact HB.out)⟩

end Go.Proofs.Ytoklljioloekmaa.Print
