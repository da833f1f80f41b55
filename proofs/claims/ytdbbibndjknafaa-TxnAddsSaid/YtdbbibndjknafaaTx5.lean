/- law14's awake: the walk. -/
import Derived.Test.YtdbbibndjknafaaTx5a
import Derived.Deep.RegionHeld3
namespace Go.Proofs.Ytdbbibndjknafaa.Print
open Go.RowKit Go.Proofs.YtdbbibndjknafaaW.PrintWords Go.Proofs.YtdbbibndjknafaaW.PrintLast Go.Proofs.YtdbbibndjknafaaW.PrintMore
set_option linter.unusedVariables false
set_option linter.unusedSimpArgs false
set_option maxHeartbeats 3000000 in
set_option maxRecDepth 100000 in
theorem awake_any (w : World) : Calls Try.prog 10 #[] w fun e w' => e = .returned (.bool true) ∧ Below w.heap.size w w' := by
  go_enter Try.func10, Try.ntmps10
  go_wp2_with fail
  refine (new1 w).mono ?_
  rintro e w1 ⟨B4, d4, B5, d5, rfl, hT1, hb1⟩
  have hX : Aside0 (BX w (w1.alloc (.cells #[.int .i64 wt1.f0, .int .i64 wt1.f1, .int .i64 wt1.f2, .int .i64 wt1.f3, .slice B4 wt1.f4.length d4, .slice B5 wt1.f5.length d5] 25)) w1.heap.size wt1 B4 d4 B5 d5) := ⟨⟨below_alloc hb1 _, heap_alloc_new _ _, (hT1.bound.mono (fun k hk => by have := hk.2; omega)).below (below_alloc (Below.refl _ _) _), hb1.size⟩⟩
  clear hT1 hb1
  go_wp2_with fail
  generalize hbn : w1.heap.size = b at *
  replace hbn := Aside0.mk hbn
  generalize w1.alloc _ = w2 at *
  obtain ⟨y0, y1, y2, y3, y4, y5, x0, x1, x2, x3, x4, x5⟩ := six_cells hX.out.box
  go_cut [3] from 20 to 26 (fun v3 wc => ∃ E4 e4 E5 e5, v3 = .int .i64 0 ∧ Aside0 (BX w wc b wt2 E4 e4 E5 e5))
  case first =>
    go_region_with
      (first
        | (go_at_call 30; refine (val_any 2 [0, 0] w2.drew (by kernel_rfl)).mono ?_; rintro e w5 ⟨A5, c5, rfl, hl5, hF5, hb5⟩; have hX5 := Aside0.mk (hX.out.below ((below_drew (Below.refl _ _)).trans hb5)); obtain ⟨z0, z1, z2, z3, z4, z5, _⟩ := six_cells hX5.out.box; replace hF5 := Aside0.mk hF5; replace hl5 := Aside0.mk hl5; clear hb5)
        | (go_at_call 12; refine (note12 b B4 d4 B5 d5 A5 c5 w5 hX5.out.tf hl5.out hF5.out).mono ?_; rintro e w6 ⟨E4, e4, E5, e5, rfl, hT6, hb6⟩; obtain ⟨o0, o1, o2, o3, o4, o5, f0, f1, f2, f3, f4, f5⟩ := six_cells (hX5.out.below hb6).box; have hX6 := Aside0.mk (hX5.out.put hb6 hT6); clear hT6 hb6))
    all_goals
      (try go_wp2_with fail)
      go_meet
      case rel => exact ⟨E4, e4, E5, e5, rfl, hX6⟩
  case rest =>
    obtain ⟨E4, e4, E5, e5, rfl, hX2⟩ := hcut
    clear y0 y1 y2 y3 y4 y5 x0 x1 x2 x3 x4 x5 hX
    obtain ⟨y0, y1, y2, y3, y4, y5, x0, x1, x2, x3, x4, x5⟩ := six_cells hX2.out.box
    go_wp2_with fail
    refine (save23 E4 e4 E5 e5 wc hX2.out.tf).mono ?_
    rintro e w3 ⟨G4, g4, G5, g5, rfl, hT3, hb3⟩
    have hX3 := Aside0.mk (hX2.out.put hb3 hT3)
    obtain ⟨o0, o1, o2, o3, o4, o5, f0, f1, f2, f3, f4, f5⟩ := six_cells (hX2.out.below hb3).box
    clear hT3 hb3 y0 y1 y2 y3 y4 y5 x0 x1 x2 x3 x4 x5 hX2
    go_wp2_with fail
    generalize ((((((w3.setCell ⟨b, 0, none⟩ (.int .i64 wt3.f0)).setCell ⟨b, 1, none⟩ (.int .i64 wt3.f1)).setCell ⟨b, 2, none⟩ (.int .i64 wt3.f2)).setCell ⟨b, 3, none⟩ (.int .i64 wt3.f3)).setCell ⟨b, 4, none⟩ (.slice G4 wt3.f4.length g4)).setCell ⟨b, 5, none⟩ (.slice G5 wt3.f5.length g5)) = w4 at *
    clear o0 o1 o2 o3 o4 o5 f0 f1 f2 f3 f4 f5
    obtain ⟨y0, y1, y2, y3, y4, y5, x0, x1, x2, x3, x4, x5⟩ := six_cells hX3.out.box
    go_cut [6] from 33 to 39 (fun v6 wd => ∃ E4 e4 E5 e5, v6 = .int .i64 0 ∧ Aside0 (BX w wd b wt4 E4 e4 E5 e5))
    case first =>
      go_region_with
        (first
          | (go_at_call 30; refine (val_any 10 [0, 0, 0, 0, 0, 0, 0, 0, 0, 0] w4.drew (by kernel_rfl)).mono ?_; rintro e w5 ⟨A5, c5, rfl, hl5, hF5, hb5⟩; have hX5 := Aside0.mk (hX3.out.below ((below_drew (Below.refl _ _)).trans hb5)); obtain ⟨z0, z1, z2, z3, z4, z5, _⟩ := six_cells hX5.out.box; replace hF5 := Aside0.mk hF5; replace hl5 := Aside0.mk hl5; clear hb5)
          | (go_at_call 12; refine (note34 G4 g4 G5 g5 A5 c5 w5 hX5.out.tf hl5.out hF5.out).mono ?_; rintro e w6 ⟨H4, h4, H5, h5, rfl, hT6, hb6⟩; obtain ⟨o0, o1, o2, o3, o4, o5, f0, f1, f2, f3, f4, f5⟩ := six_cells (hX5.out.below hb6).box; have hX6 := Aside0.mk (hX5.out.put hb6 hT6); clear hT6 hb6))
      all_goals
        (try go_wp2_with fail)
        go_meet
        case rel => exact ⟨H4, h4, H5, h5, rfl, hX6⟩
    case rest =>
      obtain ⟨H4, h4, H5, h5, rfl, hX4⟩ := hcut
      clear y0 y1 y2 y3 y4 y5 x0 x1 x2 x3 x4 x5 hX3
      obtain ⟨y0, y1, y2, y3, y4, y5, x0, x1, x2, x3, x4, x5⟩ := six_cells hX4.out.box
      go_wp2_with fail
      refine (note45 H4 h4 H5 h5 _ hX4.out.tf).mono ?_
      rintro e w7 ⟨I4, i4, I5, i5, rfl, hT7, hb7⟩
      have hX7 := Aside0.mk (hX4.out.put hb7 hT7)
      obtain ⟨o0, o1, o2, o3, o4, o5, f0, f1, f2, f3, f4, f5⟩ := six_cells (hX4.out.below hb7).box
      clear hT7 hb7 y0 y1 y2 y3 y4 y5 x0 x1 x2 x3 x4 x5 hX4
      go_wp2_with fail
      generalize ((((((w7.setCell ⟨b, 0, none⟩ (.int .i64 wt5.f0)).setCell ⟨b, 1, none⟩ (.int .i64 wt5.f1)).setCell ⟨b, 2, none⟩ (.int .i64 wt5.f2)).setCell ⟨b, 3, none⟩ (.int .i64 wt5.f3)).setCell ⟨b, 4, none⟩ (.slice I4 wt5.f4.length i4)).setCell ⟨b, 5, none⟩ (.slice I5 wt5.f5.length i5)) = w8 at *
      clear o0 o1 o2 o3 o4 o5 f0 f1 f2 f3 f4 f5
      refine (above5 I4 i4 I5 i5 w8 hX7.out.tf).mono ?_
      rintro e w9 ⟨rfl, hb9⟩
      have hX9 := Aside0.mk (hX7.out.below hb9)
      clear hb9 hX7
      obtain ⟨y0, y1, y2, y3, y4, y5, x0, x1, x2, x3, x4, x5⟩ := six_cells hX9.out.box
      go_wp2_with fail
      refine (txn_Kept.calls 20 _ 1 [wt5] 0 14 _ (kept_one (hX9.out.tf.below (below_alloc (Below.refl _ _) _)) _ (heap_alloc_new _ _)) (Nat.le_refl _) wkept).mono ?_
      rintro e wA ⟨rfl, hbA⟩
      have hXA := Aside0.mk (hX9.out.below ((below_alloc (Below.refl _ _) _).trans (hbA.mono (by rw [World.size_alloc]; omega))))
      clear hbA hX9 y0 y1 y2 y3 y4 y5 x0 x1 x2 x3 x4 x5
      obtain ⟨y0, y1, y2, y3, y4, y5, x0, x1, x2, x3, x4, x5⟩ := six_cells hXA.out.box
      go_wp2_with fail
      refine (undo56 I4 i4 I5 i5 wA hXA.out.tf).mono ?_
      rintro e wB ⟨J4, j4, J5, j5, K4, k4, K6, k6, rfl, hTB, hbB⟩
      have hal := below_alloc (Below.refl wB.heap.size wB) (.cells #[.int .i64 0, .int .i64 0, .int .i64 0, .bool false, .slice none 0 0, .bool false, .slice none 0 0] 30)
      have hXb := (hXA.out.below hbB).below hal
      have hlb := (hXA.out.below hbB).lt
      have hla := hXA.out.lt
      have hbl : b ≠ wB.heap.size := by omega
      have hsw := (hXA.out.below hbB).bel.size
      have kb := seven_far (g2 := wB.heap.size) (six_put hXb.box (.int .i64 wt6.f0) (.int .i64 wt6.f1) (.int .i64 wt6.f2) (.int .i64 wt6.f3) (.slice J4 wt6.f4.length j4) (.slice J5 wt6.f5.length j5)) hbl (.int .i64 9) (.int .i64 0) (.int .i64 3) (.bool false) (.slice K4 0 k4) (.bool false) (.slice K6 0 k6)
      have kc := seven_put (six_far (g2 := b) (heap_alloc_new wB (.cells #[.int .i64 0, .int .i64 0, .int .i64 0, .bool false, .slice none 0 0, .bool false, .slice none 0 0] 30)) hbl.symm (.int .i64 wt6.f0) (.int .i64 wt6.f1) (.int .i64 wt6.f2) (.int .i64 wt6.f3) (.slice J4 wt6.f4.length j4) (.slice J5 wt6.f5.length j5)) (.int .i64 9) (.int .i64 0) (.int .i64 3) (.bool false) (.slice K4 0 k4) (.bool false) (.slice K6 0 k6)
      have hCC := Chg.seven (S := fun k => k = b ∨ wB.heap.size ≤ k) (Chg.six (Chg.of_new hal _) (.inl (.inl rfl)) (.int .i64 wt6.f0) (.int .i64 wt6.f1) (.int .i64 wt6.f2) (.int .i64 wt6.f3) (.slice J4 wt6.f4.length j4) (.slice J5 wt6.f5.length j5)) (g := wB.heap.size) (.inl (.inr (Nat.le_refl _))) (.int .i64 9) (.int .i64 0) (.int .i64 3) (.bool false) (.slice K4 0 k4) (.bool false) (.slice K6 0 k6)
      have hTC := Aside0.mk (hTB.bound.step (fun k hk hlt => hCC.block k hlt (by have := hk.1; omega)))
      have hBC := Aside0.mk ((hXA.out.below hbB).bel.trans (hCC.below (fun k hk => by have := hXA.out.lo; omega) hsw))
      replace kb := Aside0.mk kb
      replace kc := Aside0.mk kc
      clear hCC hXb hlb hla hsw
      obtain ⟨o0, o1, o2, o3, o4, o5, f0, f1, f2, f3, f4, f5⟩ := six_cells ((hXA.out.below hbB).below hal).box
      obtain ⟨r0, r1, r2, r3, r4, r5, g0, g1, g2, g3, g4, g5⟩ := six_cells (hXA.out.below hbB).box
      have hbl2 : wB.heap.size ≠ b := fun e => hbl e.symm
      clear hTB hbB hal y0 y1 y2 y3 y4 y5 x0 x1 x2 x3 x4 x5 hXA
      go_wp2_with fail
      generalize ((((((((((((((wB.alloc (.cells #[.int .i64 0, .int .i64 0, .int .i64 0, .bool false, .slice none 0 0, .bool false, .slice none 0 0] 30)).setCell ⟨b, 0, none⟩ (.int .i64 wt6.f0)).setCell ⟨b, 1, none⟩ (.int .i64 wt6.f1)).setCell ⟨b, 2, none⟩ (.int .i64 wt6.f2)).setCell ⟨b, 3, none⟩ (.int .i64 wt6.f3)).setCell ⟨b, 4, none⟩ (.slice J4 wt6.f4.length j4)).setCell ⟨b, 5, none⟩ (.slice J5 wt6.f5.length j5)).setCell ⟨wB.heap.size, 0, none⟩ (.int .i64 9)).setCell ⟨wB.heap.size, 1, none⟩ (.int .i64 0)).setCell ⟨wB.heap.size, 2, none⟩ (.int .i64 3)).setCell ⟨wB.heap.size, 3, none⟩ (.bool false)).setCell ⟨wB.heap.size, 4, none⟩ (.slice K4 0 k4)).setCell ⟨wB.heap.size, 5, none⟩ (.bool false)).setCell ⟨wB.heap.size, 6, none⟩ (.slice K6 0 k6)) = wC at *
      clear o0 o1 o2 o3 o4 o5 f0 f1 f2 f3 f4 f5 r0 r1 r2 r3 r4 r5 g0 g1 g2 g3 g4 g5
      refine (above6 J4 j4 J5 j5 wC hTC.out).mono ?_
      rintro e wD ⟨rfl, hbD⟩
      have kb2 := (hbD.block _ (Array.getElem?_eq_some_iff.1 kb.out).1).trans kb.out
      have kc2 := (hbD.block _ (Array.getElem?_eq_some_iff.1 kc.out).1).trans kc.out
      have hBD := Aside0.mk (hBC.out.trans (hbD.mono hBC.out.size))
      obtain ⟨_, _, r2, r3, _⟩ := six_cells kb2
      obtain ⟨s0, _⟩ := seven_at kc2
      replace kb2 := Aside0.mk kb2
      replace kc2 := Aside0.mk kc2
      have c2 : (wt6.f2 == 5) = true := rfl
      have c3 : (wt6.f3 == 9) = true := rfl
      clear hbD
      go_wp2_with fail
      go_ret
      exact ⟨rfl, hBD.out⟩
end Go.Proofs.Ytdbbibndjknafaa.Print
