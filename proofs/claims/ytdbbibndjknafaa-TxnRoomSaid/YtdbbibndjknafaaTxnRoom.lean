/- TxnRoom. -/
import Derived.Test.YtdbbibndjknafaaTxLaw
import Derived.Test.YtdbbibndjknafaaTxnTells
namespace Go.Proofs.Ytdbbibndjknafaa.Print
open Go.RowKit Go.Proofs.YtdbbibndjknafaaW.PrintWords Go.Proofs.YtdbbibndjknafaaW.PrintLast Go.Proofs.YtdbbibndjknafaaW.PrintMore
set_option linter.unusedVariables false
set_option linter.unusedSimpArgs false
theorem meas_lt {n i : Nat} (h : i < n) (hn : n ≤ 1000) : n - (intOf (.int .i64 (wrap64 ((i : Int) + 1)))).toNat < n - (intOf (.int .i64 (i : Int))).toNat := by
  have e1 : wrap64 ((i : Int) + 1) = (i : Int) + 1 := wr64 (by omega) (by omega)
  rw [e1]
  simp only [intOf]
  omega
theorem kept1_any (t : S25) (p : Int) (hl : LightP t) {P : Nat → Prop} {W : World} {B4 : Option Addr} {d4 : Nat} {B5 : Option Addr} {d5 : Nat} (h : TF W P t B4 d4 B5 d5) (g : Nat) (hg : W.heap[g]? = some (.cells #[.int .i64 t.f0, .int .i64 t.f1, .int .i64 t.f2, .int .i64 t.f3, .slice B4 t.f4.length d4, .slice B5 t.f5.length d5] 25)) :
    Calls Try.prog 25 #[.slice (some ⟨g, 0, none⟩) 1 1, .int .i64 p] W fun e w' => e = .returned (.int .i64 (keptC p t.f4)) ∧ Below W.heap.size W w' := by
  rw [← keptT_one]
  exact txn_Kept.calls 1000 _ 1 [t] p _ _ (kept_one h g hg) (Nat.le_refl _) (kept_f p [t] (fun x hx => by simp at hx; rw [hx]; exact hl) (by simp))
theorem size_new (v : S28) (h : v.f1.length ≤ 100) (A : Option Addr) (c : Nat) (w : World) : Calls Try.prog 27 #[.agg #[.bool v.f0, .slice A v.f1.length c]] w fun e w' => e = .returned (.int .i64 (sizeT v)) ∧ w' = w.alloc (.cells #[.bool v.f0, .slice A v.f1.length c] 28) := by
  have e1 : IntKind.i64.wrap (4 + (v.f1.length : Int)) = 4 + (v.f1.length : Int) := (i64_w _).trans (wr64 (by omega) (by omega))
  unfold sizeT
  generalize v.f0 = vb at *
  generalize v.f1.length = n at *
  go_enter Try.func27, Try.ntmps27
  cases vb
  · go_wp2_with fail
    go_ret
    exact ⟨rfl, rfl⟩
  · go_wp2_with fail
    go_ret
    exact ⟨rfl, rfl⟩
/-- What Undo answered stands in two new boxes, and in the old one. -/
theorem put_two {w W W1 : World} {b : Nat} {t x : S25} {c : S30} {B4 : Option Addr} {d4 : Nat} {B5 : Option Addr} {d5 : Nat} {I4 : Option Addr} {i4 : Nat} {I5 : Option Addr} {i5 : Nat} {J4 : Option Addr} {j4 : Nat} {J6 : Option Addr} {j6 : Nat} (h : BX w W b t B4 d4 B5 d5) (hb : Below W.heap.size W W1) (hT : TF W1 (fun k => W.heap.size ≤ k) x I4 i4 I5 i5) (hC : CF W1 (fun k => W.heap.size ≤ k) c J4 j4 J6 j6) :
    BX w ((((((((W1.setCell ⟨b, 0, none⟩ (.int .i64 x.f0)).setCell ⟨b, 1, none⟩ (.int .i64 x.f1)).setCell ⟨b, 2, none⟩ (.int .i64 x.f2)).setCell ⟨b, 3, none⟩ (.int .i64 x.f3)).setCell ⟨b, 4, none⟩ (.slice I4 x.f4.length i4)).setCell ⟨b, 5, none⟩ (.slice I5 x.f5.length i5)).alloc (.cells #[.int .i64 x.f0, .int .i64 x.f1, .int .i64 x.f2, .int .i64 x.f3, .slice I4 x.f4.length i4, .slice I5 x.f5.length i5] 25)).alloc (.cells #[.int .i64 c.f0, .int .i64 c.f1, .int .i64 c.f2, .bool c.f3.f0, .slice J4 c.f3.f1.length j4, .bool c.f4.f0, .slice J6 c.f4.f1.length j6] 30)) b x I4 i4 I5 i5 ∧ BT ((((((((W1.setCell ⟨b, 0, none⟩ (.int .i64 x.f0)).setCell ⟨b, 1, none⟩ (.int .i64 x.f1)).setCell ⟨b, 2, none⟩ (.int .i64 x.f2)).setCell ⟨b, 3, none⟩ (.int .i64 x.f3)).setCell ⟨b, 4, none⟩ (.slice I4 x.f4.length i4)).setCell ⟨b, 5, none⟩ (.slice I5 x.f5.length i5)).alloc (.cells #[.int .i64 x.f0, .int .i64 x.f1, .int .i64 x.f2, .int .i64 x.f3, .slice I4 x.f4.length i4, .slice I5 x.f5.length i5] 25)).alloc (.cells #[.int .i64 c.f0, .int .i64 c.f1, .int .i64 c.f2, .bool c.f3.f0, .slice J4 c.f3.f1.length j4, .bool c.f4.f0, .slice J6 c.f4.f1.length j6] 30)) W1.heap.size x I4 i4 I5 i5 ∧ BC ((((((((W1.setCell ⟨b, 0, none⟩ (.int .i64 x.f0)).setCell ⟨b, 1, none⟩ (.int .i64 x.f1)).setCell ⟨b, 2, none⟩ (.int .i64 x.f2)).setCell ⟨b, 3, none⟩ (.int .i64 x.f3)).setCell ⟨b, 4, none⟩ (.slice I4 x.f4.length i4)).setCell ⟨b, 5, none⟩ (.slice I5 x.f5.length i5)).alloc (.cells #[.int .i64 x.f0, .int .i64 x.f1, .int .i64 x.f2, .int .i64 x.f3, .slice I4 x.f4.length i4, .slice I5 x.f5.length i5] 25)).alloc (.cells #[.int .i64 c.f0, .int .i64 c.f1, .int .i64 c.f2, .bool c.f3.f0, .slice J4 c.f3.f1.length j4, .bool c.f4.f0, .slice J6 c.f4.f1.length j6] 30)) (W1.heap.size + 1) c J4 j4 J6 j6 := by
  have hX := h.put hb hT
  have hl := h.lt
  have hc := Chg.six (S := fun k => k = b) (Chg.refl _ W1) (.inl rfl) (.int .i64 x.f0) (.int .i64 x.f1) (.int .i64 x.f2) (.int .i64 x.f3) (.slice I4 x.f4.length i4) (.slice I5 x.f5.length i5)
  have hC2 : CF ((((((W1.setCell ⟨b, 0, none⟩ (.int .i64 x.f0)).setCell ⟨b, 1, none⟩ (.int .i64 x.f1)).setCell ⟨b, 2, none⟩ (.int .i64 x.f2)).setCell ⟨b, 3, none⟩ (.int .i64 x.f3)).setCell ⟨b, 4, none⟩ (.slice I4 x.f4.length i4)).setCell ⟨b, 5, none⟩ (.slice I5 x.f5.length i5)) (fun k => W.heap.size ≤ k) c J4 j4 J6 j6 := hC.step (fun k hk hlt => hc.block k hlt (by have := hk; omega))
  have hsz : ((((((W1.setCell ⟨b, 0, none⟩ (.int .i64 x.f0)).setCell ⟨b, 1, none⟩ (.int .i64 x.f1)).setCell ⟨b, 2, none⟩ (.int .i64 x.f2)).setCell ⟨b, 3, none⟩ (.int .i64 x.f3)).setCell ⟨b, 4, none⟩ (.slice I4 x.f4.length i4)).setCell ⟨b, 5, none⟩ (.slice I5 x.f5.length i5)).heap.size = W1.heap.size := by simp [World.setCell]
  have h2 := two_made hX.tf hC2
  have hb3 := h2.2.2
  refine ⟨hX.below hb3, ?_, ?_⟩
  · have := h2.1
    rwa [hsz] at this
  · have := h2.2.1
    rwa [hsz] at this
set_option maxHeartbeats 2000000 in
set_option maxRecDepth 100000 in
theorem room_walk (t : S25) (A4 : Option Addr) (c4 : Nat) (A5 : Option Addr) (c5 : Nat) (p : Int) (w : World) (haw : ∀ w : World, Calls Try.prog 10 #[] w fun e w' => e = .returned (.bool true) ∧ Below w.heap.size w w') (h : TF w (fun k => k < w.heap.size) t A4 c4 A5 c5) :
    Calls Try.prog 7 #[.agg #[.int .i64 t.f0, .int .i64 t.f1, .int .i64 t.f2, .int .i64 t.f3, .slice A4 t.f4.length c4, .slice A5 t.f5.length c5], .int .i64 p] w fun e w' => e = .returned (.bool true) ∧ Below w.heap.size w w' := by
  have K3 : Aside0 (BT (w.alloc (.cells #[.int .i64 t.f0, .int .i64 t.f1, .int .i64 t.f2, .int .i64 t.f3, .slice A4 t.f4.length c4, .slice A5 t.f5.length c5] 25)) w.heap.size t A4 c4 A5 c5) := ⟨BT.made h⟩
  have HB : Aside0 (Below w.heap.size w (w.alloc (.cells #[.int .i64 t.f0, .int .i64 t.f1, .int .i64 t.f2, .int .i64 t.f3, .slice A4 t.f4.length c4, .slice A5 t.f5.length c5] 25))) := ⟨below_alloc (Below.refl _ _) _⟩
  replace haw := Aside0.mk haw
  clear h
  go_enter Try.func7, Try.ntmps7
  go_wp2_with fail
  generalize w.alloc _ = w1 at *
  refine (haw.out w1).mono ?_
  rintro e w2 ⟨rfl, hb⟩
  replace K3 := Aside0.mk (K3.out.below hb)
  replace HB := Aside0.mk (HB.out.trans (hb.mono HB.out.size))
  clear hb
  obtain ⟨y0, y1, y2, y3, y4, y5, _⟩ := six_cells K3.out.box
  go_wp2_with fail
  refine (light_any t A4 c4 A5 c5 K3.out.tf z30 none 0 none 0 (CF.nil w2 (fun _ => True))).mono ?_
  rintro e w3 ⟨rfl, hb⟩
  clear y0 y1 y2 y3 y4 y5
  replace K3 := Aside0.mk (K3.out.below hb)
  replace HB := Aside0.mk (HB.out.trans (hb.mono HB.out.size))
  clear hb
  cases hli : lightC t z30
  · go_wp2_with fail
    go_ret
    exact ⟨rfl, HB.out⟩
  · clear hli
    obtain ⟨y0, y1, y2, y3, y4, y5, _⟩ := six_cells K3.out.box
    go_wp2_with fail
    refine (may_any t A4 c4 A5 c5 K3.out.tf).mono ?_
    rintro e w4 ⟨rfl, hb⟩
    clear y0 y1 y2 y3 y4 y5
    replace K3 := Aside0.mk (K3.out.below hb)
    replace HB := Aside0.mk (HB.out.trans (hb.mono HB.out.size))
    clear hb
    cases hmay : mayT t
    · go_wp2_with fail
      go_ret
      exact ⟨rfl, HB.out⟩
    · have hmp := Aside0.mk (mayT_true.1 hmay)
      clear hmay
      have hn6 := hmp.out.nl
      obtain ⟨y0, y1, y2, y3, y4, y5, _⟩ := six_cells K3.out.box
      have hx : Aside0 (BX w4 (w4.alloc (.cells #[.int .i64 t.f0, .int .i64 t.f1, .int .i64 t.f2, .int .i64 t.f3, .slice A4 t.f4.length c4, .slice A5 t.f5.length c5] 25)) w4.heap.size t A4 c4 A5 c5) := ⟨⟨below_alloc (Below.refl _ _) _, heap_alloc_new _ _, (K3.out.tf.bound.below (below_alloc (Below.refl _ _) _)).mono (fun k hk => by have := hk.2; omega), Nat.le_refl _⟩⟩
      go_wp2_with fail
      have hs1 : (w4.alloc (.cells #[.int .i64 t.f0, .int .i64 t.f1, .int .i64 t.f2, .int .i64 t.f3, .slice A4 t.f4.length c4, .slice A5 t.f5.length c5] 25)).heap.size = w4.heap.size + 1 := World.size_alloc ..
      rw [← hs1]
      generalize hb4 : w4.heap.size = b at *
      replace hb4 := Aside0.mk hb4
      generalize w4.alloc _ = wx at *
      refine (kept1_any t p hmp.out.light (hx.out.tf.below (below_alloc (Below.refl _ _) _)) _ (heap_alloc_new _ _)).mono ?_
      rintro e w6 ⟨rfl, hb⟩
      replace hx := Aside0.mk (hx.out.below ((below_alloc (Below.refl _ _) _).trans (hb.mono (by rw [World.size_alloc]; omega))))
      clear hb y0 y1 y2 y3 y4 y5 hs1
      have HI0 : Aside0 (MayP t ∧ BX w4 w6 b t A4 c4 A5 c5) := ⟨hmp.out, hx.out⟩
      have hkb := keptC_bd (p := p) t.f4 hmp.out.vals100
      replace hkb := Aside0.mk hkb
      replace hn6 := Aside0.mk hn6
      generalize hkt : keptC p t.f4 = kt at *
      replace hkt := Aside0.mk hkt
      go_wp2_with fail
      go_loopw [7, 10] (fun v7 v10 wr => ∃ (i : Nat) (need : Int) (u : S25) (E4 : Option Addr) (g4 : Nat) (E5 : Option Addr) (g5 : Nat), v7 = .int .i64 need ∧ v10 = .int .i64 i ∧ i + u.f4.length = t.f4.length ∧ need + keptC p u.f4 ≤ kt ∧ -104 * (i : Int) ≤ need ∧ Aside0 (MayP u ∧ BX w4 wr b u E4 g4 E5 g5)) (fun _ v10 _ => t.f4.length - (intOf v10).toNat)
      case atStart => exact ⟨0, 0, t, A4, c4, A5, c5, rfl, rfl, by omega, by have := hkt.out; omega, by omega, HI0⟩
      case round =>
        obtain ⟨i, need, u, E4, g4, E5, g5, rfl, rfl, hiu, hnk, hnd, HI⟩ := hrel
        replace hnk := Aside0.mk hnk
        replace hnd := Aside0.mk hnd
        replace hiu := Aside0.mk hiu
        have K3r := Aside0.mk (K3.out.below HI.out.2.bel)
        obtain ⟨y0, y1, y2, y3, y4, y5, _⟩ := six_cells K3r.out.box
        obtain ⟨z0, z1, z2, z3, z4, z5, q0, q1, q2, q3, q4, q5⟩ := six_cells HI.out.2.box
        by_cases hlt : i < t.f4.length
        · have f1 : decide ((i : Int) < (t.f4.length : Int)) = true := by simp; omega
          have hu0 : u.f4.length ≠ 0 := by have := hiu.out; omega
          have hR := Aside0.mk (undo_ok (mayT_true.2 HI.out.1) hu0)
          go_wp2_with fail
          have hun := undo_any u E4 g4 E5 g5 HI.out.2.tf
          unfold UnPost at hun
          rw [hR.out.1, hR.out.2.1, hR.out.2.2] at hun
          refine hun.mono ?_
          clear hun hR
          rintro e w7 ⟨I4, i4, I5, i5, J4, j4, J6, j6, rfl, hT, hC, hb⟩
          have hxm := Aside0.mk (HI.out.1.undo hu0)
          have hsp := f4_split hu0
          have hxl := undoD_len hu0
          have hcl := HI.out.1.vals100 _ (lastC_mem hu0)
          have hkc : keptC p u.f4 = keptC p (undoD u).f4 + moreT p (lastC u) := by
            conv => lhs; rw [hsp]
            exact keptC_app p _ _
          have hmg := moreT_ge p (lastC u)
          clear hsp
          replace hxl := Aside0.mk hxl
          replace hlt := Aside0.mk hlt
          generalize undoD u = x at *
          generalize lastC u = c at *
          have hb7 := HI.out.2.below hb
          have hbl := hb7.lt
          obtain ⟨hp1, hp2, hp3⟩ := put_two HI.out.2 hb hT hC
          replace hp1 := Aside0.mk hp1
          replace hp2 := Aside0.mk hp2
          replace hp3 := Aside0.mk hp3
          clear hT hC hb y0 y1 y2 y3 y4 y5 z0 z1 z2 z3 z4 z5 q0 q1 q2 q3 q4 q5
          obtain ⟨z0, z1, z2, z3, z4, z5, q0, q1, q2, q3, q4, q5⟩ := six_cells hb7.box
          replace hb7 := Aside0.mk hb7
          go_upto_if 55 with fail
          generalize (World.alloc _ _).alloc _ = w8 at *
          clear z0 z1 z2 z3 z4 z5 q0 q1 q2 q3 q4 q5 hb7
          have s1 := sizeT_bd hcl.1
          have s2 := sizeT_bd hcl.2
          have kx := keptC_bd (p := p) x.f4 hxm.out.vals100
          have hnb : -1000 ≤ need ∧ need ≤ 1000 := by
            have := hnd.out
            have := hnk.out
            have := hn6.out
            have := hkb.out.2
            have := keptC_bd (p := p) u.f4 HI.out.1.vals100
            have := hlt.out
            omega
          go_cut [7] from 52 to 64 (fun v7 wc => v7 = .int .i64 (need + (if c.f1 = p then sizeT c.f3 - sizeT c.f4 else 0)) ∧ Aside0 (BX w4 wc b x I4 i4 I5 i5))
          case first =>
            obtain ⟨q0, q1, q2, q3, q4, q5, q6⟩ := seven_at hp3.out.box
            by_cases hcp : c.f1 = p
            · have f2 : (c.f1 == p) = true := by simpa using hcp
              replace hcp := Aside0.mk hcp
              have HS1 := Aside0.mk (fun X => size_new c.f3 hcl.1 J4 j4 X)
              have HS2 := Aside0.mk (fun X => size_new c.f4 hcl.2 J6 j6 X)
              have HX := Aside0.mk (fun X (hX : Below w8.heap.size w8 X) => show World.cell? X ⟨w7.heap.size + 1, 3, none⟩ = some (.bool c.f3.f0) ∧ World.cell? X ⟨w7.heap.size + 1, 4, none⟩ = some (.slice J4 c.f3.f1.length j4) ∧ World.cell? X ⟨w7.heap.size + 1, 5, none⟩ = some (.bool c.f4.f0) ∧ World.cell? X ⟨w7.heap.size + 1, 6, none⟩ = some (.slice J6 c.f4.f1.length j6) from ⟨pw_cell_below hX q3, pw_cell_below hX q4, pw_cell_below hX q5, pw_cell_below hX q6⟩)
              generalize hso : sizeT c.f3 = so at *
              generalize hsn : sizeT c.f4 = sn at *
              replace hso := Aside0.mk hso
              replace hsn := Aside0.mk hsn
              have e1 : IntKind.i64.wrap (need + so) = need + so := (i64_w _).trans (wr64 (by omega) (by omega))
              have e2 : IntKind.i64.wrap (need + so - sn) = need + (so - sn) := (i64_w _).trans ((wr64 (by omega) (by omega)).trans (by omega))
              replace s1 := Aside0.mk s1
              replace s2 := Aside0.mk s2
              replace hnb := Aside0.mk hnb
              replace kx := Aside0.mk kx
              replace hkc := Aside0.mk hkc
              replace hmg := Aside0.mk hmg
              replace hcl := Aside0.mk hcl
              go_upto_region 16 with fail
              go_region_held3 (fun X => X.cell? ⟨w7.heap.size + 1, 3, none⟩ = some (.bool c.f3.f0) ∧ X.cell? ⟨w7.heap.size + 1, 4, none⟩ = some (.slice J4 c.f3.f1.length j4) ∧ X.cell? ⟨w7.heap.size + 1, 5, none⟩ = some (.bool c.f4.f0) ∧ X.cell? ⟨w7.heap.size + 1, 6, none⟩ = some (.slice J6 c.f4.f1.length j6))
                (first | exact ⟨q3, q4, q5, q6⟩ | exact ⟨a0, a1, a2, a3⟩ | exact ⟨b0, b1, b2, b3⟩)
                (first
                  | (go_at_call 27; have hqq := hba.out; refine (HS2.out _).mono ?_; rintro e wb ⟨rfl, hwb⟩; have hbb : Aside0 (Below w8.heap.size w8 wb) := ⟨by rw [hwb]; exact below_alloc hqq _⟩; clear hwb hqq; obtain ⟨b0, b1, b2, b3⟩ := HX.out wb hbb.out)
                  | (go_at_call 27; refine (HS1.out _).mono ?_; rintro e wa ⟨rfl, hwa⟩; have hba : Aside0 (Below w8.heap.size w8 wa) := ⟨by rw [hwa]; exact below_alloc (below_drew (Below.refl _ _)) _⟩; obtain ⟨a0, a1, a2, a3⟩ := HX.out wa hba.out; clear hwa))
              all_goals
                (try go_wp2_with fail)
                go_meet
                case rel => exact ⟨by rw [if_pos hcp.out], ⟨hp1.out.below (by first | exact hbb.out | exact hba.out)⟩⟩
            · have f2 : (c.f1 == p) = false := by simpa using hcp
              replace hcp := Aside0.mk hcp
              go_wp2_with fail
              go_meet
              case rel => exact ⟨by rw [if_neg hcp.out, Int.add_zero], hp1⟩
          case rest =>
            obtain ⟨rfl, hX⟩ := hcut
            obtain ⟨z0, z1, z2, z3, z4, z5, q0, q1, q2, q3, q4, q5⟩ := six_cells hX.out.box
            generalize hnn : need + (if c.f1 = p then sizeT c.f3 - sizeT c.f4 else 0) = nn at *
            have hnn1 : nn + keptC p x.f4 ≤ kt := by have := hnk.out; omega
            have hnn2 : -104 * ((i : Int) + 1) ≤ nn := by have := hnd.out; split at hnn <;> omega
            generalize hkx : keptC p x.f4 = kxx at *
            have e1 : IntKind.i64.wrap (nn + kxx) = nn + kxx := (i64_w _).trans (wr64 (by have := hn6.out; have := hkb.out; omega) (by have := hn6.out; have := hkb.out; omega))
            have b1 : decide (kxx < 0) = false := by simp; omega
            have b2 : decide (nn + kxx > kt) = false := by simp; omega
            have hkx' := hkx
            replace hnn := Aside0.mk hnn
            replace hnn1 := Aside0.mk hnn1
            replace hnn2 := Aside0.mk hnn2
            replace hkx := Aside0.mk hkx
            clear hkc hmg s1 s2 kx hnb
            go_wp2_with fail
            refine (kept1_any x p hxm.out.light (hX.out.tf.below (below_alloc (Below.refl _ _) _)) _ (heap_alloc_new _ _)).mono ?_
            rintro e w9 ⟨rfl, hb⟩
            have hX9 := Aside0.mk (hX.out.below ((below_alloc (Below.refl _ _) _).trans (hb.mono (by rw [World.size_alloc]; omega))))
            rw [hkx']
            clear hb z0 z1 z2 z3 z4 z5 q0 q1 q2 q3 q4 q5 hX hkx'
            go_wp2_with fail
            go_roundw
            case rel => exact ⟨i + 1, nn, x, I4, i4, I5, i5, rfl, by have := hn6.out; have := hlt.out; rw [wr64 (by omega) (by omega)]; go_num, by have := hiu.out; have := hxl.out; omega, by rw [hkx.out]; exact hnn1.out, by have := hnn2.out; omega, ⟨hxm.out, hX9.out⟩⟩
            case measure => exact meas_lt hlt.out (Nat.le_trans hn6.out (by decide))
        · have f1 : decide ((i : Int) < (t.f4.length : Int)) = false := by simp; omega
          have hk0 : keptC p u.f4 = 0 := by rw [List.eq_nil_of_length_eq_zero (l := u.f4) (by have := hiu.out; omega)]; rfl
          replace hk0 := Aside0.mk hk0
          go_wp2_with fail
          refine (kept1_any u p HI.out.1.light (HI.out.2.tf.below (below_alloc (Below.refl _ _) _)) _ (heap_alloc_new _ _)).mono ?_
          rintro e w9 ⟨rfl, hb⟩
          have hX9 := Aside0.mk (HI.out.2.below ((below_alloc (Below.refl _ _) _).trans (hb.mono (by rw [World.size_alloc]; omega))))
          rw [hk0.out]
          clear hb
          go_wp2_with fail
          go_ret
          exact ⟨rfl, HB.out.trans (hX9.out.bel.mono HB.out.size)⟩
def bobbinlaw14_TxnRoom.f (a0_0 a0_1 a0_2 a0_3 : Int) (l0_4 : List S30) (l0_5 : List Int) (a1 : Int) : Option Bool := some true
theorem bobbinlaw14_TxnRoom.calls (a0_0 : Int) (a0_1 : Int) (a0_2 : Int) (a0_3 : Int) (A0_4 : Option Addr) (c0_4 : Nat) (l0_4 : List (S30)) (A0_5 : Option Addr) (c0_5 : Nat) (l0_5 : List Int) (a1 : Int) (r : Bool) (w : World) (hr0_4 : Kd.C k30 w A0_4 l0_4.length l0_4) (hc0_4 : l0_4.length ≤ c0_4) (hr0_5 : Kd.C (Kd.int .i64) w A0_5 l0_5.length l0_5) (hc0_5 : l0_5.length ≤ c0_5) (h : bobbinlaw14_TxnRoom.f a0_0 a0_1 a0_2 a0_3 l0_4 l0_5 a1 = some r) :
    Calls Try.prog 7 #[.agg #[.int .i64 a0_0, .int .i64 a0_1, .int .i64 a0_2, .int .i64 a0_3, .slice A0_4 l0_4.length c0_4, .slice A0_5 l0_5.length c0_5], .int .i64 a1] w fun e w' => e = .returned (.bool r) ∧ Below w.heap.size w w' := by
  obtain rfl : true = r := Option.some.inj h
  exact room_walk ⟨a0_0, a0_1, a0_2, a0_3, l0_4, l0_5⟩ A0_4 c0_4 A0_5 c0_5 a1 w awake_any (TF.came hc0_4 hr0_4 hc0_5 hr0_5)
end Go.Proofs.Ytdbbibndjknafaa.Print
