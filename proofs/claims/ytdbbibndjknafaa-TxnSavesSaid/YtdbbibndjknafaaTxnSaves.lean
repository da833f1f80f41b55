/- TxnSaves. -/
import Derived.Test.YtdbbibndjknafaaTxnRoom
namespace Go.Proofs.Ytdbbibndjknafaa.Print
open Go.RowKit Go.Proofs.YtdbbibndjknafaaW.PrintWords Go.Proofs.YtdbbibndjknafaaW.PrintLast Go.Proofs.YtdbbibndjknafaaW.PrintMore
set_option linter.unusedVariables false
set_option linter.unusedSimpArgs false
/-- What Note answered stands in a new box, beside the one of what it was handed. -/
structure NX (w W : World) (b : Nat) (u x : S25) (E4 : Option Addr) (g4 : Nat) (E5 : Option Addr) (g5 : Nat) (g : Nat) (F4 : Option Addr) (f4 : Nat) (F5 : Option Addr) (f5 : Nat) : Prop where
  bx : BX w W b u E4 g4 E5 g5
  ne : g ≠ b
  box : W.heap[g]? = some (.cells #[.int .i64 x.f0, .int .i64 x.f1, .int .i64 x.f2, .int .i64 x.f3, .slice F4 x.f4.length f4, .slice F5 x.f5.length f5] 25)
  tf : TF W (fun k => k ≠ b) x F4 f4 F5 f5
theorem NX.last {w wr W : World} {b : Nat} {u x : S25} {E4 : Option Addr} {g4 : Nat} {E5 : Option Addr} {g5 : Nat} {F4 : Option Addr} {f4 : Nat} {F5 : Option Addr} {f5 : Nat} (h : BX w wr b u E4 g4 E5 g5) (hb : Below wr.heap.size wr W) (hT : TF W (fun k => wr.heap.size ≤ k) x F4 f4 F5 f5) :
    NX w (W.alloc (.cells #[.int .i64 x.f0, .int .i64 x.f1, .int .i64 x.f2, .int .i64 x.f3, .slice F4 x.f4.length f4, .slice F5 x.f5.length f5] 25)) b u x E4 g4 E5 g5 W.heap.size F4 f4 F5 f5 := by
  have hl := h.lt
  have hs := hb.size
  exact ⟨(h.below hb).below (below_alloc (Below.refl _ _) _), by omega, heap_alloc_new _ _, (hT.mono (fun k hk => by have : wr.heap.size ≤ k := hk; omega)).below (below_alloc (Below.refl _ _) _)⟩
theorem zero_box {wr W : World} {o : Obj} (hb : Below (wr.alloc o).heap.size (wr.alloc o) W) : W.heap[wr.heap.size]? = some o :=
  (hb.block _ (by rw [World.size_alloc]; omega)).trans (heap_alloc_new _ _)
theorem NX.first {w wr W : World} {b : Nat} {u x : S25} {E4 : Option Addr} {g4 : Nat} {E5 : Option Addr} {g5 : Nat} {F4 : Option Addr} {f4 : Nat} {F5 : Option Addr} {f5 : Nat} (h : BX w wr b u E4 g4 E5 g5) {a0 a1 a2 a3 a4 a5 : Value} (hb : Below (wr.alloc (.cells #[a0, a1, a2, a3, a4, a5] 25)).heap.size (wr.alloc (.cells #[a0, a1, a2, a3, a4, a5] 25)) W) (hT : TF W (fun k => (wr.alloc (.cells #[a0, a1, a2, a3, a4, a5] 25)).heap.size ≤ k) x F4 f4 F5 f5) :
    NX w ((((((W.setCell ⟨wr.heap.size, 0, none⟩ (.int .i64 x.f0)).setCell ⟨wr.heap.size, 1, none⟩ (.int .i64 x.f1)).setCell ⟨wr.heap.size, 2, none⟩ (.int .i64 x.f2)).setCell ⟨wr.heap.size, 3, none⟩ (.int .i64 x.f3)).setCell ⟨wr.heap.size, 4, none⟩ (.slice F4 x.f4.length f4)).setCell ⟨wr.heap.size, 5, none⟩ (.slice F5 x.f5.length f5)) b u x E4 g4 E5 g5 wr.heap.size F4 f4 F5 f5 := by
  have hl := h.lt
  have hz := zero_box hb
  have hs1 : (wr.alloc (.cells #[a0, a1, a2, a3, a4, a5] 25)).heap.size = wr.heap.size + 1 := World.size_alloc ..
  have hs := hb.size
  have hC := Chg.six (S := fun k => k = wr.heap.size) (Chg.refl _ W) (.inl rfl) (.int .i64 x.f0) (.int .i64 x.f1) (.int .i64 x.f2) (.int .i64 x.f3) (.slice F4 x.f4.length f4) (.slice F5 x.f5.length f5)
  have hw : Below wr.heap.size wr W := (below_alloc (Below.refl _ _) _).trans (hb.mono (by rw [hs1]; omega))
  refine ⟨h.below (hw.trans (hC.below (fun k hk => Nat.le_of_eq hk.symm) hw.size)), by omega, six_put hz _ _ _ _ _ _, (hT.step (fun k hk hlt => hC.block k hlt ?_)).mono (fun k hk => ?_)⟩
  · intro e
    have h1 : (wr.alloc (.cells #[a0, a1, a2, a3, a4, a5] 25)).heap.size ≤ k := hk
    have e1 : k = wr.heap.size := e
    omega
  · have h1 : (wr.alloc (.cells #[a0, a1, a2, a3, a4, a5] 25)).heap.size ≤ k := hk
    show k ≠ b
    omega
theorem above_now {u : S25} (hu : MayP u) {s : List Int} {ml m : Nat} (h5 : u.f5 = s ++ [(ml : Int)]) (h4 : u.f4.length = ml + m) : aboveN u s.length = m ∧ aboveE u s.length = 0 :=
  above_is hu (by rw [h5]; simp) m (by rw [h5, h4]; unfold rd; simp; omega)
set_option maxHeartbeats 4000000 in
set_option maxRecDepth 100000 in
theorem saves_walk (t : S25) (A4 : Option Addr) (c4 : Nat) (A5 : Option Addr) (c5 : Nat) (A1 : Option Addr) (c1 : Nat) (l : List S30) (w : World) (haw : ∀ w : World, Calls Try.prog 10 #[] w fun e w' => e = .returned (.bool true) ∧ Below w.heap.size w w') (h : TF w (fun k => k < w.heap.size) t A4 c4 A5 c5) (hl : Kd.C k30 w A1 l.length l) (hl10 : l.length ≤ 10) :
    Calls Try.prog 6 #[.agg #[.int .i64 t.f0, .int .i64 t.f1, .int .i64 t.f2, .int .i64 t.f3, .slice A4 t.f4.length c4, .slice A5 t.f5.length c5], .slice A1 l.length c1] w fun e w' => e = .returned (.bool true) ∧ Below w.heap.size w w' := by
  have K3 : Aside0 (BT (w.alloc (.cells #[.int .i64 t.f0, .int .i64 t.f1, .int .i64 t.f2, .int .i64 t.f3, .slice A4 t.f4.length c4, .slice A5 t.f5.length c5] 25)) w.heap.size t A4 c4 A5 c5) := ⟨BT.made h⟩
  have HB : Aside0 (Below w.heap.size w (w.alloc (.cells #[.int .i64 t.f0, .int .i64 t.f1, .int .i64 t.f2, .int .i64 t.f3, .slice A4 t.f4.length c4, .slice A5 t.f5.length c5] 25))) := ⟨below_alloc (Below.refl _ _) _⟩
  have HL := Aside0.mk (fun X (hb : Below w.heap.size w X) => Kd.F_below (Kd.C_F heap30 hl) hb)
  have fl : decide ((l.length : Int) > 10) = false := by simp; omega
  replace haw := Aside0.mk haw
  clear h hl
  go_enter Try.func6, Try.ntmps6
  go_wp2_with fail
  generalize w.alloc _ = w1 at *
  refine (haw.out w1).mono ?_
  rintro e w2 ⟨rfl, hb⟩
  replace K3 := Aside0.mk (K3.out.below hb)
  replace HB := Aside0.mk (HB.out.trans (hb.mono HB.out.size))
  clear hb
  obtain ⟨y0, y1, y2, y3, y4, y5, _⟩ := six_cells K3.out.box
  go_wp2_with fail
  refine (light_any t A4 c4 A5 c5 K3.out.tf z30 none 0 none 0 (CF.nil w2 (fun _ => True))).mono ?_
  rintro e w3 ⟨rfl, hb⟩
  clear y0 y1 y2 y3 y4 y5
  replace K3 := Aside0.mk (K3.out.below hb)
  replace HB := Aside0.mk (HB.out.trans (hb.mono HB.out.size))
  clear hb
  cases hli : lightC t z30
  · go_wp2_with fail
    go_ret
    exact ⟨rfl, HB.out⟩
  · clear hli
    obtain ⟨y0, y1, y2, y3, y4, y5, _⟩ := six_cells K3.out.box
    go_wp2_with fail
    refine (may_any t A4 c4 A5 c5 K3.out.tf).mono ?_
    rintro e w4 ⟨rfl, hb⟩
    clear y0 y1 y2 y3 y4 y5
    replace K3 := Aside0.mk (K3.out.below hb)
    replace HB := Aside0.mk (HB.out.trans (hb.mono HB.out.size))
    clear hb
    cases hmay : mayT t
    · go_wp2_with fail
      go_ret
      exact ⟨rfl, HB.out⟩
    · have hmp := Aside0.mk (mayT_true.1 hmay)
      obtain ⟨y0, y1, y2, y3, y4, y5, _⟩ := six_cells K3.out.box
      go_wp2_with fail
      refine (save_any t A4 c4 A5 c5 K3.out.tf).mono ?_
      rintro e w5 ⟨E4, g4, E5, g5, rfl, hT, hb⟩
      clear y0 y1 y2 y3 y4 y5
      by_cases h4 : t.f5.length = 4
      · have hs : saveR t = z25 ∧ saveN t = 0 ∧ saveE t = 4 := by
          unfold saveR saveN saveE
          rw [hmay, if_pos rfl, if_pos rfl, if_pos rfl, if_pos h4, if_pos h4, if_pos h4]
          exact ⟨rfl, rfl, rfl⟩
        have K7 := Aside0.mk (BT.made hT)
        have hal := hb.trans ((below_alloc (Below.refl w5.heap.size w5) (.cells #[.int .i64 (saveR t).f0, .int .i64 (saveR t).f1, .int .i64 (saveR t).f2, .int .i64 (saveR t).f3, .slice E4 (saveR t).f4.length g4, .slice E5 (saveR t).f5.length g5] 25)).mono hb.size)
        replace K3 := Aside0.mk (K3.out.below hal)
        replace HB := Aside0.mk (HB.out.trans (hal.mono HB.out.size))
        obtain ⟨y0, y1, y2, y3, y4, y5, _⟩ := six_cells K3.out.box
        have f1 : ((t.f5.length : Int) == 4) = true := by simp; omega
        rw [hs.2.1, hs.2.2]
        clear hs
        replace h4 := Aside0.mk h4
        generalize saveR t = u at *
        clear hal hb hT
        go_wp2_with fail
        go_ret
        exact ⟨rfl, HB.out⟩
      · have hs : saveR t = saveD t ∧ saveN t = t.f5.length ∧ saveE t = 0 := by
          unfold saveR saveN saveE
          rw [hmay, if_pos rfl, if_pos rfl, if_pos rfl, if_neg h4, if_neg h4, if_neg h4]
          exact ⟨rfl, rfl, rfl⟩
        rw [hs.1] at hT ⊢
        rw [hs.2.1, hs.2.2]
        have hms := hmp.out.save h4
        have hsl : (saveD t).f4 = t.f4 := rfl
        have hsn : (saveD t).f5 = t.f5 ++ [(t.f4.length : Int)] := rfl
        clear hs
        generalize saveD t = u at *
        have hal := hb.trans ((below_alloc (Below.refl w5.heap.size w5) (.cells #[.int .i64 u.f0, .int .i64 u.f1, .int .i64 u.f2, .int .i64 u.f3, .slice E4 u.f4.length g4, .slice E5 u.f5.length g5] 25)).mono hb.size)
        have hx : Aside0 (BX w5 (w5.alloc (.cells #[.int .i64 u.f0, .int .i64 u.f1, .int .i64 u.f2, .int .i64 u.f3, .slice E4 u.f4.length g4, .slice E5 u.f5.length g5] 25)) w5.heap.size u E4 g4 E5 g5) := ⟨⟨below_alloc (Below.refl _ _) _, heap_alloc_new _ _, (hT.bound.below (below_alloc (Below.refl _ _) _)).mono (fun k hk => by have := hk.2; omega), Nat.le_refl _⟩⟩
        replace K3 := Aside0.mk (K3.out.below hb)
        replace HB := Aside0.mk (HB.out.trans (hb.mono HB.out.size))
        clear hal hb hT
        replace hms := Aside0.mk hms
        replace hsl := Aside0.mk hsl
        replace hsn := Aside0.mk hsn
        clear fl
        have hn5 := hmp.out.ns
        replace hn5 := Aside0.mk hn5
        have hn6 := hmp.out.nl
        replace hn6 := Aside0.mk hn6
        replace hl10 := Aside0.mk hl10
        have HI0 : Aside0 (MayP u ∧ BX w5 (w5.alloc (.cells #[.int .i64 u.f0, .int .i64 u.f1, .int .i64 u.f2, .int .i64 u.f3, .slice E4 u.f4.length g4, .slice E5 u.f5.length g5] 25)) w5.heap.size u E4 g4 E5 g5 ∧ u.f4.length = t.f4.length + 0 ∧ u.f5 = t.f5 ++ [(t.f4.length : Int)]) := ⟨hms.out, hx.out, by rw [hsl.out]; rfl, hsn.out⟩
        clear hms hsl hsn hx
        go_upto_region 10 with fail
        generalize w5.heap.size = b at *
        generalize w5.alloc _ = wx at *
        clear hmay
        generalize hml : t.f4.length = ml at *
        generalize hms : t.f5.length = ms at *
        replace hml := Aside0.mk hml
        replace hms := Aside0.mk hms
        replace h4 := Aside0.mk h4
        have hsv : Aside0 (∀ y ∈ t.f5, y ≤ (ml : Int)) := ⟨fun y hy => by have := (sv_up hmp.out.sv).1 y hy; rw [hml.out] at this; exact this.2⟩
        clear hmp
        go_loopw [10, 11] (fun v10 v11 wr => ∃ (i many : Nat) (u : S25) (E4 : Option Addr) (g4 : Nat) (E5 : Option Addr) (g5 : Nat), v10 = .int .i64 many ∧ v11 = .int .i64 i ∧ many ≤ i ∧ i ≤ l.length ∧ Aside0 (MayP u ∧ BX w5 wr b u E4 g4 E5 g5 ∧ u.f4.length = ml + many ∧ u.f5 = t.f5 ++ [(ml : Int)])) (fun _ v11 _ => l.length - (intOf v11).toNat)
        case atStart => exact ⟨0, 0, u, E4, g4, E5, g5, rfl, rfl, Nat.le_refl _, Nat.zero_le _, HI0⟩
        case round =>
          clear HI0
          obtain ⟨i, many, u, E4, g4, E5, g5, rfl, rfl, hmi, hil, HI⟩ := hrel
          replace hmi := Aside0.mk hmi
          obtain ⟨z0, z1, z2, z3, z4, z5, q0, q1, q2, q3, q4, q5⟩ := six_cells HI.out.2.1.box
          have HBr := Aside0.mk (HB.out.trans (HI.out.2.1.bel.mono HB.out.size))
          by_cases hlt : i < l.length
          · have f1 : decide ((i : Int) < (l.length : Int)) = true := by simp; omega
            have f0 : decide (0 ≤ (i : Int)) = true := by simp
            obtain ⟨ad, D4, j4, D6, j6, rfl, s0, s1, s2, s3, s4, s5, s6, hCF⟩ := at_F30 (HL.out wr HBr.out) (i : Int) (by omega) (by omega)
            rw [show ((i : Int)).toNat = i from rfl] at s0 s1 s2 s3 s4 s5 s6
            have s7 : wr.cell? ⟨(ad.add (i * 7)).block, (ad.add (i * 7)).off + 3 + 1, none⟩ = some (.slice D4 (rd_T30 l (i : Int)).f3.f1.length j4) := s4
            have s8 : wr.cell? ⟨(ad.add (i * 7)).block, (ad.add (i * 7)).off + 5 + 1, none⟩ = some (.slice D6 (rd_T30 l (i : Int)).f4.f1.length j6) := s6
            replace hil := Aside0.mk hil
            replace hCF := Aside0.mk hCF
            generalize rd_T30 l (i : Int) = c at *
            by_cases hv3 : c.f3.f1.length ≤ 100
            · have f3 : decide ((c.f3.f1.length : Int) > 100) = false := by simp; omega
              replace hv3 := Aside0.mk hv3
              by_cases hv4 : c.f4.f1.length ≤ 100
              · have f4 : decide ((c.f4.f1.length : Int) > 100) = false := by simp; omega
                replace hv4 := Aside0.mk hv4
                go_upto_region 14 with fail
                have HN := Aside0.mk (fun X (hX : Below wr.heap.size wr X) => note_any u E4 g4 E5 g5 (HI.out.2.1.tf.below hX) c D4 j4 D6 j6 (hCF.out.below hX))
                have hni := note_is c HI.out.1
                have hnl := noteD_len u c
                have hnf : (noteD u c).f5 = u.f5 := rfl
                generalize noteR u c = x at *
                generalize noteE u c = en at *
                generalize noteD u c = y at *
                replace hni := Aside0.mk hni
                replace hnl := Aside0.mk hnl
                replace hnf := Aside0.mk hnf
                go_cut [12, 13] from 89 to 96 (fun v12 v13 wc => ∃ (g : Nat) (F4 : Option Addr) (f4 : Nat) (F5 : Option Addr) (f5 : Nat), v12 = .pointer (some ⟨g, 0, none⟩) ∧ v13 = .int .i64 en ∧ Aside0 (NX w5 wc b u x E4 g4 E5 g5 g F4 f4 F5 f5))
                case first =>
                  have hz := below_alloc (Below.refl _ wr) (.cells #[.int .i64 0, .int .i64 0, .int .i64 0, .int .i64 0, .slice none 0 0, .slice none 0 0] 25)
                  have s10 := pw_cell_below hz s0
                  have s11 := pw_cell_below hz s1
                  have s12 := pw_cell_below hz s2
                  have s13 := pw_cell_below hz s3
                  have s14 := pw_cell_below hz s4
                  have s15 := pw_cell_below hz s5
                  have s16 := pw_cell_below hz s6
                  have z10 := pw_cell_below hz z0
                  have z11 := pw_cell_below hz z1
                  have z12 := pw_cell_below hz z2
                  have z13 := pw_cell_below hz z3
                  have z14 := pw_cell_below hz z4
                  have z15 := pw_cell_below hz z5
                  clear hz
                  go_region_with
                    (first
                      | (go_at_call 12; first | (refine (HN.out _ (below_drew (below_alloc (Below.refl _ _) _))).mono ?_; rintro e w6 ⟨F4, f4, F5, f5, rfl, hT6, hb6⟩; have hb7 := (below_drew (Below.refl _ _)).trans hb6; have hn1 := NX.first HI.out.2.1 hb7 hT6; obtain ⟨o0, o1, o2, o3, o4, o5, p0, p1, p2, p3, p4, p5⟩ := six_cells (zero_box hb7); replace hn1 := Aside0.mk hn1; clear hT6 hb6 hb7) | (refine (HN.out _ (below_drew (Below.refl _ _))).mono ?_; rintro e w6 ⟨F4, f4, F5, f5, rfl, hT6, hb6⟩; have hn1 := Aside0.mk (NX.last HI.out.2.1 ((below_drew (Below.refl _ _)).trans hb6) hT6); clear hT6 hb6)))
                  all_goals
                    (try go_wp2_with fail)
                    go_meet
                    case rel => exact ⟨_, F4, f4, F5, f5, rfl, rfl, hn1⟩
                case rest =>
                  obtain ⟨g, F4, f4, F5, f5, rfl, rfl, HN1⟩ := hcut
                  clear z0 z1 z2 z3 z4 z5 q0 q1 q2 q3 q4 q5 s0 s1 s2 s3 s4 s5 s6 s7 s8
                  obtain ⟨z0, z1, z2, z3, z4, z5, q0, q1, q2, q3, q4, q5⟩ := six_cells HN1.out.bx.box
                  obtain ⟨y0, y1, y2, y3, y4, y5, _⟩ := six_cells HN1.out.box
                  have gne := HN1.out.ne
                  obtain ⟨mm, hmm⟩ : ∃ mm : Int, mm = ((many + 1 : Nat) : Int) := ⟨_, rfl⟩
                  have e1 : wrap64 ((many : Int) + 1) = mm := ((wr64 (by have := hmi.out; have := hil.out; have := hl10.out; omega) (by have := hmi.out; have := hil.out; have := hl10.out; omega)).trans (by omega))
                  replace e1 := Aside0.mk e1
                  replace hmm := Aside0.mk hmm
                  rcases hni.out with ⟨he, hx, hmx⟩ | he
                  · have f2 : (en == (0 : Int)) = true := by simp [he]
                    replace he := Aside0.mk he
                    obtain rfl := hx
                    have h5 := hnf.out.trans HI.out.2.2.2
                    have h4' : x.f4.length = ml + (many + 1) := by rw [hnl.out, HI.out.2.2.1]; omega
                    have ha := above_now hmx h5 h4'
                    rw [hms.out, ← hmm.out] at ha
                    replace ha := Aside0.mk ha
                    replace h5 := Aside0.mk h5
                    replace h4' := Aside0.mk h4'
                    replace hmx := Aside0.mk hmx
                    have hp := Aside0.mk (HN1.out.bx.put2 HN1.out.tf)
                    go_upto_region 18 with fail
                    rw [e1.out]
                    generalize World.setCell _ _ _ = wp at *
                    clear z0 z1 z2 z3 z4 z5 q0 q1 q2 q3 q4 q5 y0 y1 y2 y3 y4 y5
                    obtain ⟨z0, z1, z2, z3, z4, z5, _⟩ := six_cells hp.out.box
                    go_wp2_with fail
                    have hab := above_any x F4 f4 F5 f5 hp.out.tf ms
                    rw [ha.out.1, ha.out.2] at hab
                    refine hab.mono ?_
                    rintro e w7 ⟨rfl, hb⟩
                    have hp7 := Aside0.mk (hp.out.below hb)
                    clear hb hab z0 z1 z2 z3 z4 z5
                    go_wp2_with fail
                    go_roundw
                    case rel => exact ⟨i + 1, many + 1, x, F4, f4, F5, f5, by rw [hmm.out], by rw [wr64 (by have := hil.out; have := hl10.out; omega) (by have := hil.out; have := hl10.out; omega)]; go_num, Nat.add_le_add_right hmi.out 1, by omega, ⟨hmx.out, hp7.out, h4'.out, h5.out⟩⟩
                    case measure => exact meas_lt hlt (Nat.le_trans hl10.out (by decide))
                  · have f2 : (en == (0 : Int)) = false := by simp [he]
                    replace he := Aside0.mk he
                    have ha := above_now HI.out.1 HI.out.2.2.2 HI.out.2.2.1
                    rw [hms.out] at ha
                    replace ha := Aside0.mk ha
                    go_wp2_with fail
                    have hab := above_any u E4 g4 E5 g5 HN1.out.bx.tf ms
                    rw [ha.out.1, ha.out.2] at hab
                    refine hab.mono ?_
                    rintro e w7 ⟨rfl, hb⟩
                    have hp7 := Aside0.mk (HN1.out.bx.below hb)
                    clear hb hab z0 z1 z2 z3 z4 z5 q0 q1 q2 q3 q4 q5 y0 y1 y2 y3 y4 y5
                    go_wp2_with fail
                    go_roundw
                    case rel => exact ⟨i + 1, many, u, E4, g4, E5, g5, rfl, by rw [wr64 (by have := hil.out; have := hl10.out; omega) (by have := hil.out; have := hl10.out; omega)]; go_num, Nat.le_succ_of_le hmi.out, by omega, ⟨HI.out.1, hp7.out, HI.out.2.2⟩⟩
                    case measure => exact meas_lt hlt (Nat.le_trans hl10.out (by decide))
              · have f4 : decide ((c.f4.f1.length : Int) > 100) = true := by simp; omega
                replace hv4 := Aside0.mk hv4
                go_wp2_with fail
                go_ret
                exact ⟨rfl, HBr.out⟩
            · have f3 : decide ((c.f3.f1.length : Int) > 100) = true := by simp; omega
              replace hv3 := Aside0.mk hv3
              go_wp2_with fail
              go_ret
              exact ⟨rfl, HBr.out⟩
          · have f1 : decide ((i : Int) < (l.length : Int)) = false := by simp; omega
            have hml10 : many ≤ 10 := by have := hmi.out; have := hl10.out; omega
            replace hml10 := Aside0.mk hml10
            replace hil := Aside0.mk hil
            have HJ0 : Aside0 (MayP u ∧ BX w5 wr b u E4 g4 E5 g5 ∧ u.f4.length + 0 = ml + many ∧ u.f5 = t.f5 ++ [(ml : Int)]) := ⟨HI.out.1, HI.out.2.1, HI.out.2.2.1, HI.out.2.2.2⟩
            clear HI z0 z1 z2 z3 z4 z5 q0 q1 q2 q3 q4 q5
            go_wp2_with fail
            clear f1 hlt
            go_loopw [16] (fun v16 w2r => ∃ (j : Nat) (u : S25) (E4 : Option Addr) (g4 : Nat) (E5 : Option Addr) (g5 : Nat), v16 = .int .i64 j ∧ j ≤ many ∧ Aside0 (MayP u ∧ BX w5 w2r b u E4 g4 E5 g5 ∧ u.f4.length + j = ml + many ∧ u.f5 = t.f5 ++ [(ml : Int)])) (fun v16 _ => many - (intOf v16).toNat)
            case atStart => exact ⟨0, u, E4, g4, E5, g5, rfl, Nat.zero_le _, HJ0⟩
            case round =>
              clear HJ0 HBr
              obtain ⟨j, u, E4, g4, E5, g5, rfl, hjm, HJ⟩ := hrel
              obtain ⟨z0, z1, z2, z3, z4, z5, q0, q1, q2, q3, q4, q5⟩ := six_cells HJ.out.2.1.box
              by_cases hlt2 : j < many
              · have f1 : decide ((j : Int) < (many : Int)) = true := by simp; omega
                have hu0 : u.f4.length ≠ 0 := by have := HJ.out.2.2.1; omega
                have hR := Aside0.mk (undo_ok (mayT_true.2 HJ.out.1) hu0)
                go_wp2_with fail
                have hun := undo_any u E4 g4 E5 g5 HJ.out.2.1.tf
                unfold UnPost at hun
                rw [hR.out.1, hR.out.2.1, hR.out.2.2] at hun
                refine hun.mono ?_
                clear hun hR
                rintro e w7 ⟨I4, i4, I5, i5, J4, j4, J6, j6, rfl, hT, hC, hb⟩
                have hxm := HJ.out.1.undo hu0
                have hxl : (undoD u).f4.length + (j + 1) = ml + many := by have := undoD_len hu0; have := HJ.out.2.2.1; omega
                have hxs : (undoD u).f5 = t.f5 ++ [(ml : Int)] := (undoD_saves (m := ml) hu0 (fun y hy => by
                  rw [HJ.out.2.2.2] at hy
                  rcases List.mem_append.1 hy with e | e
                  · exact hsv.out y e
                  · simp at e; omega) (by have := HJ.out.2.2.1; omega)).trans HJ.out.2.2.2
                replace hxm := Aside0.mk hxm
                replace hxl := Aside0.mk hxl
                replace hxs := Aside0.mk hxs
                generalize undoD u = x at *
                generalize lastC u = c at *
                have hb7 := HJ.out.2.1.below hb
                have hbl := hb7.lt
                obtain ⟨hp1, hp2, hp3⟩ := put_two HJ.out.2.1 hb hT hC
                replace hp1 := Aside0.mk hp1
                clear hp2 hp3 hT hC hb z0 z1 z2 z3 z4 z5 q0 q1 q2 q3 q4 q5 hu0
                obtain ⟨z0, z1, z2, z3, z4, z5, q0, q1, q2, q3, q4, q5⟩ := six_cells hb7.box
                replace hb7 := Aside0.mk hb7
                go_wp2_with fail
                generalize (World.alloc _ _).alloc _ = w8 at *
                clear z0 z1 z2 z3 z4 z5 q0 q1 q2 q3 q4 q5
                go_roundw
                case rel => exact ⟨j + 1, x, I4, i4, I5, i5, by rw [wr64 (by have := hml10.out; omega) (by have := hml10.out; omega)]; go_num, by omega, ⟨hxm.out, hp1.out, hxl.out, hxs.out⟩⟩
                case measure => exact meas_lt hlt2 (Nat.le_trans hml10.out (by decide))
              · have f1 : decide ((j : Int) < (many : Int)) = false := by simp; omega
                have hu4 : u.f4.length = ml := by have := HJ.out.2.2.1; omega
                have ha := above_now HJ.out.1 HJ.out.2.2.2 (m := 0) hu4
                rw [hms.out] at ha
                replace hu4 := Aside0.mk hu4
                have hab := Aside0.mk (fun X (hX : Below wr.heap.size wr X) => above_any u E4 g4 E5 g5 (HJ.out.2.1.tf.below hX) ms)
                rw [ha.1, ha.2] at hab
                clear ha
                go_wp2_with fail
                clear hlt2 f1
                refine (hab.out _ (Below.refl _ _)).mono ?_
                rintro e w7 ⟨rfl, hb⟩
                have HX := Aside0.mk (HJ.out.2.1.below hb)
                clear hb hab z0 z1 z2 z3 z4 z5 q0 q1 q2 q3 q4 q5
                obtain ⟨z0, z1, z2, z3, z4, z5, q0, q1, q2, q3, q4, q5⟩ := six_cells HX.out.box
                go_wp2_with fail
                have hun := undo_any u E4 g4 E5 g5 HX.out.tf
                unfold UnPost at hun
                by_cases hm0 : ml = 0
                · have hR := undo_none (mayT_true.2 HJ.out.1) (hu4.out.trans hm0)
                  rw [hR.2.2] at hun
                  clear hR
                  generalize undoR u = x at *
                  generalize undoC u = c at *
                  refine hun.mono ?_
                  clear hun
                  rintro e w8 ⟨I4, i4, I5, i5, J4, j4, J6, j6, rfl, hT, hC, hb⟩
                  obtain ⟨m1, m2, m3⟩ := two_made hT hC
                  have hal := (HX.out.below hb).bel.trans (m3.mono (HX.out.below hb).bel.size)
                  have K9 := Aside0.mk (K3.out.below hal)
                  have HB9 := Aside0.mk (HB.out.trans (hal.mono HB.out.size))
                  clear hT hC m1 m2 m3 hal hb z0 z1 z2 z3 z4 z5 q0 q1 q2 q3 q4 q5
                  obtain ⟨_, _, _, _, y4, _⟩ := six_cells K9.out.box
                  rw [hml.out] at y4
                  have f4 : ((ml : Int) == 0) = true := by simp [hm0]
                  replace hm0 := Aside0.mk hm0
                  go_wp2_with fail
                  go_ret
                  exact ⟨rfl, HB9.out⟩
                · have hR := undo_ok (mayT_true.2 HJ.out.1) (by rw [hu4.out]; exact hm0)
                  rw [hR.1, hR.2.1, hR.2.2] at hun
                  clear hR
                  have hxm := HJ.out.1.undo (by rw [hu4.out]; exact hm0)
                  have hxs := undoD_fewer (u := u) (s := t.f5) (by rw [hu4.out]; exact hm0) (by rw [hu4.out]; exact HJ.out.2.2.2)
                  rw [hms.out] at hxs
                  generalize undoD u = x at *
                  generalize lastC u = c at *
                  have ha := above_none hxm hxs
                  generalize hab : aboveN x ms = an at *
                  replace hab := Aside0.mk hab
                  refine hun.mono ?_
                  clear hun
                  rintro e w8 ⟨I4, i4, I5, i5, J4, j4, J6, j6, rfl, hT, hC, hb⟩
                  obtain ⟨m1, m2, m3⟩ := two_made hT hC
                  have hal := (HX.out.below hb).bel.trans (m3.mono (HX.out.below hb).bel.size)
                  have HB9 := Aside0.mk (HB.out.trans (hal.mono HB.out.size))
                  replace m1 := Aside0.mk m1
                  replace ha := Aside0.mk ha
                  replace hxm := Aside0.mk hxm
                  replace hxs := Aside0.mk hxs
                  replace hm0 := Aside0.mk hm0
                  clear hT hC m2 m3 hal hb z0 z1 z2 z3 z4 z5 q0 q1 q2 q3 q4 q5
                  go_upto_region 32 with fail
                  generalize (World.alloc _ _).alloc _ = w9 at *
                  obtain ⟨y0, y1, y2, y3, y4, y5, _⟩ := six_cells m1.out.box
                  go_wp2_with fail
                  have hn := above_any x I4 i4 I5 i5 m1.out.tf ms
                  rw [ha.out, hab.out] at hn
                  refine hn.mono ?_
                  rintro e w10 ⟨rfl, hb⟩
                  have HB10 := Aside0.mk (HB9.out.trans (hb.mono HB9.out.size))
                  clear hn hb
                  go_wp2_with fail
                  go_ret
                  exact ⟨rfl, HB10.out⟩
set_option maxHeartbeats 2000000 in
set_option maxRecDepth 100000 in
/-- More than ten changes: nothing is asked. -/
theorem saves_out (t : S25) (A4 : Option Addr) (c4 : Nat) (A5 : Option Addr) (c5 : Nat) (A1 : Option Addr) (c1 : Nat) (l : List S30) (w : World) (haw : ∀ w : World, Calls Try.prog 10 #[] w fun e w' => e = .returned (.bool true) ∧ Below w.heap.size w w') (h : TF w (fun k => k < w.heap.size) t A4 c4 A5 c5) (hl10 : ¬ l.length ≤ 10) :
    Calls Try.prog 6 #[.agg #[.int .i64 t.f0, .int .i64 t.f1, .int .i64 t.f2, .int .i64 t.f3, .slice A4 t.f4.length c4, .slice A5 t.f5.length c5], .slice A1 l.length c1] w fun e w' => e = .returned (.bool true) ∧ Below w.heap.size w w' := by
  have K3 : Aside0 (BT (w.alloc (.cells #[.int .i64 t.f0, .int .i64 t.f1, .int .i64 t.f2, .int .i64 t.f3, .slice A4 t.f4.length c4, .slice A5 t.f5.length c5] 25)) w.heap.size t A4 c4 A5 c5) := ⟨BT.made h⟩
  have HB : Aside0 (Below w.heap.size w (w.alloc (.cells #[.int .i64 t.f0, .int .i64 t.f1, .int .i64 t.f2, .int .i64 t.f3, .slice A4 t.f4.length c4, .slice A5 t.f5.length c5] 25))) := ⟨below_alloc (Below.refl _ _) _⟩
  have fl : decide ((l.length : Int) > 10) = true := by simp; omega
  replace haw := Aside0.mk haw
  clear h hl10
  go_enter Try.func6, Try.ntmps6
  go_wp2_with fail
  generalize w.alloc _ = w1 at *
  refine (haw.out w1).mono ?_
  rintro e w2 ⟨rfl, hb⟩
  replace K3 := Aside0.mk (K3.out.below hb)
  replace HB := Aside0.mk (HB.out.trans (hb.mono HB.out.size))
  clear hb
  obtain ⟨y0, y1, y2, y3, y4, y5, _⟩ := six_cells K3.out.box
  go_wp2_with fail
  refine (light_any t A4 c4 A5 c5 K3.out.tf z30 none 0 none 0 (CF.nil w2 (fun _ => True))).mono ?_
  rintro e w3 ⟨rfl, hb⟩
  clear y0 y1 y2 y3 y4 y5
  replace HB := Aside0.mk (HB.out.trans (hb.mono HB.out.size))
  clear hb
  cases hli : lightC t z30
  · go_wp2_with fail
    go_ret
    exact ⟨rfl, HB.out⟩
  · clear hli
    go_wp2_with fail
    go_ret
    exact ⟨rfl, HB.out⟩
def bobbinlaw14_TxnSaves.f (a0_0 a0_1 a0_2 a0_3 : Int) (l0_4 : List S30) (l0_5 : List Int) (l1 : List S30) : Option Bool := some true
theorem bobbinlaw14_TxnSaves.calls (a0_0 : Int) (a0_1 : Int) (a0_2 : Int) (a0_3 : Int) (A0_4 : Option Addr) (c0_4 : Nat) (l0_4 : List (S30)) (A0_5 : Option Addr) (c0_5 : Nat) (l0_5 : List Int) (A1 : Option Addr) (c1 : Nat) (l1 : List (S30)) (r : Bool) (w : World) (hr0_4 : Kd.C k30 w A0_4 l0_4.length l0_4) (hc0_4 : l0_4.length ≤ c0_4) (hr0_5 : Kd.C (Kd.int .i64) w A0_5 l0_5.length l0_5) (hc0_5 : l0_5.length ≤ c0_5) (hr1 : Kd.C k30 w A1 l1.length l1) (hc1 : l1.length ≤ c1) (h : bobbinlaw14_TxnSaves.f a0_0 a0_1 a0_2 a0_3 l0_4 l0_5 l1 = some r) :
    Calls Try.prog 6 #[.agg #[.int .i64 a0_0, .int .i64 a0_1, .int .i64 a0_2, .int .i64 a0_3, .slice A0_4 l0_4.length c0_4, .slice A0_5 l0_5.length c0_5], .slice A1 l1.length c1] w fun e w' => e = .returned (.bool r) ∧ Below w.heap.size w w' := by
  obtain rfl : true = r := Option.some.inj h
  by_cases h10 : l1.length ≤ 10
  · exact saves_walk ⟨a0_0, a0_1, a0_2, a0_3, l0_4, l0_5⟩ A0_4 c0_4 A0_5 c0_5 A1 c1 l1 w awake_any (TF.came hc0_4 hr0_4 hc0_5 hr0_5) hr1 h10
  · exact saves_out ⟨a0_0, a0_1, a0_2, a0_3, l0_4, l0_5⟩ A0_4 c0_4 A0_5 c0_5 A1 c1 l1 w awake_any (TF.came hc0_4 hr0_4 hc0_5 hr0_5) h10
end Go.Proofs.Ytdbbibndjknafaa.Print
