/- TxnTells. -/
import Derived.Test.YtdbbibndjknafaaTx5
namespace Go.Proofs.Ytdbbibndjknafaa.Print
open Go.RowKit Go.Proofs.YtdbbibndjknafaaW.PrintWords Go.Proofs.YtdbbibndjknafaaW.PrintLast Go.Proofs.YtdbbibndjknafaaW.PrintMore
set_option linter.unusedVariables false
set_option linter.unusedSimpArgs false
theorem undoR_light (t : S25) : LightP (undoR t) := by
  cases h : mayT t
  · rw [(undo_no h).1]
    exact ⟨by decide, by decide, fun c hc => by cases hc⟩
  · by_cases h0 : t.f4.length = 0
    · rw [(undo_none h h0).1]
      exact ⟨by decide, by decide, fun c hc => by cases hc⟩
    · rw [(undo_ok h h0).1]
      have hl := (mayT_true.1 h).light
      refine ⟨?_, ?_, fun c hc => hl.2.2 c (List.mem_of_mem_take hc)⟩
      · show (t.f4.take _).length ≤ 20
        have := hl.1
        simp
        omega
      · show (t.f5.filter _).length ≤ 20
        exact Nat.le_trans (List.length_filter_le _ _) hl.2.1
theorem undoC_light (t : S25) : (undoC t).f3.f1.length ≤ 100 ∧ (undoC t).f4.f1.length ≤ 100 := by
  cases h : mayT t
  · rw [(undo_no h).2.1]
    exact ⟨by decide, by decide⟩
  · by_cases h0 : t.f4.length = 0
    · rw [(undo_none h h0).2.1]
      exact ⟨by decide, by decide⟩
    · rw [(undo_ok h h0).2.1]
      refine (mayT_true.1 h).light.2.2 _ ?_
      unfold lastC
      rw [List.getD_eq_getElem?_getD, List.getElem?_eq_getElem (by omega)]
      exact List.getElem_mem _
/-- A box that holds a transaction. -/
structure BT (W : World) (b : Nat) (t : S25) (B4 : Option Addr) (d4 : Nat) (B5 : Option Addr) (d5 : Nat) : Prop where
  box : W.heap[b]? = some (.cells #[.int .i64 t.f0, .int .i64 t.f1, .int .i64 t.f2, .int .i64 t.f3, .slice B4 t.f4.length d4, .slice B5 t.f5.length d5] 25)
  tf : TF W (fun _ => True) t B4 d4 B5 d5
theorem BT.below {W W1 : World} {b : Nat} {t : S25} {B4 : Option Addr} {d4 : Nat} {B5 : Option Addr} {d5 : Nat} (h : BT W b t B4 d4 B5 d5) (hb : Below W.heap.size W W1) : BT W1 b t B4 d4 B5 d5 :=
  ⟨(hb.block _ (Array.getElem?_eq_some_iff.1 h.box).1).trans h.box, h.tf.below hb⟩
theorem BT.made {W : World} {P : Nat → Prop} {t : S25} {B4 : Option Addr} {d4 : Nat} {B5 : Option Addr} {d5 : Nat} (h : TF W P t B4 d4 B5 d5) : BT (W.alloc (.cells #[.int .i64 t.f0, .int .i64 t.f1, .int .i64 t.f2, .int .i64 t.f3, .slice B4 t.f4.length d4, .slice B5 t.f5.length d5] 25)) W.heap.size t B4 d4 B5 d5 :=
  ⟨heap_alloc_new _ _, (h.mono (fun _ _ => trivial)).below (below_alloc (Below.refl _ _) _)⟩
/-- A box that holds a change. -/
structure BC (W : World) (b : Nat) (c : S30) (B4 : Option Addr) (d4 : Nat) (B6 : Option Addr) (d6 : Nat) : Prop where
  box : W.heap[b]? = some (.cells #[.int .i64 c.f0, .int .i64 c.f1, .int .i64 c.f2, .bool c.f3.f0, .slice B4 c.f3.f1.length d4, .bool c.f4.f0, .slice B6 c.f4.f1.length d6] 30)
  cf : CF W (fun _ => True) c B4 d4 B6 d6
theorem BC.below {W W1 : World} {b : Nat} {c : S30} {B4 : Option Addr} {d4 : Nat} {B6 : Option Addr} {d6 : Nat} (h : BC W b c B4 d4 B6 d6) (hb : Below W.heap.size W W1) : BC W1 b c B4 d4 B6 d6 :=
  ⟨(hb.block _ (Array.getElem?_eq_some_iff.1 h.box).1).trans h.box, h.cf.below hb⟩
theorem two_made {W : World} {P Q : Nat → Prop} {t : S25} {B4 : Option Addr} {d4 : Nat} {B5 : Option Addr} {d5 : Nat} {c : S30} {E4 : Option Addr} {e4 : Nat} {E6 : Option Addr} {e6 : Nat} (h : TF W P t B4 d4 B5 d5) (hc : CF W Q c E4 e4 E6 e6) :
    BT ((W.alloc (.cells #[.int .i64 t.f0, .int .i64 t.f1, .int .i64 t.f2, .int .i64 t.f3, .slice B4 t.f4.length d4, .slice B5 t.f5.length d5] 25)).alloc (.cells #[.int .i64 c.f0, .int .i64 c.f1, .int .i64 c.f2, .bool c.f3.f0, .slice E4 c.f3.f1.length e4, .bool c.f4.f0, .slice E6 c.f4.f1.length e6] 30)) W.heap.size t B4 d4 B5 d5 ∧ BC ((W.alloc (.cells #[.int .i64 t.f0, .int .i64 t.f1, .int .i64 t.f2, .int .i64 t.f3, .slice B4 t.f4.length d4, .slice B5 t.f5.length d5] 25)).alloc (.cells #[.int .i64 c.f0, .int .i64 c.f1, .int .i64 c.f2, .bool c.f3.f0, .slice E4 c.f3.f1.length e4, .bool c.f4.f0, .slice E6 c.f4.f1.length e6] 30)) (W.heap.size + 1) c E4 e4 E6 e6 ∧ Below W.heap.size W ((W.alloc (.cells #[.int .i64 t.f0, .int .i64 t.f1, .int .i64 t.f2, .int .i64 t.f3, .slice B4 t.f4.length d4, .slice B5 t.f5.length d5] 25)).alloc (.cells #[.int .i64 c.f0, .int .i64 c.f1, .int .i64 c.f2, .bool c.f3.f0, .slice E4 c.f3.f1.length e4, .bool c.f4.f0, .slice E6 c.f4.f1.length e6] 30)) := by
  have hs1 : (W.alloc (.cells #[.int .i64 t.f0, .int .i64 t.f1, .int .i64 t.f2, .int .i64 t.f3, .slice B4 t.f4.length d4, .slice B5 t.f5.length d5] 25)).heap.size = W.heap.size + 1 := World.size_alloc ..
  have hb := below_alloc (below_alloc (Below.refl W.heap.size W) (.cells #[.int .i64 t.f0, .int .i64 t.f1, .int .i64 t.f2, .int .i64 t.f3, .slice B4 t.f4.length d4, .slice B5 t.f5.length d5] 25)) (.cells #[.int .i64 c.f0, .int .i64 c.f1, .int .i64 c.f2, .bool c.f3.f0, .slice E4 c.f3.f1.length e4, .bool c.f4.f0, .slice E6 c.f4.f1.length e6] 30)
  exact ⟨⟨blk_alloc (heap_alloc_new _ _) _, (h.mono (fun _ _ => trivial)).below hb⟩, ⟨by have := heap_alloc_new (W.alloc (.cells #[.int .i64 t.f0, .int .i64 t.f1, .int .i64 t.f2, .int .i64 t.f3, .slice B4 t.f4.length d4, .slice B5 t.f5.length d5] 25)) (.cells #[.int .i64 c.f0, .int .i64 c.f1, .int .i64 c.f2, .bool c.f3.f0, .slice E4 c.f3.f1.length e4, .bool c.f4.f0, .slice E6 c.f4.f1.length e6] 30); rwa [hs1] at this, (hc.mono (fun _ _ => trivial)).below hb⟩, hb⟩
set_option maxHeartbeats 2000000 in
set_option maxRecDepth 100000 in
theorem tells_walk (t : S25) (A4 : Option Addr) (c4 : Nat) (A5 : Option Addr) (c5 : Nat) (c : S30) (D4 : Option Addr) (e4 : Nat) (D6 : Option Addr) (e6 : Nat) (n : Int) (w : World) (haw : ∀ w : World, Calls Try.prog 10 #[] w fun e w' => e = .returned (.bool true) ∧ Below w.heap.size w w') (h : TF w (fun k => k < w.heap.size) t A4 c4 A5 c5) (hc : CF w (fun k => k < w.heap.size) c D4 e4 D6 e6) :
    Calls Try.prog 3 #[.agg #[.int .i64 t.f0, .int .i64 t.f1, .int .i64 t.f2, .int .i64 t.f3, .slice A4 t.f4.length c4, .slice A5 t.f5.length c5], .agg #[.int .i64 c.f0, .int .i64 c.f1, .int .i64 c.f2, .bool c.f3.f0, .slice D4 c.f3.f1.length e4, .bool c.f4.f0, .slice D6 c.f4.f1.length e6], .int .i64 n] w fun e w' => e = .returned (.bool true) ∧ Below w.heap.size w w' := by
  have hs1 : (w.alloc (.cells #[.int .i64 t.f0, .int .i64 t.f1, .int .i64 t.f2, .int .i64 t.f3, .slice A4 t.f4.length c4, .slice A5 t.f5.length c5] 25)).heap.size = w.heap.size + 1 := World.size_alloc ..
  have K3 : Aside0 (BT ((w.alloc (.cells #[.int .i64 t.f0, .int .i64 t.f1, .int .i64 t.f2, .int .i64 t.f3, .slice A4 t.f4.length c4, .slice A5 t.f5.length c5] 25)).alloc (.cells #[.int .i64 c.f0, .int .i64 c.f1, .int .i64 c.f2, .bool c.f3.f0, .slice D4 c.f3.f1.length e4, .bool c.f4.f0, .slice D6 c.f4.f1.length e6] 30)) w.heap.size t A4 c4 A5 c5) := ⟨⟨blk_alloc (heap_alloc_new _ _) _, (h.mono (fun _ _ => trivial)).below (below_alloc (below_alloc (Below.refl _ _) _) _)⟩⟩
  have K4 : Aside0 (BC ((w.alloc (.cells #[.int .i64 t.f0, .int .i64 t.f1, .int .i64 t.f2, .int .i64 t.f3, .slice A4 t.f4.length c4, .slice A5 t.f5.length c5] 25)).alloc (.cells #[.int .i64 c.f0, .int .i64 c.f1, .int .i64 c.f2, .bool c.f3.f0, .slice D4 c.f3.f1.length e4, .bool c.f4.f0, .slice D6 c.f4.f1.length e6] 30)) (w.heap.size + 1) c D4 e4 D6 e6) := ⟨⟨by have := heap_alloc_new (w.alloc (.cells #[.int .i64 t.f0, .int .i64 t.f1, .int .i64 t.f2, .int .i64 t.f3, .slice A4 t.f4.length c4, .slice A5 t.f5.length c5] 25)) (.cells #[.int .i64 c.f0, .int .i64 c.f1, .int .i64 c.f2, .bool c.f3.f0, .slice D4 c.f3.f1.length e4, .bool c.f4.f0, .slice D6 c.f4.f1.length e6] 30); rwa [hs1] at this, (hc.mono (fun _ _ => trivial)).below (below_alloc (below_alloc (Below.refl _ _) _) _)⟩⟩
  have HB : Aside0 (Below w.heap.size w ((w.alloc (.cells #[.int .i64 t.f0, .int .i64 t.f1, .int .i64 t.f2, .int .i64 t.f3, .slice A4 t.f4.length c4, .slice A5 t.f5.length c5] 25)).alloc (.cells #[.int .i64 c.f0, .int .i64 c.f1, .int .i64 c.f2, .bool c.f3.f0, .slice D4 c.f3.f1.length e4, .bool c.f4.f0, .slice D6 c.f4.f1.length e6] 30))) := ⟨below_alloc (below_alloc (Below.refl _ _) _) _⟩
  replace haw := Aside0.mk haw
  clear h hc hs1
  go_enter Try.func3, Try.ntmps3
  go_wp2_with fail
  generalize (w.alloc _).alloc _ = w1 at *
  refine (haw.out w1).mono ?_
  rintro e w2 ⟨rfl, hb⟩
  replace K3 := Aside0.mk (K3.out.below hb)
  replace K4 := Aside0.mk (K4.out.below hb)
  replace HB := Aside0.mk (HB.out.trans (hb.mono HB.out.size))
  clear hb
  obtain ⟨y0, y1, y2, y3, y4, y5, _⟩ := six_cells K3.out.box
  obtain ⟨q0, q1, q2, q3, q4, q5, q6⟩ := seven_at K4.out.box
  go_wp2_with fail
  refine (light_any t A4 c4 A5 c5 K3.out.tf c D4 e4 D6 e6 K4.out.cf).mono ?_
  rintro e w3 ⟨rfl, hb⟩
  replace K3 := Aside0.mk (K3.out.below hb)
  replace K4 := Aside0.mk (K4.out.below hb)
  replace HB := Aside0.mk (HB.out.trans (hb.mono HB.out.size))
  clear hb y0 y1 y2 y3 y4 y5 q0 q1 q2 q3 q4 q5 q6
  cases hli : lightC t c
  · go_wp2_with fail
    go_ret
    exact ⟨rfl, HB.out⟩
  · have hlt := Aside0.mk (lightC_true hli)
    obtain ⟨y0, y1, y2, y3, y4, y5, _⟩ := six_cells K3.out.box
    obtain ⟨q0, q1, q2, q3, q4, q5, q6⟩ := seven_at K4.out.box
    go_wp2_with fail
    refine (note_any t A4 c4 A5 c5 K3.out.tf c D4 e4 D6 e6 K4.out.cf).mono ?_
    rintro e w4 ⟨E4, g4, E5, g5, rfl, hT, hb⟩
    clear y0 y1 y2 y3 y4 y5 q0 q1 q2 q3 q4 q5 q6
    have hnl := Aside0.mk (noteR_light t c)
    generalize hnt : noteR t c = tn at *
    generalize hne : noteE t c = en at *
    replace hnt := Aside0.mk hnt
    replace hne := Aside0.mk hne
    have K9 := Aside0.mk (BT.made hT)
    have hal := hb.trans ((below_alloc (Below.refl w4.heap.size w4) (.cells #[.int .i64 tn.f0, .int .i64 tn.f1, .int .i64 tn.f2, .int .i64 tn.f3, .slice E4 tn.f4.length g4, .slice E5 tn.f5.length g5] 25)).mono hb.size)
    replace K3 := Aside0.mk (K3.out.below hal)
    replace K4 := Aside0.mk (K4.out.below hal)
    replace HB := Aside0.mk (HB.out.trans (hal.mono HB.out.size))
    clear hal hb hT
    obtain ⟨y0, y1, y2, y3, y4, y5, _⟩ := six_cells K3.out.box
    obtain ⟨q0, q1, q2, q3, q4, q5, q6⟩ := seven_at K4.out.box
    go_wp2_with fail
    generalize w4.alloc _ = w5 at *
    have hr := rnote_any t A4 c4 A5 c5 K3.out.tf c D4 e4 D6 e6 K4.out.cf
    rw [hnt.out, hne.out] at hr
    refine hr.mono ?_
    clear hr
    rintro e w6 ⟨G4, h4, G5, h5, rfl, hT, hb⟩
    clear y0 y1 y2 y3 y4 y5 q0 q1 q2 q3 q4 q5 q6
    have K11 := Aside0.mk (BT.made hT)
    have hal := hb.trans ((below_alloc (Below.refl w6.heap.size w6) (.cells #[.int .i64 tn.f0, .int .i64 tn.f1, .int .i64 tn.f2, .int .i64 tn.f3, .slice G4 tn.f4.length h4, .slice G5 tn.f5.length h5] 25)).mono hb.size)
    replace K3 := Aside0.mk (K3.out.below hal)
    replace K4 := Aside0.mk (K4.out.below hal)
    replace K9 := Aside0.mk (K9.out.below hal)
    replace HB := Aside0.mk (HB.out.trans (hal.mono HB.out.size))
    clear hal hb hT
    obtain ⟨y0, y1, y2, y3, y4, y5, _⟩ := six_cells K3.out.box
    go_wp2_with fail
    generalize w6.alloc _ = w7 at *
    have hr := undo_any t A4 c4 A5 c5 K3.out.tf
    have hul := Aside0.mk (undoR_light t)
    have hucl := Aside0.mk (undoC_light t)
    unfold UnPost at hr
    generalize hut : undoR t = tu at *
    generalize huc : undoC t = cu at *
    generalize hue : undoE t = eu at *
    replace hut := Aside0.mk hut
    replace huc := Aside0.mk huc
    replace hue := Aside0.mk hue
    refine hr.mono ?_
    clear hr
    rintro e w8 ⟨I4, i4, I5, i5, J4, j4, J6, j6, rfl, hT, hC, hb⟩
    clear y0 y1 y2 y3 y4 y5
    obtain ⟨m1, m2, m3⟩ := two_made hT hC
    have K13 := Aside0.mk m1
    have K14 := Aside0.mk m2
    have hal := hb.trans (m3.mono hb.size)
    replace K3 := Aside0.mk (K3.out.below hal)
    replace K4 := Aside0.mk (K4.out.below hal)
    replace K9 := Aside0.mk (K9.out.below hal)
    replace K11 := Aside0.mk (K11.out.below hal)
    replace HB := Aside0.mk (HB.out.trans (hal.mono HB.out.size))
    clear hal hb hT hC m1 m2 m3
    obtain ⟨y0, y1, y2, y3, y4, y5, _⟩ := six_cells K3.out.box
    go_wp2_with fail
    generalize (w8.alloc _).alloc _ = w9 at *
    have hr := rundo_any t A4 c4 A5 c5 K3.out.tf
    unfold UnPost at hr
    rw [hut.out, huc.out, hue.out] at hr
    refine hr.mono ?_
    clear hr
    rintro e w10 ⟨L4, l4, L5, l5, M4, n4, M6, n6, rfl, hT, hC, hb⟩
    clear y0 y1 y2 y3 y4 y5
    obtain ⟨m1, m2, m3⟩ := two_made hT hC
    have K16 := Aside0.mk m1
    have K17 := Aside0.mk m2
    have hal := hb.trans (m3.mono hb.size)
    replace K3 := Aside0.mk (K3.out.below hal)
    replace K4 := Aside0.mk (K4.out.below hal)
    replace K9 := Aside0.mk (K9.out.below hal)
    replace K11 := Aside0.mk (K11.out.below hal)
    replace K13 := Aside0.mk (K13.out.below hal)
    replace K14 := Aside0.mk (K14.out.below hal)
    replace HB := Aside0.mk (HB.out.trans (hal.mono HB.out.size))
    clear hal hb hT hC m1 m2 m3
    obtain ⟨y0, y1, y2, y3, y4, y5, _⟩ := six_cells K3.out.box
    go_wp2_with fail
    generalize (w10.alloc _).alloc _ = w11 at *
    have hr := save_any t A4 c4 A5 c5 K3.out.tf
    have hsl := Aside0.mk (saveR_light t)
    generalize hst : saveR t = ts at *
    generalize hsn : saveN t = ns at *
    generalize hse : saveE t = es at *
    replace hst := Aside0.mk hst
    replace hsn := Aside0.mk hsn
    replace hse := Aside0.mk hse
    refine hr.mono ?_
    clear hr
    rintro e w12 ⟨N4, o4, N5, o5, rfl, hT, hb⟩
    clear y0 y1 y2 y3 y4 y5
    have K19 := Aside0.mk (BT.made hT)
    have hal := hb.trans ((below_alloc (Below.refl w12.heap.size w12) (.cells #[.int .i64 ts.f0, .int .i64 ts.f1, .int .i64 ts.f2, .int .i64 ts.f3, .slice N4 ts.f4.length o4, .slice N5 ts.f5.length o5] 25)).mono hb.size)
    replace K3 := Aside0.mk (K3.out.below hal)
    replace K4 := Aside0.mk (K4.out.below hal)
    replace K9 := Aside0.mk (K9.out.below hal)
    replace K11 := Aside0.mk (K11.out.below hal)
    replace K13 := Aside0.mk (K13.out.below hal)
    replace K14 := Aside0.mk (K14.out.below hal)
    replace K16 := Aside0.mk (K16.out.below hal)
    replace K17 := Aside0.mk (K17.out.below hal)
    replace HB := Aside0.mk (HB.out.trans (hal.mono HB.out.size))
    clear hal hb hT
    obtain ⟨y0, y1, y2, y3, y4, y5, _⟩ := six_cells K3.out.box
    go_wp2_with fail
    generalize w12.alloc _ = w13 at *
    have hr := rsave_any t A4 c4 A5 c5 K3.out.tf
    rw [hst.out, hsn.out, hse.out] at hr
    refine hr.mono ?_
    clear hr
    rintro e w14 ⟨P4, p4, P5, p5, rfl, hT, hb⟩
    clear y0 y1 y2 y3 y4 y5
    have K22 := Aside0.mk (BT.made hT)
    have hal := hb.trans ((below_alloc (Below.refl w14.heap.size w14) (.cells #[.int .i64 ts.f0, .int .i64 ts.f1, .int .i64 ts.f2, .int .i64 ts.f3, .slice P4 ts.f4.length p4, .slice P5 ts.f5.length p5] 25)).mono hb.size)
    replace K3 := Aside0.mk (K3.out.below hal)
    replace K4 := Aside0.mk (K4.out.below hal)
    replace K9 := Aside0.mk (K9.out.below hal)
    replace K11 := Aside0.mk (K11.out.below hal)
    replace K13 := Aside0.mk (K13.out.below hal)
    replace K14 := Aside0.mk (K14.out.below hal)
    replace K16 := Aside0.mk (K16.out.below hal)
    replace K17 := Aside0.mk (K17.out.below hal)
    replace K19 := Aside0.mk (K19.out.below hal)
    replace HB := Aside0.mk (HB.out.trans (hal.mono HB.out.size))
    clear hal hb hT
    obtain ⟨y0, y1, y2, y3, y4, y5, _⟩ := six_cells K3.out.box
    go_wp2_with fail
    generalize w14.alloc _ = w15 at *
    have hr := above_any t A4 c4 A5 c5 K3.out.tf n
    have hr2 := fun X (hX : TF X (fun _ => True) t A4 c4 A5 c5) => rabove_any t A4 c4 A5 c5 hX n
    generalize aboveN t n = an at *
    generalize aboveE t n = ae at *
    replace hr2 := Aside0.mk hr2
    refine hr.mono ?_
    clear hr
    rintro e w16 ⟨rfl, hb⟩
    clear y0 y1 y2 y3 y4 y5
    replace K3 := Aside0.mk (K3.out.below hb)
    replace K4 := Aside0.mk (K4.out.below hb)
    replace K9 := Aside0.mk (K9.out.below hb)
    replace K11 := Aside0.mk (K11.out.below hb)
    replace K13 := Aside0.mk (K13.out.below hb)
    replace K14 := Aside0.mk (K14.out.below hb)
    replace K16 := Aside0.mk (K16.out.below hb)
    replace K17 := Aside0.mk (K17.out.below hb)
    replace K19 := Aside0.mk (K19.out.below hb)
    replace K22 := Aside0.mk (K22.out.below hb)
    replace HB := Aside0.mk (HB.out.trans (hb.mono HB.out.size))
    clear hb
    obtain ⟨y0, y1, y2, y3, y4, y5, _⟩ := six_cells K3.out.box
    go_wp2_with fail
    refine (hr2.out w16 K3.out.tf).mono ?_
    rintro e w17 ⟨rfl, hb⟩
    clear y0 y1 y2 y3 y4 y5 hr2
    replace K3 := Aside0.mk (K3.out.below hb)
    replace K4 := Aside0.mk (K4.out.below hb)
    replace K9 := Aside0.mk (K9.out.below hb)
    replace K11 := Aside0.mk (K11.out.below hb)
    replace K13 := Aside0.mk (K13.out.below hb)
    replace K14 := Aside0.mk (K14.out.below hb)
    replace K16 := Aside0.mk (K16.out.below hb)
    replace K17 := Aside0.mk (K17.out.below hb)
    replace K19 := Aside0.mk (K19.out.below hb)
    replace K22 := Aside0.mk (K22.out.below hb)
    replace HB := Aside0.mk (HB.out.trans (hb.mono HB.out.size))
    clear hb
    obtain ⟨y0, y1, y2, y3, y4, y5, _⟩ := six_cells K9.out.box
    obtain ⟨z0, z1, z2, z3, z4, z5, _⟩ := six_cells K11.out.box
    go_wp2_with fail
    refine (same_any tn E4 g4 E5 g5 K9.out.tf G4 h4 G5 h5 K11.out.tf hnl.out).mono ?_
    rintro e w18 ⟨rfl, hb⟩
    clear y0 y1 y2 y3 y4 y5 z0 z1 z2 z3 z4 z5
    replace K3 := Aside0.mk (K3.out.below hb)
    replace K4 := Aside0.mk (K4.out.below hb)
    replace K9 := Aside0.mk (K9.out.below hb)
    replace K11 := Aside0.mk (K11.out.below hb)
    replace K13 := Aside0.mk (K13.out.below hb)
    replace K14 := Aside0.mk (K14.out.below hb)
    replace K16 := Aside0.mk (K16.out.below hb)
    replace K17 := Aside0.mk (K17.out.below hb)
    replace K19 := Aside0.mk (K19.out.below hb)
    replace K22 := Aside0.mk (K22.out.below hb)
    replace HB := Aside0.mk (HB.out.trans (hb.mono HB.out.size))
    clear hb
    obtain ⟨y0, y1, y2, y3, y4, y5, _⟩ := six_cells K13.out.box
    obtain ⟨z0, z1, z2, z3, z4, z5, _⟩ := six_cells K16.out.box
    go_wp2_with fail
    refine (same_any tu I4 i4 I5 i5 K13.out.tf L4 l4 L5 l5 K16.out.tf hul.out).mono ?_
    rintro e w19 ⟨rfl, hb⟩
    clear y0 y1 y2 y3 y4 y5 z0 z1 z2 z3 z4 z5
    replace K3 := Aside0.mk (K3.out.below hb)
    replace K4 := Aside0.mk (K4.out.below hb)
    replace K9 := Aside0.mk (K9.out.below hb)
    replace K11 := Aside0.mk (K11.out.below hb)
    replace K13 := Aside0.mk (K13.out.below hb)
    replace K14 := Aside0.mk (K14.out.below hb)
    replace K16 := Aside0.mk (K16.out.below hb)
    replace K17 := Aside0.mk (K17.out.below hb)
    replace K19 := Aside0.mk (K19.out.below hb)
    replace K22 := Aside0.mk (K22.out.below hb)
    replace HB := Aside0.mk (HB.out.trans (hb.mono HB.out.size))
    clear hb
    obtain ⟨q0, q1, q2, q3, q4, q5, q6⟩ := seven_at K14.out.box
    obtain ⟨s0, s1, s2, s3, s4, s5, s6⟩ := seven_at K17.out.box
    go_wp2_with fail
    refine (changes_any cu J4 j4 J6 j6 M4 n4 M6 n6 K14.out.cf K17.out.cf hucl.out).mono ?_
    rintro e w20 ⟨rfl, hb⟩
    clear q0 q1 q2 q3 q4 q5 q6 s0 s1 s2 s3 s4 s5 s6
    replace K3 := Aside0.mk (K3.out.below hb)
    replace K4 := Aside0.mk (K4.out.below hb)
    replace K9 := Aside0.mk (K9.out.below hb)
    replace K11 := Aside0.mk (K11.out.below hb)
    replace K13 := Aside0.mk (K13.out.below hb)
    replace K14 := Aside0.mk (K14.out.below hb)
    replace K16 := Aside0.mk (K16.out.below hb)
    replace K17 := Aside0.mk (K17.out.below hb)
    replace K19 := Aside0.mk (K19.out.below hb)
    replace K22 := Aside0.mk (K22.out.below hb)
    replace HB := Aside0.mk (HB.out.trans (hb.mono HB.out.size))
    clear hb
    obtain ⟨y0, y1, y2, y3, y4, y5, _⟩ := six_cells K19.out.box
    obtain ⟨z0, z1, z2, z3, z4, z5, _⟩ := six_cells K22.out.box
    go_wp2_with fail
    refine (same_any ts N4 o4 N5 o5 K19.out.tf P4 p4 P5 p5 K22.out.tf hsl.out).mono ?_
    rintro e w21 ⟨rfl, hb⟩
    clear y0 y1 y2 y3 y4 y5 z0 z1 z2 z3 z4 z5
    replace K3 := Aside0.mk (K3.out.below hb)
    replace K4 := Aside0.mk (K4.out.below hb)
    replace K9 := Aside0.mk (K9.out.below hb)
    replace K11 := Aside0.mk (K11.out.below hb)
    replace K13 := Aside0.mk (K13.out.below hb)
    replace K14 := Aside0.mk (K14.out.below hb)
    replace K16 := Aside0.mk (K16.out.below hb)
    replace K17 := Aside0.mk (K17.out.below hb)
    replace K19 := Aside0.mk (K19.out.below hb)
    replace K22 := Aside0.mk (K22.out.below hb)
    replace HB := Aside0.mk (HB.out.trans (hb.mono HB.out.size))
    clear hb
    obtain ⟨y0, y1, y2, y3, y4, y5, _⟩ := six_cells K3.out.box
    go_wp2_with fail
    have HK := Aside0.mk (fun X (hX : Below w21.heap.size w21 X) => K3.out.below hX)
    have HBl := Aside0.mk (fun X (hX : Below w21.heap.size w21 X) => HB.out.trans (hX.mono HB.out.size))
    clear K3 K4 K9 K11 K13 K14 K16 K17 K19 K22 HB
    go_region_held3 (fun X => X.cell? ⟨w.heap.size, 0, none⟩ = some (.int .i64 t.f0) ∧ X.cell? ⟨w.heap.size, 1, none⟩ = some (.int .i64 t.f1) ∧ X.cell? ⟨w.heap.size, 2, none⟩ = some (.int .i64 t.f2) ∧ X.cell? ⟨w.heap.size, 3, none⟩ = some (.int .i64 t.f3) ∧ X.cell? ⟨w.heap.size, 4, none⟩ = some (.slice A4 t.f4.length c4) ∧ X.cell? ⟨w.heap.size, 5, none⟩ = some (.slice A5 t.f5.length c5))
      (first | exact ⟨y0, y1, y2, y3, y4, y5⟩ | exact ⟨z0, z1, z2, z3, z4, z5⟩ | exact ⟨o0, o1, o2, o3, o4, o5⟩)
      (first
        | (go_at_call 22; refine (may_any t A4 c4 A5 c5 (HK.out _ (by first | exact below_drew (Below.refl _ _) | exact hbr.out | exact below_drew hbr.out)).tf).mono ?_; rintro e wm ⟨rfl, hb⟩; have hbm : Aside0 (Below w21.heap.size w21 wm) := ⟨by first | exact (below_drew (Below.refl _ _)).trans hb | exact hbr.out.trans (hb.mono hbr.out.size)⟩; obtain ⟨z0, z1, z2, z3, z4, z5, _⟩ := six_cells (HK.out wm hbm.out).box; clear hb)
        | (go_at_call 23; refine (rmay_any t A4 c4 A5 c5 (HK.out _ (by first | exact below_drew (Below.refl _ _) | exact hbm.out | exact below_drew hbm.out)).tf).mono ?_; rintro e wr ⟨rfl, hb⟩; have hbr : Aside0 (Below w21.heap.size w21 wr) := ⟨by first | exact (below_drew (Below.refl _ _)).trans hb | exact hbm.out.trans (hb.mono hbm.out.size)⟩; obtain ⟨o0, o1, o2, o3, o4, o5, _⟩ := six_cells (HK.out wr hbr.out).box; clear hb))
    all_goals
      go_wp2_with fail
      go_ret
      exact ⟨rfl, HBl.out _ (by first | exact hbr.out | exact hbm.out | exact below_drew hbr.out | exact below_drew hbm.out)⟩
def bobbinlaw14_TxnTells.f (a0_0 a0_1 a0_2 a0_3 : Int) (l0_4 : List S30) (l0_5 : List Int) (a1_0 a1_1 a1_2 : Int) (a1_3 : Bool) (l1_4 : List Int) (a1_5 : Bool) (l1_6 : List Int) (a2 : Int) : Option Bool := some true
theorem bobbinlaw14_TxnTells.calls (a0_0 : Int) (a0_1 : Int) (a0_2 : Int) (a0_3 : Int) (A0_4 : Option Addr) (c0_4 : Nat) (l0_4 : List (S30)) (A0_5 : Option Addr) (c0_5 : Nat) (l0_5 : List Int) (a1_0 : Int) (a1_1 : Int) (a1_2 : Int) (a1_3 : Bool) (A1_4 : Option Addr) (c1_4 : Nat) (l1_4 : List Int) (a1_5 : Bool) (A1_6 : Option Addr) (c1_6 : Nat) (l1_6 : List Int) (a2 : Int) (r : Bool) (w : World) (hr0_4 : Kd.C k30 w A0_4 l0_4.length l0_4) (hc0_4 : l0_4.length ≤ c0_4) (hr0_5 : Kd.C (Kd.int .i64) w A0_5 l0_5.length l0_5) (hc0_5 : l0_5.length ≤ c0_5) (hr1_4 : Kd.C (Kd.int .u8) w A1_4 l1_4.length l1_4) (hc1_4 : l1_4.length ≤ c1_4) (hr1_6 : Kd.C (Kd.int .u8) w A1_6 l1_6.length l1_6) (hc1_6 : l1_6.length ≤ c1_6) (h : bobbinlaw14_TxnTells.f a0_0 a0_1 a0_2 a0_3 l0_4 l0_5 a1_0 a1_1 a1_2 a1_3 l1_4 a1_5 l1_6 a2 = some r) :
    Calls Try.prog 3 #[.agg #[.int .i64 a0_0, .int .i64 a0_1, .int .i64 a0_2, .int .i64 a0_3, .slice A0_4 l0_4.length c0_4, .slice A0_5 l0_5.length c0_5], .agg #[.int .i64 a1_0, .int .i64 a1_1, .int .i64 a1_2, .bool a1_3, .slice A1_4 l1_4.length c1_4, .bool a1_5, .slice A1_6 l1_6.length c1_6], .int .i64 a2] w fun e w' => e = .returned (.bool r) ∧ Below w.heap.size w w' := by
  obtain rfl : true = r := Option.some.inj h
  exact tells_walk ⟨a0_0, a0_1, a0_2, a0_3, l0_4, l0_5⟩ A0_4 c0_4 A0_5 c0_5 ⟨a1_0, a1_1, a1_2, ⟨a1_3, l1_4⟩, ⟨a1_5, l1_6⟩⟩ A1_4 c1_4 A1_6 c1_6 a2 w awake_any (TF.came hc0_4 hr0_4 hc0_5 hr0_5) (CF.came hc1_4 hr1_4 hc1_6 hr1_6)
end Go.Proofs.Ytdbbibndjknafaa.Print
