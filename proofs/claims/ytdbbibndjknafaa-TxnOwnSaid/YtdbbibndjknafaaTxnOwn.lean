/- TxnOwn. -/
import Derived.Test.YtdbbibndjknafaaTxnTells
namespace Go.Proofs.Ytdbbibndjknafaa.Print
open Go.RowKit Go.Proofs.YtdbbibndjknafaaW.PrintWords Go.Proofs.YtdbbibndjknafaaW.PrintLast Go.Proofs.YtdbbibndjknafaaW.PrintMore
set_option linter.unusedVariables false
set_option linter.unusedSimpArgs false
theorem note_zero {t : S25} {c : S30} (h : noteE t c = 0) : noteR t c = noteD t c := by
  cases hk : noteOk t c
  · rw [(noteR_no hk).2] at h
    cases h
  · by_cases h6 : t.f4.length = 6
    · rw [(noteR_full hk h6).2] at h
      cases h
    · exact (noteR_ok hk h6).1
theorem noteR_cases (t : S25) (c : S30) : noteR t c = z25 ∨ noteR t c = noteD t c := by
  cases hk : noteOk t c
  · exact .inl (noteR_no hk).1
  · by_cases h6 : t.f4.length = 6
    · exact .inl (noteR_full hk h6).1
    · exact .inr (noteR_ok hk h6).1
theorem noteD_last (t : S25) (c : S30) : 0 < (noteD t c).f4.length ∧ rd_T30 (noteD t c).f4 (((noteD t c).f4.length : Int) - 1) = c := by
  have hl : (noteD t c).f4.length = t.f4.length + 1 := by unfold noteD; simp
  refine ⟨by omega, ?_⟩
  unfold rd_T30
  rw [show (((noteD t c).f4.length : Int) - 1).toNat = t.f4.length by omega]
  unfold noteD
  rw [List.getD_eq_getElem?_getD]
  simp
set_option maxHeartbeats 2000000 in
set_option maxRecDepth 100000 in
theorem own_walk (t : S25) (A4 : Option Addr) (c4 : Nat) (A5 : Option Addr) (c5 : Nat) (c : S30) (D4 : Option Addr) (e4 : Nat) (D6 : Option Addr) (e6 : Nat) (w : World) (haw : ∀ w : World, Calls Try.prog 10 #[] w fun e w' => e = .returned (.bool true) ∧ Below w.heap.size w w') (h : TF w (fun k => k < w.heap.size) t A4 c4 A5 c5) (hc : CF w (fun k => k < w.heap.size) c D4 e4 D6 e6) :
    Calls Try.prog 9 #[.agg #[.int .i64 t.f0, .int .i64 t.f1, .int .i64 t.f2, .int .i64 t.f3, .slice A4 t.f4.length c4, .slice A5 t.f5.length c5], .agg #[.int .i64 c.f0, .int .i64 c.f1, .int .i64 c.f2, .bool c.f3.f0, .slice D4 c.f3.f1.length e4, .bool c.f4.f0, .slice D6 c.f4.f1.length e6]] w fun e w' => e = .returned (.bool true) ∧ Below w.heap.size w w' := by
  have hs1 : (w.alloc (.cells #[.int .i64 t.f0, .int .i64 t.f1, .int .i64 t.f2, .int .i64 t.f3, .slice A4 t.f4.length c4, .slice A5 t.f5.length c5] 25)).heap.size = w.heap.size + 1 := World.size_alloc ..
  have K3 : Aside0 (BT ((w.alloc (.cells #[.int .i64 t.f0, .int .i64 t.f1, .int .i64 t.f2, .int .i64 t.f3, .slice A4 t.f4.length c4, .slice A5 t.f5.length c5] 25)).alloc (.cells #[.int .i64 c.f0, .int .i64 c.f1, .int .i64 c.f2, .bool c.f3.f0, .slice D4 c.f3.f1.length e4, .bool c.f4.f0, .slice D6 c.f4.f1.length e6] 30)) w.heap.size t A4 c4 A5 c5) := ⟨⟨blk_alloc (heap_alloc_new _ _) _, (h.mono (fun _ _ => trivial)).below (below_alloc (below_alloc (Below.refl _ _) _) _)⟩⟩
  have K4 : Aside0 (BC ((w.alloc (.cells #[.int .i64 t.f0, .int .i64 t.f1, .int .i64 t.f2, .int .i64 t.f3, .slice A4 t.f4.length c4, .slice A5 t.f5.length c5] 25)).alloc (.cells #[.int .i64 c.f0, .int .i64 c.f1, .int .i64 c.f2, .bool c.f3.f0, .slice D4 c.f3.f1.length e4, .bool c.f4.f0, .slice D6 c.f4.f1.length e6] 30)) (w.heap.size + 1) c D4 e4 D6 e6) := ⟨⟨by have := heap_alloc_new (w.alloc (.cells #[.int .i64 t.f0, .int .i64 t.f1, .int .i64 t.f2, .int .i64 t.f3, .slice A4 t.f4.length c4, .slice A5 t.f5.length c5] 25)) (.cells #[.int .i64 c.f0, .int .i64 c.f1, .int .i64 c.f2, .bool c.f3.f0, .slice D4 c.f3.f1.length e4, .bool c.f4.f0, .slice D6 c.f4.f1.length e6] 30); rwa [hs1] at this, (hc.mono (fun _ _ => trivial)).below (below_alloc (below_alloc (Below.refl _ _) _) _)⟩⟩
  have HB : Aside0 (Below w.heap.size w ((w.alloc (.cells #[.int .i64 t.f0, .int .i64 t.f1, .int .i64 t.f2, .int .i64 t.f3, .slice A4 t.f4.length c4, .slice A5 t.f5.length c5] 25)).alloc (.cells #[.int .i64 c.f0, .int .i64 c.f1, .int .i64 c.f2, .bool c.f3.f0, .slice D4 c.f3.f1.length e4, .bool c.f4.f0, .slice D6 c.f4.f1.length e6] 30))) := ⟨below_alloc (below_alloc (Below.refl _ _) _) _⟩
  replace haw := Aside0.mk haw
  clear h hc hs1
  go_enter Try.func9, Try.ntmps9
  go_wp2_with fail
  generalize (w.alloc _).alloc _ = w1 at *
  refine (haw.out w1).mono ?_
  rintro e w2 ⟨rfl, hb⟩
  replace K3 := Aside0.mk (K3.out.below hb)
  replace K4 := Aside0.mk (K4.out.below hb)
  replace HB := Aside0.mk (HB.out.trans (hb.mono HB.out.size))
  clear hb
  obtain ⟨y0, y1, y2, y3, y4, y5, _⟩ := six_cells K3.out.box
  obtain ⟨q0, q1, q2, q3, q4, q5, q6⟩ := seven_at K4.out.box
  go_wp2_with fail
  refine (light_any t A4 c4 A5 c5 K3.out.tf c D4 e4 D6 e6 K4.out.cf).mono ?_
  rintro e w3 ⟨rfl, hb⟩
  clear y0 y1 y2 y3 y4 y5 q0 q1 q2 q3 q4 q5 q6
  replace K3 := Aside0.mk (K3.out.below hb)
  replace K4 := Aside0.mk (K4.out.below hb)
  replace HB := Aside0.mk (HB.out.trans (hb.mono HB.out.size))
  clear hb
  cases hli : lightC t c
  · go_wp2_with fail
    go_ret
    exact ⟨rfl, HB.out⟩
  · have hlt := Aside0.mk (lightC_true hli)
    obtain ⟨y0, y1, y2, y3, y4, y5, _⟩ := six_cells K3.out.box
    go_wp2_with fail
    refine (may_any t A4 c4 A5 c5 K3.out.tf).mono ?_
    rintro e w4 ⟨rfl, hb⟩
    clear y0 y1 y2 y3 y4 y5
    replace K3 := Aside0.mk (K3.out.below hb)
    replace K4 := Aside0.mk (K4.out.below hb)
    replace HB := Aside0.mk (HB.out.trans (hb.mono HB.out.size))
    clear hb
    cases hmay : mayT t
    · go_wp2_with fail
      go_ret
      exact ⟨rfl, HB.out⟩
    · obtain ⟨y0, y1, y2, y3, y4, y5, _⟩ := six_cells K3.out.box
      go_wp2_with fail
      refine (save_any t A4 c4 A5 c5 K3.out.tf).mono ?_
      rintro e w5 ⟨E4, g4, E5, g5, rfl, hT, hb⟩
      clear y0 y1 y2 y3 y4 y5
      have hsl := Aside0.mk (saveR_light t)
      have hse : saveE t = 4 ∨ saveE t = 0 := by unfold saveE; rw [hmay, if_pos rfl]; split; exact .inl rfl; exact .inr rfl
      have hsv := fun X (hX : TF X (fun _ => True) t A4 c4 A5 c5) => save_any t A4 c4 A5 c5 hX
      generalize saveR t = u at *
      generalize saveN t = sn at *
      generalize saveE t = se at *
      replace hsv := Aside0.mk hsv
      rcases hse with rfl | rfl
      · replace hsv := hsv
        have K7 := Aside0.mk (BT.made hT)
        have hal := hb.trans ((below_alloc (Below.refl w5.heap.size w5) (.cells #[.int .i64 u.f0, .int .i64 u.f1, .int .i64 u.f2, .int .i64 u.f3, .slice E4 u.f4.length g4, .slice E5 u.f5.length g5] 25)).mono hb.size)
        replace K3 := Aside0.mk (K3.out.below hal)
        replace K4 := Aside0.mk (K4.out.below hal)
        replace HB := Aside0.mk (HB.out.trans (hal.mono HB.out.size))
        clear hal hb hT
        go_wp2_with fail
        go_ret
        exact ⟨rfl, HB.out⟩
      · replace hsv := hsv
        have K7 := Aside0.mk (BT.made hT)
        have hal := hb.trans ((below_alloc (Below.refl w5.heap.size w5) (.cells #[.int .i64 u.f0, .int .i64 u.f1, .int .i64 u.f2, .int .i64 u.f3, .slice E4 u.f4.length g4, .slice E5 u.f5.length g5] 25)).mono hb.size)
        replace K3 := Aside0.mk (K3.out.below hal)
        replace K4 := Aside0.mk (K4.out.below hal)
        replace HB := Aside0.mk (HB.out.trans (hal.mono HB.out.size))
        clear hal hb hT
        obtain ⟨y0, y1, y2, y3, y4, y5, _⟩ := six_cells K3.out.box
        go_wp2_with fail
        generalize w5.alloc _ = w6 at *
        refine (hsv.out w6 K3.out.tf).mono ?_
        rintro e w7 ⟨F4, f4, F5, f5, rfl, hT, hb⟩
        clear y0 y1 y2 y3 y4 y5 hsv
        have K10 := Aside0.mk (BT.made hT)
        have hal := hb.trans ((below_alloc (Below.refl w7.heap.size w7) (.cells #[.int .i64 u.f0, .int .i64 u.f1, .int .i64 u.f2, .int .i64 u.f3, .slice F4 u.f4.length f4, .slice F5 u.f5.length f5] 25)).mono hb.size)
        replace K3 := Aside0.mk (K3.out.below hal)
        replace K4 := Aside0.mk (K4.out.below hal)
        replace K7 := Aside0.mk (K7.out.below hal)
        replace HB := Aside0.mk (HB.out.trans (hal.mono HB.out.size))
        clear hal hb hT
        obtain ⟨y0, y1, y2, y3, y4, y5, _⟩ := six_cells K7.out.box
        obtain ⟨q0, q1, q2, q3, q4, q5, q6⟩ := seven_at K4.out.box
        go_wp2_with fail
        generalize w7.alloc _ = w8 at *
        refine (note_any u E4 g4 E5 g5 K7.out.tf c D4 e4 D6 e6 K4.out.cf).mono ?_
        rintro e w9 ⟨G4, h4, G5, h5, rfl, hT, hb⟩
        clear y0 y1 y2 y3 y4 y5 q0 q1 q2 q3 q4 q5 q6
        by_cases hne : noteE u c = 0
        · have haD := note_zero hne
          rw [haD] at hT ⊢
          rw [hne]
          clear hne haD
          have hal0 := Aside0.mk (noteD_last u c)
          generalize noteD u c = a at *
          have K13 := Aside0.mk (BT.made hT)
          have hal := hb.trans ((below_alloc (Below.refl w9.heap.size w9) (.cells #[.int .i64 a.f0, .int .i64 a.f1, .int .i64 a.f2, .int .i64 a.f3, .slice G4 a.f4.length h4, .slice G5 a.f5.length h5] 25)).mono hb.size)
          replace K3 := Aside0.mk (K3.out.below hal)
          replace K4 := Aside0.mk (K4.out.below hal)
          replace K7 := Aside0.mk (K7.out.below hal)
          replace K10 := Aside0.mk (K10.out.below hal)
          replace HB := Aside0.mk (HB.out.trans (hal.mono HB.out.size))
          clear hal hb hT
          obtain ⟨y0, y1, y2, y3, y4, y5, _⟩ := six_cells K13.out.box
          go_wp2_with fail
          generalize w9.alloc _ = w10 at *
          have hr := undo_any a G4 h4 G5 h5 K13.out.tf
          unfold UnPost at hr
          generalize undoR a = b at *
          generalize undoC a = cu at *
          generalize undoE a = ue at *
          refine hr.mono ?_
          clear hr
          rintro e w11 ⟨I4, i4, I5, i5, J4, j4, J6, j6, rfl, hT, hC, hb⟩
          clear y0 y1 y2 y3 y4 y5
          obtain ⟨m1, m2, m3⟩ := two_made hT hC
          have K15 := Aside0.mk m1
          have K16 := Aside0.mk m2
          have hal := hb.trans (m3.mono hb.size)
          replace K3 := Aside0.mk (K3.out.below hal)
          replace K4 := Aside0.mk (K4.out.below hal)
          replace K7 := Aside0.mk (K7.out.below hal)
          replace K10 := Aside0.mk (K10.out.below hal)
          replace K13 := Aside0.mk (K13.out.below hal)
          replace HB := Aside0.mk (HB.out.trans (hal.mono HB.out.size))
          clear hal hb hT hC m1 m2 m3
          obtain ⟨y0, y1, y2, y3, y4, y5, _⟩ := six_cells K15.out.box
          obtain ⟨q0, q1, q2, q3, q4, q5, q6⟩ := seven_at K4.out.box
          go_wp2_with fail
          generalize (w11.alloc _).alloc _ = w12 at *
          have hn9 := note_any b I4 i4 I5 i5 K15.out.tf ⟨c.f0, 0, 9, ⟨false, []⟩, ⟨false, []⟩⟩ none 0 none 0 (Q := fun _ => True) ⟨Nat.le_refl _, Kd.F_nil _ _ _, Nat.le_refl _, Kd.F_nil _ _ _⟩
          have hd := noteR_cases b ⟨c.f0, 0, 9, ⟨false, []⟩, ⟨false, []⟩⟩
          have hd9 : ∀ d, d = noteR b ⟨c.f0, 0, 9, ⟨false, []⟩, ⟨false, []⟩⟩ → d.f4.length = 0 ∨ 0 < d.f4.length ∧ (rd_T30 d.f4 ((d.f4.length : Int) - 1)).f2 = 9 := fun d hd' => by
            rw [hd']
            rcases hd with e | e <;> rw [e]
            · exact .inl rfl
            · exact .inr ⟨(noteD_last _ _).1, by rw [(noteD_last _ _).2]⟩
          clear hd
          generalize hdn : noteR b ⟨c.f0, 0, 9, ⟨false, []⟩, ⟨false, []⟩⟩ = d at *
          generalize noteE b ⟨c.f0, 0, 9, ⟨false, []⟩, ⟨false, []⟩⟩ = de at *
          replace hd9 := Aside0.mk (hd9 d rfl)
          clear hdn
          refine hn9.mono ?_
          clear hn9
          rintro e w13 ⟨L4, l4, L5, l5, rfl, hT, hb⟩
          clear y0 y1 y2 y3 y4 y5 q0 q1 q2 q3 q4 q5 q6
          have K18 := Aside0.mk (BT.made hT)
          have hal := hb.trans ((below_alloc (Below.refl w13.heap.size w13) (.cells #[.int .i64 d.f0, .int .i64 d.f1, .int .i64 d.f2, .int .i64 d.f3, .slice L4 d.f4.length l4, .slice L5 d.f5.length l5] 25)).mono hb.size)
          replace K3 := Aside0.mk (K3.out.below hal)
          replace K4 := Aside0.mk (K4.out.below hal)
          replace K7 := Aside0.mk (K7.out.below hal)
          replace K10 := Aside0.mk (K10.out.below hal)
          replace K13 := Aside0.mk (K13.out.below hal)
          replace K15 := Aside0.mk (K15.out.below hal)
          replace K16 := Aside0.mk (K16.out.below hal)
          replace HB := Aside0.mk (HB.out.trans (hal.mono HB.out.size))
          clear hal hb hT
          obtain ⟨y0, y1, y2, y3, y4, y5, _⟩ := six_cells K13.out.box
          obtain ⟨q0, q1, q2, q3, q4, q5, q6⟩ := seven_at K4.out.box
          go_wp2_with fail
          generalize w13.alloc _ = w14 at *
          have hkk0 : (0 : Int) ≤ (a.f4.length : Int) - 1 := by have := hal0.out.1; omega
          have hkk1 : (a.f4.length : Int) - 1 < (a.f4.length : Int) := by omega
          have hmx : a.f4.length ≤ 9223372036854775807 := (Kd.F_now K13.out.tf.g4).2.1
          obtain ⟨ad, M4, m4, M6, m6, rfl, x0, x1, x2, x3, x4, x5, x6, hCF⟩ := at_F30 K13.out.tf.g4 ((a.f4.length : Int) - 1) hkk0 hkk1
          rw [hal0.out.2] at x0 x1 x2 x3 x4 x5 x6 hCF
          generalize hkk : (a.f4.length : Int) - 1 = kk at *
          have hwr : IntKind.i64.wrap ((a.f4.length : Int) - 1) = kk := (i64_w _).trans ((wr64 (by omega) (by omega)).trans hkk)
          have hb0 : decide (0 ≤ kk) = true := decide_eq_true hkk0
          have hb1 : decide (kk < (a.f4.length : Int)) = true := decide_eq_true hkk1
          replace hkk := Aside0.mk hkk
          replace hmx := Aside0.mk hmx
          replace hCF := Aside0.mk hCF
          go_region_held3 (fun X => X.cell? ⟨w9.heap.size, 4, none⟩ = some (.slice (some ad) a.f4.length h4) ∧ X.cell? (ad.add (kk.toNat * 7)) = some (.int .i64 c.f0) ∧ X.cell? ⟨(ad.add (kk.toNat * 7)).block, (ad.add (kk.toNat * 7)).off + 1, none⟩ = some (.int .i64 c.f1) ∧ X.cell? ⟨(ad.add (kk.toNat * 7)).block, (ad.add (kk.toNat * 7)).off + 2, none⟩ = some (.int .i64 c.f2) ∧ X.cell? ⟨(ad.add (kk.toNat * 7)).block, (ad.add (kk.toNat * 7)).off + 3, none⟩ = some (.bool c.f3.f0) ∧ X.cell? ⟨(ad.add (kk.toNat * 7)).block, (ad.add (kk.toNat * 7)).off + 4, none⟩ = some (.slice M4 c.f3.f1.length m4) ∧ X.cell? ⟨(ad.add (kk.toNat * 7)).block, (ad.add (kk.toNat * 7)).off + 5, none⟩ = some (.bool c.f4.f0) ∧ X.cell? ⟨(ad.add (kk.toNat * 7)).block, (ad.add (kk.toNat * 7)).off + 6, none⟩ = some (.slice M6 c.f4.f1.length m6) ∧ X.cell? ⟨w.heap.size + 1, 0, none⟩ = some (.int .i64 c.f0) ∧ X.cell? ⟨w.heap.size + 1, 1, none⟩ = some (.int .i64 c.f1) ∧ X.cell? ⟨w.heap.size + 1, 2, none⟩ = some (.int .i64 c.f2) ∧ X.cell? ⟨w.heap.size + 1, 3, none⟩ = some (.bool c.f3.f0) ∧ X.cell? ⟨w.heap.size + 1, 4, none⟩ = some (.slice D4 c.f3.f1.length e4) ∧ X.cell? ⟨w.heap.size + 1, 5, none⟩ = some (.bool c.f4.f0) ∧ X.cell? ⟨w.heap.size + 1, 6, none⟩ = some (.slice D6 c.f4.f1.length e6))
            (first | exact ⟨y4, x0, x1, x2, x3, x4, x5, x6, q0, q1, q2, q3, q4, q5, q6⟩ | exact ⟨pw_cell_below hb.out y4, pw_cell_below hb.out x0, pw_cell_below hb.out x1, pw_cell_below hb.out x2, pw_cell_below hb.out x3, pw_cell_below hb.out x4, pw_cell_below hb.out x5, pw_cell_below hb.out x6, pw_cell_below hb.out q0, pw_cell_below hb.out q1, pw_cell_below hb.out q2, pw_cell_below hb.out q3, pw_cell_below hb.out q4, pw_cell_below hb.out q5, pw_cell_below hb.out q6⟩)
            (first | (go_at_call 21; refine (changes_any c M4 m4 M6 m6 D4 e4 D6 e6 (hCF.out.below (below_drew (Below.refl _ _))) (K4.out.below (below_drew (Below.refl _ _))).cf hlt.out.2).mono ?_; rintro e w15 ⟨rfl, hb⟩; replace hb := Aside0.mk ((below_drew (Below.refl _ _)).trans hb)))
          clear x0 x1 x2 x3 x4 x5 x6 y0 y1 y2 y3 y4 y5 q0 q1 q2 q3 q4 q5 q6 hCF hal0 hkk0 hkk1 hwr hmx hkk hb0 hb1
          replace K3 := Aside0.mk (K3.out.below hb.out)
          replace K4 := Aside0.mk (K4.out.below hb.out)
          replace K7 := Aside0.mk (K7.out.below hb.out)
          replace K10 := Aside0.mk (K10.out.below hb.out)
          replace K13 := Aside0.mk (K13.out.below hb.out)
          replace K15 := Aside0.mk (K15.out.below hb.out)
          replace K16 := Aside0.mk (K16.out.below hb.out)
          replace K18 := Aside0.mk (K18.out.below hb.out)
          replace HB := Aside0.mk (HB.out.trans (hb.out.mono HB.out.size))
          clear hb
          obtain ⟨z0, z1, z2, z3, z4, z5, _⟩ := six_cells K7.out.box
          obtain ⟨o0, o1, o2, o3, o4, o5, _⟩ := six_cells K10.out.box
          obtain ⟨y0, y1, y2, y3, y4, y5, _⟩ := six_cells K18.out.box
          rcases hd9.out with hd0 | ⟨hd1, hd2⟩
          · have f1 : ((d.f4.length : Int) == 0) = true := by simp [hd0]
            replace hd0 := Aside0.mk hd0
            go_wp2_with fail
            refine (same_any u E4 g4 E5 g5 K7.out.tf F4 f4 F5 f5 K10.out.tf hsl.out).mono ?_
            rintro e w16 ⟨rfl, hb⟩
            replace HB := Aside0.mk (HB.out.trans (hb.mono HB.out.size))
            clear hb
            go_wp2_with fail
            go_ret
            exact ⟨rfl, HB.out⟩
          · have f1 : ((d.f4.length : Int) == 0) = false := by simp; exact fun e => by rw [e] at hd1; exact absurd hd1 (by decide)
            have hkk0 : (0 : Int) ≤ (d.f4.length : Int) - 1 := by omega
            have hkk1 : (d.f4.length : Int) - 1 < (d.f4.length : Int) := by omega
            obtain ⟨ad2, N4, n4, N6, n6, rfl, _, _, x2, _, _, _, _, _⟩ := at_F30 K18.out.tf.g4 ((d.f4.length : Int) - 1) hkk0 hkk1
            rw [hd2] at x2
            have hmx : d.f4.length ≤ 9223372036854775807 := (Kd.F_now K18.out.tf.g4).2.1
            generalize hkk : (d.f4.length : Int) - 1 = kk at *
            have hwr : IntKind.i64.wrap ((d.f4.length : Int) - 1) = kk := (i64_w _).trans ((wr64 (by omega) (by omega)).trans hkk)
            have hb0 : decide (0 ≤ kk) = true := decide_eq_true hkk0
            have hb1 : decide (kk < (d.f4.length : Int)) = true := decide_eq_true hkk1
            have hwk : wrap64 kk = kk := wr64 (by omega) (by omega)
            replace hmx := Aside0.mk hmx
            replace hd1 := Aside0.mk hd1
            replace hd2 := Aside0.mk hd2
            go_wp2_with fail
            refine (same_any u E4 g4 E5 g5 K7.out.tf F4 f4 F5 f5 K10.out.tf hsl.out).mono ?_
            rintro e w16 ⟨rfl, hb⟩
            replace HB := Aside0.mk (HB.out.trans (hb.mono HB.out.size))
            clear hb
            go_wp2_with fail
            go_ret
            exact ⟨rfl, HB.out⟩
        · have f1 : (noteE u c == 0) = false := by simpa using hne
          clear hne
          generalize noteR u c = a at *
          generalize noteE u c = ne at *
          have K13 := Aside0.mk (BT.made hT)
          have hal := hb.trans ((below_alloc (Below.refl w9.heap.size w9) (.cells #[.int .i64 a.f0, .int .i64 a.f1, .int .i64 a.f2, .int .i64 a.f3, .slice G4 a.f4.length h4, .slice G5 a.f5.length h5] 25)).mono hb.size)
          replace K3 := Aside0.mk (K3.out.below hal)
          replace K4 := Aside0.mk (K4.out.below hal)
          replace K7 := Aside0.mk (K7.out.below hal)
          replace K10 := Aside0.mk (K10.out.below hal)
          replace HB := Aside0.mk (HB.out.trans (hal.mono HB.out.size))
          clear hal hb hT
          obtain ⟨y0, y1, y2, y3, y4, y5, _⟩ := six_cells K7.out.box
          obtain ⟨z0, z1, z2, z3, z4, z5, _⟩ := six_cells K10.out.box
          go_wp2_with fail
          generalize w9.alloc _ = w10 at *
          refine (same_any u E4 g4 E5 g5 K7.out.tf F4 f4 F5 f5 K10.out.tf hsl.out).mono ?_
          rintro e w11 ⟨rfl, hb⟩
          replace HB := Aside0.mk (HB.out.trans (hb.mono HB.out.size))
          go_wp2_with fail
          go_ret
          exact ⟨rfl, HB.out⟩
def bobbinlaw14_TxnOwn.f (a0_0 a0_1 a0_2 a0_3 : Int) (l0_4 : List S30) (l0_5 : List Int) (a1_0 a1_1 a1_2 : Int) (a1_3 : Bool) (l1_4 : List Int) (a1_5 : Bool) (l1_6 : List Int) : Option Bool := some true
theorem bobbinlaw14_TxnOwn.calls (a0_0 : Int) (a0_1 : Int) (a0_2 : Int) (a0_3 : Int) (A0_4 : Option Addr) (c0_4 : Nat) (l0_4 : List (S30)) (A0_5 : Option Addr) (c0_5 : Nat) (l0_5 : List Int) (a1_0 : Int) (a1_1 : Int) (a1_2 : Int) (a1_3 : Bool) (A1_4 : Option Addr) (c1_4 : Nat) (l1_4 : List Int) (a1_5 : Bool) (A1_6 : Option Addr) (c1_6 : Nat) (l1_6 : List Int) (r : Bool) (w : World) (hr0_4 : Kd.C k30 w A0_4 l0_4.length l0_4) (hc0_4 : l0_4.length ≤ c0_4) (hr0_5 : Kd.C (Kd.int .i64) w A0_5 l0_5.length l0_5) (hc0_5 : l0_5.length ≤ c0_5) (hr1_4 : Kd.C (Kd.int .u8) w A1_4 l1_4.length l1_4) (hc1_4 : l1_4.length ≤ c1_4) (hr1_6 : Kd.C (Kd.int .u8) w A1_6 l1_6.length l1_6) (hc1_6 : l1_6.length ≤ c1_6) (h : bobbinlaw14_TxnOwn.f a0_0 a0_1 a0_2 a0_3 l0_4 l0_5 a1_0 a1_1 a1_2 a1_3 l1_4 a1_5 l1_6 = some r) :
    Calls Try.prog 9 #[.agg #[.int .i64 a0_0, .int .i64 a0_1, .int .i64 a0_2, .int .i64 a0_3, .slice A0_4 l0_4.length c0_4, .slice A0_5 l0_5.length c0_5], .agg #[.int .i64 a1_0, .int .i64 a1_1, .int .i64 a1_2, .bool a1_3, .slice A1_4 l1_4.length c1_4, .bool a1_5, .slice A1_6 l1_6.length c1_6]] w fun e w' => e = .returned (.bool r) ∧ Below w.heap.size w w' := by
  obtain rfl : true = r := Option.some.inj h
  exact own_walk ⟨a0_0, a0_1, a0_2, a0_3, l0_4, l0_5⟩ A0_4 c0_4 A0_5 c0_5 ⟨a1_0, a1_1, a1_2, ⟨a1_3, l1_4⟩, ⟨a1_5, l1_6⟩⟩ A1_4 c1_4 A1_6 c1_6 w awake_any (TF.came hc0_4 hr0_4 hc0_5 hr0_5) (CF.came hc1_4 hr1_4 hc1_6 hr1_6)
end Go.Proofs.Ytdbbibndjknafaa.Print
