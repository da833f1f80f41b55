/- The document's Undo. -/
import Derived.Test.YtdbbibndjknafaaTx3
namespace Go.Proofs.Ytdbbibndjknafaa.Print
open Go.RowKit Go.Proofs.YtdbbibndjknafaaW.PrintWords Go.Proofs.YtdbbibndjknafaaW.PrintLast Go.Proofs.YtdbbibndjknafaaW.PrintMore
set_option linter.unusedVariables false
set_option linter.unusedSimpArgs false
theorem three_new (w : World) (o1 o2 o3 : Obj) : Below w.heap.size w (((w.alloc o1).alloc o2).alloc o3) ∧ (((w.alloc o1).alloc o2).alloc o3).heap[w.heap.size]? = some o1 ∧ (((w.alloc o1).alloc o2).alloc o3).heap[w.heap.size + 1]? = some o2 ∧ (((w.alloc o1).alloc o2).alloc o3).heap[w.heap.size + 1 + 1]? = some o3 ∧ (((w.alloc o1).alloc o2).alloc o3).heap.size = w.heap.size + 3 := by
  have e1 : (w.alloc o1).heap.size = w.heap.size + 1 := World.size_alloc ..
  have e2 : ((w.alloc o1).alloc o2).heap.size = w.heap.size + 1 + 1 := by rw [World.size_alloc, e1]
  have k1 := heap_alloc_new w o1
  have k2 := heap_alloc_new (w.alloc o1) o2
  have k3 := heap_alloc_new ((w.alloc o1).alloc o2) o3
  rw [e1] at k2
  rw [e2] at k3
  exact ⟨below_alloc (below_alloc (below_alloc (Below.refl _ _) _) _) _, blk_alloc (blk_alloc k1 _) _, blk_alloc k2 _, k3, by rw [World.size_alloc, e2]⟩
theorem slice_h (ad : Addr) (n c : Nat) (k : Int) (h0 : 0 ≤ k) (h1 : k ≤ c) (w : World) : (Instr.slice 22 (.slice (some ad) n c) none (some (.int .i64 k)) none).run Try.prog w = .ok (.slice (some ad) k.toNat c) w := by
  have eh : (k.toNat : Int) = k := Int.toNat_of_nonneg h0
  have hu : Try.prog.underlying 22 = some (.slice (Try.prog.elem 22)) := by rw [show Try.prog.elem 22 = 30 by kernel_rfl]; exact Try.underlying22
  rw [run_slice_any (P := Try.prog) w 22 (some ad) n c hu]
  have hs : (sizeOf (Try.prog.elem 22)).run Try.prog w = .ok 7 w := by rw [show Try.prog.elem 22 = 30 by kernel_rfl]; exact Try.sizeOf30 w
  simp [Instr.sliceBounds, run_sliceBound, h0, h1, eh, hs, sliced, Addr.add]
set_option maxHeartbeats 600000 in
set_option maxRecDepth 100000 in
theorem rundo_any {P : Nat → Prop} {w : World} (t : S25) (A4 : Option Addr) (c4 : Nat) (A5 : Option Addr) (c5 : Nat) (h : TF w P t A4 c4 A5 c5) :
    Calls Try.prog 15 #[.agg #[.int .i64 t.f0, .int .i64 t.f1, .int .i64 t.f2, .int .i64 t.f3, .slice A4 t.f4.length c4, .slice A5 t.f5.length c5]] w (UnPost w (fun k => P k ∨ w.heap.size ≤ k) t) := by
  have hbnd := h.bound
  have HT := Aside0.mk (fun X (hb : Below w.heap.size w X) => h.below hb)
  have hm4 : t.f4.length ≤ 9223372036854775807 := (Kd.F_now h.g4).2.1
  clear h
  replace hbnd := Aside0.mk hbnd
  obtain ⟨HW, k0, k1, k2, hs⟩ := three_new w (.cells #[.int .i64 t.f0, .int .i64 t.f1, .int .i64 t.f2, .int .i64 t.f3, .slice A4 t.f4.length c4, .slice A5 t.f5.length c5] 25) (.cells #[.int .i64 0, .int .i64 0, .int .i64 0, .int .i64 0, .slice none 0 0, .slice none 0 0] 25) (.cells #[.int .i64 0, .int .i64 0, .int .i64 0, .bool false, .slice none 0 0, .bool false, .slice none 0 0] 30)
  replace HW := Aside0.mk HW
  replace k0 := Aside0.mk k0
  replace k1 := Aside0.mk k1
  replace k2 := Aside0.mk k2
  replace hs := Aside0.mk hs
  go_enter Try.func15, Try.ntmps15
  go_wp2_with fail
  generalize ((w.alloc _).alloc _).alloc _ = wb at *
  have hsb := HW.out.size
  refine (rmay_any t A4 c4 A5 c5 (HT.out wb HW.out)).mono ?_
  rintro e w3 ⟨rfl, hb3⟩
  have hB3 := Aside0.mk (HW.out.trans (hb3.mono hsb))
  replace k0 := Aside0.mk ((hb3.block _ (by have := hs.out; omega)).trans k0.out)
  replace k1 := Aside0.mk ((hb3.block _ (by have := hs.out; omega)).trans k1.out)
  replace k2 := Aside0.mk ((hb3.block _ (by have := hs.out; omega)).trans k2.out)
  have hs3 : Aside0 (w.heap.size + 3 ≤ w3.heap.size) := ⟨by have := hs.out; have := hb3.size; omega⟩
  clear hb3 hsb hs HW
  obtain ⟨y0, y1, y2, y3, y4, y5, x0, x1, x2, x3, x4, x5⟩ := six_cells k1.out
  obtain ⟨v0, v1, v2, v3, v4, v5, v6, u0, u1, u2, u3, u4, u5, u6⟩ := seven_cells k2.out
  have hz6 : Aside0 (∀ W, Chg (fun k => k = w.heap.size + 1 ∨ k = w.heap.size + 1 + 1) w3 W → Below w.heap.size w W) := ⟨fun W hW => hB3.out.trans (hW.below (fun k hk => by omega) hB3.out.size)⟩
  cases hmay : mayT t
  · have hR := Aside0.mk (undo_no hmay)
    go_wp2_with fail
    refine bodyPost_ret (results_cct rfl _ _ (w.heap.size + 1) (w.heap.size + 1 + 1) #[.int .i64 0, .int .i64 0, .int .i64 0, .int .i64 0, .slice none 0 0, .slice none 0 0] #[.int .i64 0, .int .i64 0, .int .i64 0, .bool false, .slice none 0 0, .bool false, .slice none 0 0] rfl (seven_far (six_put k1.out _ _ _ _ _ _) (by omega) _ _ _ _ _ _ _) rfl rfl (seven_put (six_far k2.out (by omega) _ _ _ _ _ _) _ _ _ _ _ _ _) rfl) rfl ?_
    rw [UnPost, hR.out.1, hR.out.2.1, hR.out.2.2]
    exact ⟨none, 0, none, 0, none, 0, none, 0, rfl, TF.nil _ _, CF.nil _ _, hz6.out _ (Chg.seven (Chg.six (Chg.refl _ _) (.inl (.inl rfl)) _ _ _ _ _ _) (.inl (.inr rfl)) _ _ _ _ _ _ _)⟩
  · have hmp := Aside0.mk (mayT_true.1 hmay)
    have z4 : w3.cell? ⟨w.heap.size, 4, none⟩ = some (.slice A4 t.f4.length c4) := (blk_cell k0.out 4).trans rfl
    by_cases hlen : t.f4.length = 0
    · have hR := Aside0.mk (undo_none hmay hlen)
      have f1 : ((t.f4.length : Int) == 0) = true := by simp [hlen]
      go_wp2_with fail
      refine bodyPost_ret (results_cct rfl _ _ (w.heap.size + 1) (w.heap.size + 1 + 1) #[.int .i64 0, .int .i64 0, .int .i64 0, .int .i64 0, .slice none 0 0, .slice none 0 0] #[.int .i64 0, .int .i64 0, .int .i64 0, .bool false, .slice none 0 0, .bool false, .slice none 0 0] rfl (seven_far (six_put k1.out _ _ _ _ _ _) (by omega) _ _ _ _ _ _ _) rfl rfl (seven_put (six_far k2.out (by omega) _ _ _ _ _ _) _ _ _ _ _ _ _) rfl) rfl ?_
      rw [UnPost, hR.out.1, hR.out.2.1, hR.out.2.2]
      exact ⟨none, 0, none, 0, none, 0, none, 0, rfl, TF.nil _ _, CF.nil _ _, hz6.out _ (Chg.seven (Chg.six (Chg.refl _ _) (.inl (.inl rfl)) _ _ _ _ _ _) (.inl (.inr rfl)) _ _ _ _ _ _ _)⟩
    · have hR := Aside0.mk (undo_ok hmay hlen)
      have f1 : ((t.f4.length : Int) == 0) = false := by simp; exact fun e => hlen (by rw [e]; rfl)
      clear y0 y1 y2 y3 y4 y5 x0 x1 x2 x3 x4 x5 v0 v1 v2 v3 v4 v5 v6 u0 u1 u2 u3 u4 u5 u6 hz6
      have hkk0 : (0 : Int) ≤ (t.f4.length : Int) - 1 := by omega
      have hkk1 : (t.f4.length : Int) - 1 < (t.f4.length : Int) := by omega
      obtain ⟨ad, D4, j4, D6, j6, rfl, s0, s1, s2, s4, s5, s6, s7, hCF⟩ := at_F30 (hbnd.out.below hB3.out).g4 ((t.f4.length : Int) - 1) hkk0 hkk1
      have hcl : rd_T30 t.f4 ((t.f4.length : Int) - 1) = lastC t := by unfold rd_T30 lastC; rw [show ((t.f4.length : Int) - 1).toNat = t.f4.length - 1 by omega]
      rw [hcl] at s0 s1 s2 s4 s5 s6 s7 hCF
      have hnat : ((t.f4.length : Int) - 1).toNat = t.f4.length - 1 := by omega
      rw [hnat] at s0 s1 s2 s4 s5 s6 s7
      have hl4 := (HT.out w3 hB3.out).l4
      have hsl := slice_h ad t.f4.length c4 ((t.f4.length : Int) - 1) hkk0 (by omega)
      rw [hnat] at hsl
      clear hcl hnat
      generalize lastC t = c at *
      replace hCF := Aside0.mk hCF
      replace hl4 := Aside0.mk hl4
      replace hlen := Aside0.mk hlen
      obtain ⟨y0, y1, y2, y3, y4, y5, x0, x1, x2, x3, x4, x5⟩ := six_cells k0.out
      have k0a := blk_alloc k0.out (.cells #[.int .i64 c.f0, .int .i64 c.f1, .int .i64 c.f2, .bool c.f3.f0, .slice D4 c.f3.f1.length j4, .bool c.f4.f0, .slice D6 c.f4.f1.length j6] 30)
      obtain ⟨a0, a1, a2, a3, a4, a5, b0, b1, b2, b3, b4, b5⟩ := six_cells k0a
      replace k0a := Aside0.mk k0a
      go_wp2_with fail
      have e2 := hs3.out
      have hC5 : Chg (fun k => k = w.heap.size) w3 ((w3.alloc (.cells #[.int .i64 c.f0, .int .i64 c.f1, .int .i64 c.f2, .bool c.f3.f0, .slice D4 c.f3.f1.length j4, .bool c.f4.f0, .slice D6 c.f4.f1.length j6] 30)).setCell ⟨w.heap.size, 4, none⟩ (.slice (some ad) (t.f4.length - 1) c4)) := Chg.set (S := fun k => k = w.heap.size) (Chg.of_new (below_alloc (Below.refl _ _) _) _) (p := ⟨w.heap.size, 4, none⟩) (.inl rfl) _
      have hsz5 : ((w3.alloc (.cells #[.int .i64 c.f0, .int .i64 c.f1, .int .i64 c.f2, .bool c.f3.f0, .slice D4 c.f3.f1.length j4, .bool c.f4.f0, .slice D6 c.f4.f1.length j6] 30)).setCell ⟨w.heap.size, 4, none⟩ (.slice (some ad) (t.f4.length - 1) c4)).heap.size = w3.heap.size + 1 := by simp [World.setCell]
      have k05 : ((w3.alloc (.cells #[.int .i64 c.f0, .int .i64 c.f1, .int .i64 c.f2, .bool c.f3.f0, .slice D4 c.f3.f1.length j4, .bool c.f4.f0, .slice D6 c.f4.f1.length j6] 30)).setCell ⟨w.heap.size, 4, none⟩ (.slice (some ad) (t.f4.length - 1) c4)).heap[w.heap.size]? = some (.cells #[.int .i64 t.f0, .int .i64 t.f1, .int .i64 t.f2, .int .i64 t.f3, .slice (some ad) (t.f4.length - 1) c4, .slice A5 t.f5.length c5] 25) := blk_put k0a.out 4 _ rfl
      have k65 : ((w3.alloc (.cells #[.int .i64 c.f0, .int .i64 c.f1, .int .i64 c.f2, .bool c.f3.f0, .slice D4 c.f3.f1.length j4, .bool c.f4.f0, .slice D6 c.f4.f1.length j6] 30)).setCell ⟨w.heap.size, 4, none⟩ (.slice (some ad) (t.f4.length - 1) c4)).heap[w3.heap.size]? = some (.cells #[.int .i64 c.f0, .int .i64 c.f1, .int .i64 c.f2, .bool c.f3.f0, .slice D4 c.f3.f1.length j4, .bool c.f4.f0, .slice D6 c.f4.f1.length j6] 30) := blk_far (heap_alloc_new w3 _) (by show w3.heap.size ≠ w.heap.size; omega) _
      clear y0 y1 y2 y3 y4 y5 x0 x1 x2 x3 x4 x5 a0 a1 a2 a3 a4 a5 b0 b1 b2 b3 b4 b5 s0 s1 s2 s4 s5 s6 s7 z4 hsl f1 k0a
      generalize ((w3.alloc (.cells #[.int .i64 c.f0, .int .i64 c.f1, .int .i64 c.f2, .bool c.f3.f0, .slice D4 c.f3.f1.length j4, .bool c.f4.f0, .slice D6 c.f4.f1.length j6] 30)).setCell ⟨w.heap.size, 4, none⟩ (.slice (some ad) (t.f4.length - 1) c4)) = w5 at *
      have k15 := Aside0.mk ((hC5.block _ (by omega) (by omega)).trans k1.out)
      have k25 := Aside0.mk ((hC5.block _ (by omega) (by omega)).trans k2.out)
      replace k05 := Aside0.mk k05
      replace k65 := Aside0.mk k65
      have hB5 := Aside0.mk (hB3.out.trans (hC5.below (fun k hk => by omega) hB3.out.size))
      have hns := hmp.out.ns
      have hsz5' : w.heap.size + 3 < w5.heap.size := by omega
      replace hC5 := Aside0.mk hC5
      generalize hk' : (t.f4.length : Int) - 1 = kk at *
      replace hk' := Aside0.mk hk'
      replace hsz5 := Aside0.mk hsz5
      replace hs3 := Aside0.mk hs3
      have hrow0 : Aside0 (Below w5.heap.size w5 w5 ∧ Kd.R (Kd.int .i64) 3 w5 w5.heap.size (fun k => w5.heap.size ≤ k) (.slice none 0 0) ((t.f5.take 0).filter fun x => !decide (kk < x))) := ⟨Below.refl _ _, Kd.R_nil _ _ _ _ _⟩
      clear hkk0 hkk1 e2
      go_loopw [8, 9] (fun v8 v9 wr => ∃ i : Nat, i ≤ t.f5.length ∧ v9 = .int .i64 i ∧ Aside0 (Below w5.heap.size w5 wr ∧ Kd.R (Kd.int .i64) 3 wr w5.heap.size (fun k => w5.heap.size ≤ k) v8 ((t.f5.take i).filter fun x => !decide (kk < x)))) (fun _ v9 _ => t.f5.length - (intOf v9).toNat)
      case atStart => exact ⟨0, Nat.zero_le _, rfl, hrow0⟩
      case round =>
        obtain ⟨i, hi, rfl, HI⟩ := hrel
        have hB := HI.out.1
        have k0r := (hB.block _ (by omega)).trans k05.out
        have r5 : wr.cell? ⟨w.heap.size, 5, none⟩ = some (.slice A5 t.f5.length c5) := (blk_cell k0r 5).trans rfl
        by_cases hli : i < t.f5.length
        · obtain ⟨a5, rfl, hrd⟩ := (Kd.reads_of_C (d := (0 : Int)) (Kd.F_now (HT.out wr (hB5.out.trans (hB.mono hB5.out.size))).g5)).2.2 (by omega)
          have z5 := hrd i hli
          have htk : t.f5.take (i + 1) = t.f5.take i ++ [t.f5.getD i 0] := by rw [List.take_succ_eq_append_getElem hli, List.getD_eq_getElem?_getD, List.getElem?_eq_getElem hli]; rfl
          have hlen5 : ((t.f5.take i).filter fun x => !decide (kk < x)).length ≤ 4 := Nat.le_trans (List.length_filter_le _ _) (by simp; omega)
          generalize t.f5.getD i 0 = x at *
          obtain ⟨A, cr, rfl⟩ := Kd.R_slice HI.out.2
          replace k0r := Aside0.mk k0r
          replace hB := Aside0.mk hB
          clear hrd
          by_cases hx : x ≤ kk
          · have f1 : decide (x ≤ kk) = true := by simpa using hx
            have hfx : Aside0 ((t.f5.take (i + 1)).filter (fun x => !decide (kk < x)) = (t.f5.take i).filter (fun x => !decide (kk < x)) ++ [x]) := ⟨by rw [htk, List.filter_append]; simp; omega⟩
            replace htk := Aside0.mk htk
            replace hlen5 := Aside0.mk hlen5
            have hrow := Aside0.mk HI.out.2
            clear hx HI
            generalize (t.f5.take i).filter (fun x => !decide (kk < x)) = fl at *
            go_wp2_with ((with_reducible refine gate_builtin (b := .append) (xs := #[.tmp 50, .tmp 56]) rfl ?_); at_builtin; refine Kd.R_append (Kd.int .i64) (w0 := w5) w5.heap.size rfl (.tmp 50) (.tmp 56) 23 3 (.int .i64 0) 8 rfl Try.underlying23 info3 rfl (by decide) (by decide) (.slice A fl.length cr) fl x [.int .i64 x] (fun k => w5.heap.size ≤ k) (fun _ => False) rfl rfl rfl (fun _ hk => hk.elim) (fun k hk => Nat.le_trans hB.out.size hk) hrow.out hB.out hB.out.size (by have := hlen5.out; omega) ?_; intro v w2 ho hb _ _)
            have HI2 : Aside0 (Below w5.heap.size w5 w2 ∧ Kd.R (Kd.int .i64) 3 w2 w5.heap.size (fun k => w5.heap.size ≤ k) v ((t.f5.take (i + 1)).filter fun x => !decide (kk < x))) := ⟨hb, by rw [hfx.out]; exact ho⟩
            clear ho hb
            go_wp2_with fail
            go_roundw
            case rel => exact ⟨i + 1, by omega, by go_num, HI2⟩
            case measure => simp only [intOf]; omega
          · have f1 : decide (x ≤ kk) = false := by simpa using hx
            have HI2 : Aside0 (Below w5.heap.size w5 wr ∧ Kd.R (Kd.int .i64) 3 wr w5.heap.size (fun k => w5.heap.size ≤ k) (.slice A ((t.f5.take i).filter fun x => !decide (kk < x)).length cr) ((t.f5.take (i + 1)).filter fun x => !decide (kk < x))) := ⟨hB.out, by rw [htk, List.filter_append, show [x].filter (fun x => !decide (kk < x)) = [] by simp; omega, List.append_nil]; exact HI.out.2⟩
            replace htk := Aside0.mk htk
            replace hlen5 := Aside0.mk hlen5
            clear hx HI
            generalize ((t.f5.take i).filter fun x => !decide (kk < x)).length = fn at *
            go_wp2_with fail
            go_roundw
            case rel => exact ⟨i + 1, by omega, by go_num, HI2⟩
            case measure => simp only [intOf]; omega
        · obtain rfl : i = t.f5.length := by omega
          have hrow := HI.out.2
          rw [List.take_length] at hrow
          obtain ⟨A, cr, rfl⟩ := Kd.R_slice hrow
          have hsr := hB.size
          have e2 := hs3.out
          have e3 := hsz5.out
          have k1r := (hB.block _ (by omega)).trans k15.out
          have k2r := (hB.block _ (by omega)).trans k25.out
          have k6r := (hB.block _ (by omega)).trans k65.out
          have hfe : Aside0 ((undoD t).f5 = t.f5.filter fun x => !decide (kk < x)) := ⟨by unfold undoD; rw [hk'.out]⟩
          have hfl : Aside0 ((undoD t).f4.length = t.f4.length - 1) := ⟨by unfold undoD; simp⟩
          have hW : Aside0 (∀ W', Chg (fun k => k = w.heap.size ∨ k = w.heap.size + 1 ∨ k = w.heap.size + 1 + 1) wr W' → TF W' (fun k => P k ∨ w.heap.size ≤ k) (undoD t) (some ad) c4 A (cr) ∧ CF W' (fun k => P k ∨ w.heap.size ≤ k) c D4 j4 D6 j6 ∧ Below w.heap.size w W') := by
            refine ⟨fun W' hC => ?_⟩
            have hB5w := hB5.out.trans (hB.mono hB5.out.size)
            have hBW := hB5w.trans (hC.below (fun k hk => by omega) hB5w.size)
            have hlow := Kd.R_base hrow
            have hF5 := Kd.R_V (base' := 0) (Kd.R_tight rfl hrow)
            refine ⟨⟨?_, ?_, ?_, ?_⟩, ⟨hCF.out.l4, ?_, hCF.out.l6, ?_⟩, hBW⟩
            · rw [hfl.out]
              have := hl4.out
              omega
            · show Kd.F k30 W' _ _ (t.f4.take (t.f4.length - 1)).length (t.f4.take (t.f4.length - 1))
              exact Kd.F_mono (Kd.F_take ((hbnd.out.step (fun k hk hlt => hBW.block k hk.2)).g4) (by omega)) (fun k hk => .inl hk.1)
            · show (undoD t).f5.length ≤ _
              rw [hfe.out]
              exact (Kd.V_at hF5).2.1
            · rw [hfe.out]
              exact Kd.F_mono (Kd.F_step (Kd.V_at hF5).2.2 (fun k hk hlt => hC.block k hlt (by have := hlow k hk.symm; omega))) (fun k hk => .inr (by have := hlow k hk.symm; omega))
            · exact Kd.F_mono (Kd.F_step hCF.out.g4 (fun k hk hlt => (hBW.block k hk.2).trans (hB3.out.block k hk.2).symm)) (fun k hk => .inl hk.1)
            · exact Kd.F_mono (Kd.F_step hCF.out.g6 (fun k hk hlt => (hBW.block k hk.2).trans (hB3.out.block k hk.2).symm)) (fun k hk => .inl hk.1)
          obtain ⟨y0, y1, y2, y3, y4, y5, x0, x1, x2, x3, x4, x5⟩ := six_cells k0r
          replace k0r := Aside0.mk k0r
          replace k1r := Aside0.mk k1r
          replace k2r := Aside0.mk k2r
          replace k6r := Aside0.mk k6r
          have g1 : w.heap.size + 1 ≠ w.heap.size := by omega
          have g2 : w.heap.size + 1 + 1 ≠ w.heap.size := by omega
          have g3 : w3.heap.size ≠ w.heap.size := by omega
          have n1 : w.heap.size + 1 + 1 ≠ w3.heap.size := by omega
          have n2 : w.heap.size + 1 ≠ w3.heap.size := by omega
          have n3 : w.heap.size ≠ w3.heap.size := by omega
          replace hsr := Aside0.mk hsr
          replace e2 := Aside0.mk e2
          replace e3 := Aside0.mk e3
          replace hB := Aside0.mk hB
          clear hrow HI r5
          replace hns := Aside0.mk hns
          replace hsz5' := Aside0.mk hsz5'
          go_wp2_with fail
          have ka0 : (wr.setCell ⟨w.heap.size, 5, none⟩ (.slice A (t.f5.filter fun x => !decide (kk < x)).length cr)).heap[w.heap.size]? = some (.cells #[.int .i64 t.f0, .int .i64 t.f1, .int .i64 t.f2, .int .i64 t.f3, .slice (some ad) (t.f4.length - 1) c4, .slice A (t.f5.filter fun x => !decide (kk < x)).length cr] 25) := blk_put k0r.out 5 _ rfl
          have ka1 := blk_far k1r.out (p := ⟨w.heap.size, 5, none⟩) g1 (.slice A (t.f5.filter fun x => !decide (kk < x)).length cr)
          have ka2 := blk_far k2r.out (p := ⟨w.heap.size, 5, none⟩) g2 (.slice A (t.f5.filter fun x => !decide (kk < x)).length cr)
          have ka6 := blk_far k6r.out (p := ⟨w.heap.size, 5, none⟩) g3 (.slice A (t.f5.filter fun x => !decide (kk < x)).length cr)
          have hCa := Chg.set (S := fun k => k = w.heap.size ∨ k = w.heap.size + 1 ∨ k = w.heap.size + 1 + 1) (Chg.refl _ wr) (p := ⟨w.heap.size, 5, none⟩) (.inl (.inl rfl)) (.slice A (t.f5.filter fun x => !decide (kk < x)).length cr)
          replace hW : Aside0 (∀ W', Chg (fun k => k = w.heap.size ∨ k = w.heap.size + 1 ∨ k = w.heap.size + 1 + 1) (wr.setCell ⟨w.heap.size, 5, none⟩ (.slice A (t.f5.filter fun x => !decide (kk < x)).length cr)) W' → TF W' (fun k => P k ∨ w.heap.size ≤ k) (undoD t) (some ad) c4 A cr ∧ CF W' (fun k => P k ∨ w.heap.size ≤ k) c D4 j4 D6 j6 ∧ Below w.heap.size w W') := ⟨fun W' hC => hW.out W' (hCa.trans hC (fun j hj => .inl hj))⟩
          clear hCa y0 y1 y2 y3 y4 y5 x0 x1 x2 x3 x4 x5
          generalize (wr.setCell ⟨w.heap.size, 5, none⟩ (.slice A (t.f5.filter fun x => !decide (kk < x)).length cr)) = wa at *
          rw [← hfe.out] at ka0 ⊢
          rw [← hfl.out] at ka0 ⊢
          replace hfe := Aside0.mk hfe
          obtain ⟨y0, y1, y2, y3, y4, y5, _, _, _, _, _, _⟩ := six_cells ka0
          obtain ⟨_, _, _, _, _, _, p0, p1, p2, p3, p4, p5⟩ := six_cells ka1
          obtain ⟨_, _, _, _, _, _, _, r0, r1, r2, r3, r4, r5, r6⟩ := seven_cells ka2
          obtain ⟨q0, q1, q2, q3, q4, q5, q6⟩ := seven_at ka6
          replace ka0 := Aside0.mk ka0
          replace ka1 := Aside0.mk ka1
          replace ka2 := Aside0.mk ka2
          replace ka6 := Aside0.mk ka6
          clear g1 g2 g3
          go_region
          go_wp2_with fail
          refine bodyPost_ret (results_cct rfl _ _ (w.heap.size + 1) (w.heap.size + 1 + 1) #[.int .i64 t.f0, .int .i64 t.f1, .int .i64 t.f2, .int .i64 t.f3, .slice (some ad) (undoD t).f4.length c4, .slice A (undoD t).f5.length cr] #[.int .i64 c.f0, .int .i64 c.f1, .int .i64 c.f2, .bool c.f3.f0, .slice D4 c.f3.f1.length j4, .bool c.f4.f0, .slice D6 c.f4.f1.length j6] rfl (blk_drew (seven_far (six_put ka1.out _ _ _ _ _ _) (by omega) _ _ _ _ _ _ _)) rfl rfl (blk_drew (seven_put (six_far ka2.out (by omega) _ _ _ _ _ _) _ _ _ _ _ _ _)) rfl) rfl ?_
          rw [UnPost, hR.out.1, hR.out.2.1, hR.out.2.2]
          have hfin := hW.out _ (Chg.new (Chg.seven (Chg.six (Chg.refl _ _) (.inl (.inr (.inl rfl))) (.int .i64 t.f0) (.int .i64 t.f1) (.int .i64 t.f2) (.int .i64 t.f3) (.slice (some ad) (undoD t).f4.length c4) (.slice A (undoD t).f5.length cr)) (.inl (.inr (.inr rfl))) (.int .i64 c.f0) (.int .i64 c.f1) (.int .i64 c.f2) (.bool c.f3.f0) (.slice D4 c.f3.f1.length j4) (.bool c.f4.f0) (.slice D6 c.f4.f1.length j6)) (below_drew (Below.refl _ _)))
          exact ⟨_, _, A, cr, D4, j4, D6, j6, rfl, hfin⟩
end Go.Proofs.Ytdbbibndjknafaa.Print
