/- txn.Undo: the walk. -/
import Derived.Test.YtdbbibndjknafaaTx3a
import Derived.BigQuiet
namespace Go.Proofs.Ytdbbibndjknafaa.Print
open Go.RowKit Go.Proofs.YtdbbibndjknafaaW.PrintWords Go.Proofs.YtdbbibndjknafaaW.PrintLast Go.Proofs.YtdbbibndjknafaaW.PrintMore
set_option linter.unusedVariables false
set_option linter.unusedSimpArgs false
theorem seven_at {W : World} {g : Nat} {a b c d e f h : Value} {t : TypeId} (hh : W.heap[g]? = some (.cells #[a, b, c, d, e, f, h] t (0, 0))) :
    W.cell? ⟨g, 0, none⟩ = some a ∧ W.cell? ⟨g, 1, none⟩ = some b ∧ W.cell? ⟨g, 2, none⟩ = some c ∧ W.cell? ⟨g, 3, none⟩ = some d ∧ W.cell? ⟨g, 4, none⟩ = some e ∧ W.cell? ⟨g, 5, none⟩ = some f ∧ W.cell? ⟨g, 6, none⟩ = some h :=
  ⟨(blk_cell hh 0).trans rfl, (blk_cell hh 1).trans rfl, (blk_cell hh 2).trans rfl, (blk_cell hh 3).trans rfl, (blk_cell hh 4).trans rfl, (blk_cell hh 5).trans rfl, (blk_cell hh 6).trans rfl⟩
set_option maxHeartbeats 600000 in
set_option maxRecDepth 100000 in
theorem undo_any {P : Nat → Prop} {w : World} (t : S25) (A4 : Option Addr) (c4 : Nat) (A5 : Option Addr) (c5 : Nat) (h : TF w P t A4 c4 A5 c5) :
    Calls Try.prog 14 #[.agg #[.int .i64 t.f0, .int .i64 t.f1, .int .i64 t.f2, .int .i64 t.f3, .slice A4 t.f4.length c4, .slice A5 t.f5.length c5]] w (UnPost w (fun k => w.heap.size ≤ k) t) := by
  have HT := Aside0.mk (fun X (hb : Below w.heap.size w X) => h.below hb)
  have hm4 : t.f4.length ≤ 9223372036854775807 := (Kd.F_now h.g4).2.1
  clear h
  obtain ⟨HW, k0, k1, k2, k3, hs⟩ := four_new w (.cells #[.int .i64 t.f0, .int .i64 t.f1, .int .i64 t.f2, .int .i64 t.f3, .slice A4 t.f4.length c4, .slice A5 t.f5.length c5] 25) (.cells #[.int .i64 0, .int .i64 0, .int .i64 0, .int .i64 0, .slice none 0 0, .slice none 0 0] 25) (.cells #[.int .i64 0, .int .i64 0, .int .i64 0, .bool false, .slice none 0 0, .bool false, .slice none 0 0] 30) (.cells #[.int .i64 ((t.f4.length : Int) - 1)] 3)
  replace HW := Aside0.mk HW
  replace k0 := Aside0.mk k0
  replace k1 := Aside0.mk k1
  replace k2 := Aside0.mk k2
  replace k3 := Aside0.mk k3
  replace hs := Aside0.mk hs
  go_enter Try.func14, Try.ntmps14
  go_wp2_with fail
  generalize (((w.alloc _).alloc _).alloc _).alloc _ = wb at *
  have hkk : Aside0 ((t.f4.length : Int) - 1 = (t.f4.length : Int) - 1) := ⟨rfl⟩
  generalize hk' : (t.f4.length : Int) - 1 = kk at *
  replace hk' := Aside0.mk hk'
  clear hkk
  have hsb := HW.out.size
  refine (may_any t A4 c4 A5 c5 (HT.out wb HW.out)).mono ?_
  rintro e w3 ⟨rfl, hb3⟩
  have hB3 := Aside0.mk (HW.out.trans (hb3.mono hsb))
  replace k0 := Aside0.mk ((hb3.block _ (by have := hs.out; omega)).trans k0.out)
  replace k1 := Aside0.mk ((hb3.block _ (by have := hs.out; omega)).trans k1.out)
  replace k2 := Aside0.mk ((hb3.block _ (by have := hs.out; omega)).trans k2.out)
  replace k3 := Aside0.mk ((hb3.block _ (by have := hs.out; omega)).trans k3.out)
  have hs3 : Aside0 (w.heap.size + 4 ≤ w3.heap.size) := ⟨by have := hs.out; have := hb3.size; omega⟩
  clear hb3 hsb hs HW
  obtain ⟨y0, y1, y2, y3, y4, y5, x0, x1, x2, x3, x4, x5⟩ := six_cells k1.out
  obtain ⟨v0, v1, v2, v3, v4, v5, v6, u0, u1, u2, u3, u4, u5, u6⟩ := seven_cells k2.out
  have hz6 : Aside0 (∀ W, Chg (fun k => k = w.heap.size + 1 ∨ k = w.heap.size + 1 + 1) w3 W → Below w.heap.size w W) := ⟨fun W hW => hB3.out.trans (hW.below (fun k hk => by omega) hB3.out.size)⟩
  cases hmay : mayT t
  · have hR := Aside0.mk (undo_no hmay)
    go_wp2_with fail
    refine bodyPost_ret (results_cct rfl _ _ (w.heap.size + 1) (w.heap.size + 1 + 1) #[.int .i64 0, .int .i64 0, .int .i64 0, .int .i64 0, .slice none 0 0, .slice none 0 0] #[.int .i64 0, .int .i64 0, .int .i64 0, .bool false, .slice none 0 0, .bool false, .slice none 0 0] rfl (seven_far (six_put k1.out _ _ _ _ _ _) (by omega) _ _ _ _ _ _ _) rfl rfl (seven_put (six_far k2.out (by omega) _ _ _ _ _ _) _ _ _ _ _ _ _) rfl) rfl ?_
    rw [UnPost, hR.out.1, hR.out.2.1, hR.out.2.2]
    exact ⟨none, 0, none, 0, none, 0, none, 0, rfl, TF.nil _ _, CF.nil _ _, hz6.out _ (Chg.seven (Chg.six (Chg.refl _ _) (.inl (.inl rfl)) _ _ _ _ _ _) (.inl (.inr rfl)) _ _ _ _ _ _ _)⟩
  · have z3 : w3.cell? ⟨w.heap.size + 1 + 1 + 1, 0, none⟩ = some (.int .i64 kk) := (blk_cell k3.out 0).trans rfl
    have hmp := Aside0.mk (mayT_true.1 hmay)
    by_cases hlen : t.f4.length = 0
    · have hR := Aside0.mk (undo_none hmay hlen)
      have f1 : decide (kk < 0) = true := by have := hk'.out; simp; omega
      go_wp2_with fail
      refine bodyPost_ret (results_cct rfl _ _ (w.heap.size + 1) (w.heap.size + 1 + 1) #[.int .i64 0, .int .i64 0, .int .i64 0, .int .i64 0, .slice none 0 0, .slice none 0 0] #[.int .i64 0, .int .i64 0, .int .i64 0, .bool false, .slice none 0 0, .bool false, .slice none 0 0] rfl (seven_far (six_put k1.out _ _ _ _ _ _) (by omega) _ _ _ _ _ _ _) rfl rfl (seven_put (six_far k2.out (by omega) _ _ _ _ _ _) _ _ _ _ _ _ _) rfl) rfl ?_
      rw [UnPost, hR.out.1, hR.out.2.1, hR.out.2.2]
      exact ⟨none, 0, none, 0, none, 0, none, 0, rfl, TF.nil _ _, CF.nil _ _, hz6.out _ (Chg.seven (Chg.six (Chg.refl _ _) (.inl (.inl rfl)) _ _ _ _ _ _) (.inl (.inr rfl)) _ _ _ _ _ _ _)⟩
    · have hR := Aside0.mk (undo_ok hmay hlen)
      have hkk0 : 0 ≤ kk := by have := hk'.out; omega
      have hkk1 : kk < (t.f4.length : Int) := by have := hk'.out; omega
      have f1 : decide (kk < 0) = false := by simp; omega
      clear y0 y1 y2 y3 y4 y5 x0 x1 x2 x3 x4 x5 v0 v1 v2 v3 v4 v5 v6 u0 u1 u2 u3 u4 u5 u6 hz6
      obtain ⟨y0, y1, y2, y3, y4, y5, x0, x1, x2, x3, x4, x5⟩ := six_cells k0.out
      go_wp2_with fail
      refine (copied_any t A4 c4 A5 c5 w3 (HT.out w3 hB3.out).l4 (Kd.F_now (HT.out w3 hB3.out).g4) (HT.out w3 hB3.out).l5 (Kd.F_now (HT.out w3 hB3.out).g5) (by have := hmp.out.nl; omega) (by have := hmp.out.ns; omega) hmp.out.light.2.2).mono ?_
      rintro e w6 ⟨E4, g4, E5, g5, rfl, hN, hR5, hb6⟩
      have hs6 := hb6.size
      have hs3' := hs3.out
      replace k0 := Aside0.mk ((hb6.block _ (by omega)).trans k0.out)
      replace k1 := Aside0.mk ((hb6.block _ (by omega)).trans k1.out)
      replace k2 := Aside0.mk ((hb6.block _ (by omega)).trans k2.out)
      replace k3 := Aside0.mk ((hb6.block _ (by omega)).trans k3.out)
      have hB6 := Aside0.mk (hB3.out.trans (hb6.mono hB3.out.size))
      have hN' := Aside0.mk hN
      have hlow5 := Aside0.mk (Kd.R_base hR5)
      have hR5' := Aside0.mk (Kd.R_tight rfl hR5)
      obtain ⟨ad, D4, j4, D6, j6, rfl, z0, z1, z2, z4, z5, z6, z7, hCF⟩ := at_F30 (Kd.N_F hN) kk hkk0 hkk1
      have hcl : rd_T30 t.f4 kk = lastC t := by unfold rd_T30 lastC; rw [show kk.toNat = t.f4.length - 1 by have := hk'.out; omega]
      have hcap := (Kd.N_reads' hN).2.1
      rw [hcl] at z0 z1 z2 z4 z5 z6 z7 hCF
      obtain ⟨gr, cap, er, hgr, hgl, cells, hcells⟩ := Kd.N_form hN (by omega)
      simp only [Value.slice.injEq, Option.some.injEq] at er
      obtain ⟨er, _⟩ := er
      subst er
      rw [add_plain] at z0 z1 z2 z4 z5 z6 z7
      have hgn : gr ≠ w.heap.size := by omega
      clear hb6 y0 y1 y2 y3 y4 y5 x0 x1 x2 x3 x4 x5 hN hR5 hcl z3
      have hsl := slice_kk gr t.f4.length cap kk hkk0 (by omega)
      obtain ⟨y0, y1, y2, y3, y4, y5, x0, x1, x2, x3, x4, x5⟩ := six_cells k0.out
      generalize lastC t = c at *
      iterate 6 (first | go_values | go_skip | go_guarded | go_step | go_upon | go_back | (simp only [Int.not_lt, Int.not_le] at *; go_simp) | (go_values <;> (try go_simp)) | (go_ite <;> go_prune <;> (try go_simp)))
      have hC7 : Chg (fun k => k = w.heap.size) w6 ((((((w6.setCell ⟨w.heap.size, 0, none⟩ (.int .i64 t.f0)).setCell ⟨w.heap.size, 1, none⟩ (.int .i64 t.f1)).setCell ⟨w.heap.size, 2, none⟩ (.int .i64 t.f2)).setCell ⟨w.heap.size, 3, none⟩ (.int .i64 t.f3)).setCell ⟨w.heap.size, 4, none⟩ (.slice (some ⟨gr, 0, none⟩) t.f4.length cap)).setCell ⟨w.heap.size, 5, none⟩ (.slice E5 t.f5.length g5)) := Chg.six (S := fun k => k = w.heap.size) (Chg.refl _ _) (.inl rfl) _ _ _ _ _ _
      have k0' := six_put k0.out (.int .i64 t.f0) (.int .i64 t.f1) (.int .i64 t.f2) (.int .i64 t.f3) (.slice (some ⟨gr, 0, none⟩) t.f4.length cap) (.slice E5 t.f5.length g5)
      clear y0 y1 y2 y3 y4 y5 x0 x1 x2 x3 x4 x5
      generalize ((((((w6.setCell ⟨w.heap.size, 0, none⟩ (.int .i64 t.f0)).setCell ⟨w.heap.size, 1, none⟩ (.int .i64 t.f1)).setCell ⟨w.heap.size, 2, none⟩ (.int .i64 t.f2)).setCell ⟨w.heap.size, 3, none⟩ (.int .i64 t.f3)).setCell ⟨w.heap.size, 4, none⟩ (.slice (some ⟨gr, 0, none⟩) t.f4.length cap)).setCell ⟨w.heap.size, 5, none⟩ (.slice E5 t.f5.length g5)) = w7 at *
      have hs7 := hC7.size
      have hsame : ∀ a : Addr, a.block = gr → w7.cell? a = w6.cell? a := fun a ha => cell_same (by rw [ha]; exact hC7.block _ hgl hgn)
      obtain ⟨y0, y1, y2, y3, y4, y5, x0, x1, x2, x3, x4, x5⟩ := six_cells k0'
      have s0 := (hsame _ rfl).trans z0
      have s1 := (hsame _ rfl).trans z1
      have s2 := (hsame _ rfl).trans z2
      have s4 := (hsame _ rfl).trans z4
      have s5 := (hsame _ rfl).trans z5
      have s6 := (hsame _ rfl).trans z6
      have s7 := (hsame _ rfl).trans z7
      replace k1 := Aside0.mk ((hC7.block _ (by omega) (by omega)).trans k1.out)
      replace k2 := Aside0.mk ((hC7.block _ (by omega) (by omega)).trans k2.out)
      replace k3 := Aside0.mk ((hC7.block _ (by omega) (by omega)).trans k3.out)
      have z3 : w7.cell? ⟨w.heap.size + 1 + 1 + 1, 0, none⟩ = some (.int .i64 kk) := (blk_cell k3.out 0).trans rfl
      replace k0 := Aside0.mk k0'
      replace hCF := Aside0.mk hCF
      replace hcells := Aside0.mk hcells
      replace hC7 := Aside0.mk hC7
      clear hsame z0 z1 z2 z4 z5 z6 z7 k0'
      replace hcap := Aside0.mk hcap
      replace hgr := Aside0.mk hgr
      replace hgl := Aside0.mk hgl
      replace hgn := Aside0.mk hgn
      replace hs6 := Aside0.mk hs6
      replace hs3' := Aside0.mk hs3'
      replace hs7 := Aside0.mk hs7
      replace hlen := Aside0.mk hlen
      replace hm4 := Aside0.mk hm4
      replace hmay := Aside0.mk hmay
      clear f1 x0 x1 x2 x3
      have k0a : (w7.alloc (.cells #[.int .i64 c.f0, .int .i64 c.f1, .int .i64 c.f2, .bool c.f3.f0, .slice D4 c.f3.f1.length j4, .bool c.f4.f0, .slice D6 c.f4.f1.length j6] 30)).heap[w.heap.size]? = some (.cells #[.int .i64 t.f0, .int .i64 t.f1, .int .i64 t.f2, .int .i64 t.f3, .slice (some ⟨gr, 0, none⟩) t.f4.length cap, .slice E5 t.f5.length g5] 25) := blk_alloc k0.out _
      obtain ⟨a0, a1, a2, a3, a4, a5, b0, b1, b2, b3, b4, b5⟩ := six_cells k0a
      have a6 : (w7.alloc (.cells #[.int .i64 c.f0, .int .i64 c.f1, .int .i64 c.f2, .bool c.f3.f0, .slice D4 c.f3.f1.length j4, .bool c.f4.f0, .slice D6 c.f4.f1.length j6] 30)).cell? ⟨w.heap.size + 1 + 1 + 1, 0, none⟩ = some (.int .i64 kk) := (blk_cell (blk_alloc k3.out _) 0).trans rfl
      replace k0a := Aside0.mk k0a
      clear b0 b1 b2 b3
      go_wp2_with fail
      have hC78 : Chg (fun k => k = w.heap.size) w7 ((w7.alloc (.cells #[.int .i64 c.f0, .int .i64 c.f1, .int .i64 c.f2, .bool c.f3.f0, .slice D4 c.f3.f1.length j4, .bool c.f4.f0, .slice D6 c.f4.f1.length j6] 30)).setCell ⟨w.heap.size, 4, none⟩ (.slice (some ⟨gr, 0, none⟩) kk.toNat kk.toNat)) := Chg.set (S := fun k => k = w.heap.size) (Chg.of_new (below_alloc (Below.refl _ _) _) _) (p := ⟨w.heap.size, 4, none⟩) (.inl rfl) _
      have hC8 : Chg (fun k => k = w.heap.size) w6 ((w7.alloc (.cells #[.int .i64 c.f0, .int .i64 c.f1, .int .i64 c.f2, .bool c.f3.f0, .slice D4 c.f3.f1.length j4, .bool c.f4.f0, .slice D6 c.f4.f1.length j6] 30)).setCell ⟨w.heap.size, 4, none⟩ (.slice (some ⟨gr, 0, none⟩) kk.toNat kk.toNat)) := (hC7.out.new (below_alloc (Below.refl _ _) _)).set (p := ⟨w.heap.size, 4, none⟩) (.inl rfl) _
      have hsz8 : ((w7.alloc (.cells #[.int .i64 c.f0, .int .i64 c.f1, .int .i64 c.f2, .bool c.f3.f0, .slice D4 c.f3.f1.length j4, .bool c.f4.f0, .slice D6 c.f4.f1.length j6] 30)).setCell ⟨w.heap.size, 4, none⟩ (.slice (some ⟨gr, 0, none⟩) kk.toNat kk.toNat)).heap.size = w7.heap.size + 1 := by simp [World.setCell]
      have k08 : ((w7.alloc (.cells #[.int .i64 c.f0, .int .i64 c.f1, .int .i64 c.f2, .bool c.f3.f0, .slice D4 c.f3.f1.length j4, .bool c.f4.f0, .slice D6 c.f4.f1.length j6] 30)).setCell ⟨w.heap.size, 4, none⟩ (.slice (some ⟨gr, 0, none⟩) kk.toNat kk.toNat)).heap[w.heap.size]? = some (.cells #[.int .i64 t.f0, .int .i64 t.f1, .int .i64 t.f2, .int .i64 t.f3, .slice (some ⟨gr, 0, none⟩) kk.toNat kk.toNat, .slice E5 t.f5.length g5] 25) := blk_put k0a.out 4 _ rfl
      have k68 : ((w7.alloc (.cells #[.int .i64 c.f0, .int .i64 c.f1, .int .i64 c.f2, .bool c.f3.f0, .slice D4 c.f3.f1.length j4, .bool c.f4.f0, .slice D6 c.f4.f1.length j6] 30)).setCell ⟨w.heap.size, 4, none⟩ (.slice (some ⟨gr, 0, none⟩) kk.toNat kk.toNat)).heap[w7.heap.size]? = some (.cells #[.int .i64 c.f0, .int .i64 c.f1, .int .i64 c.f2, .bool c.f3.f0, .slice D4 c.f3.f1.length j4, .bool c.f4.f0, .slice D6 c.f4.f1.length j6] 30) := blk_far (heap_alloc_new w7 _) (by show w7.heap.size ≠ w.heap.size; have := hs7.out; have := hs6.out; have := hs3'.out; omega) _
      generalize ((w7.alloc (.cells #[.int .i64 c.f0, .int .i64 c.f1, .int .i64 c.f2, .bool c.f3.f0, .slice D4 c.f3.f1.length j4, .bool c.f4.f0, .slice D6 c.f4.f1.length j6] 30)).setCell ⟨w.heap.size, 4, none⟩ (.slice (some ⟨gr, 0, none⟩) kk.toNat kk.toNat)) = w8 at *
      have e0 := hs7.out
      have e1 := hs6.out
      have e2 := hs3'.out
      have e3 := hgr.out
      have e4 := hgl.out
      replace k1 := (hC78.block _ (by omega) (by omega)).trans k1.out
      replace k2 := (hC78.block _ (by omega) (by omega)).trans k2.out
      replace k3 := (hC78.block _ (by omega) (by omega)).trans k3.out
      have hR8 : (Kd.int .i64).R 3 w8 w3.heap.size (fun k => some k = (Value.slice E5 t.f5.length g5).ownBlock) (.slice E5 t.f5.length g5) t.f5 := Kd.R_step hR5'.out (fun k hk hlt => hC8.block k hlt (by have := hlow5.out k hk.symm; omega))
      have hL6 := Kd.F_bound (Kd.F_take (m := kk.toNat) (Kd.N_F hN'.out) (by omega))
      have hlow5' := hlow5.out
      have hlt5 := Kd.N_lt (Kd.R_N hR5'.out)
      clear hN' hR5' k0 hC7 hcells hlow5 y0 y1 y2 y3 y4 y5 x4 x5 s0 s1 s2 s4 s5 s6 s7 a0 a1 a2 a3 a4 a5 a6 b4 b5 k0a z3 hsl
      refine (del_any kk (w.heap.size + 1 + 1 + 1) E5 g5 t.f5 w8 (by omega) ((blk_cell k3 0).trans rfl) hR8 (by omega)).mono ?_
      rintro e w9 ⟨rfl, hF9, hl9, hC9⟩
      have ne : ∀ k, k < w3.heap.size → some k ≠ (Value.slice E5 t.f5.length g5).ownBlock := fun k hk e => by have := hlow5' k e.symm; omega
      have ne7 : some w7.heap.size ≠ (Value.slice E5 t.f5.length g5).ownBlock := fun e => by
        have := hlt5 _ e.symm
        omega
      have k09 := Aside0.mk ((hC9.block _ (by omega) (ne _ (by omega))).trans k08)
      have k19 := Aside0.mk ((hC9.block _ (by omega) (ne _ (by omega))).trans k1)
      have k29 := Aside0.mk ((hC9.block _ (by omega) (ne _ (by omega))).trans k2)
      have k69 := Aside0.mk ((hC9.block _ (by omega) ne7).trans k68)
      have hs9 := hC9.size
      have hlt : w.heap.size + 4 ≤ w9.heap.size := by omega
      have hw7 : w.heap.size + 4 ≤ w7.heap.size := by omega
      -- what is answered, in whatever world is left
      have hW : Aside0 (∀ W', Chg (fun k => k = w.heap.size ∨ k = w.heap.size + 1 ∨ k = w.heap.size + 1 + 1) w9 W' → TF W' (fun k => w.heap.size ≤ k) (undoD t) (some ⟨gr, 0, none⟩) kk.toNat E5 g5 ∧ CF W' (fun k => w.heap.size ≤ k) c D4 j4 D6 j6 ∧ Below w.heap.size w W') := by
        refine ⟨fun W' hC => ?_⟩
        have hsw := hB6.out.size
        have hst : ∀ k, (w3.heap.size ≤ k ∧ some k ≠ (Value.slice E5 t.f5.length g5).ownBlock) → k < w6.heap.size → W'.heap[k]? = w6.heap[k]? := fun k hk hlt => (hC.block k (by omega) (by omega)).trans ((hC9.block k (by omega) hk.2).trans (hC8.block k hlt (by omega)))
        have hkn : t.f4.length - 1 = kk.toNat := by have := hk'.out; omega
        refine ⟨⟨?_, ?_, ?_, ?_⟩, ⟨hCF.out.l4, ?_, hCF.out.l6, ?_⟩, ?_⟩
        · show (t.f4.take (t.f4.length - 1)).length ≤ _
          simp
          omega
        · show Kd.F k30 W' _ _ (t.f4.take (t.f4.length - 1)).length (t.f4.take (t.f4.length - 1))
          rw [hkn]
          exact Kd.F_mono (Kd.F_step hL6 (fun k hk hlt => hst k hk.1 hlt)) (fun k hk => by have := hk.1.1; omega)
        · show (t.f5.filter fun x => !decide ((t.f4.length : Int) - 1 < x)).length ≤ _
          rw [hk'.out]
          exact hl9
        · show Kd.F (Kd.int .i64) W' _ _ (t.f5.filter fun x => !decide ((t.f4.length : Int) - 1 < x)).length (t.f5.filter fun x => !decide ((t.f4.length : Int) - 1 < x))
          rw [hk'.out]
          exact Kd.F_mono (Kd.F_step hF9 (fun k hk hlt => hC.block k hlt (by have := hlow5' k hk.symm; omega))) (fun k hk => by have := hlow5' k hk.symm; omega)
        · exact Kd.F_mono (Kd.F_step hCF.out.g4 (fun k hk hlt => hst k hk hlt)) (fun k hk => by have := hk.1; omega)
        · exact Kd.F_mono (Kd.F_step hCF.out.g6 (fun k hk hlt => hst k hk hlt)) (fun k hk => by have := hk.1; omega)
        · exact ((hB6.out.trans (hC8.below (fun k hk => by omega) hsw)).trans (hC9.below (fun k hk => by have := hlow5' k hk.symm; omega) (by omega))).trans (hC.below (fun k hk => by omega) (by omega))
      clear hC9 hF9 hl9 hR8 hL6 hC8 hC78 k08 k68 k1 k2 k3 hlt5 hlow5' ne ne7 e0 e1 e2 e3 e4 hsz8 hs9 hs3 hs3' hs6 hs7 hgr hgl hgn hB3
      obtain ⟨y0, y1, y2, y3, y4, y5, x0, x1, x2, x3, x4, x5⟩ := six_cells k09.out
      obtain ⟨_, _, _, _, _, _, p0, p1, p2, p3, p4, p5⟩ := six_cells k19.out
      obtain ⟨_, _, _, _, _, _, _, r0, r1, r2, r3, r4, r5, r6⟩ := seven_cells k29.out
      obtain ⟨q0, q1, q2, q3, q4, q5, q6⟩ := seven_at k69.out
      go_wp2_with fail
      have ka0 : (w9.setCell ⟨w.heap.size, 5, none⟩ (.slice E5 (t.f5.filter fun x => !decide (kk < x)).length g5)).heap[w.heap.size]? = some (.cells #[.int .i64 t.f0, .int .i64 t.f1, .int .i64 t.f2, .int .i64 t.f3, .slice (some ⟨gr, 0, none⟩) kk.toNat kk.toNat, .slice E5 (t.f5.filter fun x => !decide (kk < x)).length g5] 25) := blk_put k09.out 5 _ rfl
      have ka1 := blk_far k19.out (p := ⟨w.heap.size, 5, none⟩) (show w.heap.size + 1 ≠ w.heap.size by omega) (.slice E5 (t.f5.filter fun x => !decide (kk < x)).length g5)
      have ka2 := blk_far k29.out (p := ⟨w.heap.size, 5, none⟩) (show w.heap.size + 1 + 1 ≠ w.heap.size by omega) (.slice E5 (t.f5.filter fun x => !decide (kk < x)).length g5)
      have ka6 := blk_far k69.out (p := ⟨w.heap.size, 5, none⟩) (show w7.heap.size ≠ w.heap.size by omega) (.slice E5 (t.f5.filter fun x => !decide (kk < x)).length g5)
      have hCa := Chg.set (S := fun k => k = w.heap.size ∨ k = w.heap.size + 1 ∨ k = w.heap.size + 1 + 1) (Chg.refl _ w9) (p := ⟨w.heap.size, 5, none⟩) (.inl (.inl rfl)) (.slice E5 (t.f5.filter fun x => !decide (kk < x)).length g5)
      clear y0 y1 y2 y3 y4 y5 x0 x1 x2 x3 x4 x5 p0 p1 p2 p3 p4 p5 r0 r1 r2 r3 r4 r5 r6 q0 q1 q2 q3 q4 q5 q6 k09 k19 k29 k69
      replace hW : Aside0 (∀ W', Chg (fun k => k = w.heap.size ∨ k = w.heap.size + 1 ∨ k = w.heap.size + 1 + 1) (w9.setCell ⟨w.heap.size, 5, none⟩ (.slice E5 (t.f5.filter fun x => !decide (kk < x)).length g5)) W' → TF W' (fun k => w.heap.size ≤ k) (undoD t) (some ⟨gr, 0, none⟩) kk.toNat E5 g5 ∧ CF W' (fun k => w.heap.size ≤ k) c D4 j4 D6 j6 ∧ Below w.heap.size w W') := ⟨fun W' hC => hW.out W' (hCa.trans hC (fun j hj => .inl hj))⟩
      clear hCa
      generalize (w9.setCell ⟨w.heap.size, 5, none⟩ (.slice E5 (t.f5.filter fun x => !decide (kk < x)).length g5)) = wa at *
      have hfe : Aside0 ((undoD t).f5 = t.f5.filter fun x => !decide (kk < x)) := ⟨by unfold undoD; rw [hk'.out]⟩
      have hfl : Aside0 ((undoD t).f4.length = kk.toNat) := ⟨by unfold undoD; simp; have := hk'.out; omega⟩
      rw [← hfe.out] at ka0 ⊢
      rw [← hfl.out] at ka0 ⊢
      replace hfe := Aside0.mk hfe
      obtain ⟨y0, y1, y2, y3, y4, y5, _, _, _, _, _, _⟩ := six_cells ka0
      obtain ⟨_, _, _, _, _, _, p0, p1, p2, p3, p4, p5⟩ := six_cells ka1
      obtain ⟨_, _, _, _, _, _, _, r0, r1, r2, r3, r4, r5, r6⟩ := seven_cells ka2
      obtain ⟨q0, q1, q2, q3, q4, q5, q6⟩ := seven_at ka6
      replace ka0 := Aside0.mk ka0
      replace ka1 := Aside0.mk ka1
      replace ka2 := Aside0.mk ka2
      replace ka6 := Aside0.mk ka6
      have n1 : w.heap.size + 1 + 1 ≠ w7.heap.size := by omega
      have n2 : w.heap.size + 1 ≠ w7.heap.size := by omega
      have n3 : w.heap.size ≠ w7.heap.size := by omega
      replace hlt := Aside0.mk hlt
      replace hw7 := Aside0.mk hw7
      clear hkk0 hkk1
      go_region
      go_wp2_with fail
      refine bodyPost_ret (results_cct rfl _ _ (w.heap.size + 1) (w.heap.size + 1 + 1) #[.int .i64 t.f0, .int .i64 t.f1, .int .i64 t.f2, .int .i64 t.f3, .slice (some ⟨gr, 0, none⟩) (undoD t).f4.length (undoD t).f4.length, .slice E5 (undoD t).f5.length g5] #[.int .i64 c.f0, .int .i64 c.f1, .int .i64 c.f2, .bool c.f3.f0, .slice D4 c.f3.f1.length j4, .bool c.f4.f0, .slice D6 c.f4.f1.length j6] rfl (blk_drew (seven_far (six_put ka1.out _ _ _ _ _ _) (by omega) _ _ _ _ _ _ _)) rfl rfl (blk_drew (seven_put (six_far ka2.out (by omega) _ _ _ _ _ _) _ _ _ _ _ _ _)) rfl) rfl ?_
      rw [UnPost, hR.out.1, hR.out.2.1, hR.out.2.2]
      have hfin := hW.out _ (Chg.new (Chg.seven (Chg.six (Chg.refl _ _) (.inl (.inr (.inl rfl))) (.int .i64 t.f0) (.int .i64 t.f1) (.int .i64 t.f2) (.int .i64 t.f3) (.slice (some ⟨gr, 0, none⟩) (undoD t).f4.length (undoD t).f4.length) (.slice E5 (undoD t).f5.length g5)) (.inl (.inr (.inr rfl))) (.int .i64 c.f0) (.int .i64 c.f1) (.int .i64 c.f2) (.bool c.f3.f0) (.slice D4 c.f3.f1.length j4) (.bool c.f4.f0) (.slice D6 c.f4.f1.length j6)) (below_drew (Below.refl _ _)))
      rw [← hfl.out] at hfin
      exact ⟨_, _, E5, g5, D4, j4, D6, j6, rfl, hfin⟩
end Go.Proofs.Ytdbbibndjknafaa.Print
