/- disk.Disk: New. -/
import Derived.Test.YtfaflgdhffkaiaaDisk4
import Derived.Deep.RegionLaw
namespace Go.Proofs.Ytfaflgdhffkaiaa.Print
open Go.RowKit Go.Proofs.YtfaflgdhffkaiaaW.PrintWords Go.Proofs.YtfaflgdhffkaiaaW.PrintLast Go.Proofs.YtfaflgdhffkaiaaW.PrintMore
set_option linter.unusedVariables false
set_option linter.unusedSimpArgs false
/-- Between two rounds of New: so many sectors of noughts. -/
def NewI (w : World) (g k : Nat) (wr : World) : Prop :=
  ∃ v, wr.heap[g]? = some (.cells #[v, .slice none 0 0, .slice none 0 0, .bool false, .bool false, .int .i64 0] 55 (0, 0)) ∧ Rw kS 22 wr v (fun j => w.heap.size ≤ j ∧ j ≠ g ∧ v.ownBlock ≠ some j) (List.replicate k (sect 0)) ∧ (∀ j, v.ownBlock = some j → w.heap.size ≤ j ∧ j ≠ g) ∧ Below w.heap.size w wr
theorem sect_len (b : Int) : (sect b).length = 256 := by unfold sect; exact List.length_replicate
theorem made_rowS (n : Nat) : madeCells #[Value.int .u8 0] n = (nums .u8 (List.replicate n 0)).toArray := by
  apply Array.ext'
  apply List.ext_getElem
  · simp [nums, madeCells]
  · intro i h1 h2
    simp [nums, madeCells, Nat.mod_one]
theorem made_sect : madeCells #[Value.int .u8 0] 256 = (nums .u8 (sect 0)).toArray := made_rowS 256
theorem madeF (wr : World) (W : World) (h : W.heap[wr.heap.size]? = some (.cells (madeCells #[.int .u8 0] 256) 5 (0, 0))) : Kd.FK kS W (fun j => j = wr.heap.size) (sect 0) [.slice (some ⟨wr.heap.size, 0, none⟩) 256 256] := by
  have hlt : wr.heap.size < W.heap.size := (Array.getElem?_eq_some_iff.1 h).1
  have := kS_mk (W := W) (ok := fun j => j = wr.heap.size) (s := sect 0) (A := some ⟨wr.heap.size, 0, none⟩) (c := 256) (by rw [sect_len]; exact Nat.le_refl _) (fun W' hW => by
    rw [made_sect] at h
    refine C_of_block ((hW _ rfl hlt).trans h) rfl (by rw [sect_len]; decide) (fun j hj => ?_)
    simp [nums, List.getElem?_eq_getElem hj, List.getD_eq_getElem?_getD])
  rwa [sect_len] at this
theorem NewI.next {w wr w4 : World} {g k : Nat} {v v1 : Value} (hb : wr.heap[g]? = some (.cells #[v, .slice none 0 0, .slice none 0 0, .bool false, .bool false, .int .i64 0] 55 (0, 0))) (hlow : ∀ j, v.ownBlock = some j → w.heap.size ≤ j ∧ j ≠ g) (hB : Below w.heap.size w wr) (hg : w.heap.size ≤ g)
    (hN : Kd.N kS 22 w4 0 (fun j => w.heap.size ≤ j ∧ j ≠ g) v1 (List.replicate k (sect 0) ++ [sect 0])) (hgr : wr.grownBy w4 v.ownBlock) (hat : v1.ownBlock = v.ownBlock ∨ ∃ b, v1.ownBlock = some b ∧ wr.heap.size ≤ b) : NewI w g (k + 1) (w4.setCell ⟨g, 0, none⟩ v1) := by
  have hc4 : Chg (fun j => v.ownBlock = some j) wr w4 := Chg.of_grown hgr (fun k e => e)
  have hb4 := hc4.obj hb (fun e => (hlow g e).2 rfl)
  have hgl : g < wr.heap.size := (Array.getElem?_eq_some_iff.1 hb).1
  have hv1 : ∀ j, v1.ownBlock = some j → w.heap.size ≤ j ∧ j ≠ g := fun j hj => by
    rcases hat with e | ⟨b, e, hb⟩
    · exact hlow j (e ▸ hj)
    · rw [hj] at e
      obtain rfl := Option.some.inj e
      have := hB.size
      exact ⟨by omega, by omega⟩
  have hc5 : Chg (fun k => k = g) w4 (w4.setCell ⟨g, 0, none⟩ v1) := (Chg.refl (fun k => k = g) w4).set (p := ⟨g, 0, none⟩) (.inl rfl) _
  refine ⟨v1, (six_set hb4 v1).1, ?_, hv1, ((hB.grown hgr hB.size (fun k hk => (hlow k hk).1))).setCell hg _⟩
  rw [List.replicate_succ']
  refine Rw.step (S := fun k => k = g) (Kd.N_mono hN (fun j hj => ?_)) hc5 (fun j hj e => hj.2.1 e) (fun j hj e => (hv1 j hj).2 e)
  by_cases e : v1.ownBlock = some j
  · exact .inr e.symm
  · exact .inl ⟨hj.1, hj.2, e⟩
/-- A device whose last sectors are its durable ones. -/
theorem DkAt.made {B : Nat} {wr w2 : World} {g : Nat} {D : List (List Int)} {vd v : Value} {Sec : Nat → Prop} (hb : wr.heap[g]? = some (.cells #[vd, .slice none 0 0, .slice none 0 0, .bool false, .bool false, .int .i64 0] 55 (0, 0))) (hg : B ≤ g)
    (hR : Rw kS 22 wr vd Sec D) (hsg : ¬ Sec g) (hsd : ∀ k, Sec k → vd.ownBlock ≠ some k) (hlow : ∀ j, vd.ownBlock = some j → B ≤ j ∧ j ≠ g)
    (hb2 : Below wr.heap.size wr w2) (hv : Rw kS 22 w2 v (fun k => (Sec k ∨ wr.heap.size ≤ k) ∧ v.ownBlock ≠ some k) D) (hvl : ∀ k, v.ownBlock = some k → wr.heap.size ≤ k) (hB : B ≤ wr.heap.size) :
    ∃ Rs Sec', DkAt (w2.setCell ⟨g, 1, none⟩ v) g Rs Sec' ⟨D, D, [], false, false, 0⟩ vd v (.slice none 0 0) ∧ (∀ k, Rs k → B ≤ k) ∧ (∀ k, Sec' k → Sec k ∨ wr.heap.size ≤ k) := by
  have hgl : g < wr.heap.size := (Array.getElem?_eq_some_iff.1 hb).1
  have hc2 : Chg (fun _ => False) wr w2 := Chg.of_new hb2 _
  have hc5 : Chg (fun k => k = g) w2 (w2.setCell ⟨g, 1, none⟩ v) := (Chg.refl (fun k => k = g) w2).set (p := ⟨g, 1, none⟩) (.inl rfl) _
  have hbb := hc2.obj hb (fun x => x)
  have hvlt := Kd.N_lt hv
  have hdl := Kd.N_lt hR
  have hvg : ∀ k, v.ownBlock = some k → ¬ k = g := fun k hk e => by have := hvl k hk; omega
  refine ⟨fun k => k = g ∨ vd.ownBlock = some k ∨ v.ownBlock = some k, fun k => (Sec k ∨ wr.heap.size ≤ k) ∧ k < w2.heap.size ∧ ¬ (k = g ∨ vd.ownBlock = some k ∨ v.ownBlock = some k), ⟨(six_set hbb v).2.1, ?_, ?_, Kd.N_nil _ _ _ _ _, ?_, ?_, .inl rfl, fun k hk => .inr (.inl hk), fun k hk => .inr (.inr hk), (fun k e => by cases e), fun k hk => hk.2.2⟩, ?_, fun k hk => hk.1⟩
  · refine Rw.step (Rw.renew hR hc2 (fun _ _ x => x) (fun _ _ x => x) (fun k hk hlt => ⟨.inl hk, Nat.lt_of_lt_of_le hlt hb2.size, ?_⟩)) hc5 (fun k hk e => hk.2.2 (.inl e)) (fun k hk e => (hlow k hk).2 e)
    rintro (rfl | q | q)
    · exact hsg hk
    · exact hsd k hk q
    · have := hvl k q; omega
  · refine Rw.step (Kd.N_mono (Kd.N_bound hv) (fun k hk => ?_)) hc5 (fun k hk e => hk.2.2 (.inl e)) hvg
    rcases hk.1 with a | a
    · refine .inl ⟨a.1, hk.2, ?_⟩
      rintro (rfl | q | q)
      · rcases a.1 with b | b
        · exact hsg b
        · omega
      · rcases a.1 with b | b
        · exact hsd k b q
        · have := hdl k q; omega
      · exact a.2 q
    · exact .inr a
  · exact fun k hk e => by have := hdl k hk; have := hvl k e; omega
  · have := hb2.size
    have := hc5.size
    rintro k (rfl | e | e)
    · omega
    · have := hdl k e; omega
    · have := hvlt k e; omega
  · rintro k (rfl | e | e)
    · exact hg
    · exact (hlow k e).1
    · have := hvl k e; omega
set_option maxHeartbeats 2000000 in
set_option maxRecDepth 100000 in
theorem new_ok (n : Nat) (w : World) (h1 : 1 ≤ n) (h2 : n ≤ 4096) :
    Calls Try.prog 10 #[.int .i64 (n : Int)] w fun e w' => ∃ g Rs Sec, e = .returned (.tuple #[.pointer (some ⟨g, 0, none⟩), .int .i64 0]) ∧ Dk w' g Rs Sec (newD n) ∧ (∀ k, Rs k → w.heap.size ≤ k) ∧ (∀ k, Sec k → w.heap.size ≤ k) ∧ Below w.heap.size w w' := by
  have hmk0 := print_make (P := Try.prog) 22 5 .u8 1 Try.underlying22 info5 (by decide) 256 (by decide)
  have hmk : ∀ W : World, (Instr.makeSlice 22 (.int .i64 256) (.int .i64 256)).run Try.prog W = .ok (.slice (some ⟨W.heap.size, 0, none⟩) 256 256) (W.alloc (.cells (madeCells #[.int .u8 0] 256) 5)) := fun W => hmk0 W
  clear hmk0
  have e1 : decide (n < 1) = false := by simp; omega
  go_enter Try.func10, Try.ntmps10
  go_wp2_with fail
  go_loopw [14] (fun v14 wr => ∃ k : Nat, k ≤ n ∧ v14 = .int .i64 k ∧ Aside0 (NewI w w.heap.size k wr)) (fun v14 _ => n - (intOf v14).toNat)
  case atStart => exact ⟨0, Nat.zero_le _, rfl, ⟨_, heap_alloc_new w _, Kd.N_nil _ _ _ _ _, (fun k e => by cases e), below_alloc (Below.refl _ _) _⟩⟩
  case round =>
    obtain ⟨k, hk, rfl, HI⟩ := hrel
    obtain ⟨v, hb, hR, hlow, hB⟩ := HI.out
    by_cases hlk : k < n
    · obtain ⟨A, c, rfl⟩ := Kd.N_slice hR
      rw [List.length_replicate] at hb hR hlow
      obtain ⟨c0, _, _, _, _, _, f0, _⟩ := six_cells hb
      have hgl : w.heap.size < wr.heap.size := (Array.getElem?_eq_some_iff.1 hb).1
      have hN0 : Kd.N kS 22 ((wr.alloc (.cells (madeCells #[.int .u8 0] 256) 5)).drew) 0 (fun j => w.heap.size ≤ j ∧ j ≠ w.heap.size) (.slice A k c) (List.replicate k (sect 0)) := Kd.N_drew (Kd.N_alloc (Kd.N_mono hR (fun j hj => hj.elim (fun a => ⟨a.1, a.2.1⟩) (fun a => hlow j a.symm))) _)
      have hfk := madeF wr ((wr.alloc (.cells (madeCells #[.int .u8 0] 256) 5)).drew) (heap_alloc_new wr _)
      have hnx : ∀ v1 w4, Kd.N kS 22 w4 0 (fun j => w.heap.size ≤ j ∧ j ≠ w.heap.size) v1 (List.replicate k (sect 0) ++ [sect 0]) → ((wr.alloc (.cells (madeCells #[.int .u8 0] 256) 5)).drew).grownBy w4 (Value.slice A k c).ownBlock → (v1.ownBlock = (Value.slice A k c).ownBlock ∨ ∃ b, v1.ownBlock = some b ∧ ((wr.alloc (.cells (madeCells #[.int .u8 0] 256) 5)).drew).heap.size ≤ b) → NewI w w.heap.size (k + 1) (w4.setCell ⟨w.heap.size, 0, none⟩ v1) ∧ w4.cell? ⟨w.heap.size, 0, none⟩ = some (.slice A k c) ∧ w4.frozen? ⟨w.heap.size, 0, none⟩ = false := fun v1 w4 hN hg hat => by
        have hg2 : wr.grownBy w4 (Value.slice A k c).ownBlock := World.grownBy.trans (World.grownBy_alloc wr (.cells (madeCells #[.int .u8 0] 256) 5) _) ⟨hg.os, hg.tape, hg.output, hg.size, hg.block⟩
        have hb4 := (Chg.of_grown (S := fun j => (Value.slice A k c).ownBlock = some j) hg2 (fun k e => e)).obj hb (fun e => (hlow _ e).2 rfl)
        obtain ⟨q0, _, _, _, _, _, q1, _⟩ := six_cells hb4
        exact ⟨NewI.next hb hlow hB (Nat.le_refl _) hN hg2 (hat.imp_right (fun ⟨b, e, hb⟩ => ⟨b, e, by simp at hb; omega⟩)), q0, q1⟩
      replace hnx := Aside0.mk hnx
      replace hN0 := Aside0.mk hN0
      replace hfk := Aside0.mk hfk
      have hk' : k ≤ 4096 := by omega
      replace hR := Aside0.mk hR
      replace hb := Aside0.mk hb
      replace hlow := Aside0.mk hlow
      have hltA : Aside0 (∀ j, (Value.slice A k c).ownBlock = some j → j < wr.heap.size) := ⟨fun j hj => Kd.N_lt hR.out j hj⟩
      have hBs := hB.size
      clear HI
      go_wp2_with fail
      go_region_law ((refine Kd.N_append_step kS (w0 := ((wr.alloc (.cells (madeCells #[.int .u8 0] 256) 5)).drew)) (W := ((wr.alloc (.cells (madeCells #[.int .u8 0] 256) 5)).drew)) 0 (by rfl) (.tmp 20) (.tmp 22) 52 22 (.slice none 0 0) 24 rfl Try.underlying52 infoS rfl (by decide) (by decide) (.slice A k c) (List.replicate k (sect 0)) (sect 0) [.slice (some ⟨wr.heap.size, 0, none⟩) 256 256] (fun j => w.heap.size ≤ j ∧ j ≠ w.heap.size) (fun j => j = wr.heap.size) rfl ?aX hfk.out ?aP ?aF hN0.out (Below.refl _ _) (Nat.zero_le _) ?aL ?_; (case aX => show _ = Value.slice (some ⟨(wr.alloc _).heap.size, 0, none⟩) 1 1; rw [World.size_alloc]; rfl); (case aP => intro j hj; subst hj; exact ⟨⟨by omega, by omega⟩, fun e => by have := hltA.out _ e.symm; omega⟩); (case aF => intro j hj; simp at hj; exact ⟨by omega, by omega⟩); (case aL => simp; omega); intro v1 w4 hN4 _ hg4 hat4; obtain ⟨hnext, q0, q1⟩ := hnx.out v1 w4 hN4 hg4 hat4; obtain ⟨A4, c4, rfl⟩ := Kd.N_slice hN4; clear hN4 hg4 hat4; replace hnext := Aside0.mk hnext; generalize (List.replicate k (sect 0) ++ [sect 0]).length = n4 at hnext))
      all_goals
        go_wp2_with fail
        go_roundw
        case rel => exact ⟨k + 1, by omega, by go_num, hnext⟩
        case measure => simp [intOf]; omega
    · obtain rfl : k = n := by omega
      have hB' := Aside0.mk hB
      obtain ⟨Av, cv, rfl⟩ := Kd.N_slice hR
      rw [List.length_replicate] at hb hR hlow
      obtain ⟨c0, _, _, _, _, _, f0, f1, _⟩ := six_cells hb
      have hgl : w.heap.size < wr.heap.size := (Array.getElem?_eq_some_iff.1 hb).1
      replace hb := Aside0.mk hb
      replace hlow := Aside0.mk hlow
      replace hR := Aside0.mk hR
      clear hB HI
      have hcl := cloneS Av cv (List.replicate k (sect 0)) _ wr (by rw [List.length_replicate]; exact hR.out) (by simp; omega)
      rw [List.length_replicate] at hcl
      replace hcl := Aside0.mk hcl
      go_wp2_with fail
      refine hcl.out.mono ?_
      rintro e w2 ⟨v, rfl, hv, hvl, hb2⟩
      have hD := Aside0.mk (DkAt.made hb.out (Nat.le_refl _) hR.out (fun q => q.2.1 rfl) (fun k q => q.2.2) hlow.out hb2 hv hvl hB'.out.size)
      have hB2 := Aside0.mk (below_then hB'.out hB'.out.size hb2)
      obtain ⟨d0, d1, _, _, _, _, p0, p1, _⟩ := six_cells ((hb2.block _ hgl).trans hb.out)
      obtain ⟨A2, c2, rfl⟩ := Kd.N_slice hv
      rw [List.length_replicate] at hD
      rw [List.length_replicate] at hv hvl
      clear hv hvl hcl
      have hs2 := hb2.size
      have hsw := hB'.out.size
      clear hb2
      rw [List.length_replicate]
      go_wp2_with fail
      go_ret2
      obtain ⟨Rs, Sec', k1, k2, k3⟩ := hD.out
      exact ⟨_, Rs, Sec', rfl, ⟨_, _, _, k1⟩, k2, fun k hk => (k3 k hk).elim (fun a => a.1) (fun a => by omega), hB2.out.setCell (Nat.le_refl _) _⟩
end Go.Proofs.Ytfaflgdhffkaiaa.Print
