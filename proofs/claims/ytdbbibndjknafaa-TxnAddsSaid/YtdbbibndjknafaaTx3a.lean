/- txn.Undo. -/
import Derived.Test.YtdbbibndjknafaaTx2
import Derived.BigQuiet
namespace Go.Proofs.Ytdbbibndjknafaa.Print
open Go.RowKit Go.Proofs.YtdbbibndjknafaaW.PrintWords Go.Proofs.YtdbbibndjknafaaW.PrintLast Go.Proofs.YtdbbibndjknafaaW.PrintMore
set_option linter.unusedVariables false
set_option linter.unusedSimpArgs false
def undoD (t : S25) : S25 := ⟨t.f0, t.f1, t.f2, t.f3, t.f4.take (t.f4.length - 1), t.f5.filter fun x => !decide ((t.f4.length : Int) - 1 < x)⟩
noncomputable def undoR (t : S25) : S25 := if mayT t = true then (if t.f4.length = 0 then z25 else undoD t) else z25
noncomputable def undoC (t : S25) : S30 := if mayT t = true then (if t.f4.length = 0 then z30 else lastC t) else z30
noncomputable def undoE (t : S25) : Int := if mayT t = true then (if t.f4.length = 0 then 3 else 0) else 1
theorem undo_no {t : S25} (h : mayT t = false) : undoR t = z25 ∧ undoC t = z30 ∧ undoE t = 1 := by
  unfold undoR undoC undoE
  rw [h]
  exact ⟨rfl, rfl, rfl⟩
theorem undo_none {t : S25} (h : mayT t = true) (h0 : t.f4.length = 0) : undoR t = z25 ∧ undoC t = z30 ∧ undoE t = 3 := by
  unfold undoR undoC undoE
  rw [h, if_pos rfl, if_pos rfl, if_pos rfl, if_pos h0, if_pos h0, if_pos h0]
  exact ⟨rfl, rfl, rfl⟩
theorem undo_ok {t : S25} (h : mayT t = true) (h0 : t.f4.length ≠ 0) : undoR t = undoD t ∧ undoC t = lastC t ∧ undoE t = 0 := by
  unfold undoR undoC undoE
  rw [h, if_pos rfl, if_pos rfl, if_pos rfl, if_neg h0, if_neg h0, if_neg h0]
  exact ⟨rfl, rfl, rfl⟩
theorem seven_cells {W : World} {g : Nat} {a b c d e f h : Value} {t : TypeId} (hh : W.heap[g]? = some (.cells #[a, b, c, d, e, f, h] t (0, 0))) :
    W.cell? ⟨g, 0, none⟩ = some a ∧ W.cell? ⟨g, 1, none⟩ = some b ∧ W.cell? ⟨g, 2, none⟩ = some c ∧ W.cell? ⟨g, 3, none⟩ = some d ∧ W.cell? ⟨g, 4, none⟩ = some e ∧ W.cell? ⟨g, 5, none⟩ = some f ∧ W.cell? ⟨g, 6, none⟩ = some h ∧
    W.frozen? ⟨g, 0, none⟩ = false ∧ W.frozen? ⟨g, 1, none⟩ = false ∧ W.frozen? ⟨g, 2, none⟩ = false ∧ W.frozen? ⟨g, 3, none⟩ = false ∧ W.frozen? ⟨g, 4, none⟩ = false ∧ W.frozen? ⟨g, 5, none⟩ = false ∧ W.frozen? ⟨g, 6, none⟩ = false :=
  ⟨(blk_cell hh 0).trans rfl, (blk_cell hh 1).trans rfl, (blk_cell hh 2).trans rfl, (blk_cell hh 3).trans rfl, (blk_cell hh 4).trans rfl, (blk_cell hh 5).trans rfl, (blk_cell hh 6).trans rfl, blk_frozen hh _, blk_frozen hh _, blk_frozen hh _, blk_frozen hh _, blk_frozen hh _, blk_frozen hh _, blk_frozen hh _⟩
theorem seven_put {W : World} {g : Nat} {a b c d e f h : Value} {t : TypeId} (hh : W.heap[g]? = some (.cells #[a, b, c, d, e, f, h] t (0, 0))) (a' b' c' d' e' f' h' : Value) :
    (((((((W.setCell ⟨g, 0, none⟩ a').setCell ⟨g, 1, none⟩ b').setCell ⟨g, 2, none⟩ c').setCell ⟨g, 3, none⟩ d').setCell ⟨g, 4, none⟩ e').setCell ⟨g, 5, none⟩ f').setCell ⟨g, 6, none⟩ h').heap[g]? = some (.cells #[a', b', c', d', e', f', h'] t (0, 0)) := by
  have h0 : (W.setCell ⟨g, 0, none⟩ a').heap[g]? = some (.cells #[a', b, c, d, e, f, h] t (0, 0)) := blk_put hh 0 a' rfl
  have h1 := blk_put (cs' := #[a', b', c, d, e, f, h]) h0 1 b' rfl
  have h2 := blk_put (cs' := #[a', b', c', d, e, f, h]) h1 2 c' rfl
  have h3 := blk_put (cs' := #[a', b', c', d', e, f, h]) h2 3 d' rfl
  have h4 := blk_put (cs' := #[a', b', c', d', e', f, h]) h3 4 e' rfl
  have h5 := blk_put (cs' := #[a', b', c', d', e', f', h]) h4 5 f' rfl
  exact blk_put (cs' := #[a', b', c', d', e', f', h']) h5 6 h' rfl
theorem Chg.seven {S : Nat → Prop} {w W : World} (h : Chg S w W) {g : Nat} (hg : S g ∨ w.heap.size ≤ g) (a' b' c' d' e' f' h' : Value) : Chg S w (((((((W.setCell ⟨g, 0, none⟩ a').setCell ⟨g, 1, none⟩ b').setCell ⟨g, 2, none⟩ c').setCell ⟨g, 3, none⟩ d').setCell ⟨g, 4, none⟩ e').setCell ⟨g, 5, none⟩ f').setCell ⟨g, 6, none⟩ h') :=
  (h.six hg a' b' c' d' e' f').set (p := ⟨g, 6, none⟩) hg h'
theorem six_far {W : World} {g g2 : Nat} {cs : Array Value} {t : TypeId} (h : W.heap[g]? = some (.cells cs t (0, 0))) (hn : g ≠ g2) (a' b' c' d' e' f' : Value) :
    ((((((W.setCell ⟨g2, 0, none⟩ a').setCell ⟨g2, 1, none⟩ b').setCell ⟨g2, 2, none⟩ c').setCell ⟨g2, 3, none⟩ d').setCell ⟨g2, 4, none⟩ e').setCell ⟨g2, 5, none⟩ f').heap[g]? = some (.cells cs t (0, 0)) :=
  blk_far (blk_far (blk_far (blk_far (blk_far (blk_far h (p := ⟨g2, 0, none⟩) hn _) (p := ⟨g2, 1, none⟩) hn _) (p := ⟨g2, 2, none⟩) hn _) (p := ⟨g2, 3, none⟩) hn _) (p := ⟨g2, 4, none⟩) hn _) (p := ⟨g2, 5, none⟩) hn _
theorem seven_far {W : World} {g g2 : Nat} {cs : Array Value} {t : TypeId} (h : W.heap[g]? = some (.cells cs t (0, 0))) (hn : g ≠ g2) (a' b' c' d' e' f' h' : Value) :
    (((((((W.setCell ⟨g2, 0, none⟩ a').setCell ⟨g2, 1, none⟩ b').setCell ⟨g2, 2, none⟩ c').setCell ⟨g2, 3, none⟩ d').setCell ⟨g2, 4, none⟩ e').setCell ⟨g2, 5, none⟩ f').setCell ⟨g2, 6, none⟩ h').heap[g]? = some (.cells cs t (0, 0)) :=
  blk_far (six_far h hn _ _ _ _ _ _) (p := ⟨g2, 6, none⟩) hn _
theorem results_cct {fn : Func} {p p' u : Tmp} (h : fn.results = #[.cell p 25, .cell p' 30, .tmp u]) (tmps : Array Value) (w : World) (g g' : Nat) (cs cs' : Array Value)
    (hp : tmps.getD p undef = .pointer (some ⟨g, 0, none⟩)) (hg : w.heap[g]? = some (.cells cs 25 (0, 0))) (hi : cs.size = 6)
    (hp' : tmps.getD p' undef = .pointer (some ⟨g', 0, none⟩)) (hg' : w.heap[g']? = some (.cells cs' 30 (0, 0))) (hi' : cs'.size = 7) :
    (results fn tmps).run Try.prog w = .ok (.tuple #[.agg cs, .agg cs', tmps.getD u undef]) w := by
  have hp1 : tmps[p]?.getD undef = .pointer (some ⟨g, 0, none⟩) := by simpa using hp
  have hp2 : tmps[p']?.getD undef = .pointer (some ⟨g', 0, none⟩) := by simpa using hp'
  have e1 := run_loadVar_row (P := Try.prog) w g 25 25 cs (0, 0) _ hg Try.underlying25 rfl (by rw [hi]; kernel_rfl)
  have e2 := run_loadVar_row (P := Try.prog) w g' 30 30 cs' (0, 0) _ hg' Try.underlying30 rfl (by rw [hi']; kernel_rfl)
  simp [results, h, hp1, hp2, asAddr, e1, e2]
theorem four_new (w : World) (o1 o2 o3 o4 : Obj) : Below w.heap.size w ((((w.alloc o1).alloc o2).alloc o3).alloc o4) ∧ ((((w.alloc o1).alloc o2).alloc o3).alloc o4).heap[w.heap.size]? = some o1 ∧ ((((w.alloc o1).alloc o2).alloc o3).alloc o4).heap[w.heap.size + 1]? = some o2 ∧ ((((w.alloc o1).alloc o2).alloc o3).alloc o4).heap[w.heap.size + 1 + 1]? = some o3 ∧ ((((w.alloc o1).alloc o2).alloc o3).alloc o4).heap[w.heap.size + 1 + 1 + 1]? = some o4 ∧ ((((w.alloc o1).alloc o2).alloc o3).alloc o4).heap.size = w.heap.size + 4 := by
  have e1 : (w.alloc o1).heap.size = w.heap.size + 1 := World.size_alloc ..
  have e2 : ((w.alloc o1).alloc o2).heap.size = w.heap.size + 1 + 1 := by rw [World.size_alloc, e1]
  have e3 : (((w.alloc o1).alloc o2).alloc o3).heap.size = w.heap.size + 1 + 1 + 1 := by rw [World.size_alloc, e2]
  have k1 := heap_alloc_new w o1
  have k2 := heap_alloc_new (w.alloc o1) o2
  have k3 := heap_alloc_new ((w.alloc o1).alloc o2) o3
  have k4 := heap_alloc_new (((w.alloc o1).alloc o2).alloc o3) o4
  rw [e1] at k2
  rw [e2] at k3
  rw [e3] at k4
  exact ⟨below_alloc (below_alloc (below_alloc (below_alloc (Below.refl _ _) _) _) _) _, blk_alloc (blk_alloc (blk_alloc k1 _) _) _, blk_alloc (blk_alloc k2 _) _, blk_alloc k3 _, k4, by rw [World.size_alloc, e3]⟩
set_option maxHeartbeats 400000 in
theorem idx_nil (c : Nat) (p : Value) (W : World) : Calls Try.prog 43 #[.slice none 0 c, .func (.func 36) #[] #[p]] W fun e w' => e = .returned (.int .i64 (-1)) ∧ w' = W := by
  go_enter Try.func43, Try.ntmps43
  go_wp2_with fail
  go_loopw [5, 8] (fun _ v8 wr => v8 = .int .i64 0 ∧ wr = W) (fun _ _ _ => 0)
  case atStart => exact ⟨rfl, rfl⟩
  case round =>
    obtain ⟨rfl, rfl⟩ := hrel
    go_wp2_with fail
    go_ret
    exact ⟨rfl, rfl⟩
set_option maxHeartbeats 400000 in
theorem del_nil (c : Nat) (p : Value) (W : World) : Calls Try.prog 35 #[.slice none 0 c, .func (.func 36) #[] #[p]] W fun e w' => e = .returned (.slice none 0 c) ∧ w' = W := by
  have hi := Aside0.mk (idx_nil c p W)
  go_enter Try.func35, Try.ntmps35
  go_wp2_with fail
  refine hi.out.mono ?_
  rintro e w1 ⟨rfl, hq_⟩
  obtain rfl := hq_.symm
  go_wp2_with fail
  go_ret
  exact ⟨rfl, rfl⟩
theorem slice_kk (g n c : Nat) (k : Int) (h0 : 0 ≤ k) (h1 : k ≤ c) (w : World) : (Instr.slice 22 (.slice (some ⟨g, 0, none⟩) n c) none (some (.int .i64 k)) (some (.int .i64 k))).run Try.prog w = .ok (.slice (some ⟨g, 0, none⟩) k.toNat k.toNat) w := by
  have eh : (k.toNat : Int) = k := Int.toNat_of_nonneg h0
  have hu : Try.prog.underlying 22 = some (.slice (Try.prog.elem 22)) := by rw [show Try.prog.elem 22 = 30 by kernel_rfl]; exact Try.underlying22
  rw [run_slice_any (P := Try.prog) w 22 (some ⟨g, 0, none⟩) n c hu]
  have hs : (sizeOf (Try.prog.elem 22)).run Try.prog w = .ok 7 w := by rw [show Try.prog.elem 22 = 30 by kernel_rfl]; exact Try.sizeOf30 w
  simp [Instr.sliceBounds, run_sliceBound, h0, h1, eh, hs, sliced, Addr.add]
/-- What Undo answers. -/
def UnPost (w : World) (P : Nat → Prop) (t : S25) (e : Ending) (w' : World) : Prop := ∃ B4 d4 B5 d5 E4 e4 E6 e6, e = .returned (.tuple #[.agg #[.int .i64 (undoR t).f0, .int .i64 (undoR t).f1, .int .i64 (undoR t).f2, .int .i64 (undoR t).f3, .slice B4 (undoR t).f4.length d4, .slice B5 (undoR t).f5.length d5], .agg #[.int .i64 (undoC t).f0, .int .i64 (undoC t).f1, .int .i64 (undoC t).f2, .bool (undoC t).f3.f0, .slice E4 (undoC t).f3.f1.length e4, .bool (undoC t).f4.f0, .slice E6 (undoC t).f4.f1.length e6], .int .i64 (undoE t)]) ∧ TF w' P (undoR t) B4 d4 B5 d5 ∧ CF w' P (undoC t) E4 e4 E6 e6 ∧ Below w.heap.size w w'
theorem R_shape {W : World} {base : Nat} {ok : Nat → Prop} {A : Option Addr} {n c : Nat} {l : List Int} (h : (Kd.int .i64).R 3 W base ok (.slice A n c) l) : (A = none ∧ n = 0) ∨ ∃ g, A = some ⟨g, 0, none⟩ := by
  obtain ⟨_, inner, ho, _⟩ := h
  rcases ho.2 with ⟨e, _⟩ | ⟨g, cap, cur, e, _⟩
  · injection e with e1 e2 e3
    exact .inl ⟨e1, e2⟩
  · injection e with e1 e2 e3
    exact .inr ⟨g, e1⟩
theorem del_any (k : Int) (ba : Nat) (A : Option Addr) (c : Nat) (l : List Int) (W : World) {base : Nat} {ok : Nat → Prop} (hl : ba < W.heap.size) (hcell : W.cell? ⟨ba, 0, none⟩ = some (.int .i64 k)) (hR : (Kd.int .i64).R 3 W base ok (.slice A l.length c) l) (hb : ba < base) :
    Calls Try.prog 35 #[.slice A l.length c, .func (.func 36) #[] #[.pointer (some ⟨ba, 0, none⟩)]] W fun e w' => e = .returned (.slice A (l.filter fun x => !decide (k < x)).length c) ∧ Kd.F (Kd.int .i64) w' (fun j => some j = (Value.slice A l.length c).ownBlock) A (l.filter fun x => !decide (k < x)).length (l.filter fun x => !decide (k < x)) ∧ (l.filter fun x => !decide (k < x)).length ≤ c ∧ Chg (fun j => some j = (Value.slice A l.length c).ownBlock) W w' := by
  have hc := (Kd.R_reads' hR).2.1
  have hfl : (l.filter fun x => !decide (k < x)).length ≤ l.length := List.length_filter_le _ _
  rcases R_shape hR with ⟨rfl, h0⟩ | ⟨g, rfl⟩
  · obtain rfl : l = [] := List.length_eq_zero_iff.1 h0
    refine (del_nil c _ W).mono ?_
    rintro e w' ⟨rfl, hq_⟩
    obtain rfl := hq_.symm
    exact ⟨rfl, Kd.F_nil _ _ _, Nat.zero_le _, Chg.refl _ _⟩
  · have hg : base ≤ g := Kd.R_base hR g rfl
    refine (del_int k ba g c l W hl hcell (by omega) (fun j hj => ?_) hc (Kd.R_reads' hR).2.2.2.1).mono ?_
    · have h1 := Kd.R_cell (0 : Int) hR (j : Int) (by omega) (by omega)
      rw [show ((j : Int)).toNat = j by omega] at h1
      exact ⟨by rw [h1.1]; simp [rdOf], h1.2⟩
    · rintro e w' ⟨rfl, hF, hC⟩
      exact ⟨rfl, Kd.F_mono hF (fun j hj => by rw [hj]; rfl), by omega, hC.mono (fun j hj => by rw [hj]; rfl)⟩
theorem at_F30 {W : World} {ok : Nat → Prop} {A : Option Addr} {n : Nat} {xs : List S30} (h : Kd.F k30 W ok A n xs) (i : Int) (h0 : 0 ≤ i) (h1 : i < n) : ∃ ad A4 c4 A6 c6, A = some ad ∧ W.cell? (ad.add (i.toNat * 7)) = some (.int .i64 (rd_T30 xs i).f0) ∧ W.cell? ⟨(ad.add (i.toNat * 7)).block, (ad.add (i.toNat * 7)).off + 1, none⟩ = some (.int .i64 (rd_T30 xs i).f1) ∧ W.cell? ⟨(ad.add (i.toNat * 7)).block, (ad.add (i.toNat * 7)).off + 2, none⟩ = some (.int .i64 (rd_T30 xs i).f2) ∧ W.cell? ⟨(ad.add (i.toNat * 7)).block, (ad.add (i.toNat * 7)).off + 3, none⟩ = some (.bool (rd_T30 xs i).f3.f0) ∧ W.cell? ⟨(ad.add (i.toNat * 7)).block, (ad.add (i.toNat * 7)).off + 4, none⟩ = some (.slice A4 (rd_T30 xs i).f3.f1.length c4) ∧ W.cell? ⟨(ad.add (i.toNat * 7)).block, (ad.add (i.toNat * 7)).off + 5, none⟩ = some (.bool (rd_T30 xs i).f4.f0) ∧ W.cell? ⟨(ad.add (i.toNat * 7)).block, (ad.add (i.toNat * 7)).off + 6, none⟩ = some (.slice A6 (rd_T30 xs i).f4.f1.length c6) ∧ CF W ok (rd_T30 xs i) A4 c4 A6 c6 := by
  obtain ⟨ad, c, e, _, hK, hc0, _⟩ := Kd.F_get h z30 i h0 h1
  have hc : ∀ j u, c[j]? = some u → W.cell? (ad.add (i.toNat * 7 + j)) = some u := hc0
  obtain ⟨A4, c4, A6, c6, rfl, l4, g4, l6, g6⟩ := k30_openF hK
  exact ⟨ad, A4, c4, A6, c6, e, hc 0 _ rfl, by rw [← add_field _ _ 1 (by omega)]; exact hc 1 _ rfl, by rw [← add_field _ _ 2 (by omega)]; exact hc 2 _ rfl, by rw [← add_field _ _ 3 (by omega)]; exact hc 3 _ rfl, by rw [← add_field _ _ 4 (by omega)]; exact hc 4 _ rfl, by rw [← add_field _ _ 5 (by omega)]; exact hc 5 _ rfl, by rw [← add_field _ _ 6 (by omega)]; exact hc 6 _ rfl, ⟨l4, g4, l6, g6⟩⟩
end Go.Proofs.Ytdbbibndjknafaa.Print
