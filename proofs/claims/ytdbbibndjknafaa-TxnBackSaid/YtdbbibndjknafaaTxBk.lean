/- What TxnBack keeps: a transaction in a box, a row of changes beside it. -/
import Derived.Test.YtdbbibndjknafaaTxnRoom
import Derived.Test.YtdbbibndjknafaaTxLaw
namespace Go.Proofs.Ytdbbibndjknafaa.Print
open Go.RowKit Go.Proofs.YtdbbibndjknafaaW.PrintWords Go.Proofs.YtdbbibndjknafaaW.PrintLast Go.Proofs.YtdbbibndjknafaaW.PrintMore
set_option linter.unusedVariables false
set_option linter.unusedSimpArgs false
theorem meas_dn {m : Nat} (h : m ≤ 1000) : (intOf (.int .i64 (wrap64 ((m : Int) - 1))) + 1).toNat < (intOf (.int .i64 (m : Int)) + 1).toNat := by
  have e1 : wrap64 ((m : Int) - 1) = (m : Int) - 1 := wr64 (by omega) (by omega)
  rw [e1]
  simp only [intOf]
  omega
/-- What Note answered stands in a new box. -/
structure NY (wr W : World) (x : S25) (g : Nat) (F4 : Option Addr) (f4 : Nat) (F5 : Option Addr) (f5 : Nat) : Prop where
  bel : Below wr.heap.size wr W
  lo : wr.heap.size ≤ g
  box : W.heap[g]? = some (.cells #[.int .i64 x.f0, .int .i64 x.f1, .int .i64 x.f2, .int .i64 x.f3, .slice F4 x.f4.length f4, .slice F5 x.f5.length f5] 25)
  tf : TF W (fun k => wr.heap.size ≤ k) x F4 f4 F5 f5
theorem NY.last {wr W : World} {x : S25} {F4 : Option Addr} {f4 : Nat} {F5 : Option Addr} {f5 : Nat} (hb : Below wr.heap.size wr W) (hT : TF W (fun k => wr.heap.size ≤ k) x F4 f4 F5 f5) :
    NY wr (W.alloc (.cells #[.int .i64 x.f0, .int .i64 x.f1, .int .i64 x.f2, .int .i64 x.f3, .slice F4 x.f4.length f4, .slice F5 x.f5.length f5] 25)) x W.heap.size F4 f4 F5 f5 :=
  ⟨below_alloc hb _, hb.size, heap_alloc_new _ _, hT.below (below_alloc (Below.refl _ _) _)⟩
theorem zero_kept {wr W : World} {o : Obj} (hb : Below (wr.alloc o).heap.size (wr.alloc o) W) : W.heap[wr.heap.size]? = some o :=
  (hb.block _ (by rw [World.size_alloc]; omega)).trans (heap_alloc_new _ _)
theorem NY.first {wr W : World} {x : S25} {F4 : Option Addr} {f4 : Nat} {F5 : Option Addr} {f5 : Nat} {a0 a1 a2 a3 a4 a5 : Value} (hb : Below (wr.alloc (.cells #[a0, a1, a2, a3, a4, a5] 25)).heap.size (wr.alloc (.cells #[a0, a1, a2, a3, a4, a5] 25)) W) (hT : TF W (fun k => (wr.alloc (.cells #[a0, a1, a2, a3, a4, a5] 25)).heap.size ≤ k) x F4 f4 F5 f5) :
    NY wr ((((((W.setCell ⟨wr.heap.size, 0, none⟩ (.int .i64 x.f0)).setCell ⟨wr.heap.size, 1, none⟩ (.int .i64 x.f1)).setCell ⟨wr.heap.size, 2, none⟩ (.int .i64 x.f2)).setCell ⟨wr.heap.size, 3, none⟩ (.int .i64 x.f3)).setCell ⟨wr.heap.size, 4, none⟩ (.slice F4 x.f4.length f4)).setCell ⟨wr.heap.size, 5, none⟩ (.slice F5 x.f5.length f5)) x wr.heap.size F4 f4 F5 f5 := by
  have hz := zero_kept hb
  have hs1 : (wr.alloc (.cells #[a0, a1, a2, a3, a4, a5] 25)).heap.size = wr.heap.size + 1 := World.size_alloc ..
  have hs := hb.size
  have hC := Chg.six (S := fun k => k = wr.heap.size) (Chg.refl _ W) (.inl rfl) (.int .i64 x.f0) (.int .i64 x.f1) (.int .i64 x.f2) (.int .i64 x.f3) (.slice F4 x.f4.length f4) (.slice F5 x.f5.length f5)
  have hw : Below wr.heap.size wr W := (below_alloc (Below.refl _ _) _).trans (hb.mono (by rw [hs1]; omega))
  refine ⟨hw.trans (hC.below (fun k hk => Nat.le_of_eq hk.symm) hw.size), Nat.le_refl _, six_put hz _ _ _ _ _ _, (hT.step (fun k hk hlt => hC.block k hlt ?_)).mono (fun k hk => ?_)⟩
  · intro e
    have h1 : (wr.alloc (.cells #[a0, a1, a2, a3, a4, a5] 25)).heap.size ≤ k := hk
    have e1 : k = wr.heap.size := e
    omega
  · have h1 : (wr.alloc (.cells #[a0, a1, a2, a3, a4, a5] 25)).heap.size ≤ k := hk
    show wr.heap.size ≤ k
    omega
/-- The box of the transaction that is worked on (t's, with L behind it), and the row D beside it. -/
structure BK (t : S25) (w4 W : World) (b : Nat) (u : S25) (E4 : Option Addr) (g4 : Nat) (E5 : Option Addr) (g5 : Nat) (D : List S30) (A8 : Option Addr) (c8 : Nat) (L : List S30) : Prop where
  may : MayP u
  bx : BX w4 W b u E4 g4 E5 g5
  tf : TF W (fun k => k ≠ b ∧ some k ≠ (Value.slice A8 D.length c8).ownBlock) u E4 g4 E5 g5
  c4 : u.f4 = t.f4 ++ L
  c5 : u.f5 = t.f5
  c0 : u.f0 = t.f0
  c1 : u.f1 = t.f1
  dn : Kd.N k30 30 W w4.heap.size (fun k => k ≠ b) (.slice A8 D.length c8) D
section
variable {t u x : S25} {w4 W W1 : World} {b : Nat} {E4 : Option Addr} {g4 : Nat} {E5 : Option Addr} {g5 : Nat} {F4 : Option Addr} {f4 : Nat} {F5 : Option Addr} {f5 : Nat} {D L L' : List S30} {A8 : Option Addr} {c8 : Nat}
theorem BK.below (h : BK t w4 W b u E4 g4 E5 g5 D A8 c8 L) (hb : Below W.heap.size W W1) : BK t w4 W1 b u E4 g4 E5 g5 D A8 c8 L :=
  ⟨h.may, h.bx.below hb, h.tf.below hb, h.c4, h.c5, h.c0, h.c1, Kd.N_below h.dn hb⟩
theorem N_base {α : Type} {d : Kd α} {e base : Nat} {ok : Nat → Prop} {v : Value} {xs : List α} (h : Kd.N d e W base ok v xs) : ∀ k, v.ownBlock = some k → base ≤ k := by
  obtain ⟨_, rows, _, hR, _⟩ := h
  exact Kd.R_base hR
theorem BK.put (h : BK t w4 W b u E4 g4 E5 g5 D A8 c8 L) (hwb : Below W.heap.size W W1) (hT : TF W1 (fun k => W.heap.size ≤ k) x F4 f4 F5 f5) (hmay : MayP x) (hc4 : x.f4 = t.f4 ++ L') (hc5 : x.f5 = t.f5) (hc0 : x.f0 = t.f0) (hc1 : x.f1 = t.f1) :
    BK t w4 ((((((W1.setCell ⟨b, 0, none⟩ (.int .i64 x.f0)).setCell ⟨b, 1, none⟩ (.int .i64 x.f1)).setCell ⟨b, 2, none⟩ (.int .i64 x.f2)).setCell ⟨b, 3, none⟩ (.int .i64 x.f3)).setCell ⟨b, 4, none⟩ (.slice F4 x.f4.length f4)).setCell ⟨b, 5, none⟩ (.slice F5 x.f5.length f5)) b x F4 f4 F5 f5 D A8 c8 L' := by
  have hC := Chg.six (S := fun k => k = b) (Chg.refl _ W1) (.inl rfl) (.int .i64 x.f0) (.int .i64 x.f1) (.int .i64 x.f2) (.int .i64 x.f3) (.slice F4 x.f4.length f4) (.slice F5 x.f5.length f5)
  have hl := h.bx.lt
  have hd := Kd.N_lt h.dn
  refine ⟨hmay, (h.bx.below hwb).put2 (hT.mono (fun k hk => ?_)), (hT.step (fun k hk hlt => hC.block k hlt ?_)).mono (fun k hk => ⟨?_, fun e => ?_⟩), hc4, hc5, hc0, hc1, Kd.N_step (Kd.N_below h.dn hwb) (fun k hk hlt => hC.block k hlt hk)⟩
  · have h1 : W.heap.size ≤ k := hk
    show k ≠ b
    omega
  · have h1 : W.heap.size ≤ k := hk
    intro e
    have e1 : k = b := e
    omega
  · have h1 : W.heap.size ≤ k := hk
    omega
  · have h1 : W.heap.size ≤ k := hk
    have := hd k e.symm
    omega
/-- Behind an append to the row. -/
theorem BK.app {c : S30} {A9 : Option Addr} {c9 : Nat} (h : BK t w4 W b u E4 g4 E5 g5 D A8 c8 L) (ho : Kd.N k30 30 W1 w4.heap.size (fun k => k ≠ b) (.slice A9 (D ++ [c]).length c9) (D ++ [c])) (hb : Below w4.heap.size w4 W1) (hg : W.grownBy W1 (Value.slice A8 D.length c8).ownBlock) (hat : (Value.slice A9 (D ++ [c]).length c9).ownBlock = (Value.slice A8 D.length c8).ownBlock ∨ ∃ j, (Value.slice A9 (D ++ [c]).length c9).ownBlock = some j ∧ W.heap.size ≤ j) :
    BK t w4 W1 b u E4 g4 E5 g5 (D ++ [c]) A9 c9 L := by
  have hl := h.bx.lt
  have hne : some b ≠ (Value.slice A8 D.length c8).ownBlock := Kd.N_away h.dn (fun k hk => hk)
  have hT := (h.tf.bound.step (W1 := W1) (fun k hk hlt => hg.block k hlt hk.1.2)).mono (Q := fun k => k ≠ b ∧ some k ≠ (Value.slice A9 (D ++ [c]).length c9).ownBlock) (fun k hk => ⟨hk.1.1, fun e => by
    rcases hat with e1 | ⟨j, e1, hj⟩
    · exact hk.1.2 (e.trans e1)
    · rw [e1] at e
      have e2 : k = j := Option.some.inj e
      have := hk.2
      omega⟩)
  exact ⟨h.may, ⟨hb, (hg.block b hl hne).trans h.bx.box, hT.mono (fun k hk => hk.1), h.bx.lo⟩, hT, h.c4, h.c5, h.c0, h.c1, ho⟩
end
theorem take_snoc {l : List S30} {m : Nat} (h : m < l.length) : l.take (m + 1) = l.take m ++ [rd_T30 l (m : Int)] := by
  unfold rd_T30
  rw [show ((m : Int)).toNat = m from rfl, List.take_succ_eq_append_getElem h, List.getD_eq_getElem?_getD, List.getElem?_eq_getElem h]
  rfl
/-- The last that was noted is undone. -/
theorem undo_back {t u : S25} {l : List S30} {c : S30} (h4 : u.f4 = t.f4 ++ (l ++ [c])) (h5 : u.f5 = t.f5) (hs : ∀ y ∈ t.f5, y ≤ (t.f4.length : Int)) : u.f4.length ≠ 0 ∧ lastC u = c ∧ (undoD u).f4 = t.f4 ++ l ∧ (undoD u).f5 = t.f5 := by
  have hl : u.f4.length = t.f4.length + l.length + 1 := by rw [h4]; simp; omega
  refine ⟨by omega, ?_, ?_, ?_⟩
  · unfold lastC
    rw [h4, ← List.append_assoc, List.length_append, List.length_singleton, Nat.add_sub_cancel, List.getD_eq_getElem?_getD, List.getElem?_append_right (Nat.le_refl _), Nat.sub_self]
    rfl
  · show u.f4.take (u.f4.length - 1) = _
    rw [h4, ← List.append_assoc, List.length_append, List.length_singleton, Nat.add_sub_cancel, List.take_left]
  · refine (undoD_saves (m := t.f4.length) (by omega) (fun y hy => ?_) (by omega)).trans h5
    rw [h5] at hy
    exact hs y hy
end Go.Proofs.Ytdbbibndjknafaa.Print
