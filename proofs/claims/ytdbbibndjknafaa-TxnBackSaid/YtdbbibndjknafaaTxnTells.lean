/- TxnTells. -/
import Derived.Test.YtdbbibndjknafaaTx5
namespace Go.Proofs.Ytdbbibndjknafaa.Print
open Go.RowKit Go.Proofs.YtdbbibndjknafaaW.PrintWords Go.Proofs.YtdbbibndjknafaaW.PrintLast Go.Proofs.YtdbbibndjknafaaW.PrintMore
set_option linter.unusedVariables false
set_option linter.unusedSimpArgs false
/-- A box that holds a transaction. -/
structure BT (W : World) (b : Nat) (t : S25) (B4 : Option Addr) (d4 : Nat) (B5 : Option Addr) (d5 : Nat) : Prop where
  box : W.heap[b]? = some (.cells #[.int .i64 t.f0, .int .i64 t.f1, .int .i64 t.f2, .int .i64 t.f3, .slice B4 t.f4.length d4, .slice B5 t.f5.length d5] 25)
  tf : TF W (fun _ => True) t B4 d4 B5 d5
theorem BT.below {W W1 : World} {b : Nat} {t : S25} {B4 : Option Addr} {d4 : Nat} {B5 : Option Addr} {d5 : Nat} (h : BT W b t B4 d4 B5 d5) (hb : Below W.heap.size W W1) : BT W1 b t B4 d4 B5 d5 :=
  ⟨(hb.block _ (Array.getElem?_eq_some_iff.1 h.box).1).trans h.box, h.tf.below hb⟩
theorem BT.made {W : World} {P : Nat → Prop} {t : S25} {B4 : Option Addr} {d4 : Nat} {B5 : Option Addr} {d5 : Nat} (h : TF W P t B4 d4 B5 d5) : BT (W.alloc (.cells #[.int .i64 t.f0, .int .i64 t.f1, .int .i64 t.f2, .int .i64 t.f3, .slice B4 t.f4.length d4, .slice B5 t.f5.length d5] 25)) W.heap.size t B4 d4 B5 d5 :=
  ⟨heap_alloc_new _ _, (h.mono (fun _ _ => trivial)).below (below_alloc (Below.refl _ _) _)⟩
/-- A box that holds a change. -/
structure BC (W : World) (b : Nat) (c : S30) (B4 : Option Addr) (d4 : Nat) (B6 : Option Addr) (d6 : Nat) : Prop where
  box : W.heap[b]? = some (.cells #[.int .i64 c.f0, .int .i64 c.f1, .int .i64 c.f2, .bool c.f3.f0, .slice B4 c.f3.f1.length d4, .bool c.f4.f0, .slice B6 c.f4.f1.length d6] 30)
  cf : CF W (fun _ => True) c B4 d4 B6 d6
theorem BC.below {W W1 : World} {b : Nat} {c : S30} {B4 : Option Addr} {d4 : Nat} {B6 : Option Addr} {d6 : Nat} (h : BC W b c B4 d4 B6 d6) (hb : Below W.heap.size W W1) : BC W1 b c B4 d4 B6 d6 :=
  ⟨(hb.block _ (Array.getElem?_eq_some_iff.1 h.box).1).trans h.box, h.cf.below hb⟩
theorem two_made {W : World} {P Q : Nat → Prop} {t : S25} {B4 : Option Addr} {d4 : Nat} {B5 : Option Addr} {d5 : Nat} {c : S30} {E4 : Option Addr} {e4 : Nat} {E6 : Option Addr} {e6 : Nat} (h : TF W P t B4 d4 B5 d5) (hc : CF W Q c E4 e4 E6 e6) :
    BT ((W.alloc (.cells #[.int .i64 t.f0, .int .i64 t.f1, .int .i64 t.f2, .int .i64 t.f3, .slice B4 t.f4.length d4, .slice B5 t.f5.length d5] 25)).alloc (.cells #[.int .i64 c.f0, .int .i64 c.f1, .int .i64 c.f2, .bool c.f3.f0, .slice E4 c.f3.f1.length e4, .bool c.f4.f0, .slice E6 c.f4.f1.length e6] 30)) W.heap.size t B4 d4 B5 d5 ∧ BC ((W.alloc (.cells #[.int .i64 t.f0, .int .i64 t.f1, .int .i64 t.f2, .int .i64 t.f3, .slice B4 t.f4.length d4, .slice B5 t.f5.length d5] 25)).alloc (.cells #[.int .i64 c.f0, .int .i64 c.f1, .int .i64 c.f2, .bool c.f3.f0, .slice E4 c.f3.f1.length e4, .bool c.f4.f0, .slice E6 c.f4.f1.length e6] 30)) (W.heap.size + 1) c E4 e4 E6 e6 ∧ Below W.heap.size W ((W.alloc (.cells #[.int .i64 t.f0, .int .i64 t.f1, .int .i64 t.f2, .int .i64 t.f3, .slice B4 t.f4.length d4, .slice B5 t.f5.length d5] 25)).alloc (.cells #[.int .i64 c.f0, .int .i64 c.f1, .int .i64 c.f2, .bool c.f3.f0, .slice E4 c.f3.f1.length e4, .bool c.f4.f0, .slice E6 c.f4.f1.length e6] 30)) := by
  have hs1 : (W.alloc (.cells #[.int .i64 t.f0, .int .i64 t.f1, .int .i64 t.f2, .int .i64 t.f3, .slice B4 t.f4.length d4, .slice B5 t.f5.length d5] 25)).heap.size = W.heap.size + 1 := World.size_alloc ..
  have hb := below_alloc (below_alloc (Below.refl W.heap.size W) (.cells #[.int .i64 t.f0, .int .i64 t.f1, .int .i64 t.f2, .int .i64 t.f3, .slice B4 t.f4.length d4, .slice B5 t.f5.length d5] 25)) (.cells #[.int .i64 c.f0, .int .i64 c.f1, .int .i64 c.f2, .bool c.f3.f0, .slice E4 c.f3.f1.length e4, .bool c.f4.f0, .slice E6 c.f4.f1.length e6] 30)
  exact ⟨⟨blk_alloc (heap_alloc_new _ _) _, (h.mono (fun _ _ => trivial)).below hb⟩, ⟨by have := heap_alloc_new (W.alloc (.cells #[.int .i64 t.f0, .int .i64 t.f1, .int .i64 t.f2, .int .i64 t.f3, .slice B4 t.f4.length d4, .slice B5 t.f5.length d5] 25)) (.cells #[.int .i64 c.f0, .int .i64 c.f1, .int .i64 c.f2, .bool c.f3.f0, .slice E4 c.f3.f1.length e4, .bool c.f4.f0, .slice E6 c.f4.f1.length e6] 30); rwa [hs1] at this, (hc.mono (fun _ _ => trivial)).below hb⟩, hb⟩
end Go.Proofs.Ytdbbibndjknafaa.Print
