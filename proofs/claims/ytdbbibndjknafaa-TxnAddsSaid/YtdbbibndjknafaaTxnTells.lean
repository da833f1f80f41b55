/- TxnTells. -/
import Derived.Test.YtdbbibndjknafaaTx5
namespace Go.Proofs.Ytdbbibndjknafaa.Print
open Go.RowKit Go.Proofs.YtdbbibndjknafaaW.PrintWords Go.Proofs.YtdbbibndjknafaaW.PrintLast Go.Proofs.YtdbbibndjknafaaW.PrintMore
set_option linter.unusedVariables false
set_option linter.unusedSimpArgs false
/-- A box that holds a change. -/
structure BC (W : World) (b : Nat) (c : S30) (B4 : Option Addr) (d4 : Nat) (B6 : Option Addr) (d6 : Nat) : Prop where
  box : W.heap[b]? = some (.cells #[.int .i64 c.f0, .int .i64 c.f1, .int .i64 c.f2, .bool c.f3.f0, .slice B4 c.f3.f1.length d4, .bool c.f4.f0, .slice B6 c.f4.f1.length d6] 30)
  cf : CF W (fun _ => True) c B4 d4 B6 d6
theorem BC.below {W W1 : World} {b : Nat} {c : S30} {B4 : Option Addr} {d4 : Nat} {B6 : Option Addr} {d6 : Nat} (h : BC W b c B4 d4 B6 d6) (hb : Below W.heap.size W W1) : BC W1 b c B4 d4 B6 d6 :=
  ⟨(hb.block _ (Array.getElem?_eq_some_iff.1 h.box).1).trans h.box, h.cf.below hb⟩
end Go.Proofs.Ytdbbibndjknafaa.Print
