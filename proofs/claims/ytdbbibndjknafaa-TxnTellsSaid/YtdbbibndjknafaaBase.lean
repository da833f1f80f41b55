/- Small lemmas of this session: what a block of cells tells of a slice over it. -/
import Derived.Test.YtdbbibndjknafaaProg
import Derived.Test.YtdbbibndjknafaaWWords
import Derived.Test.YtdbbibndjknafaaWLast
import Derived.Test.YtdbbibndjknafaaWMore
import Derived.Laws.CopyOwn
import Derived.WalkSpells
import Derived.Lib.EndianBits
import Derived.WalkLawsBesides
namespace Go.Proofs.Ytdbbibndjknafaa.Print
open Go.RowKit Go.Proofs.YtdbbibndjknafaaW.PrintWords Go.Proofs.YtdbbibndjknafaaW.PrintLast Go.Proofs.YtdbbibndjknafaaW.PrintMore
set_option linter.unusedVariables false
theorem addr_add_add (a : Addr) (x y : Nat) : (a.add x).add y = a.add (x + y) := by
  unfold Addr.add
  by_cases hx : x = 0
  · simp [hx]
  · by_cases hy : y = 0
    · simp [hx, hy]
    · simp [hx, hy, Nat.add_assoc]
theorem two_cl {W : World} {g : Nat} {a b : Value} {t : TypeId} (h : W.heap[g]? = some (.cells #[a, b] t (0, 0))) :
    W.cell? ⟨g, 0, none⟩ = some a ∧ W.cell? ⟨g, 1, none⟩ = some b ∧ W.frozen? ⟨g, 0, none⟩ = false ∧ W.frozen? ⟨g, 1, none⟩ = false :=
  ⟨(blk_cell h 0).trans rfl, (blk_cell h 1).trans rfl, blk_frozen h _, blk_frozen h _⟩
theorem six_cl {W : World} {g : Nat} {a b c d e f : Value} {t : TypeId} (h : W.heap[g]? = some (.cells #[a, b, c, d, e, f] t (0, 0))) :
    W.cell? ⟨g, 0, none⟩ = some a ∧ W.cell? ⟨g, 1, none⟩ = some b ∧ W.cell? ⟨g, 2, none⟩ = some c ∧ W.cell? ⟨g, 3, none⟩ = some d ∧ W.cell? ⟨g, 4, none⟩ = some e ∧ W.cell? ⟨g, 5, none⟩ = some f ∧ W.frozen? ⟨g, 0, none⟩ = false ∧ W.frozen? ⟨g, 1, none⟩ = false ∧ W.frozen? ⟨g, 2, none⟩ = false ∧ W.frozen? ⟨g, 3, none⟩ = false ∧ W.frozen? ⟨g, 4, none⟩ = false ∧ W.frozen? ⟨g, 5, none⟩ = false :=
  ⟨(blk_cell h 0).trans rfl, (blk_cell h 1).trans rfl, (blk_cell h 2).trans rfl, (blk_cell h 3).trans rfl, (blk_cell h 4).trans rfl, (blk_cell h 5).trans rfl, blk_frozen h _, blk_frozen h _, blk_frozen h _, blk_frozen h _, blk_frozen h _, blk_frozen h _⟩
theorem seven_cl {W : World} {g : Nat} {a b c d e f x : Value} {t : TypeId} (h : W.heap[g]? = some (.cells #[a, b, c, d, e, f, x] t (0, 0))) :
    W.cell? ⟨g, 0, none⟩ = some a ∧ W.cell? ⟨g, 1, none⟩ = some b ∧ W.cell? ⟨g, 2, none⟩ = some c ∧ W.cell? ⟨g, 3, none⟩ = some d ∧ W.cell? ⟨g, 4, none⟩ = some e ∧ W.cell? ⟨g, 5, none⟩ = some f ∧ W.cell? ⟨g, 6, none⟩ = some x ∧ W.frozen? ⟨g, 0, none⟩ = false ∧ W.frozen? ⟨g, 1, none⟩ = false ∧ W.frozen? ⟨g, 2, none⟩ = false ∧ W.frozen? ⟨g, 3, none⟩ = false ∧ W.frozen? ⟨g, 4, none⟩ = false ∧ W.frozen? ⟨g, 5, none⟩ = false ∧ W.frozen? ⟨g, 6, none⟩ = false :=
  ⟨(blk_cell h 0).trans rfl, (blk_cell h 1).trans rfl, (blk_cell h 2).trans rfl, (blk_cell h 3).trans rfl, (blk_cell h 4).trans rfl, (blk_cell h 5).trans rfl, (blk_cell h 6).trans rfl, blk_frozen h _, blk_frozen h _, blk_frozen h _, blk_frozen h _, blk_frozen h _, blk_frozen h _, blk_frozen h _⟩
end Go.Proofs.Ytdbbibndjknafaa.Print
