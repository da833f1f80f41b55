/- Small lemmas of this session: what a block of cells tells of a slice over it. -/
import Derived.Test.YtdbbibndjknafaaProg
import Derived.Test.YtdbbibndjknafaaWWords
import Derived.Test.YtdbbibndjknafaaWLast
import Derived.Test.YtdbbibndjknafaaWMore
import Derived.Laws.CopyOwn
import Derived.WalkSpells
import Derived.Lib.EndianBits
import Derived.WalkLawsBesides
namespace Go.Proofs.Ytdbbibndjknafaa.Print
open Go.RowKit Go.Proofs.YtdbbibndjknafaaW.PrintWords Go.Proofs.YtdbbibndjknafaaW.PrintLast Go.Proofs.YtdbbibndjknafaaW.PrintMore
set_option linter.unusedVariables false
theorem addr_add_add (a : Addr) (x y : Nat) : (a.add x).add y = a.add (x + y) := by
  unfold Addr.add
  by_cases hx : x = 0
  · simp [hx]
  · by_cases hy : y = 0
    · simp [hx, hy]
    · simp [hx, hy, Nat.add_assoc]
end Go.Proofs.Ytdbbibndjknafaa.Print
