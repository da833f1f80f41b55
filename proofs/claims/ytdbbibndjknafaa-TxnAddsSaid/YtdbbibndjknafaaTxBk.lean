/- What TxnBack keeps: a transaction in a box, a row of changes beside it. -/
import Derived.Test.YtdbbibndjknafaaTxnRoom
import Derived.Test.YtdbbibndjknafaaTxLaw
namespace Go.Proofs.Ytdbbibndjknafaa.Print
open Go.RowKit Go.Proofs.YtdbbibndjknafaaW.PrintWords Go.Proofs.YtdbbibndjknafaaW.PrintLast Go.Proofs.YtdbbibndjknafaaW.PrintMore
set_option linter.unusedVariables false
set_option linter.unusedSimpArgs false
section
variable {t u x : S25} {w4 W W1 : World} {b : Nat} {E4 : Option Addr} {g4 : Nat} {E5 : Option Addr} {g5 : Nat} {F4 : Option Addr} {f4 : Nat} {F5 : Option Addr} {f5 : Nat} {D L L' : List S30} {A8 : Option Addr} {c8 : Nat}
theorem N_base {α : Type} {d : Kd α} {e base : Nat} {ok : Nat → Prop} {v : Value} {xs : List α} (h : Kd.N d e W base ok v xs) : ∀ k, v.ownBlock = some k → base ≤ k := by
  obtain ⟨_, rows, _, hR, _⟩ := h
  exact Kd.R_base hR
end
end Go.Proofs.Ytdbbibndjknafaa.Print
