/- The statement of BytBack behind its walk: what was put and laid is got and taken, in that order; nothing is left then. No condition. -/
import Derived.Test.YtkniklgecmdeoaaBytBackW
import Derived.DataShut
namespace Go.Proofs.Ytkniklgecmdeoaa.Pure
open Go.RowKit Go.Proofs.Ytkniklgecmdeoaa.Print Go.Proofs.YtkniklgecmdeoaaW.PrintWords Go.Proofs.YtkniklgecmdeoaaW.PrintLast
set_option linter.unusedVariables false
theorem BytBack (x0 : List S30) (w0 : x0.length * 48 ≤ reachBytes ∧ x0.length ≤ maxLen ∧ ∀ a ∈ x0, (True) ∧ ((Lit.int .i64 a.f1).wf = true) ∧ ((Lit.int .i64 a.f2).wf = true) ∧ (a.f3.length * 1 ≤ reachBytes ∧ a.f3.length ≤ maxLen ∧ ∀ b ∈ a.f3, (Lit.int .u8 b).wf = true)) : bobbinlaw01_BytBack.f x0 = some true := by
  unfold bobbinlaw01_BytBack.f
  rw [if_pos]
  intro x hx y hy
  have := (Lit.wf_int_iff _ _).1 ((w0.2.2 x hx).2.2.2.2.2 y hy)
  have e1 : IntKind.u8.max = 255 := by decide
  have e2 : IntKind.u8.min = 0 := by decide
  omega
end Go.Proofs.Ytkniklgecmdeoaa.Pure
