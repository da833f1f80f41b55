/- The statement of BytOwn behind its walk: a Writer's bytes, and a Reader's, are its own. No condition. -/
import Derived.Test.YtkniklgecmdeoaaBytOwn
import Derived.DataShut
namespace Go.Proofs.Ytkniklgecmdeoaa.Pure
open Go.RowKit Go.Proofs.Ytkniklgecmdeoaa.Print Go.Proofs.YtkniklgecmdeoaaW.PrintWords Go.Proofs.YtkniklgecmdeoaaW.PrintLast
set_option linter.unusedVariables false
theorem BytOwn (x0 : List Int) (w0 : x0.length * 1 ≤ reachBytes ∧ x0.length ≤ maxLen ∧ ∀ a ∈ x0, (Lit.int .u8 a).wf = true) : bobbinlaw01_BytOwn.f x0 = some true := by
  unfold bobbinlaw01_BytOwn.f
  rw [if_pos]
  intro x hx
  have := (Lit.wf_int_iff _ _).1 (w0.2.2 x hx)
  have e1 : IntKind.u8.max = 255 := by decide
  have e2 : IntKind.u8.min = 0 := by decide
  omega
end Go.Proofs.Ytkniklgecmdeoaa.Pure
