/- The statement of BytReads behind its walk: of any bytes any gets and takes answer what the document says, with as much left. No condition. -/
import Derived.Test.YtkniklgecmdeoaaBytReads
import Derived.DataShut
namespace Go.Proofs.Ytkniklgecmdeoaa.Pure
open Go.RowKit Go.Proofs.Ytkniklgecmdeoaa.Print Go.Proofs.YtkniklgecmdeoaaW.PrintWords Go.Proofs.YtkniklgecmdeoaaW.PrintLast
set_option linter.unusedVariables false
theorem BytReads (x0 x1 : List Int) (w0 : x0.length * 1 ≤ reachBytes ∧ x0.length ≤ maxLen ∧ ∀ a ∈ x0, (Lit.int .u8 a).wf = true) (w1 : x1.length * 8 ≤ reachBytes ∧ x1.length ≤ maxLen ∧ ∀ a ∈ x1, (Lit.int .i64 a).wf = true) : bobbinlaw01_BytReads.f x0 x1 = some true := by
  unfold bobbinlaw01_BytReads.f
  rw [if_pos]
  have e : reachBytes = 140737488351232 := by decide
  refine ⟨by have := w0.1; omega, fun x hx => ?_⟩
  have := (Lit.wf_int_iff _ _).1 (w0.2.2 x hx)
  have e1 : IntKind.u8.max = 255 := by decide
  have e2 : IntKind.u8.min = 0 := by decide
  omega
end Go.Proofs.Ytkniklgecmdeoaa.Pure
