/- The statement of BytWrites behind its walk: any puts and lays answer, and make the bytes, that the document says. No condition. -/
import Derived.Test.YtkniklgecmdeoaaBytWrites
import Derived.DataShut
namespace Go.Proofs.Ytkniklgecmdeoaa.Pure
open Go.RowKit Go.Proofs.Ytkniklgecmdeoaa.Print Go.Proofs.YtkniklgecmdeoaaW.PrintWords Go.Proofs.YtkniklgecmdeoaaW.PrintLast
set_option linter.unusedVariables false
theorem BytWrites (x0 : List S30) (w0 : x0.length * 48 ≤ reachBytes ∧ x0.length ≤ maxLen ∧ ∀ a ∈ x0, (True) ∧ ((Lit.int .i64 a.f1).wf = true) ∧ ((Lit.int .i64 a.f2).wf = true) ∧ (a.f3.length * 1 ≤ reachBytes ∧ a.f3.length ≤ maxLen ∧ ∀ b ∈ a.f3, (Lit.int .u8 b).wf = true)) : bobbinlaw01_BytWrites.f x0 = some true := by
  unfold bobbinlaw01_BytWrites.f
  rw [if_pos]
  intro x hx
  have := (Lit.wf_int_iff _ _).1 (w0.2.2 x hx).2.1
  have e : IntKind.i64.max = 9223372036854775807 := by decide
  omega
end Go.Proofs.Ytkniklgecmdeoaa.Pure
