/- The statement of BytJoins behind its walk: calls that are made one behind the other make the bytes that each part of them makes. No condition. -/
import Derived.Test.YtkniklgecmdeoaaBytJoins
namespace Go.Proofs.Ytkniklgecmdeoaa.Pure
open Go.RowKit Go.Proofs.Ytkniklgecmdeoaa.Print Go.Proofs.YtkniklgecmdeoaaW.PrintWords Go.Proofs.YtkniklgecmdeoaaW.PrintLast
set_option linter.unusedVariables false
theorem BytJoins (x0 x1 : List S30) (w0 : x0.length * 48 ≤ reachBytes ∧ x0.length ≤ maxLen ∧ ∀ a ∈ x0, (True) ∧ ((Lit.int .i64 a.f1).wf = true) ∧ ((Lit.int .i64 a.f2).wf = true) ∧ (a.f3.length * 1 ≤ reachBytes ∧ a.f3.length ≤ maxLen ∧ ∀ b ∈ a.f3, (Lit.int .u8 b).wf = true)) (w1 : x1.length * 48 ≤ reachBytes ∧ x1.length ≤ maxLen ∧ ∀ a ∈ x1, (True) ∧ ((Lit.int .i64 a.f1).wf = true) ∧ ((Lit.int .i64 a.f2).wf = true) ∧ (a.f3.length * 1 ≤ reachBytes ∧ a.f3.length ≤ maxLen ∧ ∀ b ∈ a.f3, (Lit.int .u8 b).wf = true)) : bobbinlaw01_BytJoins.f x0 x1 = some true := rfl
end Go.Proofs.Ytkniklgecmdeoaa.Pure
