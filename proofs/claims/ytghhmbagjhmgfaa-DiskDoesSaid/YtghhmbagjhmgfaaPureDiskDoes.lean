/- The statement of DiskDoes behind its walk. No condition. -/
import Derived.Test.YtghhmbagjhmgfaaDiskDoes
import Derived.DataShut
namespace Go.Proofs.Ytghhmbagjhmgfaa.Pure
open Go.RowKit Go.Proofs.Ytghhmbagjhmgfaa.Print
set_option linter.unusedVariables false
theorem DiskDoes (x0 : Int) (x1 : List S35) (w0 : (Lit.int .i64 x0).wf = true) (w1 : x1.length * 72 ≤ reachBytes ∧ x1.length ≤ maxLen ∧ ∀ a ∈ x1, ((Lit.int .i64 a.f0).wf = true) ∧ ((Lit.int .i64 a.f1).wf = true) ∧ ((Lit.int .i64 a.f2).wf = true) ∧ ((Lit.int .u8 a.f3).wf = true) ∧ (True) ∧ ((a.f5.f0.length * 1 ≤ reachBytes ∧ a.f5.f0.length ≤ maxLen ∧ ∀ b ∈ a.f5.f0, True) ∧ ((Lit.int .i64 a.f5.f1).wf = true) ∧ ((Lit.int .i64 a.f5.f2).wf = true))) : bobbinlaw03_DiskDoes.f x0 x1 = some true := rfl
end Go.Proofs.Ytghhmbagjhmgfaa.Pure
