/- The statement of MasterReads behind its walk. No condition. -/
import Derived.Test.YtfaflgdhffkaiaaMasterReads
import Derived.DataShut
namespace Go.Proofs.Ytfaflgdhffkaiaa.Pure
open Go.RowKit Go.Proofs.Ytfaflgdhffkaiaa.Print Go.Proofs.YtfaflgdhffkaiaaW.PrintWords Go.Proofs.YtfaflgdhffkaiaaW.PrintLast
set_option linter.unusedVariables false
theorem MasterReads (x0 x1 : List Int) (w0 : x0.length * 1 ≤ reachBytes ∧ x0.length ≤ maxLen ∧ ∀ a ∈ x0, (Lit.int .u8 a).wf = true) (w1 : x1.length * 1 ≤ reachBytes ∧ x1.length ≤ maxLen ∧ ∀ a ∈ x1, (Lit.int .u8 a).wf = true) : bobbinlaw09_MasterReads.f x0 x1 = some true := by
  unfold bobbinlaw09_MasterReads.f
  rw [if_pos]
  exact ⟨bytes_of_wf w0.2.2, bytes_of_wf w1.2.2⟩
end Go.Proofs.Ytfaflgdhffkaiaa.Pure
