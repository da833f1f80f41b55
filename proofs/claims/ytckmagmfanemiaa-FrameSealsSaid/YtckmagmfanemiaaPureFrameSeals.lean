/- The pure statement of FrameSeals: any bytes, with any stamp, are the sector, or have the error, that the document says. No condition. -/
import Derived.Test.YtckmagmfanemiaaRef02
import Derived.Test.YtckmagmfanemiaaPrint2
namespace Go.Proofs.Ytckmagmfanemiaa.Pure
open Go.RowKit Go.Proofs.Ytckmagmfanemiaa.Print Go.Proofs.YtckmagmfanemiaaW.PrintWords Go.Proofs.YtckmagmfanemiaaW.PrintLast
theorem FrameSeals : bobbinlaw02_FrameSeals.Pure := by
  intro a l ha hm _ hx
  refine Ev.rounds ?_
  have hl2 : l.length ≤ 140737488355000 ∨ 2000 < l.length := by omega
  unfold bobbinlaw02_FrameSeals.f
  refine Ev.bnd awake (Ev.ifp rfl (Ev.step (fun k => bobbinlaw02_FrameSeals.j0_eq k _ _ _ _) ?_))
  by_cases h : 2000 < l.length
  · exact Ev.ifp (by simp; omega) (Ev.now _)
  · refine Ev.ifn (by simp; omega) ?_
    obtain ⟨r, h1, h2⟩ := refseal_ev a l (by omega)
    refine Ev.bnd h1 (Ev.bind h2 (Ev.bind (same_true _ _ rfl ?_) (Ev.ifp rfl ?_)))
    · have := seal_len a l r.1 r.2 h1
      omega
    · simpa using Ev.now true
end Go.Proofs.Ytckmagmfanemiaa.Pure
