/- The pure statement of FrameOnly: what opens is what Seal makes of what it opens to. No condition. -/
import Derived.Test.YtckmagmfanemiaaFrame
import Derived.Test.YtckmagmfanemiaaPrint4
namespace Go.Proofs.Ytckmagmfanemiaa.Pure
set_option linter.unusedVariables false
set_option linter.unusedSimpArgs false
open Go.RowKit Go.Proofs.Ytckmagmfanemiaa.Print Go.Proofs.YtckmagmfanemiaaW.PrintWords Go.Proofs.YtckmagmfanemiaaW.PrintLast
theorem FrameOnly : bobbinlaw02_FrameOnly.Pure := by
  intro l hm _ hx
  refine Ev.rounds ?_
  unfold bobbinlaw02_FrameOnly.f
  refine Ev.bnd awake (Ev.ifp rfl (Ev.step (fun k => bobbinlaw02_FrameOnly.j0_eq k _ _ _) ?_))
  by_cases c1 : (l.length : Int) > 600
  · exact Ev.ifp (by simpa using c1) (Ev.now _)
  refine Ev.ifn (by simpa using c1) ?_
  have hb := bytes_of_wf hx
  by_cases hl : l.length = 256
  · have e := split3 hl
    have h4 : (l.take 4).length = 4 := by simp; omega
    have h8 : ((l.drop 4).take 248).length = 248 := by simp; omega
    have h5 : (l.drop 252).length = 4 := by simp; omega
    by_cases hq : l.take 4 = l.drop 252
    · have ho := open_ok h4 h8 hq (e ▸ hb)
      rw [← e] at ho
      refine Ev.bnd ho (Ev.ifp rfl ?_)
      have hy := four h5
      have hby := hb.drop 252
      generalize l.drop 252 = y at *
      have y0 := hby (y.getD 0 0) (by rw [hy]; simp)
      have y1 := hby (y.getD 1 0) (by rw [hy]; simp)
      have y2 := hby (y.getD 2 0) (by rw [hy]; simp)
      have y3 := hby (y.getD 3 0) (by rw [hy]; simp)
      have hs : b4 (y.getD 0 0 + 256 * y.getD 1 0 + 65536 * y.getD 2 0 + 16777216 * y.getD 3 0) = y := by
        conv => rhs; rw [hy]
        simp only [b4, List.cons.injEq, and_true]
        omega
      refine Ev.bnd (seal_ok _ _ (by dsimp only; omega) (by dsimp only; omega) (by dsimp only; omega)) (Ev.bind (same_true _ _ ?_ (by omega)) (Ev.ifp rfl (Ev.now _)))
      rw [bytes_eq, hs]
      have hp : pad ((l.drop 4).take 248) = (l.drop 4).take 248 := by unfold pad; rw [h8]; simp
      rw [hp, ← hq]
      rw [← hq] at e
      exact e
    · have ho := open_torn h4 h8 h5 hq
      rw [← e] at ho
      refine Ev.bnd ho (Ev.ifn (by decide) (Ev.ifp rfl (Ev.ifp rfl (Ev.const ?_))))
      simp [hl]
  · have ho : frame_Open.f l = some ([], 0, 1) := by unfold frame_Open.f; rw [if_pos hl]
    refine Ev.bnd ho (Ev.ifn (by decide) (Ev.ifp rfl (Ev.ifp rfl (Ev.const ?_))))
    have : ((l.length : Int) == 256) = false := beq_eq_false_iff_ne.mpr (by omega)
    simp [this]
end Go.Proofs.Ytckmagmfanemiaa.Pure
