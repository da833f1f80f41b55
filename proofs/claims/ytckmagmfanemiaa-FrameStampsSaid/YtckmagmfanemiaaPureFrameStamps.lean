/- The pure statement of FrameStamps: of some bytes, two stamps make sectors that differ within the stamps' bytes alone. No condition. -/
import Derived.Test.YtckmagmfanemiaaFrame
import Derived.Test.YtckmagmfanemiaaPrint2
namespace Go.Proofs.Ytckmagmfanemiaa.Pure
set_option linter.unusedVariables false
set_option linter.unusedSimpArgs false
open Go.RowKit Go.Proofs.Ytckmagmfanemiaa.Print Go.Proofs.YtckmagmfanemiaaW.PrintWords Go.Proofs.YtckmagmfanemiaaW.PrintLast
theorem FrameStamps : bobbinlaw02_FrameStamps.Pure := by
  intro a b l ha hb hm _ hx
  refine Ev.rounds ?_
  unfold bobbinlaw02_FrameStamps.f
  refine Ev.bnd awake (Ev.ifp rfl ?_)
  have stop : Ev (fun k => bobbinlaw02_FrameStamps.j0 k a b l true true) true := Ev.step (fun k => bobbinlaw02_FrameStamps.j0_eq k _ _ _ _ _) (Ev.ifp rfl (Ev.now _))
  by_cases c1 : (l.length : Int) > 248
  · exact Ev.ifp c1 stop
  refine Ev.ifn c1 ?_
  by_cases c2 : a < 0
  · exact Ev.ifp c2 stop
  refine Ev.ifn c2 ?_
  by_cases c3 : b < 0
  · exact Ev.ifp c3 stop
  refine Ev.ifn c3 ?_
  by_cases c4 : a > 4294967295
  · exact Ev.ifp c4 stop
  refine Ev.ifn c4 ?_
  by_cases c5 : b > 4294967295
  · rw [decide_eq_true c5]; exact stop
  rw [decide_eq_false c5]
  have la := frame_Seal.bytes_len a l (by omega)
  have lb := frame_Seal.bytes_len b l (by omega)
  refine Ev.step (fun k => bobbinlaw02_FrameStamps.j0_eq k _ _ _ _ _) (Ev.ifn (by decide) (Ev.bnd (seal_ok a l (by omega) (by omega) (by omega)) (Ev.bnd (seal_ok b l (by omega) (by omega) (by omega)) ?_)))
  refine Ev.ifp rfl (Ev.ifp rfl (Ev.ifp (by rw [la]; rfl) ?_))
  rw [show (((frame_Seal.bytes b l).length : Int) != 256) = false by rw [lb]; rfl]
  refine Ev.step (fun k => bobbinlaw02_FrameStamps.j1_eq k _ _ _ _ _) (Ev.ifn (by decide) (Ev.ifp (by decide) (Ev.ifp (by rw [la]; decide) (Ev.ifp (by rw [lb]; decide) ?_))))
  have e1 : ∀ n : Int, ((frame_Seal.bytes n l).take 252).drop 4 = pad l := fun n => by
    rw [bytes_eq, List.drop_take, sect_mid rfl (pad_len (by omega))]
  refine Ev.bind (same_true _ _ (by rw [e1, e1]) (by simp; omega)) (Ev.bind (same_ev _ _ (by dsimp only; omega)) (Ev.ifp (by rw [la]; decide) ?_))
  refine Ev.bind (same_true _ _ ?_ (by simp; omega)) (Ev.ifp rfl (Ev.ifp rfl ?_))
  · rw [bytes_eq, sect_take rfl, sect_drop rfl (pad_len (by omega))]
  · refine Ev.const ?_
    by_cases h : a = b
    · subst h; simp
    · have : frame_Seal.bytes a l ≠ frame_Seal.bytes b l := fun e => h (b4_inj (by omega) (by omega) (by omega) (by omega) (by
        have := congrArg (List.take 4) e
        rwa [bytes_eq, bytes_eq, sect_take rfl, sect_take rfl] at this))
      simp [h, this]
end Go.Proofs.Ytckmagmfanemiaa.Pure
