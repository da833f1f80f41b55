/- The pure statement of WaitTells: who reaches whom is what the document says. No condition. -/
import Derived.Test.YtdpdghahmapgkaaWaitRef
import Derived.Test.YtdpdghahmapgkaaPrint1
import Derived.Test.YtdpdghahmapgkaaPrint3
namespace Go.Proofs.Ytdpdghahmapgkaa.Pure
open Go.RowKit Go.Proofs.Ytdpdghahmapgkaa.Print Go.Proofs.YtdpdghahmapgkaaW.PrintWords Go.Proofs.YtdpdghahmapgkaaW.PrintLast Go.Proofs.Ytdpdghahmapgkaa.Hand
set_option linter.unusedVariables false
set_option linter.unusedSimpArgs false
theorem still_f {l : List S29} (h : fits (wl l) = true) : wait_Still.f l = some (!l.any (fun x => rch (wl l) x.f0 x.f0)) := by unfold wait_Still.f; rw [if_pos h]
theorem WaitTells (x0 : List S29) (x1 x2 : Int) (w0 : x0.length * 32 ≤ reachBytes ∧ x0.length ≤ maxLen ∧ ∀ a ∈ x0, ((Lit.int .i64 a.f0).wf = true) ∧ (a.f1.length * 8 ≤ reachBytes ∧ a.f1.length ≤ maxLen ∧ ∀ b ∈ a.f1, (Lit.int .i64 b).wf = true))
    (w1 : (Lit.int .i64 x1).wf = true) (w2 : (Lit.int .i64 x2).wf = true) : ∃ k, bobbinlaw13_WaitTells.f k x0 x1 x2 = some true := by
  have hw : Wf x0 := fun a ha => ⟨(w0.2.2 a ha).1, (w0.2.2 a ha).2.2.2⟩
  refine Ev.rounds ?_
  unfold bobbinlaw13_WaitTells.f
  refine Ev.bnd (show bobbinlaw13_awake.f = some true from rfl) ?_
  rcases few_cases x0 with h | ⟨h, hS⟩
  · exact Ev.bind h (Ev.ifp rfl (Ev.step (fun k => bobbinlaw13_WaitTells.j0_eq k _ _ _ _ _) (Ev.ifp rfl (Ev.now _))))
  · have hf := hS.fits hw
    refine Ev.bind h (Ev.ifp rfl (Ev.step (fun k => bobbinlaw13_WaitTells.j0_eq k _ _ _ _ _) (Ev.ifn (by decide) ?_)))
    refine Ev.bnd (reach_f hf _ _) (Ev.bind (ref_reach hS hw _ _) (Ev.ifp (by simp) ?_))
    refine Ev.bnd (show wait_Circle.f x0 x1 = some (rch (wl x0) x1 x1) by unfold wait_Circle.f; rw [reach_f hf]; rfl) (Ev.bind (ref_reach hS hw _ _) (Ev.ifp (by simp) ?_))
    exact Ev.bnd (still_f hf) (Ev.bind (ref_still hS hw) (Ev.const (by simp)))
end Go.Proofs.Ytdpdghahmapgkaa.Pure
