/- The pure statement of ClockStays: a clock that may be stays one; pinned pages stay; a page goes only where another one comes. No condition. -/
import Derived.Test.YtoklljioloekmaaClockSet
import Derived.Test.YtoklljioloekmaaPrint4
namespace Go.Proofs.Ytoklljioloekmaa.Pure
set_option linter.unusedVariables false
set_option linter.unusedSimpArgs false
open Go.RowKit Go.Proofs.Ytoklljioloekmaa.Print Go.Proofs.YtoklljioloekmaaW.PrintWords Go.Proofs.YtoklljioloekmaaW.PrintLast
theorem stays_loop (out : Int) {h h' : Int} {l m : List S32} (v : Valid h l) (v' : Valid h' m) (hp : ∀ j, j < l.length → (g l j).f0 = out → (g l j).f2 = false) (hq : ∀ j, j < l.length → (g l j).f0 ≠ out → ∃ i, i < m.length ∧ (g m i).f0 = (g l j).f0) (d : Nat) :
    ∀ i : Nat, i ≤ l.length → l.length - i = d → Ev (fun k => bobbinlaw16_ClockStays.l0 k out (i : Int) h l h' m) true := by
  have := v.len
  induction d with
  | zero =>
    intro i hi hd
    exact Ev.step (fun k => bobbinlaw16_ClockStays.l0_eq k _ _ _ _ _ _) (Ev.ifn (by omega) (Ev.now _))
  | succ d ih =>
    intro i hi hd
    have hl : i < l.length := by omega
    refine Ev.step (fun k => bobbinlaw16_ClockStays.l0_eq k _ _ _ _ _ _) (Ev.ifp (by omega) (Ev.ifp (by omega) ?_))
    have next := ih (i + 1) (by omega) (by omega)
    rw [w64 (by omega) (by omega), rdT l i hl]
    by_cases c : (g l i).f0 = out
    · exact Ev.ifp c (Ev.ifn (by rw [hp i hl c]; decide) next)
    · obtain ⟨j, hj, e⟩ := hq i hl c
      have y := has_yes v' hj
      rw [e] at y
      exact Ev.ifn c (Ev.bind y (Ev.ifp rfl next))
theorem ClockStays (x0 : Int × List S32) (x1 x2 : Int) (w0 : ((Lit.int .i64 x0.1).wf = true) ∧ (x0.2.length * 16 ≤ reachBytes ∧ x0.2.length ≤ maxLen ∧ ∀ a ∈ x0.2, ((Lit.int .i64 a.f0).wf = true) ∧ (True) ∧ (True))) (w1 : (Lit.int .i64 x1).wf = true) (w2 : (Lit.int .i64 x2).wf = true) :
    ∃ k, bobbinlaw16_ClockStays.f k x0.1 x0.2 x1 x2 = some true := by
  obtain ⟨h, l⟩ := x0
  obtain ⟨_, hb, _, _⟩ := w0
  have hl : l.length ≤ 140737488355328 := by have : l.length * 16 ≤ reachBytes := hb; unfold reachBytes at this; omega
  refine Ev.rounds ?_
  unfold bobbinlaw16_ClockStays.f
  refine Ev.bind awake16' ?_
  have stop : Ev (fun k => bobbinlaw16_ClockStays.j0 k x1 x2 true true h l) true := Ev.step (fun k => bobbinlaw16_ClockStays.j0_eq k _ _ _ _ _ _) (Ev.ifp rfl (Ev.now _))
  unfold bobbinlaw16_light.f
  refine Ev.bnd rfl (Ev.ifp rfl ?_)
  by_cases c : ¬ (l.length : Int) ≤ 40
  · exact Ev.ifn (by simpa using c) stop
  refine Ev.ifp (by simpa using c) ?_
  by_cases nv : ¬ Valid h l
  · exact Ev.bind (may_no nv hl) stop
  have v := Classical.not_not.1 nv
  refine Ev.bind (may_yes v) (Ev.step (fun k => bobbinlaw16_ClockStays.j0_eq k _ _ _ _ _ _) (Ev.ifn (by decide) ?_))
  have v16 := v.len
  rcases admit_cases v x1 x2 with ⟨e, he, ha⟩ | ⟨h1, h2, hn, ⟨hlt, ha⟩ | ⟨i, m, hi, hs, hf2, _, ha⟩⟩
  · exact Ev.bind ha (Ev.ifn he (Ev.ifp rfl (Ev.ifp rfl (Ev.now _))))
  · have v' := app_valid v h1 (by omega) (idx_new hn)
    have y := has_yes v' (i := l.length) (by simp)
    rw [g_end] at y
    refine Ev.bind ha (Ev.ifp rfl (Ev.bind (may_yes v') (Ev.ifp rfl (Ev.bind y (Ev.ifp rfl (Ev.ifn (show ¬ (-1 : Int) ≥ 0 by decide) ?_))))))
    rw [decide_eq_false (by simp; omega)]
    refine Ev.step (fun k => bobbinlaw16_ClockStays.j1_eq k _ _ _ _ _ _) (Ev.ifn (by decide) ?_)
    exact stays_loop (-1) v v' (fun j hj q => by have := v.pages j hj; omega) (fun j hj _ => ⟨j, by simp; omega, by rw [g_app hj]⟩) l.length 0 (by omega) (by omega)
  · have v' := set_valid v hs hi h1 (idx_new hn)
    have hm : i < m.length := by rw [← hs.1]; exact hi
    have hlen : (m.set i (⟨x2, true, false⟩ : S32)).length = l.length := by simp [hs.1]
    have y := has_yes v' (i := i) (by omega)
    rw [g_set_self _ hm] at y
    have fj : ∀ j, j < l.length → j ≠ i → (g (m.set i ⟨x2, true, false⟩) j).f0 = (g l j).f0 := fun j hj ne => by rw [g_set_ne _ hm (Ne.symm ne), (hs.2 j hj).1]
    have no := has_no v' (p := (g l i).f0) (fun j hj q => by
      rw [hlen] at hj
      by_cases e : j = i
      · subst e; rw [g_set_self _ hm] at q; exact idx_new hn j hj q.symm
      · rw [fj j hj e] at q; exact e (v.inj hj hi q))
    refine Ev.bind ha (Ev.ifp rfl (Ev.bind (may_yes v') (Ev.ifp rfl (Ev.bind y (Ev.ifp rfl (Ev.ifp (v.pages i hi).1 (Ev.bind no (Ev.ifn (by decide) (Ev.bind (has_yes v hi) (Ev.ifp rfl ?_))))))))))
    rw [decide_eq_false (by rw [hlen]; omega)]
    refine Ev.step (fun k => bobbinlaw16_ClockStays.j1_eq k _ _ _ _ _ _) (Ev.ifn (by decide) ?_)
    exact stays_loop _ v v' (fun j hj q => by rw [v.inj hj hi q]; exact hf2) (fun j hj q => ⟨j, by omega, fj j hj (fun e => q (by rw [e]))⟩) l.length 0 (by omega) (by omega)
end Go.Proofs.Ytoklljioloekmaa.Pure
