/- The pure statement of ClockOld: a page that was touched stays, if another one, that is not pinned, was not. No condition. -/
import Derived.Test.YtoklljioloekmaaClockSet
import Derived.Test.YtoklljioloekmaaPrint5
namespace Go.Proofs.Ytoklljioloekmaa.Pure
set_option linter.unusedVariables false
set_option linter.unusedSimpArgs false
open Go.RowKit Go.Proofs.Ytoklljioloekmaa.Print Go.Proofs.YtoklljioloekmaaW.PrintWords Go.Proofs.YtoklljioloekmaaW.PrintLast
theorem old_find {h : Int} {l : List S32} (v : Valid h l) {i : Nat} (hi : i < l.length) (f1 : (g l i).f1 = false) (f2 : (g l i).f2 = false) (d : Nat) : ∀ j : Nat, j ≤ i → i - j = d → Ev (fun k => bobbinlaw16_ClockOld.l1 k (g l i).f0 (j : Int) h l) true := by
  have := v.len
  induction d with
  | zero =>
    intro j hj hd
    obtain rfl : j = i := by omega
    refine Ev.step (fun k => bobbinlaw16_ClockOld.l1_eq k _ _ _ _) (Ev.ifp (by omega) (Ev.ifp (by omega) ?_))
    rw [rdT l j hi]
    refine Ev.ifp rfl (Ev.ifn (by rw [f1]; decide) ?_)
    rw [f2]; exact Ev.now _
  | succ d ih =>
    intro j hj hd
    refine Ev.step (fun k => bobbinlaw16_ClockOld.l1_eq k _ _ _ _) (Ev.ifp (by omega) (Ev.ifp (by omega) ?_))
    rw [rdT l j (by omega), w64 (by omega) (by omega)]
    exact Ev.ifn (fun q => by have := v.inj (show j < l.length by omega) hi q; omega) (ih (j + 1) (by omega) (by omega))
theorem old_end {h : Int} {l : List S32} (v : Valid h l) (x1 x2 : Int) (old : Bool) (ho : old = true → ∃ j, j < l.length ∧ (g l j).f1 = false ∧ (g l j).f2 = false) (i : Int) (hi : ¬ i < (l.length : Int)) :
    Ev (fun k => bobbinlaw16_ClockOld.l0 k x1 x2 old i h l) true := by
  have stop : ∀ x, Ev (fun k => bobbinlaw16_ClockOld.j2 k x true h l) true := fun x => Ev.step (fun k => bobbinlaw16_ClockOld.j2_eq k _ _ _ _) (Ev.ifp rfl (Ev.now _))
  refine Ev.step (fun k => bobbinlaw16_ClockOld.l0_eq k _ _ _ _ _ _) (Ev.ifn hi ?_)
  rcases admit_cases v x1 x2 with ⟨e, he, ha⟩ | ⟨h1, h2, hn, ⟨hlt, ha⟩ | ⟨i, m, hi, hs, hf2, hf1, ha⟩⟩
  · exact Ev.bind ha (Ev.ifn he (stop _))
  · exact Ev.bind ha (Ev.ifp rfl (Ev.ifp (show (-1 : Int) < 0 by decide) (stop _)))
  · refine Ev.bind ha (Ev.ifp rfl (Ev.ifn (by have := v.pages i hi; show ¬ (g l i).f0 < 0; omega) ?_))
    cases old with
    | false => exact stop _
    | true => exact Ev.step (fun k => bobbinlaw16_ClockOld.j2_eq k _ _ _ _) (Ev.ifn (by decide) (old_find v hi (hf1 (ho rfl)) hf2 i 0 (by omega) (by omega)))
theorem old_loop {h : Int} {l : List S32} (v : Valid h l) (x1 x2 : Int) (d : Nat) : ∀ (i : Nat) (old : Bool), (old = true → ∃ j, j < l.length ∧ (g l j).f1 = false ∧ (g l j).f2 = false) → i ≤ l.length → l.length - i = d → Ev (fun k => bobbinlaw16_ClockOld.l0 k x1 x2 old (i : Int) h l) true := by
  have := v.len
  induction d with
  | zero => intro i old ho hi hd; exact old_end v x1 x2 old ho i (by omega)
  | succ d ih =>
    intro i old ho hi hd
    have hl : i < l.length := by omega
    refine Ev.step (fun k => bobbinlaw16_ClockOld.l0_eq k _ _ _ _ _ _) (Ev.ifp (by omega) ?_)
    rw [w64 (by omega) (by omega), rdT l i hl]
    cases old with
    | true => exact Ev.ifp rfl (ih (i + 1) true ho (by omega) (by omega))
    | false =>
      refine Ev.ifn (by decide) (Ev.ifp (by omega) ?_)
      cases c1 : (g l i).f1 with
      | true => exact Ev.ifp rfl (ih (i + 1) false (fun q => by cases q) (by omega) (by omega))
      | false => exact Ev.ifn (by decide) (ih (i + 1) _ (fun q => ⟨i, hl, c1, by simpa using q⟩) (by omega) (by omega))
theorem ClockOld (x0 : Int × List S32) (x1 x2 : Int) (w0 : ((Lit.int .i64 x0.1).wf = true) ∧ (x0.2.length * 16 ≤ reachBytes ∧ x0.2.length ≤ maxLen ∧ ∀ a ∈ x0.2, ((Lit.int .i64 a.f0).wf = true) ∧ (True) ∧ (True))) (w1 : (Lit.int .i64 x1).wf = true) (w2 : (Lit.int .i64 x2).wf = true) :
    ∃ k, bobbinlaw16_ClockOld.f k x0.1 x0.2 x1 x2 = some true := by
  obtain ⟨h, l⟩ := x0
  obtain ⟨_, hb, _, _⟩ := w0
  have hl : l.length ≤ 140737488355328 := by have : l.length * 16 ≤ reachBytes := hb; unfold reachBytes at this; omega
  refine Ev.rounds ?_
  unfold bobbinlaw16_ClockOld.f
  refine Ev.bind awake16' ?_
  have stop : Ev (fun k => bobbinlaw16_ClockOld.j0 k x1 x2 true true h l) true := Ev.step (fun k => bobbinlaw16_ClockOld.j0_eq k _ _ _ _ _ _) (Ev.ifp rfl (Ev.now _))
  unfold bobbinlaw16_light.f
  refine Ev.bnd rfl (Ev.ifp rfl ?_)
  by_cases c : ¬ (l.length : Int) ≤ 40
  · exact Ev.ifn (by simpa using c) stop
  refine Ev.ifp (by simpa using c) ?_
  by_cases nv : ¬ Valid h l
  · exact Ev.bind (may_no nv hl) stop
  have v := Classical.not_not.1 nv
  refine Ev.bind (may_yes v) (Ev.step (fun k => bobbinlaw16_ClockOld.j0_eq k _ _ _ _ _ _) (Ev.ifn (by decide) ?_))
  exact old_loop v x1 x2 l.length 0 false (fun q => by cases q) (by omega) (by omega)
end Go.Proofs.Ytoklljioloekmaa.Pure
