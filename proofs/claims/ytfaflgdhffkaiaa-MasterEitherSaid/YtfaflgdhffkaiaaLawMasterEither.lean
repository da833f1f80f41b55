-- Written by a program of this session (myprint.py over the kit's print.py) out of the translation. Not trusted: Lean checks it.
import Derived.Test.YtfaflgdhffkaiaaRows
import Derived.Test.YtfaflgdhffkaiaaMasterEither
import Derived.Test.YtfaflgdhffkaiaaOpens
import Derived.Test.YtfaflgdhffkaiaaPureMasterEither
import Derived.WalkKit
import Derived.ProofKit
import Derived.OpenShut
import Derived.ShutString
import Derived.ChangeOld
import Derived.Below
import Derived.SizedLaws
namespace Go.Proofs.Ytfaflgdhffkaiaa.masterEither
open Go.ChangeShapes Go.WideShapes Go.ChangeAt Go.RowKit Go.Proofs.YtfaflgdhffkaiaaW.PrintWords Go.Proofs.Ytfaflgdhffkaiaa.Opens
open Go.ChangeMaps (open_string shut_string)
set_option linter.unusedVariables false
theorem own : ownKnob Try.prog.godebug = none := by kernel_rfl
theorem laidOut : laidOutB Try.prog = true := by kernel_rfl
-- the bounds: ((Lit.int .i64 x0.1).wf = true) ∧ ((Lit.int .i64 x0.2.1).wf = true) ∧ ((Lit.int .i64 x0.2.2.1).wf = true) ∧ ((Lit.int .i64 x0.2.2.2).wf = true); ((Lit.int .i64 x1.1).wf = true) ∧ ((Lit.int .i64 x1.2.1).wf = true) ∧ ((Lit.int .i64 x1.2.2.1).wf = true) ∧ ((Lit.int .i64 x1.2.2.2).wf = true); (Lit.int .i64 x2).wf = true; (Lit.int .i64 x3).wf = true
set_option maxRecDepth 100000 in
theorem lifted (os : Os) (started : os.Started) (H : Type) (enc : TypeId × Value → H) :
    ReturnsInHanded {} Try.checked os 7 .any (Rows.masterEitherSpec.pre6 enc Try.prog Try.f7 Rows.masterEitherRow.domain false) (Rows.masterEitherSpec.post enc Try.prog Try.f7 false true false false) := by
  refine returnsInHanded_of_change_sized (C := Try.checked) own started (by kernel_rfl) Try.func7
    (ChangeSpec.witness6 (enc := enc) (C := Try.checked) false ⟨#[], #[(.agg #[(.int .i64 0), (.int .i64 0), (.int .i64 0), (.int .i64 0)]), (.agg #[(.int .i64 0), (.int .i64 0), (.int .i64 0), (.int .i64 0)]), (.int .i64 0), (.int .i64 0)], []⟩ 8 (by kernel_rfl) (by kernel_rfl) (by kernel_rfl) (by kernel_rfl)) ?_
  intro W base args ds gs before hval0 hW hcnd hsz0 _
  have hsz : (DataW.weightsEach Try.prog (Try.f7.params.toList ++ Rows.masterEitherSpec.plain.varTypes Try.prog) (ds ++ gs)).all (· ≤ reachBytes) = true := hsz0
  have hval : ∀ (j : Nat) t v, Try.f7.params[j]? = some t → args[j]? = some v → Value.okWide Try.prog W .any base t v := hval0
  have hW' := hW
  obtain ⟨p, q, hA0, hV, rfl, hfz, hnd⟩ := hW
  have hA : DataW.TrodAll enc Try.prog W 0 (fun _ => true) true Try.f7.params.toList args.toList ds p := hA0
  rw [Try.params7] at hA hval hsz
  obtain ⟨v0, vs0, d0, ds0, p0, q0, hargs, rfl, rfl, h0, r0⟩ := trodAll_cons hA
  obtain ⟨v1, vs1, d1, ds1, p1, q1, rfl, rfl, rfl, h1, r1⟩ := trodAll_cons r0
  obtain ⟨v2, vs2, d2, ds2, p2, q2, rfl, rfl, rfl, h2, r2⟩ := trodAll_cons r1
  obtain ⟨v3, vs3, d3, ds3, p3, q3, rfl, rfl, rfl, h3, r3⟩ := trodAll_cons r2
  obtain ⟨rfl, rfl, rfl⟩ := trodAll_nil r3
  obtain rfl : args = #[v0, v1, v2, v3] := by cases args; simp_all
  obtain ⟨rfl, rfl⟩ := trodVars_none hV
  have k0 := h0
  have lt0 : ∀ x ∈ p0, x.block < W.heap.size := by obtain ⟨m, hm⟩ := k0; exact DataW.trod_lt m _ _ _ hm
  obtain ⟨x0, K0, w0⟩ := Opens.Op.arg (Opens.Op.struct Try.underlying30 (by kernel_rfl) (Opens.Fs.cons rfl (by kernel_rfl) rfl (Opens.Op.int Try.underlying3) (Opens.Fs.cons rfl (by kernel_rfl) rfl (Opens.Op.int Try.underlying3) (Opens.Fs.cons rfl (by kernel_rfl) rfl (Opens.Op.int Try.underlying3) (Opens.Fs.one rfl (by kernel_rfl) (Opens.Op.int Try.underlying3)))))) h0 hsz (j := 0) (t := 30) rfl rfl
  obtain ⟨_, _, e0, rfl, ⟨_, _, rfl, rfl, ⟨_, _, rfl, rfl, rfl⟩⟩⟩ := K0
  obtain rfl := agg_of Try.underlying30 (hval 0 30 v0 rfl rfl) e0
  have k1 := h1
  have lt1 : ∀ x ∈ p1, x.block < W.heap.size := by obtain ⟨m, hm⟩ := k1; exact DataW.trod_lt m _ _ _ hm
  obtain ⟨x1, K1, w1⟩ := Opens.Op.arg (Opens.Op.struct Try.underlying30 (by kernel_rfl) (Opens.Fs.cons rfl (by kernel_rfl) rfl (Opens.Op.int Try.underlying3) (Opens.Fs.cons rfl (by kernel_rfl) rfl (Opens.Op.int Try.underlying3) (Opens.Fs.cons rfl (by kernel_rfl) rfl (Opens.Op.int Try.underlying3) (Opens.Fs.one rfl (by kernel_rfl) (Opens.Op.int Try.underlying3)))))) h1 hsz (j := 1) (t := 30) rfl rfl
  obtain ⟨_, _, e1, rfl, ⟨_, _, rfl, rfl, ⟨_, _, rfl, rfl, rfl⟩⟩⟩ := K1
  obtain rfl := agg_of Try.underlying30 (hval 1 30 v1 rfl rfl) e1
  obtain ⟨x2, rfl, rfl, rfl, w2⟩ := open_int Try.underlying3 (hval 2 3 v2 rfl rfl) h2
  obtain ⟨x3, rfl, rfl, rfl, w3⟩ := open_int Try.underlying3 (hval 3 3 v3 rfl rfl) h3
  clear hA0 hval0 hsz0 hsz
  have hk := Pure.MasterEither x0 x1 x2 x3 w0 w1 w2 w3
  refine (Print.bobbinlaw09_MasterEither.calls x0.1 x0.2.1 x0.2.2.1 x0.2.2.2 x1.1 x1.2.1 x1.2.2.1 x1.2.2.2 x2 x3 true W hk).mono fun e W' ⟨he, bel⟩ => ?_
  subst he
  exact ⟨_, rfl, _, _, _, [], _, [], hW', trodAll_mk1 (shut_bool Try.underlying4 _), (trodAll_cons_mk (Below.trod laidOut (by kernel_rfl) (of_decide_eq_true (by kernel_rfl)) k0 bel lt0) (trodAll_cons_mk (Below.trod laidOut (by kernel_rfl) (of_decide_eq_true (by kernel_rfl)) k1 bel lt1) (trodAll_cons_mk (shut_int Try.underlying3 w2) (trodAll_cons_mk (shut_int Try.underlying3 w3) trodAll_mk0)))), rfl, bel.frame _, fun h => by cases h⟩
theorem over : Rows.masterEitherRow.holds Try.pinned (OpenSpec.ofChange Rows.masterEitherSpec) :=
  OpenClaim.holds_of_wide 7 Try.f7 rfl rfl rfl rfl rfl rfl rfl ⟨rfl, rfl, rfl, rfl, rfl⟩ rfl rfl rfl rfl rfl (by kernel_rfl) Try.func7 (by kernel_rfl)
    (of_decide_eq_true (by kernel_rfl)) (by unfold Func.isWrapper; first | (rw [if_pos (by decide +kernel)]; kernel_rfl) | (rw [if_neg (by decide +kernel)]; exact ⟨rfl, rfl⟩))
    (fun os started H enc _ => lifted os started H enc)
theorem proved : Rows.MasterEitherSaid := over
#print axioms proved
end Go.Proofs.Ytfaflgdhffkaiaa.masterEither
namespace Go.Proofs.Ytfaflgdhffkaiaa
/-- The row, under a short name, for the claim. -/
theorem masterEither_holds : Rows.MasterEitherSaid := masterEither.proved
end Go.Proofs.Ytfaflgdhffkaiaa
