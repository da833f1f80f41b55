-- Written by a program of this session (myprint.py over the kit's print.py) out of the translation. Not trusted: Lean checks it.
import Derived.Test.YtfaflgdhffkaiaaRows
import Derived.Test.YtfaflgdhffkaiaaMasterWrites
import Derived.Test.YtfaflgdhffkaiaaOpens
import Derived.Test.YtfaflgdhffkaiaaPureMasterWrites
import Derived.WalkKit
import Derived.ProofKit
import Derived.OpenShut
import Derived.ShutString
import Derived.ChangeOld
import Derived.Below
import Derived.SizedLaws
namespace Go.Proofs.Ytfaflgdhffkaiaa.masterWrites
open Go.ChangeShapes Go.WideShapes Go.ChangeAt Go.RowKit Go.Proofs.YtfaflgdhffkaiaaW.PrintWords Go.Proofs.Ytfaflgdhffkaiaa.Opens
open Go.ChangeMaps (open_string shut_string)
set_option linter.unusedVariables false
theorem own : ownKnob Try.prog.godebug = none := by kernel_rfl
theorem laidOut : laidOutB Try.prog = true := by kernel_rfl
-- the bounds: (Lit.int .i64 x0).wf = true; ((Lit.int .i64 x1.1).wf = true) ∧ ((Lit.int .i64 x1.2.1).wf = true) ∧ ((Lit.int .i64 x1.2.2.1).wf = true) ∧ ((Lit.int .i64 x1.2.2.2).wf = true)
set_option maxRecDepth 100000 in
theorem lifted (os : Os) (started : os.Started) (H : Type) (enc : TypeId × Value → H) :
    ReturnsInHanded {} Try.checked os 8 .any (Rows.masterWritesSpec.pre6 enc Try.prog Try.f8 Rows.masterWritesRow.domain false) (Rows.masterWritesSpec.post enc Try.prog Try.f8 false true false false) := by
  refine returnsInHanded_of_change_sized (C := Try.checked) own started (by kernel_rfl) Try.func8
    (ChangeSpec.witness6 (enc := enc) (C := Try.checked) false ⟨#[], #[(.int .i64 0), (.agg #[(.int .i64 0), (.int .i64 0), (.int .i64 0), (.int .i64 0)])], []⟩ 8 (by kernel_rfl) (by kernel_rfl) (by kernel_rfl) (by kernel_rfl)) ?_
  intro W base args ds gs before hval0 hW hcnd hsz0 _
  have hsz : (DataW.weightsEach Try.prog (Try.f8.params.toList ++ Rows.masterWritesSpec.plain.varTypes Try.prog) (ds ++ gs)).all (· ≤ reachBytes) = true := hsz0
  have hval : ∀ (j : Nat) t v, Try.f8.params[j]? = some t → args[j]? = some v → Value.okWide Try.prog W .any base t v := hval0
  have hW' := hW
  obtain ⟨p, q, hA0, hV, rfl, hfz, hnd⟩ := hW
  have hA : DataW.TrodAll enc Try.prog W 0 (fun _ => true) true Try.f8.params.toList args.toList ds p := hA0
  rw [Try.params8] at hA hval hsz
  obtain ⟨v0, vs0, d0, ds0, p0, q0, hargs, rfl, rfl, h0, r0⟩ := trodAll_cons hA
  obtain ⟨v1, vs1, d1, ds1, p1, q1, rfl, rfl, rfl, h1, r1⟩ := trodAll_cons r0
  obtain ⟨rfl, rfl, rfl⟩ := trodAll_nil r1
  obtain rfl : args = #[v0, v1] := by cases args; simp_all
  obtain ⟨rfl, rfl⟩ := trodVars_none hV
  obtain ⟨x0, rfl, rfl, rfl, w0⟩ := open_int Try.underlying3 (hval 0 3 v0 rfl rfl) h0
  have k1 := h1
  have lt1 : ∀ x ∈ p1, x.block < W.heap.size := by obtain ⟨m, hm⟩ := k1; exact DataW.trod_lt m _ _ _ hm
  obtain ⟨x1, K1, w1⟩ := Opens.Op.arg (Opens.Op.struct Try.underlying30 (by kernel_rfl) (Opens.Fs.cons rfl (by kernel_rfl) rfl (Opens.Op.int Try.underlying3) (Opens.Fs.cons rfl (by kernel_rfl) rfl (Opens.Op.int Try.underlying3) (Opens.Fs.cons rfl (by kernel_rfl) rfl (Opens.Op.int Try.underlying3) (Opens.Fs.one rfl (by kernel_rfl) (Opens.Op.int Try.underlying3)))))) h1 hsz (j := 1) (t := 30) rfl rfl
  obtain ⟨_, _, e1, rfl, ⟨_, _, rfl, rfl, ⟨_, _, rfl, rfl, rfl⟩⟩⟩ := K1
  obtain rfl := agg_of Try.underlying30 (hval 1 30 v1 rfl rfl) e1
  clear hA0 hval0 hsz0 hsz
  have hk := Pure.MasterWrites x0 x1 w0 w1
  refine (Print.bobbinlaw09_MasterWrites.calls x0 x1.1 x1.2.1 x1.2.2.1 x1.2.2.2 true W hk).mono fun e W' ⟨he, bel⟩ => ?_
  subst he
  exact ⟨_, rfl, _, _, _, [], _, [], hW', trodAll_mk1 (shut_bool Try.underlying4 _), (trodAll_cons_mk (shut_int Try.underlying3 w0) (trodAll_cons_mk (Below.trod laidOut (by kernel_rfl) (of_decide_eq_true (by kernel_rfl)) k1 bel lt1) trodAll_mk0)), rfl, bel.frame _, fun h => by cases h⟩
theorem over : Rows.masterWritesRow.holds Try.pinned (OpenSpec.ofChange Rows.masterWritesSpec) :=
  OpenClaim.holds_of_wide 8 Try.f8 rfl rfl rfl rfl rfl rfl rfl ⟨rfl, rfl, rfl, rfl, rfl⟩ rfl rfl rfl rfl rfl (by kernel_rfl) Try.func8 (by kernel_rfl)
    (of_decide_eq_true (by kernel_rfl)) (by unfold Func.isWrapper; first | (rw [if_pos (by decide +kernel)]; kernel_rfl) | (rw [if_neg (by decide +kernel)]; exact ⟨rfl, rfl⟩))
    (fun os started H enc _ => lifted os started H enc)
theorem proved : Rows.MasterWritesSaid := over
#print axioms proved
end Go.Proofs.Ytfaflgdhffkaiaa.masterWrites
namespace Go.Proofs.Ytfaflgdhffkaiaa
/-- The row, under a short name, for the claim. -/
theorem masterWrites_holds : Rows.MasterWritesSaid := masterWrites.proved
end Go.Proofs.Ytfaflgdhffkaiaa
