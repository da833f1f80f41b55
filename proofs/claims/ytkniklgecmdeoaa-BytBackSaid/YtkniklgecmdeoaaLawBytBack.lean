-- Written by a program of this session (myprint.py over the kit's print.py) out of the translation. Not trusted: Lean checks it.
import Derived.Test.YtkniklgecmdeoaaRows
import Derived.Test.YtkniklgecmdeoaaBytBackW
import Derived.Test.YtkniklgecmdeoaaOpens
import Derived.Test.YtkniklgecmdeoaaPureBytBack
import Derived.WalkKit
import Derived.ProofKit
import Derived.OpenShut
import Derived.ShutString
import Derived.ChangeOld
import Derived.Below
import Derived.SizedLaws
namespace Go.Proofs.Ytkniklgecmdeoaa.bytBack
open Go.ChangeShapes Go.WideShapes Go.ChangeAt Go.RowKit Go.Proofs.YtkniklgecmdeoaaW.PrintWords Go.Proofs.Ytkniklgecmdeoaa.Opens
open Go.ChangeMaps (open_string shut_string)
set_option linter.unusedVariables false
theorem own : ownKnob Try.prog.godebug = none := by kernel_rfl
theorem laidOut : laidOutB Try.prog = true := by kernel_rfl
-- the bounds: x0.length * 48 ≤ reachBytes ∧ x0.length ≤ maxLen ∧ ∀ a ∈ x0, (True) ∧ ((Lit.int .i64 a.f1).wf = true) ∧ ((Lit.int .i64 a.f2).wf = true) ∧ (a.f3.length * 1 ≤ reachBytes ∧ a.f3.length ≤ maxLen ∧ ∀ b ∈ a.f3, (Lit.int .u8 b).wf = true)
set_option maxRecDepth 100000 in
theorem lifted (os : Os) (started : os.Started) (H : Type) (enc : TypeId × Value → H) :
    ReturnsInHanded {} Try.checked os 7 .any (Rows.bytBackSpec.pre6 enc Try.prog Try.f7 Rows.bytBackRow.domain false) (Rows.bytBackSpec.post enc Try.prog Try.f7 false true false false) := by
  refine returnsInHanded_of_change_sized (C := Try.checked) own started (by kernel_rfl) Try.func7
    (ChangeSpec.witness6 (enc := enc) (C := Try.checked) false ⟨#[], #[(.slice none 0 0)], []⟩ 8 (by kernel_rfl) (by kernel_rfl) (by kernel_rfl) (by kernel_rfl)) ?_
  intro W base args ds gs before hval0 hW hcnd hsz0 _
  have hsz : (DataW.weightsEach Try.prog (Try.f7.params.toList ++ Rows.bytBackSpec.plain.varTypes Try.prog) (ds ++ gs)).all (· ≤ reachBytes) = true := hsz0
  have hval : ∀ (j : Nat) t v, Try.f7.params[j]? = some t → args[j]? = some v → Value.okWide Try.prog W .any base t v := hval0
  have hW' := hW
  obtain ⟨p, q, hA0, hV, rfl, hfz, hnd⟩ := hW
  have hA : DataW.TrodAll enc Try.prog W 0 (fun _ => true) true Try.f7.params.toList args.toList ds p := hA0
  rw [Try.params7] at hA hval hsz
  obtain ⟨v0, vs0, d0, ds0, p0, q0, hargs, rfl, rfl, h0, r0⟩ := trodAll_cons hA
  obtain ⟨rfl, rfl, rfl⟩ := trodAll_nil r0
  obtain rfl : args = #[v0] := by cases args; simp_all
  obtain ⟨rfl, rfl⟩ := trodVars_none hV
  have k0 := h0
  have lt0 : ∀ x ∈ p0, x.block < W.heap.size := by obtain ⟨m, hm⟩ := k0; exact DataW.trod_lt m _ _ _ hm
  obtain ⟨x0, K0, w0⟩ := Opens.Op.arg (Opens.Op.slice (B := 48) 30 Try.underlying22 (by kernel_rfl) (by kernel_rfl) (show Opens.Op Try.prog 30 Print.k30 (fun x => (True) ∧ ((Lit.int .i64 x.f1).wf = true) ∧ ((Lit.int .i64 x.f2).wf = true) ∧ (x.f3.length * 1 ≤ reachBytes ∧ x.f3.length ≤ maxLen ∧ ∀ a ∈ x.f3, (Lit.int .u8 a).wf = true)) from Opens.Op.iso (fun x : Print.S30 => (x.f0, (x.f1, (x.f2, x.f3)))) (fun p => ⟨p.1, p.2.1, p.2.2.1, p.2.2.2⟩) (fun _ => rfl) (Opens.Op.struct Try.underlying30 (by kernel_rfl) (Opens.Fs.cons rfl (by kernel_rfl) rfl (Opens.Op.bool Try.underlying4) (Opens.Fs.cons rfl (by kernel_rfl) rfl (Opens.Op.int Try.underlying3) (Opens.Fs.cons rfl (by kernel_rfl) rfl (Opens.Op.int Try.underlying3) (Opens.Fs.one rfl (by kernel_rfl) (Opens.Op.slice (B := 1) 5 Try.underlying26 (by kernel_rfl) (by kernel_rfl) (Opens.Op.int Try.underlying5))))))))) h0 hsz (j := 0) (t := 22) rfl rfl
  obtain ⟨A0, c0, e0, hl0, hC0⟩ := K0
  obtain rfl := one_of Try.underlying22 (hval 0 22 v0 rfl rfl) e0
  clear hA0 hval0 hsz0 hsz
  have hk := Pure.BytBack x0 w0
  refine (Print.bobbinlaw01_BytBack.calls A0 c0 x0 true W hC0 hl0 hk).mono fun e W' ⟨he, bel⟩ => ?_
  subst he
  exact ⟨_, rfl, _, _, _, [], _, [], hW', trodAll_mk1 (shut_bool Try.underlying4 _), (trodAll_cons_mk (Below.trod laidOut (by kernel_rfl) (of_decide_eq_true (by kernel_rfl)) k0 bel lt0) trodAll_mk0), rfl, bel.frame _, fun h => by cases h⟩
theorem over : Rows.bytBackRow.holds Try.pinned (OpenSpec.ofChange Rows.bytBackSpec) :=
  OpenClaim.holds_of_wide 7 Try.f7 rfl rfl rfl rfl rfl rfl rfl ⟨rfl, rfl, rfl, rfl, rfl⟩ rfl rfl rfl rfl rfl (by kernel_rfl) Try.func7 (by kernel_rfl)
    (of_decide_eq_true (by kernel_rfl)) (by unfold Func.isWrapper; first | (rw [if_pos (by decide +kernel)]; kernel_rfl) | (rw [if_neg (by decide +kernel)]; exact ⟨rfl, rfl⟩))
    (fun os started H enc _ => lifted os started H enc)
theorem proved : Rows.BytBackSaid := over
#print axioms proved
end Go.Proofs.Ytkniklgecmdeoaa.bytBack
namespace Go.Proofs.Ytkniklgecmdeoaa
/-- The row, under a short name, for the claim. -/
theorem bytBack_holds : Rows.BytBackSaid := bytBack.proved
end Go.Proofs.Ytkniklgecmdeoaa
