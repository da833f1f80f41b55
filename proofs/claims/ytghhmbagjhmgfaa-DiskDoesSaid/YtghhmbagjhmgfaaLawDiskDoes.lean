-- Written by a program of this session (myprint.py over the kit's print.py) out of the translation. Not trusted: Lean checks it.
import Derived.Test.YtghhmbagjhmgfaaRows
import Derived.Test.YtghhmbagjhmgfaaDiskDoes
import Derived.Test.YtghhmbagjhmgfaaOpens
import Derived.Test.YtghhmbagjhmgfaaPureDiskDoes
import Derived.WalkKit
import Derived.ProofKit
import Derived.OpenShut
import Derived.ShutString
import Derived.ChangeOld
import Derived.Below
import Derived.SizedLaws
namespace Go.Proofs.Ytghhmbagjhmgfaa.diskDoes
open Go.ChangeShapes Go.WideShapes Go.ChangeAt Go.RowKit Go.Proofs.YtghhmbagjhmgfaaW.PrintWords Go.Proofs.Ytghhmbagjhmgfaa.Opens
open Go.ChangeMaps (open_string shut_string)
set_option linter.unusedVariables false
theorem own : ownKnob Try.prog.godebug = none := by kernel_rfl
theorem laidOut : laidOutB Try.prog = true := by kernel_rfl
-- the bounds: (Lit.int .i64 x0).wf = true; x1.length * 72 ≤ reachBytes ∧ x1.length ≤ maxLen ∧ ∀ a ∈ x1, ((Lit.int .i64 a.f0).wf = true) ∧ ((Lit.int .i64 a.f1).wf = true) ∧ ((Lit.int .i64 a.f2).wf = true) ∧ ((Lit.int .u8 a.f3).wf = true) ∧ (True) ∧ ((a.f5.f0.length * 1 ≤ reachBytes ∧ a.f5.f0.length ≤ maxLen ∧ ∀ b ∈ a.f5.f0, True) ∧ ((Lit.int .i64 a.f5.f1).wf = true) ∧ ((Lit.int .i64 a.f5.f2).wf = true))
set_option maxRecDepth 100000 in
theorem lifted (os : Os) (started : os.Started) (H : Type) (enc : TypeId × Value → H) :
    ReturnsInHanded {} Try.checked os 6 .any (Rows.diskDoesSpec.pre6 enc Try.prog Try.f6 Rows.diskDoesRow.domain false) (Rows.diskDoesSpec.post enc Try.prog Try.f6 false true false false) := by
  refine returnsInHanded_of_change_sized (C := Try.checked) own started (by kernel_rfl) Try.func6
    (ChangeSpec.witness6 (enc := enc) (C := Try.checked) false ⟨#[], #[(.int .i64 0), (.slice none 0 0)], []⟩ 8 (by kernel_rfl) (by kernel_rfl) (by kernel_rfl) (by kernel_rfl)) ?_
  intro W base args ds gs before hval0 hW hcnd hsz0 _
  have hsz : (DataW.weightsEach Try.prog (Try.f6.params.toList ++ Rows.diskDoesSpec.plain.varTypes Try.prog) (ds ++ gs)).all (· ≤ reachBytes) = true := hsz0
  have hval : ∀ (j : Nat) t v, Try.f6.params[j]? = some t → args[j]? = some v → Value.okWide Try.prog W .any base t v := hval0
  have hW' := hW
  obtain ⟨p, q, hA0, hV, rfl, hfz, hnd⟩ := hW
  have hA : DataW.TrodAll enc Try.prog W 0 (fun _ => true) true Try.f6.params.toList args.toList ds p := hA0
  rw [Try.params6] at hA hval hsz
  obtain ⟨v0, vs0, d0, ds0, p0, q0, hargs, rfl, rfl, h0, r0⟩ := trodAll_cons hA
  obtain ⟨v1, vs1, d1, ds1, p1, q1, rfl, rfl, rfl, h1, r1⟩ := trodAll_cons r0
  obtain ⟨rfl, rfl, rfl⟩ := trodAll_nil r1
  obtain rfl : args = #[v0, v1] := by cases args; simp_all
  obtain ⟨rfl, rfl⟩ := trodVars_none hV
  obtain ⟨x0, rfl, rfl, rfl, w0⟩ := open_int Try.underlying3 (hval 0 3 v0 rfl rfl) h0
  have k1 := h1
  have lt1 : ∀ x ∈ p1, x.block < W.heap.size := by obtain ⟨m, hm⟩ := k1; exact DataW.trod_lt m _ _ _ hm
  obtain ⟨x1, K1, w1⟩ := Opens.Op.arg (Opens.Op.slice (B := 72) 35 Try.underlying22 (by kernel_rfl) (by kernel_rfl) (show Opens.Op Try.prog 35 Print.k35 (fun x => ((Lit.int .i64 x.f0).wf = true) ∧ ((Lit.int .i64 x.f1).wf = true) ∧ ((Lit.int .i64 x.f2).wf = true) ∧ ((Lit.int .u8 x.f3).wf = true) ∧ (True) ∧ ((x.f5.f0.length * 1 ≤ reachBytes ∧ x.f5.f0.length ≤ maxLen ∧ ∀ a ∈ x.f5.f0, True) ∧ ((Lit.int .i64 x.f5.f1).wf = true) ∧ ((Lit.int .i64 x.f5.f2).wf = true))) from Opens.Op.iso (fun x : Print.S35 => (x.f0, (x.f1, (x.f2, (x.f3, (x.f4, x.f5)))))) (fun p => ⟨p.1, p.2.1, p.2.2.1, p.2.2.2.1, p.2.2.2.2.1, p.2.2.2.2.2⟩) (fun _ => rfl) (Opens.Op.struct Try.underlying35 (by kernel_rfl) (Opens.Fs.cons rfl (by kernel_rfl) rfl (Opens.Op.int Try.underlying3) (Opens.Fs.cons rfl (by kernel_rfl) rfl (Opens.Op.int Try.underlying3) (Opens.Fs.cons rfl (by kernel_rfl) rfl (Opens.Op.int Try.underlying3) (Opens.Fs.cons rfl (by kernel_rfl) rfl (Opens.Op.int Try.underlying5) (Opens.Fs.cons rfl (by kernel_rfl) rfl (Opens.Op.bool Try.underlying4) (Opens.Fs.one rfl (by kernel_rfl) (show Opens.Op Try.prog 29 Print.k29 (fun x => (x.f0.length * 1 ≤ reachBytes ∧ x.f0.length ≤ maxLen ∧ ∀ a ∈ x.f0, True) ∧ ((Lit.int .i64 x.f1).wf = true) ∧ ((Lit.int .i64 x.f2).wf = true)) from Opens.Op.iso (fun x : Print.S29 => (x.f0, (x.f1, x.f2))) (fun p => ⟨p.1, p.2.1, p.2.2⟩) (fun _ => rfl) (Opens.Op.struct Try.underlying29 (by kernel_rfl) (Opens.Fs.cons rfl (by kernel_rfl) rfl (Opens.Op.slice (B := 1) 4 Try.underlying23 (by kernel_rfl) (by kernel_rfl) (Opens.Op.bool Try.underlying4)) (Opens.Fs.cons rfl (by kernel_rfl) rfl (Opens.Op.int Try.underlying3) (Opens.Fs.one rfl (by kernel_rfl) (Opens.Op.int Try.underlying3))))))))))))))) h1 hsz (j := 1) (t := 22) rfl rfl
  obtain ⟨A1, c1, e1, hl1, hC1⟩ := K1
  obtain rfl := one_of Try.underlying22 (hval 1 22 v1 rfl rfl) e1
  clear hA0 hval0 hsz0 hsz
  have hk := Pure.DiskDoes x0 x1 w0 w1
  refine (Print.bobbinlaw03_DiskDoes.calls x0 A1 c1 x1 true W hC1 hl1 hk).mono fun e W' ⟨he, bel⟩ => ?_
  subst he
  exact ⟨_, rfl, _, _, _, [], _, [], hW', trodAll_mk1 (shut_bool Try.underlying4 _), (trodAll_cons_mk (shut_int Try.underlying3 w0) (trodAll_cons_mk (Below.trod laidOut (by kernel_rfl) (of_decide_eq_true (by kernel_rfl)) k1 bel lt1) trodAll_mk0)), rfl, bel.frame _, fun h => by cases h⟩
theorem over : Rows.diskDoesRow.holds Try.pinned (OpenSpec.ofChange Rows.diskDoesSpec) :=
  OpenClaim.holds_of_wide 6 Try.f6 rfl rfl rfl rfl rfl rfl rfl ⟨rfl, rfl, rfl, rfl, rfl⟩ rfl rfl rfl rfl rfl (by kernel_rfl) Try.func6 (by kernel_rfl)
    (of_decide_eq_true (by kernel_rfl)) (by unfold Func.isWrapper; first | (rw [if_pos (by decide +kernel)]; kernel_rfl) | (rw [if_neg (by decide +kernel)]; exact ⟨rfl, rfl⟩))
    (fun os started H enc _ => lifted os started H enc)
theorem proved : Rows.DiskDoesSaid := over
#print axioms proved
end Go.Proofs.Ytghhmbagjhmgfaa.diskDoes
namespace Go.Proofs.Ytghhmbagjhmgfaa
/-- The row, under a short name, for the claim. -/
theorem diskDoes_holds : Rows.DiskDoesSaid := diskDoes.proved
end Go.Proofs.Ytghhmbagjhmgfaa
