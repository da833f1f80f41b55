-- Written by a program of this session (myprint.py over the kit's print.py) out of the translation. Not trusted: Lean checks it.
import Derived.Test.YtghhmbagjhmgfaaRows
import Derived.Test.YtghhmbagjhmgfaaDiskKeepsO
import Derived.Test.YtghhmbagjhmgfaaOpens
import Derived.Test.YtghhmbagjhmgfaaPureDiskKeeps
import Derived.WalkKit
import Derived.ProofKit
import Derived.OpenShut
import Derived.ShutString
import Derived.ChangeOld
import Derived.Below
import Derived.SizedLaws
namespace Go.Proofs.Ytghhmbagjhmgfaa.diskKeeps
open Go.ChangeShapes Go.WideShapes Go.ChangeAt Go.RowKit Go.Proofs.YtghhmbagjhmgfaaW.PrintWords Go.Proofs.Ytghhmbagjhmgfaa.Opens
open Go.ChangeMaps (open_string shut_string)
set_option linter.unusedVariables false
theorem own : ownKnob Try.prog.godebug = none := by kernel_rfl
theorem laidOut : laidOutB Try.prog = true := by kernel_rfl
-- the bounds: (Lit.int .i64 x0).wf = true; (Lit.int .u8 x1).wf = true; x2.length * 72 ≤ reachBytes ∧ x2.length ≤ maxLen ∧ ∀ a ∈ x2, ((Lit.int .i64 a.f0).wf = true) ∧ ((Lit.int .i64 a.f1).wf = true) ∧ ((Lit.int .i64 a.f2).wf = true) ∧ ((Lit.int .u8 a.f3).wf = true) ∧ (True) ∧ ((a.f5.f0.length * 1 ≤ reachBytes ∧ a.f5.f0.length ≤ maxLen ∧ ∀ b ∈ a.f5.f0, True) ∧ ((Lit.int .i64 a.f5.f1).wf = true) ∧ ((Lit.int .i64 a.f5.f2).wf = true)); (x3.1.length * 1 ≤ reachBytes ∧ x3.1.length ≤ maxLen ∧ ∀ a ∈ x3.1, True) ∧ ((Lit.int .i64 x3.2.1).wf = true) ∧ ((Lit.int .i64 x3.2.2).wf = true)
set_option maxRecDepth 100000 in
theorem lifted (os : Os) (started : os.Started) (H : Type) (enc : TypeId × Value → H) :
    ReturnsInHanded {} Try.checked os 7 .any (Rows.diskKeepsSpec.pre6 enc Try.prog Try.f7 Rows.diskKeepsRow.domain false) (Rows.diskKeepsSpec.post enc Try.prog Try.f7 false true false false) := by
  refine returnsInHanded_of_change_sized (C := Try.checked) own started (by kernel_rfl) Try.func7
    (ChangeSpec.witness6 (enc := enc) (C := Try.checked) false ⟨#[], #[(.int .i64 0), (.int .u8 0), (.slice none 0 0), (.agg #[(.slice none 0 0), (.int .i64 0), (.int .i64 0)])], []⟩ 8 (by kernel_rfl) (by kernel_rfl) (by kernel_rfl) (by kernel_rfl)) ?_
  intro W base args ds gs before hval0 hW hcnd hsz0 _
  have hsz : (DataW.weightsEach Try.prog (Try.f7.params.toList ++ Rows.diskKeepsSpec.plain.varTypes Try.prog) (ds ++ gs)).all (· ≤ reachBytes) = true := hsz0
  have hval : ∀ (j : Nat) t v, Try.f7.params[j]? = some t → args[j]? = some v → Value.okWide Try.prog W .any base t v := hval0
  have hW' := hW
  obtain ⟨p, q, hA0, hV, rfl, hfz, hnd⟩ := hW
  have hA : DataW.TrodAll enc Try.prog W 0 (fun _ => true) true Try.f7.params.toList args.toList ds p := hA0
  rw [Try.params7] at hA hval hsz
  obtain ⟨v0, vs0, d0, ds0, p0, q0, hargs, rfl, rfl, h0, r0⟩ := trodAll_cons hA
  obtain ⟨v1, vs1, d1, ds1, p1, q1, rfl, rfl, rfl, h1, r1⟩ := trodAll_cons r0
  obtain ⟨v2, vs2, d2, ds2, p2, q2, rfl, rfl, rfl, h2, r2⟩ := trodAll_cons r1
  obtain ⟨v3, vs3, d3, ds3, p3, q3, rfl, rfl, rfl, h3, r3⟩ := trodAll_cons r2
  obtain ⟨rfl, rfl, rfl⟩ := trodAll_nil r3
  obtain rfl : args = #[v0, v1, v2, v3] := by cases args; simp_all
  obtain ⟨rfl, rfl⟩ := trodVars_none hV
  obtain ⟨x0, rfl, rfl, rfl, w0⟩ := open_int Try.underlying3 (hval 0 3 v0 rfl rfl) h0
  obtain ⟨x1, rfl, rfl, rfl, w1⟩ := open_int Try.underlying5 (hval 1 5 v1 rfl rfl) h1
  have k2 := h2
  have lt2 : ∀ x ∈ p2, x.block < W.heap.size := by obtain ⟨m, hm⟩ := k2; exact DataW.trod_lt m _ _ _ hm
  obtain ⟨x2, K2, w2⟩ := Opens.Op.arg (Opens.Op.slice (B := 72) 35 Try.underlying22 (by kernel_rfl) (by kernel_rfl) (show Opens.Op Try.prog 35 Print.k35 (fun x => ((Lit.int .i64 x.f0).wf = true) ∧ ((Lit.int .i64 x.f1).wf = true) ∧ ((Lit.int .i64 x.f2).wf = true) ∧ ((Lit.int .u8 x.f3).wf = true) ∧ (True) ∧ ((x.f5.f0.length * 1 ≤ reachBytes ∧ x.f5.f0.length ≤ maxLen ∧ ∀ a ∈ x.f5.f0, True) ∧ ((Lit.int .i64 x.f5.f1).wf = true) ∧ ((Lit.int .i64 x.f5.f2).wf = true))) from Opens.Op.iso (fun x : Print.S35 => (x.f0, (x.f1, (x.f2, (x.f3, (x.f4, x.f5)))))) (fun p => ⟨p.1, p.2.1, p.2.2.1, p.2.2.2.1, p.2.2.2.2.1, p.2.2.2.2.2⟩) (fun _ => rfl) (Opens.Op.struct Try.underlying35 (by kernel_rfl) (Opens.Fs.cons rfl (by kernel_rfl) rfl (Opens.Op.int Try.underlying3) (Opens.Fs.cons rfl (by kernel_rfl) rfl (Opens.Op.int Try.underlying3) (Opens.Fs.cons rfl (by kernel_rfl) rfl (Opens.Op.int Try.underlying3) (Opens.Fs.cons rfl (by kernel_rfl) rfl (Opens.Op.int Try.underlying5) (Opens.Fs.cons rfl (by kernel_rfl) rfl (Opens.Op.bool Try.underlying4) (Opens.Fs.one rfl (by kernel_rfl) (show Opens.Op Try.prog 29 Print.k29 (fun x => (x.f0.length * 1 ≤ reachBytes ∧ x.f0.length ≤ maxLen ∧ ∀ a ∈ x.f0, True) ∧ ((Lit.int .i64 x.f1).wf = true) ∧ ((Lit.int .i64 x.f2).wf = true)) from Opens.Op.iso (fun x : Print.S29 => (x.f0, (x.f1, x.f2))) (fun p => ⟨p.1, p.2.1, p.2.2⟩) (fun _ => rfl) (Opens.Op.struct Try.underlying29 (by kernel_rfl) (Opens.Fs.cons rfl (by kernel_rfl) rfl (Opens.Op.slice (B := 1) 4 Try.underlying23 (by kernel_rfl) (by kernel_rfl) (Opens.Op.bool Try.underlying4)) (Opens.Fs.cons rfl (by kernel_rfl) rfl (Opens.Op.int Try.underlying3) (Opens.Fs.one rfl (by kernel_rfl) (Opens.Op.int Try.underlying3))))))))))))))) h2 hsz (j := 2) (t := 22) rfl rfl
  obtain ⟨A2, c2, e2, hl2, hC2⟩ := K2
  obtain rfl := one_of Try.underlying22 (hval 2 22 v2 rfl rfl) e2
  have k3 := h3
  have lt3 : ∀ x ∈ p3, x.block < W.heap.size := by obtain ⟨m, hm⟩ := k3; exact DataW.trod_lt m _ _ _ hm
  obtain ⟨x3, K3, w3⟩ := Opens.Op.arg (Opens.Op.struct Try.underlying29 (by kernel_rfl) (Opens.Fs.cons rfl (by kernel_rfl) rfl (Opens.Op.slice (B := 1) 4 Try.underlying23 (by kernel_rfl) (by kernel_rfl) (Opens.Op.bool Try.underlying4)) (Opens.Fs.cons rfl (by kernel_rfl) rfl (Opens.Op.int Try.underlying3) (Opens.Fs.one rfl (by kernel_rfl) (Opens.Op.int Try.underlying3))))) h3 hsz (j := 3) (t := 29) rfl rfl
  obtain ⟨_, _, e3, ⟨A3_0, c3_0, rfl, hl3_0, hC3_0⟩, ⟨_, _, rfl, rfl, rfl⟩⟩ := K3
  obtain rfl := agg_of Try.underlying29 (hval 3 29 v3 rfl rfl) e3
  clear hA0 hval0 hsz0 hsz
  have hk := Pure.DiskKeeps x0 x1 x2 x3 w0 w1 w2 w3
  refine (Print.bobbinlaw03_DiskKeeps.calls x0 x1 A2 c2 x2 A3_0 c3_0 x3.1 x3.2.1 x3.2.2 true W hC2 hl2 hC3_0 hl3_0 hk).mono fun e W' ⟨he, bel⟩ => ?_
  subst he
  exact ⟨_, rfl, _, _, _, [], _, [], hW', trodAll_mk1 (shut_bool Try.underlying4 _), (trodAll_cons_mk (shut_int Try.underlying3 w0) (trodAll_cons_mk (shut_int Try.underlying5 w1) (trodAll_cons_mk (Below.trod laidOut (by kernel_rfl) (of_decide_eq_true (by kernel_rfl)) k2 bel lt2) (trodAll_cons_mk (Below.trod laidOut (by kernel_rfl) (of_decide_eq_true (by kernel_rfl)) k3 bel lt3) trodAll_mk0)))), rfl, bel.frame _, fun h => by cases h⟩
theorem over : Rows.diskKeepsRow.holds Try.pinned (OpenSpec.ofChange Rows.diskKeepsSpec) :=
  OpenClaim.holds_of_wide 7 Try.f7 rfl rfl rfl rfl rfl rfl rfl ⟨rfl, rfl, rfl, rfl, rfl⟩ rfl rfl rfl rfl rfl (by kernel_rfl) Try.func7 (by kernel_rfl)
    (of_decide_eq_true (by kernel_rfl)) (by unfold Func.isWrapper; first | (rw [if_pos (by decide +kernel)]; kernel_rfl) | (rw [if_neg (by decide +kernel)]; exact ⟨rfl, rfl⟩))
    (fun os started H enc _ => lifted os started H enc)
theorem proved : Rows.DiskKeepsSaid := over
#print axioms proved
end Go.Proofs.Ytghhmbagjhmgfaa.diskKeeps
namespace Go.Proofs.Ytghhmbagjhmgfaa
/-- The row, under a short name, for the claim. -/
theorem diskKeeps_holds : Rows.DiskKeepsSaid := diskKeeps.proved
end Go.Proofs.Ytghhmbagjhmgfaa
