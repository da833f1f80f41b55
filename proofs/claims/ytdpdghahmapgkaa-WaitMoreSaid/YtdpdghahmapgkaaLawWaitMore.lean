-- Written by a program of this session (myprint.py over the kit's print.py) out of the translation. Not trusted: Lean checks it.
import Derived.Test.YtdpdghahmapgkaaRows
import Derived.Test.YtdpdghahmapgkaaPrint6
import Derived.Test.YtdpdghahmapgkaaOpens
import Derived.Test.YtdpdghahmapgkaaPureWaitMore
import Derived.WalkKit
import Derived.ProofKit
import Derived.OpenShut
import Derived.ShutString
import Derived.ChangeOld
import Derived.Below
import Derived.SizedLaws
namespace Go.Proofs.Ytdpdghahmapgkaa.waitMore
open Go.ChangeShapes Go.WideShapes Go.ChangeAt Go.RowKit Go.Proofs.YtdpdghahmapgkaaW.PrintWords Go.Proofs.Ytdpdghahmapgkaa.Opens
open Go.ChangeMaps (open_string shut_string)
set_option linter.unusedVariables false
theorem own : ownKnob Try.prog.godebug = none := by kernel_rfl
theorem laidOut : laidOutB Try.prog = true := by kernel_rfl
-- the bounds: x0.length * 32 ≤ reachBytes ∧ x0.length ≤ maxLen ∧ ∀ a ∈ x0, ((Lit.int .i64 a.f0).wf = true) ∧ (a.f1.length * 8 ≤ reachBytes ∧ a.f1.length ≤ maxLen ∧ ∀ b ∈ a.f1, (Lit.int .i64 b).wf = true); (Lit.int .i64 x1).wf = true; (Lit.int .i64 x2).wf = true; (Lit.int .i64 x3).wf = true; (Lit.int .i64 x4).wf = true
set_option maxRecDepth 100000 in
theorem lifted (os : Os) (started : os.Started) (H : Type) (enc : TypeId × Value → H) :
    ReturnsInHanded {} Try.checked os 6 .any (Rows.waitMoreSpec.pre6 enc Try.prog Try.f6 Rows.waitMoreRow.domain false) (Rows.waitMoreSpec.post enc Try.prog Try.f6 false true false false) := by
  refine returnsInHanded_of_change_sized (C := Try.checked) own started (by kernel_rfl) Try.func6
    (ChangeSpec.witness6 (enc := enc) (C := Try.checked) false ⟨#[], #[(.slice none 0 0), (.int .i64 0), (.int .i64 0), (.int .i64 0), (.int .i64 0)], []⟩ 8 (by kernel_rfl) (by kernel_rfl) (by kernel_rfl) (by kernel_rfl)) ?_
  intro W base args ds gs before hval0 hW hcnd hsz0 _
  have hsz : (DataW.weightsEach Try.prog (Try.f6.params.toList ++ Rows.waitMoreSpec.plain.varTypes Try.prog) (ds ++ gs)).all (· ≤ reachBytes) = true := hsz0
  have hval : ∀ (j : Nat) t v, Try.f6.params[j]? = some t → args[j]? = some v → Value.okWide Try.prog W .any base t v := hval0
  have hW' := hW
  obtain ⟨p, q, hA0, hV, rfl, hfz, hnd⟩ := hW
  have hA : DataW.TrodAll enc Try.prog W 0 (fun _ => true) true Try.f6.params.toList args.toList ds p := hA0
  rw [Try.params6] at hA hval hsz
  obtain ⟨v0, vs0, d0, ds0, p0, q0, hargs, rfl, rfl, h0, r0⟩ := trodAll_cons hA
  obtain ⟨v1, vs1, d1, ds1, p1, q1, rfl, rfl, rfl, h1, r1⟩ := trodAll_cons r0
  obtain ⟨v2, vs2, d2, ds2, p2, q2, rfl, rfl, rfl, h2, r2⟩ := trodAll_cons r1
  obtain ⟨v3, vs3, d3, ds3, p3, q3, rfl, rfl, rfl, h3, r3⟩ := trodAll_cons r2
  obtain ⟨v4, vs4, d4, ds4, p4, q4, rfl, rfl, rfl, h4, r4⟩ := trodAll_cons r3
  obtain ⟨rfl, rfl, rfl⟩ := trodAll_nil r4
  obtain rfl : args = #[v0, v1, v2, v3, v4] := by cases args; simp_all
  obtain ⟨rfl, rfl⟩ := trodVars_none hV
  have k0 := h0
  have lt0 : ∀ x ∈ p0, x.block < W.heap.size := by obtain ⟨m, hm⟩ := k0; exact DataW.trod_lt m _ _ _ hm
  obtain ⟨x0, K0, w0⟩ := Opens.Op.arg (Opens.Op.slice (B := 32) 29 Try.underlying22 (by kernel_rfl) (by kernel_rfl) (show Opens.Op Try.prog 29 Print.k29 (fun x => ((Lit.int .i64 x.f0).wf = true) ∧ (x.f1.length * 8 ≤ reachBytes ∧ x.f1.length ≤ maxLen ∧ ∀ a ∈ x.f1, (Lit.int .i64 a).wf = true)) from Opens.Op.iso (fun x : Print.S29 => (x.f0, x.f1)) (fun p => ⟨p.1, p.2⟩) (fun _ => rfl) (Opens.Op.struct Try.underlying29 (by kernel_rfl) (Opens.Fs.cons rfl (by kernel_rfl) rfl (Opens.Op.int Try.underlying3) (Opens.Fs.one rfl (by kernel_rfl) (Opens.Op.slice (B := 8) 3 Try.underlying27 (by kernel_rfl) (by kernel_rfl) (Opens.Op.int Try.underlying3))))))) h0 hsz (j := 0) (t := 22) rfl rfl
  obtain ⟨A0, c0, e0, hl0, hC0⟩ := K0
  obtain rfl := one_of Try.underlying22 (hval 0 22 v0 rfl rfl) e0
  obtain ⟨x1, rfl, rfl, rfl, w1⟩ := open_int Try.underlying3 (hval 1 3 v1 rfl rfl) h1
  obtain ⟨x2, rfl, rfl, rfl, w2⟩ := open_int Try.underlying3 (hval 2 3 v2 rfl rfl) h2
  obtain ⟨x3, rfl, rfl, rfl, w3⟩ := open_int Try.underlying3 (hval 3 3 v3 rfl rfl) h3
  obtain ⟨x4, rfl, rfl, rfl, w4⟩ := open_int Try.underlying3 (hval 4 3 v4 rfl rfl) h4
  clear hA0 hval0 hsz0 hsz
  obtain ⟨k, hk⟩ := Pure.WaitMore x0 x1 x2 x3 x4 w0 w1 w2 w3 w4
  refine (Print.bobbinlaw13_WaitMore.calls k A0 c0 x0 x1 x2 x3 x4 true W hC0 hl0 hk).mono fun e W' ⟨he, bel⟩ => ?_
  subst he
  exact ⟨_, rfl, _, _, _, [], _, [], hW', trodAll_mk1 (shut_bool Try.underlying4 _), (trodAll_cons_mk (Below.trod laidOut (by kernel_rfl) (of_decide_eq_true (by kernel_rfl)) k0 bel lt0) (trodAll_cons_mk (shut_int Try.underlying3 w1) (trodAll_cons_mk (shut_int Try.underlying3 w2) (trodAll_cons_mk (shut_int Try.underlying3 w3) (trodAll_cons_mk (shut_int Try.underlying3 w4) trodAll_mk0))))), rfl, bel.frame _, fun h => by cases h⟩
theorem over : Rows.waitMoreRow.holds Try.pinned (OpenSpec.ofChange Rows.waitMoreSpec) :=
  OpenClaim.holds_of_wide 6 Try.f6 rfl rfl rfl rfl rfl rfl rfl ⟨rfl, rfl, rfl, rfl, rfl⟩ rfl rfl rfl rfl rfl (by kernel_rfl) Try.func6 (by kernel_rfl)
    (of_decide_eq_true (by kernel_rfl)) (by unfold Func.isWrapper; first | (rw [if_pos (by decide +kernel)]; kernel_rfl) | (rw [if_neg (by decide +kernel)]; exact ⟨rfl, rfl⟩))
    (fun os started H enc _ => lifted os started H enc)
theorem proved : Rows.WaitMoreSaid := over
#print axioms proved
end Go.Proofs.Ytdpdghahmapgkaa.waitMore
namespace Go.Proofs.Ytdpdghahmapgkaa
/-- The row, under a short name, for the claim. -/
theorem waitMore_holds : Rows.WaitMoreSaid := waitMore.proved
end Go.Proofs.Ytdpdghahmapgkaa
