-- Written by a program of this session (myprint.py over the kit's print.py) out of the translation. Not trusted: Lean checks it.
import Derived.Test.YtdbbibndjknafaaRows
import Derived.Test.YtdbbibndjknafaaTxnBack
import Derived.Test.YtdbbibndjknafaaOpens
import Derived.Test.YtdbbibndjknafaaPureTxnBack
import Derived.WalkKit
import Derived.ProofKit
import Derived.OpenShut
import Derived.ShutString
import Derived.ChangeOld
import Derived.Below
import Derived.SizedLaws
namespace Go.Proofs.Ytdbbibndjknafaa.txnBack
open Go.ChangeShapes Go.WideShapes Go.ChangeAt Go.RowKit Go.Proofs.YtdbbibndjknafaaW.PrintWords Go.Proofs.Ytdbbibndjknafaa.Opens
open Go.ChangeMaps (open_string shut_string)
set_option linter.unusedVariables false
theorem own : ownKnob Try.prog.godebug = none := by kernel_rfl
theorem laidOut : laidOutB Try.prog = true := by kernel_rfl
-- the bounds: ((Lit.int .i64 x0.1).wf = true) ∧ ((Lit.int .i64 x0.2.1).wf = true) ∧ ((Lit.int .i64 x0.2.2.1).wf = true) ∧ ((Lit.int .i64 x0.2.2.2.1).wf = true) ∧ (x0.2.2.2.2.1.length * 88 ≤ reachBytes ∧ x0.2.2.2.2.1.length ≤ maxLen ∧ ∀ a ∈ x0.2.2.2.2.1, ((Lit.int .i64 a.f0).wf = true) ∧ ((Lit.int .i64 a.f1).wf = true) ∧ ((Lit.int .i64 a.f2).wf = true) ∧ ((True) ∧ (a.f3.f1.length * 1 ≤ reachBytes ∧ a.f3.f1.length ≤ maxLen ∧ ∀ b ∈ a.f3.f1, (Lit.int .u8 b).wf = true)) ∧ ((True) ∧ (a.f4.f1.length * 1 ≤ reachBytes ∧ a.f4.f1.length ≤ maxLen ∧ ∀ b ∈ a.f4.f1, (Lit.int .u8 b).wf = true))) ∧ (x0.2.2.2.2.2.length * 8 ≤ reachBytes ∧ x0.2.2.2.2.2.length ≤ maxLen ∧ ∀ a ∈ x0.2.2.2.2.2, (Lit.int .i64 a).wf = true); x1.length * 88 ≤ reachBytes ∧ x1.length ≤ maxLen ∧ ∀ a ∈ x1, ((Lit.int .i64 a.f0).wf = true) ∧ ((Lit.int .i64 a.f1).wf = true) ∧ ((Lit.int .i64 a.f2).wf = true) ∧ ((True) ∧ (a.f3.f1.length * 1 ≤ reachBytes ∧ a.f3.f1.length ≤ maxLen ∧ ∀ b ∈ a.f3.f1, (Lit.int .u8 b).wf = true)) ∧ ((True) ∧ (a.f4.f1.length * 1 ≤ reachBytes ∧ a.f4.f1.length ≤ maxLen ∧ ∀ b ∈ a.f4.f1, (Lit.int .u8 b).wf = true))
set_option maxRecDepth 100000 in
theorem lifted (os : Os) (started : os.Started) (H : Type) (enc : TypeId × Value → H) :
    ReturnsInHanded {} Try.checked os 5 .any (Rows.txnBackSpec.pre6 enc Try.prog Try.f5 Rows.txnBackRow.domain false) (Rows.txnBackSpec.post enc Try.prog Try.f5 false true false false) := by
  refine returnsInHanded_of_change_sized (C := Try.checked) own started (by kernel_rfl) Try.func5
    (ChangeSpec.witness6 (enc := enc) (C := Try.checked) false ⟨#[], #[(.agg #[(.int .i64 0), (.int .i64 0), (.int .i64 0), (.int .i64 0), (.slice none 0 0), (.slice none 0 0)]), (.slice none 0 0)], []⟩ 8 (by kernel_rfl) (by kernel_rfl) (by kernel_rfl) (by kernel_rfl)) ?_
  intro W base args ds gs before hval0 hW hcnd hsz0 _
  have hsz : (DataW.weightsEach Try.prog (Try.f5.params.toList ++ Rows.txnBackSpec.plain.varTypes Try.prog) (ds ++ gs)).all (· ≤ reachBytes) = true := hsz0
  have hval : ∀ (j : Nat) t v, Try.f5.params[j]? = some t → args[j]? = some v → Value.okWide Try.prog W .any base t v := hval0
  have hW' := hW
  obtain ⟨p, q, hA0, hV, rfl, hfz, hnd⟩ := hW
  have hA : DataW.TrodAll enc Try.prog W 0 (fun _ => true) true Try.f5.params.toList args.toList ds p := hA0
  rw [Try.params5] at hA hval hsz
  obtain ⟨v0, vs0, d0, ds0, p0, q0, hargs, rfl, rfl, h0, r0⟩ := trodAll_cons hA
  obtain ⟨v1, vs1, d1, ds1, p1, q1, rfl, rfl, rfl, h1, r1⟩ := trodAll_cons r0
  obtain ⟨rfl, rfl, rfl⟩ := trodAll_nil r1
  obtain rfl : args = #[v0, v1] := by cases args; simp_all
  obtain ⟨rfl, rfl⟩ := trodVars_none hV
  have k0 := h0
  have lt0 : ∀ x ∈ p0, x.block < W.heap.size := by obtain ⟨m, hm⟩ := k0; exact DataW.trod_lt m _ _ _ hm
  obtain ⟨x0, K0, w0⟩ := Opens.Op.arg (Opens.Op.struct Try.underlying25 (by kernel_rfl) (Opens.Fs.cons rfl (by kernel_rfl) rfl (Opens.Op.int Try.underlying3) (Opens.Fs.cons rfl (by kernel_rfl) rfl (Opens.Op.int Try.underlying3) (Opens.Fs.cons rfl (by kernel_rfl) rfl (Opens.Op.int Try.underlying3) (Opens.Fs.cons rfl (by kernel_rfl) rfl (Opens.Op.int Try.underlying3) (Opens.Fs.cons rfl (by kernel_rfl) rfl (Opens.Op.slice (B := 88) 30 Try.underlying22 (by kernel_rfl) (by kernel_rfl) (show Opens.Op Try.prog 30 Print.k30 (fun x => ((Lit.int .i64 x.f0).wf = true) ∧ ((Lit.int .i64 x.f1).wf = true) ∧ ((Lit.int .i64 x.f2).wf = true) ∧ ((True) ∧ (x.f3.f1.length * 1 ≤ reachBytes ∧ x.f3.f1.length ≤ maxLen ∧ ∀ a ∈ x.f3.f1, (Lit.int .u8 a).wf = true)) ∧ ((True) ∧ (x.f4.f1.length * 1 ≤ reachBytes ∧ x.f4.f1.length ≤ maxLen ∧ ∀ a ∈ x.f4.f1, (Lit.int .u8 a).wf = true))) from Opens.Op.iso (fun x : Print.S30 => (x.f0, (x.f1, (x.f2, (x.f3, x.f4))))) (fun p => ⟨p.1, p.2.1, p.2.2.1, p.2.2.2.1, p.2.2.2.2⟩) (fun _ => rfl) (Opens.Op.struct Try.underlying30 (by kernel_rfl) (Opens.Fs.cons rfl (by kernel_rfl) rfl (Opens.Op.int Try.underlying3) (Opens.Fs.cons rfl (by kernel_rfl) rfl (Opens.Op.int Try.underlying3) (Opens.Fs.cons rfl (by kernel_rfl) rfl (Opens.Op.int Try.underlying3) (Opens.Fs.cons rfl (by kernel_rfl) rfl (show Opens.Op Try.prog 28 Print.k28 (fun x => (True) ∧ (x.f1.length * 1 ≤ reachBytes ∧ x.f1.length ≤ maxLen ∧ ∀ a ∈ x.f1, (Lit.int .u8 a).wf = true)) from Opens.Op.iso (fun x : Print.S28 => (x.f0, x.f1)) (fun p => ⟨p.1, p.2⟩) (fun _ => rfl) (Opens.Op.struct Try.underlying28 (by kernel_rfl) (Opens.Fs.cons rfl (by kernel_rfl) rfl (Opens.Op.bool Try.underlying4) (Opens.Fs.one rfl (by kernel_rfl) (Opens.Op.slice (B := 1) 5 Try.underlying26 (by kernel_rfl) (by kernel_rfl) (Opens.Op.int Try.underlying5)))))) (Opens.Fs.one rfl (by kernel_rfl) (show Opens.Op Try.prog 28 Print.k28 (fun x => (True) ∧ (x.f1.length * 1 ≤ reachBytes ∧ x.f1.length ≤ maxLen ∧ ∀ a ∈ x.f1, (Lit.int .u8 a).wf = true)) from Opens.Op.iso (fun x : Print.S28 => (x.f0, x.f1)) (fun p => ⟨p.1, p.2⟩) (fun _ => rfl) (Opens.Op.struct Try.underlying28 (by kernel_rfl) (Opens.Fs.cons rfl (by kernel_rfl) rfl (Opens.Op.bool Try.underlying4) (Opens.Fs.one rfl (by kernel_rfl) (Opens.Op.slice (B := 1) 5 Try.underlying26 (by kernel_rfl) (by kernel_rfl) (Opens.Op.int Try.underlying5)))))))))))))) (Opens.Fs.one rfl (by kernel_rfl) (Opens.Op.slice (B := 8) 3 Try.underlying23 (by kernel_rfl) (by kernel_rfl) (Opens.Op.int Try.underlying3))))))))) h0 hsz (j := 0) (t := 25) rfl rfl
  obtain ⟨_, _, e0, rfl, ⟨_, _, rfl, rfl, ⟨_, _, rfl, rfl, ⟨_, _, rfl, rfl, ⟨_, _, rfl, ⟨A0_4, c0_4, rfl, hl0_4, hC0_4⟩, ⟨A0_5, c0_5, rfl, hl0_5, hC0_5⟩⟩⟩⟩⟩⟩ := K0
  obtain rfl := agg_of Try.underlying25 (hval 0 25 v0 rfl rfl) e0
  have k1 := h1
  have lt1 : ∀ x ∈ p1, x.block < W.heap.size := by obtain ⟨m, hm⟩ := k1; exact DataW.trod_lt m _ _ _ hm
  obtain ⟨x1, K1, w1⟩ := Opens.Op.arg (Opens.Op.slice (B := 88) 30 Try.underlying22 (by kernel_rfl) (by kernel_rfl) (show Opens.Op Try.prog 30 Print.k30 (fun x => ((Lit.int .i64 x.f0).wf = true) ∧ ((Lit.int .i64 x.f1).wf = true) ∧ ((Lit.int .i64 x.f2).wf = true) ∧ ((True) ∧ (x.f3.f1.length * 1 ≤ reachBytes ∧ x.f3.f1.length ≤ maxLen ∧ ∀ a ∈ x.f3.f1, (Lit.int .u8 a).wf = true)) ∧ ((True) ∧ (x.f4.f1.length * 1 ≤ reachBytes ∧ x.f4.f1.length ≤ maxLen ∧ ∀ a ∈ x.f4.f1, (Lit.int .u8 a).wf = true))) from Opens.Op.iso (fun x : Print.S30 => (x.f0, (x.f1, (x.f2, (x.f3, x.f4))))) (fun p => ⟨p.1, p.2.1, p.2.2.1, p.2.2.2.1, p.2.2.2.2⟩) (fun _ => rfl) (Opens.Op.struct Try.underlying30 (by kernel_rfl) (Opens.Fs.cons rfl (by kernel_rfl) rfl (Opens.Op.int Try.underlying3) (Opens.Fs.cons rfl (by kernel_rfl) rfl (Opens.Op.int Try.underlying3) (Opens.Fs.cons rfl (by kernel_rfl) rfl (Opens.Op.int Try.underlying3) (Opens.Fs.cons rfl (by kernel_rfl) rfl (show Opens.Op Try.prog 28 Print.k28 (fun x => (True) ∧ (x.f1.length * 1 ≤ reachBytes ∧ x.f1.length ≤ maxLen ∧ ∀ a ∈ x.f1, (Lit.int .u8 a).wf = true)) from Opens.Op.iso (fun x : Print.S28 => (x.f0, x.f1)) (fun p => ⟨p.1, p.2⟩) (fun _ => rfl) (Opens.Op.struct Try.underlying28 (by kernel_rfl) (Opens.Fs.cons rfl (by kernel_rfl) rfl (Opens.Op.bool Try.underlying4) (Opens.Fs.one rfl (by kernel_rfl) (Opens.Op.slice (B := 1) 5 Try.underlying26 (by kernel_rfl) (by kernel_rfl) (Opens.Op.int Try.underlying5)))))) (Opens.Fs.one rfl (by kernel_rfl) (show Opens.Op Try.prog 28 Print.k28 (fun x => (True) ∧ (x.f1.length * 1 ≤ reachBytes ∧ x.f1.length ≤ maxLen ∧ ∀ a ∈ x.f1, (Lit.int .u8 a).wf = true)) from Opens.Op.iso (fun x : Print.S28 => (x.f0, x.f1)) (fun p => ⟨p.1, p.2⟩) (fun _ => rfl) (Opens.Op.struct Try.underlying28 (by kernel_rfl) (Opens.Fs.cons rfl (by kernel_rfl) rfl (Opens.Op.bool Try.underlying4) (Opens.Fs.one rfl (by kernel_rfl) (Opens.Op.slice (B := 1) 5 Try.underlying26 (by kernel_rfl) (by kernel_rfl) (Opens.Op.int Try.underlying5)))))))))))))) h1 hsz (j := 1) (t := 22) rfl rfl
  obtain ⟨A1, c1, e1, hl1, hC1⟩ := K1
  obtain rfl := one_of Try.underlying22 (hval 1 22 v1 rfl rfl) e1
  clear hA0 hval0 hsz0 hsz
  have hk := Pure.TxnBack x0 x1 w0 w1
  refine (Print.bobbinlaw14_TxnBack.calls x0.1 x0.2.1 x0.2.2.1 x0.2.2.2.1 A0_4 c0_4 x0.2.2.2.2.1 A0_5 c0_5 x0.2.2.2.2.2 A1 c1 x1 true W hC0_4 hl0_4 hC0_5 hl0_5 hC1 hl1 hk).mono fun e W' ⟨he, bel⟩ => ?_
  subst he
  exact ⟨_, rfl, _, _, _, [], _, [], hW', trodAll_mk1 (shut_bool Try.underlying4 _), (trodAll_cons_mk (Below.trod laidOut (by kernel_rfl) (of_decide_eq_true (by kernel_rfl)) k0 bel lt0) (trodAll_cons_mk (Below.trod laidOut (by kernel_rfl) (of_decide_eq_true (by kernel_rfl)) k1 bel lt1) trodAll_mk0)), rfl, bel.frame _, fun h => by cases h⟩
theorem over : Rows.txnBackRow.holds Try.pinned (OpenSpec.ofChange Rows.txnBackSpec) :=
  OpenClaim.holds_of_wide 5 Try.f5 rfl rfl rfl rfl rfl rfl rfl ⟨rfl, rfl, rfl, rfl, rfl⟩ rfl rfl rfl rfl rfl (by kernel_rfl) Try.func5 (by kernel_rfl)
    (of_decide_eq_true (by kernel_rfl)) (by unfold Func.isWrapper; first | (rw [if_pos (by decide +kernel)]; kernel_rfl) | (rw [if_neg (by decide +kernel)]; exact ⟨rfl, rfl⟩))
    (fun os started H enc _ => lifted os started H enc)
theorem proved : Rows.TxnBackSaid := over
#print axioms proved
end Go.Proofs.Ytdbbibndjknafaa.txnBack
namespace Go.Proofs.Ytdbbibndjknafaa
/-- The row, under a short name, for the claim. -/
theorem txnBack_holds : Rows.TxnBackSaid := txnBack.proved
end Go.Proofs.Ytdbbibndjknafaa
