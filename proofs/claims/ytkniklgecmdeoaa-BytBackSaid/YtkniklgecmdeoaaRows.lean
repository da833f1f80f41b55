/-
  No cell of these rows narrows 'for every input' (looked for: loops, veiled, ifaces, maps, wideKeys, modest, calm, conditions, laid).
  DERIVED. THE GIVEN ROWS OF THIS SEAT. 6 by the template 'for every input the law returns true; each argument reads behind the call as it read before'; 0 by the template 'total and deterministic' (their statements: YtkniklgecmdeoaaTotals.lean).
  GIVEN WITH THE SEED: the statements are not yours to turn. If you find one false, say at which input.
  Laid BY PROGRAM, IN A SANDBOX (cutbox-rows.mjs): the forced cells as the released guide's own fill.sh prints them over the translation e728e08e89bd7cb1… (all of the seat's roots in one cut). By AI agents, Wed Nov 11 2026. No macro, syntax, notation, axiom, sorry.
-/
import Derived.Test.YtkniklgecmdeoaaChecked
import GoSem.Claim
import GoSem.ClaimJoined
import GoSem.ClaimMapViews
import Derived.JoinedTies
import Derived.KernelRfl
namespace Go.Proofs.Ytkniklgecmdeoaa
/- THE CELL 'sum', in the pinned program and in every row, IS THE sha256 OF THE DUMP (.gsa) THAT YtkniklgecmdeoaaProg.lean LOADS. Nothing in Lean hashes anything: it is a label: what it is worth is what the hold of that sum in a sandbox is worth. -/
noncomputable def Try.pinned : Pinned := { name := "ytkniklgecmdeoaa", sum := "e728e08e89bd7cb13b215b072ff42a05777f26636a40ff6dad833c6b6b7f5513", checked := Try.checked }
namespace Rows
def none {H : Type} : Left H := { results := [], args := [] }

/-- 'bobbinlaw01.BytWrites': WHATEVER THE INPUT: true; the input reads as it did. -/
def bytWritesSpec : ChangeSpec := { name := "bytWrites", fn := fun _ => fun
  | [d] => { results := [.lit (.bool true)], args := [d] }
  | _ => none }
def bytWritesRow : OpenClaim := { program := "ytkniklgecmdeoaa", sum := "e728e08e89bd7cb13b215b072ff42a05777f26636a40ff6dad833c6b6b7f5513", func := "bobbin/bobbinlaw01.BytWrites", spec := "bytWrites", apart := false }
def BytWritesSaid : Prop := bytWritesRow.holds Try.pinned (OpenSpec.ofChange bytWritesSpec)

/-- ITS FALSE NEIGHBOUR: 'it returns false'. Refute it at one input. -/
def bytWritesWrong : ChangeSpec := { name := "bytWrites", fn := fun _ => fun
  | [d] => { results := [.lit (.bool false)], args := [d] }
  | _ => none }
def BytWritesWrongFalsely : Prop := bytWritesRow.holds Try.pinned (OpenSpec.ofChange bytWritesWrong)

/-- 'bobbinlaw01.BytJoins': WHATEVER THE INPUT: true; the input reads as it did. -/
def bytJoinsSpec : ChangeSpec := { name := "bytJoins", fn := fun _ => fun
  | [d1, d2] => { results := [.lit (.bool true)], args := [d1, d2] }
  | _ => none }
def bytJoinsRow : OpenClaim := { program := "ytkniklgecmdeoaa", sum := "e728e08e89bd7cb13b215b072ff42a05777f26636a40ff6dad833c6b6b7f5513", func := "bobbin/bobbinlaw01.BytJoins", spec := "bytJoins", apart := false }
def BytJoinsSaid : Prop := bytJoinsRow.holds Try.pinned (OpenSpec.ofChange bytJoinsSpec)

/-- ITS FALSE NEIGHBOUR: 'it returns false'. Refute it at one input. -/
def bytJoinsWrong : ChangeSpec := { name := "bytJoins", fn := fun _ => fun
  | [d1, d2] => { results := [.lit (.bool false)], args := [d1, d2] }
  | _ => none }
def BytJoinsWrongFalsely : Prop := bytJoinsRow.holds Try.pinned (OpenSpec.ofChange bytJoinsWrong)

/-- 'bobbinlaw01.BytKeeps': WHATEVER THE INPUT: true; the input reads as it did. -/
def bytKeepsSpec : ChangeSpec := { name := "bytKeeps", fn := fun _ => fun
  | [d1, d2] => { results := [.lit (.bool true)], args := [d1, d2] }
  | _ => none }
def bytKeepsRow : OpenClaim := { program := "ytkniklgecmdeoaa", sum := "e728e08e89bd7cb13b215b072ff42a05777f26636a40ff6dad833c6b6b7f5513", func := "bobbin/bobbinlaw01.BytKeeps", spec := "bytKeeps", apart := false }
def BytKeepsSaid : Prop := bytKeepsRow.holds Try.pinned (OpenSpec.ofChange bytKeepsSpec)

/-- ITS FALSE NEIGHBOUR: 'it returns false'. Refute it at one input. -/
def bytKeepsWrong : ChangeSpec := { name := "bytKeeps", fn := fun _ => fun
  | [d1, d2] => { results := [.lit (.bool false)], args := [d1, d2] }
  | _ => none }
def BytKeepsWrongFalsely : Prop := bytKeepsRow.holds Try.pinned (OpenSpec.ofChange bytKeepsWrong)

/-- 'bobbinlaw01.BytReads': WHATEVER THE INPUT: true; the input reads as it did. -/
def bytReadsSpec : ChangeSpec := { name := "bytReads", fn := fun _ => fun
  | [d1, d2] => { results := [.lit (.bool true)], args := [d1, d2] }
  | _ => none }
def bytReadsRow : OpenClaim := { program := "ytkniklgecmdeoaa", sum := "e728e08e89bd7cb13b215b072ff42a05777f26636a40ff6dad833c6b6b7f5513", func := "bobbin/bobbinlaw01.BytReads", spec := "bytReads", apart := false }
def BytReadsSaid : Prop := bytReadsRow.holds Try.pinned (OpenSpec.ofChange bytReadsSpec)

/-- ITS FALSE NEIGHBOUR: 'it returns false'. Refute it at one input. -/
def bytReadsWrong : ChangeSpec := { name := "bytReads", fn := fun _ => fun
  | [d1, d2] => { results := [.lit (.bool false)], args := [d1, d2] }
  | _ => none }
def BytReadsWrongFalsely : Prop := bytReadsRow.holds Try.pinned (OpenSpec.ofChange bytReadsWrong)

/-- 'bobbinlaw01.BytBack': WHATEVER THE INPUT: true; the input reads as it did. -/
def bytBackSpec : ChangeSpec := { name := "bytBack", fn := fun _ => fun
  | [d] => { results := [.lit (.bool true)], args := [d] }
  | _ => none }
def bytBackRow : OpenClaim := { program := "ytkniklgecmdeoaa", sum := "e728e08e89bd7cb13b215b072ff42a05777f26636a40ff6dad833c6b6b7f5513", func := "bobbin/bobbinlaw01.BytBack", spec := "bytBack", apart := false }
def BytBackSaid : Prop := bytBackRow.holds Try.pinned (OpenSpec.ofChange bytBackSpec)

/-- ITS FALSE NEIGHBOUR: 'it returns false'. Refute it at one input. -/
def bytBackWrong : ChangeSpec := { name := "bytBack", fn := fun _ => fun
  | [d] => { results := [.lit (.bool false)], args := [d] }
  | _ => none }
def BytBackWrongFalsely : Prop := bytBackRow.holds Try.pinned (OpenSpec.ofChange bytBackWrong)

/-- 'bobbinlaw01.BytOwn': WHATEVER THE INPUT: true; the input reads as it did. -/
def bytOwnSpec : ChangeSpec := { name := "bytOwn", fn := fun _ => fun
  | [d] => { results := [.lit (.bool true)], args := [d] }
  | _ => none }
def bytOwnRow : OpenClaim := { program := "ytkniklgecmdeoaa", sum := "e728e08e89bd7cb13b215b072ff42a05777f26636a40ff6dad833c6b6b7f5513", func := "bobbin/bobbinlaw01.BytOwn", spec := "bytOwn", apart := false }
def BytOwnSaid : Prop := bytOwnRow.holds Try.pinned (OpenSpec.ofChange bytOwnSpec)

/-- ITS FALSE NEIGHBOUR: 'it returns false'. Refute it at one input. -/
def bytOwnWrong : ChangeSpec := { name := "bytOwn", fn := fun _ => fun
  | [d] => { results := [.lit (.bool false)], args := [d] }
  | _ => none }
def BytOwnWrongFalsely : Prop := bytOwnRow.holds Try.pinned (OpenSpec.ofChange bytOwnWrong)

/- THE SECOND FORM. 'bulk': how many values and letters a reading holds, each counted each time it is reached (what is shared counts as often as it is met; a slice's spare places count too). A statement '..UptoSaid' is the law's where the arguments, and the package variables that the reading takes, are together of bulk at most 1048576: NARROWER than '..Said'. Prove '..Said' where nothing that the law and all that it calls make is longer than what came in: it says more and counts as full. Else prove '..UptoSaid'. A law counts once. -/
mutual
def uptoBulk {H : Type} : DataW H → Nat
  | .lit (.string bytes) => bytes.length + 1
  | .lit _ => 1
  | .nil => 1
  | .ptr d => uptoBulk d + 1
  | .slice elems spare => uptoBulkAll elems + uptoBulkAll spare + 1
  | .agg parts => uptoBulkAll parts + 1
  | .iface _ d => uptoBulk d + 1
  | .map entries => uptoBulkEntries entries + 1
  | .held _ => 1
def uptoBulkAll {H : Type} : List (DataW H) → Nat
  | [] => 0
  | d :: r => uptoBulk d + uptoBulkAll r
def uptoBulkEntries {H : Type} : List (Lit × DataW H) → Nat
  | [] => 0
  | x :: r => uptoBulkEntry x + uptoBulkEntries r
def uptoBulkEntry {H : Type} : Lit × DataW H → Nat
  | (.string bytes, d) => bytes.length + uptoBulk d + 1
  | (_, d) => uptoBulk d + 1
 end
def uptoSmall : (H : Type) → List (DataW H) → Bool := fun _ ds => decide (uptoBulkAll ds ≤ 1048576)
def OpenSpec.upto (s : _root_.Go.ChangeSpec) : _root_.Go.OpenSpec := { _root_.Go.OpenSpec.ofChange s with cond := some uptoSmall }

/-- 'bobbinlaw01.BytWrites', WHERE WHAT IT READS IS OF BULK AT MOST 1048576: true; the input reads as it did. -/
def bytWritesUptoRow : OpenClaim := { program := "ytkniklgecmdeoaa", sum := "e728e08e89bd7cb13b215b072ff42a05777f26636a40ff6dad833c6b6b7f5513", func := "bobbin/bobbinlaw01.BytWrites", spec := "bytWrites", apart := false, narrowed := true }
def BytWritesUptoSaid : Prop := bytWritesUptoRow.holds Try.pinned (OpenSpec.upto bytWritesSpec)

/-- 'bobbinlaw01.BytJoins', WHERE WHAT IT READS IS OF BULK AT MOST 1048576: true; the input reads as it did. -/
def bytJoinsUptoRow : OpenClaim := { program := "ytkniklgecmdeoaa", sum := "e728e08e89bd7cb13b215b072ff42a05777f26636a40ff6dad833c6b6b7f5513", func := "bobbin/bobbinlaw01.BytJoins", spec := "bytJoins", apart := false, narrowed := true }
def BytJoinsUptoSaid : Prop := bytJoinsUptoRow.holds Try.pinned (OpenSpec.upto bytJoinsSpec)

/-- 'bobbinlaw01.BytKeeps', WHERE WHAT IT READS IS OF BULK AT MOST 1048576: true; the input reads as it did. -/
def bytKeepsUptoRow : OpenClaim := { program := "ytkniklgecmdeoaa", sum := "e728e08e89bd7cb13b215b072ff42a05777f26636a40ff6dad833c6b6b7f5513", func := "bobbin/bobbinlaw01.BytKeeps", spec := "bytKeeps", apart := false, narrowed := true }
def BytKeepsUptoSaid : Prop := bytKeepsUptoRow.holds Try.pinned (OpenSpec.upto bytKeepsSpec)

/-- 'bobbinlaw01.BytReads', WHERE WHAT IT READS IS OF BULK AT MOST 1048576: true; the input reads as it did. -/
def bytReadsUptoRow : OpenClaim := { program := "ytkniklgecmdeoaa", sum := "e728e08e89bd7cb13b215b072ff42a05777f26636a40ff6dad833c6b6b7f5513", func := "bobbin/bobbinlaw01.BytReads", spec := "bytReads", apart := false, narrowed := true }
def BytReadsUptoSaid : Prop := bytReadsUptoRow.holds Try.pinned (OpenSpec.upto bytReadsSpec)

/-- 'bobbinlaw01.BytBack', WHERE WHAT IT READS IS OF BULK AT MOST 1048576: true; the input reads as it did. -/
def bytBackUptoRow : OpenClaim := { program := "ytkniklgecmdeoaa", sum := "e728e08e89bd7cb13b215b072ff42a05777f26636a40ff6dad833c6b6b7f5513", func := "bobbin/bobbinlaw01.BytBack", spec := "bytBack", apart := false, narrowed := true }
def BytBackUptoSaid : Prop := bytBackUptoRow.holds Try.pinned (OpenSpec.upto bytBackSpec)

/-- 'bobbinlaw01.BytOwn', WHERE WHAT IT READS IS OF BULK AT MOST 1048576: true; the input reads as it did. -/
def bytOwnUptoRow : OpenClaim := { program := "ytkniklgecmdeoaa", sum := "e728e08e89bd7cb13b215b072ff42a05777f26636a40ff6dad833c6b6b7f5513", func := "bobbin/bobbinlaw01.BytOwn", spec := "bytOwn", apart := false, narrowed := true }
def BytOwnUptoSaid : Prop := bytOwnUptoRow.holds Try.pinned (OpenSpec.upto bytOwnSpec)

end Rows
end Go.Proofs.Ytkniklgecmdeoaa
