/-
  No cell of these rows narrows 'for every input' (looked for: loops, veiled, ifaces, maps, wideKeys, modest, calm, conditions, laid).
  DERIVED. THE GIVEN ROWS OF THIS SEAT. 6 by the template 'for every input the law returns true; each argument reads behind the call as it read before'; 0 by the template 'total and deterministic' (their statements: YtfaflgdhffkaiaaTotals.lean).
  GIVEN WITH THE SEED: the statements are not yours to turn. If you find one false, say at which input.
  Laid BY PROGRAM, IN A SANDBOX (cutbox-rows.mjs): the forced cells as the released guide's own fill.sh prints them over the translation 1cab7ad9d6f0b4ba… (all of the seat's roots in one cut). By AI agents, Wed Nov 11 2026. No macro, syntax, notation, axiom, sorry.
-/
import Derived.Test.YtfaflgdhffkaiaaChecked
import GoSem.Claim
import GoSem.ClaimJoined
import GoSem.ClaimMapViews
import Derived.JoinedTies
import Derived.KernelRfl
namespace Go.Proofs.Ytfaflgdhffkaiaa
/- THE CELL 'sum', in the pinned program and in every row, IS THE sha256 OF THE DUMP (.gsa) THAT YtfaflgdhffkaiaaProg.lean LOADS. Nothing in Lean hashes anything: it is a label: what it is worth is what the hold of that sum in a sandbox is worth. -/
noncomputable def Try.pinned : Pinned := { name := "ytfaflgdhffkaiaa", sum := "1cab7ad9d6f0b4bac4ff1f2c5fb5425552da4137896567dfec4101fe337c0eb7", checked := Try.checked }
namespace Rows
def none {H : Type} : Left H := { results := [], args := [] }

/-- 'bobbinlaw09.MasterReads': WHATEVER THE INPUT: true; the input reads as it did. -/
def masterReadsSpec : ChangeSpec := { name := "masterReads", fn := fun _ => fun
  | [d1, d2] => { results := [.lit (.bool true)], args := [d1, d2] }
  | _ => none }
def masterReadsRow : OpenClaim := { program := "ytfaflgdhffkaiaa", sum := "1cab7ad9d6f0b4bac4ff1f2c5fb5425552da4137896567dfec4101fe337c0eb7", func := "bobbin/bobbinlaw09.MasterReads", spec := "masterReads", unfollowed := true, recurses := true, apart := false }
def MasterReadsSaid : Prop := masterReadsRow.holds Try.pinned (OpenSpec.ofChange masterReadsSpec)

/-- ITS FALSE NEIGHBOUR: 'it returns false'. Refute it at one input. -/
def masterReadsWrong : ChangeSpec := { name := "masterReads", fn := fun _ => fun
  | [d1, d2] => { results := [.lit (.bool false)], args := [d1, d2] }
  | _ => none }
def MasterReadsWrongFalsely : Prop := masterReadsRow.holds Try.pinned (OpenSpec.ofChange masterReadsWrong)

/-- 'bobbinlaw09.MasterLast': WHATEVER THE INPUT: true; the input reads as it did. -/
def masterLastSpec : ChangeSpec := { name := "masterLast", fn := fun _ => fun
  | [d1, d2] => { results := [.lit (.bool true)], args := [d1, d2] }
  | _ => none }
def masterLastRow : OpenClaim := { program := "ytfaflgdhffkaiaa", sum := "1cab7ad9d6f0b4bac4ff1f2c5fb5425552da4137896567dfec4101fe337c0eb7", func := "bobbin/bobbinlaw09.MasterLast", spec := "masterLast", unfollowed := true, recurses := true, apart := false }
def MasterLastSaid : Prop := masterLastRow.holds Try.pinned (OpenSpec.ofChange masterLastSpec)

/-- ITS FALSE NEIGHBOUR: 'it returns false'. Refute it at one input. -/
def masterLastWrong : ChangeSpec := { name := "masterLast", fn := fun _ => fun
  | [d1, d2] => { results := [.lit (.bool false)], args := [d1, d2] }
  | _ => none }
def MasterLastWrongFalsely : Prop := masterLastRow.holds Try.pinned (OpenSpec.ofChange masterLastWrong)

/-- 'bobbinlaw09.MasterGreater': WHATEVER THE INPUT: true; the input reads as it did. -/
def masterGreaterSpec : ChangeSpec := { name := "masterGreater", fn := fun _ => fun
  | [d1, d2] => { results := [.lit (.bool true)], args := [d1, d2] }
  | _ => none }
def masterGreaterRow : OpenClaim := { program := "ytfaflgdhffkaiaa", sum := "1cab7ad9d6f0b4bac4ff1f2c5fb5425552da4137896567dfec4101fe337c0eb7", func := "bobbin/bobbinlaw09.MasterGreater", spec := "masterGreater", unfollowed := true, recurses := true, apart := false }
def MasterGreaterSaid : Prop := masterGreaterRow.holds Try.pinned (OpenSpec.ofChange masterGreaterSpec)

/-- ITS FALSE NEIGHBOUR: 'it returns false'. Refute it at one input. -/
def masterGreaterWrong : ChangeSpec := { name := "masterGreater", fn := fun _ => fun
  | [d1, d2] => { results := [.lit (.bool false)], args := [d1, d2] }
  | _ => none }
def MasterGreaterWrongFalsely : Prop := masterGreaterRow.holds Try.pinned (OpenSpec.ofChange masterGreaterWrong)

/-- 'bobbinlaw09.MasterOdd': WHATEVER THE INPUT: true; the input reads as it did. -/
def masterOddSpec : ChangeSpec := { name := "masterOdd", fn := fun _ => fun
  | [d1, d2, d3] => { results := [.lit (.bool true)], args := [d1, d2, d3] }
  | _ => none }
def masterOddRow : OpenClaim := { program := "ytfaflgdhffkaiaa", sum := "1cab7ad9d6f0b4bac4ff1f2c5fb5425552da4137896567dfec4101fe337c0eb7", func := "bobbin/bobbinlaw09.MasterOdd", spec := "masterOdd", unfollowed := true, recurses := true, apart := false }
def MasterOddSaid : Prop := masterOddRow.holds Try.pinned (OpenSpec.ofChange masterOddSpec)

/-- ITS FALSE NEIGHBOUR: 'it returns false'. Refute it at one input. -/
def masterOddWrong : ChangeSpec := { name := "masterOdd", fn := fun _ => fun
  | [d1, d2, d3] => { results := [.lit (.bool false)], args := [d1, d2, d3] }
  | _ => none }
def MasterOddWrongFalsely : Prop := masterOddRow.holds Try.pinned (OpenSpec.ofChange masterOddWrong)

/-- 'bobbinlaw09.MasterEither': WHATEVER THE INPUT: true; the input reads as it did. -/
def masterEitherSpec : ChangeSpec := { name := "masterEither", fn := fun _ => fun
  | [d1, d2, d3, d4] => { results := [.lit (.bool true)], args := [d1, d2, d3, d4] }
  | _ => none }
def masterEitherRow : OpenClaim := { program := "ytfaflgdhffkaiaa", sum := "1cab7ad9d6f0b4bac4ff1f2c5fb5425552da4137896567dfec4101fe337c0eb7", func := "bobbin/bobbinlaw09.MasterEither", spec := "masterEither", unfollowed := true, recurses := true, apart := false }
def MasterEitherSaid : Prop := masterEitherRow.holds Try.pinned (OpenSpec.ofChange masterEitherSpec)

/-- ITS FALSE NEIGHBOUR: 'it returns false'. Refute it at one input. -/
def masterEitherWrong : ChangeSpec := { name := "masterEither", fn := fun _ => fun
  | [d1, d2, d3, d4] => { results := [.lit (.bool false)], args := [d1, d2, d3, d4] }
  | _ => none }
def MasterEitherWrongFalsely : Prop := masterEitherRow.holds Try.pinned (OpenSpec.ofChange masterEitherWrong)

/-- 'bobbinlaw09.MasterWrites': WHATEVER THE INPUT: true; the input reads as it did. -/
def masterWritesSpec : ChangeSpec := { name := "masterWrites", fn := fun _ => fun
  | [d1, d2] => { results := [.lit (.bool true)], args := [d1, d2] }
  | _ => none }
def masterWritesRow : OpenClaim := { program := "ytfaflgdhffkaiaa", sum := "1cab7ad9d6f0b4bac4ff1f2c5fb5425552da4137896567dfec4101fe337c0eb7", func := "bobbin/bobbinlaw09.MasterWrites", spec := "masterWrites", unfollowed := true, recurses := true, apart := false }
def MasterWritesSaid : Prop := masterWritesRow.holds Try.pinned (OpenSpec.ofChange masterWritesSpec)

/-- ITS FALSE NEIGHBOUR: 'it returns false'. Refute it at one input. -/
def masterWritesWrong : ChangeSpec := { name := "masterWrites", fn := fun _ => fun
  | [d1, d2] => { results := [.lit (.bool false)], args := [d1, d2] }
  | _ => none }
def MasterWritesWrongFalsely : Prop := masterWritesRow.holds Try.pinned (OpenSpec.ofChange masterWritesWrong)

/- THE SECOND FORM. 'bulk': how many values and letters a reading holds, each counted each time it is reached (what is shared counts as often as it is met; a slice's spare places count too). A statement '..UptoSaid' is the law's where the arguments, and the package variables that the reading takes, are together of bulk at most 1048576: NARROWER than '..Said'. Prove '..Said' where nothing that the law and all that it calls make is longer than what came in: it says more and counts as full. Else prove '..UptoSaid'. A law counts once. -/
mutual
def uptoBulk {H : Type} : DataW H → Nat
  | .lit (.string bytes) => bytes.length + 1
  | .lit _ => 1
  | .nil => 1
  | .ptr d => uptoBulk d + 1
  | .slice elems spare => uptoBulkAll elems + uptoBulkAll spare + 1
  | .agg parts => uptoBulkAll parts + 1
  | .iface _ d => uptoBulk d + 1
  | .map entries => uptoBulkEntries entries + 1
  | .held _ => 1
def uptoBulkAll {H : Type} : List (DataW H) → Nat
  | [] => 0
  | d :: r => uptoBulk d + uptoBulkAll r
def uptoBulkEntries {H : Type} : List (Lit × DataW H) → Nat
  | [] => 0
  | x :: r => uptoBulkEntry x + uptoBulkEntries r
def uptoBulkEntry {H : Type} : Lit × DataW H → Nat
  | (.string bytes, d) => bytes.length + uptoBulk d + 1
  | (_, d) => uptoBulk d + 1
 end
def uptoSmall : (H : Type) → List (DataW H) → Bool := fun _ ds => decide (uptoBulkAll ds ≤ 1048576)
def OpenSpec.upto (s : _root_.Go.ChangeSpec) : _root_.Go.OpenSpec := { _root_.Go.OpenSpec.ofChange s with cond := some uptoSmall }

/-- 'bobbinlaw09.MasterReads', WHERE WHAT IT READS IS OF BULK AT MOST 1048576: true; the input reads as it did. -/
def masterReadsUptoRow : OpenClaim := { program := "ytfaflgdhffkaiaa", sum := "1cab7ad9d6f0b4bac4ff1f2c5fb5425552da4137896567dfec4101fe337c0eb7", func := "bobbin/bobbinlaw09.MasterReads", spec := "masterReads", unfollowed := true, recurses := true, apart := false, narrowed := true }
def MasterReadsUptoSaid : Prop := masterReadsUptoRow.holds Try.pinned (OpenSpec.upto masterReadsSpec)

/-- 'bobbinlaw09.MasterLast', WHERE WHAT IT READS IS OF BULK AT MOST 1048576: true; the input reads as it did. -/
def masterLastUptoRow : OpenClaim := { program := "ytfaflgdhffkaiaa", sum := "1cab7ad9d6f0b4bac4ff1f2c5fb5425552da4137896567dfec4101fe337c0eb7", func := "bobbin/bobbinlaw09.MasterLast", spec := "masterLast", unfollowed := true, recurses := true, apart := false, narrowed := true }
def MasterLastUptoSaid : Prop := masterLastUptoRow.holds Try.pinned (OpenSpec.upto masterLastSpec)

/-- 'bobbinlaw09.MasterGreater', WHERE WHAT IT READS IS OF BULK AT MOST 1048576: true; the input reads as it did. -/
def masterGreaterUptoRow : OpenClaim := { program := "ytfaflgdhffkaiaa", sum := "1cab7ad9d6f0b4bac4ff1f2c5fb5425552da4137896567dfec4101fe337c0eb7", func := "bobbin/bobbinlaw09.MasterGreater", spec := "masterGreater", unfollowed := true, recurses := true, apart := false, narrowed := true }
def MasterGreaterUptoSaid : Prop := masterGreaterUptoRow.holds Try.pinned (OpenSpec.upto masterGreaterSpec)

/-- 'bobbinlaw09.MasterOdd', WHERE WHAT IT READS IS OF BULK AT MOST 1048576: true; the input reads as it did. -/
def masterOddUptoRow : OpenClaim := { program := "ytfaflgdhffkaiaa", sum := "1cab7ad9d6f0b4bac4ff1f2c5fb5425552da4137896567dfec4101fe337c0eb7", func := "bobbin/bobbinlaw09.MasterOdd", spec := "masterOdd", unfollowed := true, recurses := true, apart := false, narrowed := true }
def MasterOddUptoSaid : Prop := masterOddUptoRow.holds Try.pinned (OpenSpec.upto masterOddSpec)

/-- 'bobbinlaw09.MasterEither', WHERE WHAT IT READS IS OF BULK AT MOST 1048576: true; the input reads as it did. -/
def masterEitherUptoRow : OpenClaim := { program := "ytfaflgdhffkaiaa", sum := "1cab7ad9d6f0b4bac4ff1f2c5fb5425552da4137896567dfec4101fe337c0eb7", func := "bobbin/bobbinlaw09.MasterEither", spec := "masterEither", unfollowed := true, recurses := true, apart := false, narrowed := true }
def MasterEitherUptoSaid : Prop := masterEitherUptoRow.holds Try.pinned (OpenSpec.upto masterEitherSpec)

/-- 'bobbinlaw09.MasterWrites', WHERE WHAT IT READS IS OF BULK AT MOST 1048576: true; the input reads as it did. -/
def masterWritesUptoRow : OpenClaim := { program := "ytfaflgdhffkaiaa", sum := "1cab7ad9d6f0b4bac4ff1f2c5fb5425552da4137896567dfec4101fe337c0eb7", func := "bobbin/bobbinlaw09.MasterWrites", spec := "masterWrites", unfollowed := true, recurses := true, apart := false, narrowed := true }
def MasterWritesUptoSaid : Prop := masterWritesUptoRow.holds Try.pinned (OpenSpec.upto masterWritesSpec)

end Rows
end Go.Proofs.Ytfaflgdhffkaiaa
