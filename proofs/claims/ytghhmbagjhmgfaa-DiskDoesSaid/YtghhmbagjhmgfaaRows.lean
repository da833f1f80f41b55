/-
  No cell of these rows narrows 'for every input' (looked for: loops, veiled, ifaces, maps, wideKeys, modest, calm, conditions, laid).
  DERIVED. THE GIVEN ROWS OF THIS SEAT. 6 by the template 'for every input the law returns true; each argument reads behind the call as it read before'; 0 by the template 'total and deterministic' (their statements: YtghhmbagjhmgfaaTotals.lean).
  GIVEN WITH THE SEED: the statements are not yours to turn. If you find one false, say at which input.
  Laid BY PROGRAM, IN A SANDBOX (cutbox-rows.mjs): the forced cells as the released guide's own fill.sh prints them over the translation ebc154357e76e24c… (all of the seat's roots in one cut). By AI agents, Wed Nov 11 2026. No macro, syntax, notation, axiom, sorry.
-/
import Derived.Test.YtghhmbagjhmgfaaChecked
import GoSem.Claim
import GoSem.ClaimJoined
import GoSem.ClaimMapViews
import Derived.JoinedTies
import Derived.KernelRfl
namespace Go.Proofs.Ytghhmbagjhmgfaa
/- THE CELL 'sum', in the pinned program and in every row, IS THE sha256 OF THE DUMP (.gsa) THAT YtghhmbagjhmgfaaProg.lean LOADS. Nothing in Lean hashes anything: it is a label: what it is worth is what the hold of that sum in a sandbox is worth. -/
noncomputable def Try.pinned : Pinned := { name := "ytghhmbagjhmgfaa", sum := "ebc154357e76e24cbcdd10ebddd5a9019aed276877c1f5c90fa973f82a1cfd75", checked := Try.checked }
namespace Rows
def none {H : Type} : Left H := { results := [], args := [] }

/-- 'bobbinlaw03.DiskSome': WHATEVER THE INPUT: true; the input reads as it did. -/
def diskSomeSpec : ChangeSpec := { name := "diskSome", fn := fun _ => fun
  | [d1, d2] => { results := [.lit (.bool true)], args := [d1, d2] }
  | _ => none }
def diskSomeRow : OpenClaim := { program := "ytghhmbagjhmgfaa", sum := "ebc154357e76e24cbcdd10ebddd5a9019aed276877c1f5c90fa973f82a1cfd75", func := "bobbin/bobbinlaw03.DiskSome", spec := "diskSome", unfollowed := true, recurses := true, apart := false }
def DiskSomeSaid : Prop := diskSomeRow.holds Try.pinned (OpenSpec.ofChange diskSomeSpec)

/-- ITS FALSE NEIGHBOUR: 'it returns false'. Refute it at one input. -/
def diskSomeWrong : ChangeSpec := { name := "diskSome", fn := fun _ => fun
  | [d1, d2] => { results := [.lit (.bool false)], args := [d1, d2] }
  | _ => none }
def DiskSomeWrongFalsely : Prop := diskSomeRow.holds Try.pinned (OpenSpec.ofChange diskSomeWrong)

/-- 'bobbinlaw03.DiskDies': WHATEVER THE INPUT: true; the input reads as it did. -/
def diskDiesSpec : ChangeSpec := { name := "diskDies", fn := fun _ => fun
  | [d1, d2] => { results := [.lit (.bool true)], args := [d1, d2] }
  | _ => none }
def diskDiesRow : OpenClaim := { program := "ytghhmbagjhmgfaa", sum := "ebc154357e76e24cbcdd10ebddd5a9019aed276877c1f5c90fa973f82a1cfd75", func := "bobbin/bobbinlaw03.DiskDies", spec := "diskDies", unfollowed := true, recurses := true, apart := false }
def DiskDiesSaid : Prop := diskDiesRow.holds Try.pinned (OpenSpec.ofChange diskDiesSpec)

/-- ITS FALSE NEIGHBOUR: 'it returns false'. Refute it at one input. -/
def diskDiesWrong : ChangeSpec := { name := "diskDies", fn := fun _ => fun
  | [d1, d2] => { results := [.lit (.bool false)], args := [d1, d2] }
  | _ => none }
def DiskDiesWrongFalsely : Prop := diskDiesRow.holds Try.pinned (OpenSpec.ofChange diskDiesWrong)

/-- 'bobbinlaw03.DiskEnds': WHATEVER THE INPUT: true; the input reads as it did. -/
def diskEndsSpec : ChangeSpec := { name := "diskEnds", fn := fun _ => fun
  | [d1, d2] => { results := [.lit (.bool true)], args := [d1, d2] }
  | _ => none }
def diskEndsRow : OpenClaim := { program := "ytghhmbagjhmgfaa", sum := "ebc154357e76e24cbcdd10ebddd5a9019aed276877c1f5c90fa973f82a1cfd75", func := "bobbin/bobbinlaw03.DiskEnds", spec := "diskEnds", unfollowed := true, recurses := true, apart := false }
def DiskEndsSaid : Prop := diskEndsRow.holds Try.pinned (OpenSpec.ofChange diskEndsSpec)

/-- ITS FALSE NEIGHBOUR: 'it returns false'. Refute it at one input. -/
def diskEndsWrong : ChangeSpec := { name := "diskEnds", fn := fun _ => fun
  | [d1, d2] => { results := [.lit (.bool false)], args := [d1, d2] }
  | _ => none }
def DiskEndsWrongFalsely : Prop := diskEndsRow.holds Try.pinned (OpenSpec.ofChange diskEndsWrong)

/-- 'bobbinlaw03.DiskDoes': WHATEVER THE INPUT: true; the input reads as it did. -/
def diskDoesSpec : ChangeSpec := { name := "diskDoes", fn := fun _ => fun
  | [d1, d2] => { results := [.lit (.bool true)], args := [d1, d2] }
  | _ => none }
def diskDoesRow : OpenClaim := { program := "ytghhmbagjhmgfaa", sum := "ebc154357e76e24cbcdd10ebddd5a9019aed276877c1f5c90fa973f82a1cfd75", func := "bobbin/bobbinlaw03.DiskDoes", spec := "diskDoes", unfollowed := true, recurses := true, apart := false }
def DiskDoesSaid : Prop := diskDoesRow.holds Try.pinned (OpenSpec.ofChange diskDoesSpec)

/-- ITS FALSE NEIGHBOUR: 'it returns false'. Refute it at one input. -/
def diskDoesWrong : ChangeSpec := { name := "diskDoes", fn := fun _ => fun
  | [d1, d2] => { results := [.lit (.bool false)], args := [d1, d2] }
  | _ => none }
def DiskDoesWrongFalsely : Prop := diskDoesRow.holds Try.pinned (OpenSpec.ofChange diskDoesWrong)

/-- 'bobbinlaw03.DiskKeeps': WHATEVER THE INPUT: true; the input reads as it did. -/
def diskKeepsSpec : ChangeSpec := { name := "diskKeeps", fn := fun _ => fun
  | [d1, d2, d3, d4] => { results := [.lit (.bool true)], args := [d1, d2, d3, d4] }
  | _ => none }
def diskKeepsRow : OpenClaim := { program := "ytghhmbagjhmgfaa", sum := "ebc154357e76e24cbcdd10ebddd5a9019aed276877c1f5c90fa973f82a1cfd75", func := "bobbin/bobbinlaw03.DiskKeeps", spec := "diskKeeps", unfollowed := true, recurses := true, apart := false }
def DiskKeepsSaid : Prop := diskKeepsRow.holds Try.pinned (OpenSpec.ofChange diskKeepsSpec)

/-- ITS FALSE NEIGHBOUR: 'it returns false'. Refute it at one input. -/
def diskKeepsWrong : ChangeSpec := { name := "diskKeeps", fn := fun _ => fun
  | [d1, d2, d3, d4] => { results := [.lit (.bool false)], args := [d1, d2, d3, d4] }
  | _ => none }
def DiskKeepsWrongFalsely : Prop := diskKeepsRow.holds Try.pinned (OpenSpec.ofChange diskKeepsWrong)

/-- 'bobbinlaw03.DiskNone': WHATEVER THE INPUT: true; the input reads as it did. -/
def diskNoneSpec : ChangeSpec := { name := "diskNone", fn := fun _ => fun
  | [d1, d2] => { results := [.lit (.bool true)], args := [d1, d2] }
  | _ => none }
def diskNoneRow : OpenClaim := { program := "ytghhmbagjhmgfaa", sum := "ebc154357e76e24cbcdd10ebddd5a9019aed276877c1f5c90fa973f82a1cfd75", func := "bobbin/bobbinlaw03.DiskNone", spec := "diskNone", unfollowed := true, recurses := true, apart := false }
def DiskNoneSaid : Prop := diskNoneRow.holds Try.pinned (OpenSpec.ofChange diskNoneSpec)

/-- ITS FALSE NEIGHBOUR: 'it returns false'. Refute it at one input. -/
def diskNoneWrong : ChangeSpec := { name := "diskNone", fn := fun _ => fun
  | [d1, d2] => { results := [.lit (.bool false)], args := [d1, d2] }
  | _ => none }
def DiskNoneWrongFalsely : Prop := diskNoneRow.holds Try.pinned (OpenSpec.ofChange diskNoneWrong)

/- THE SECOND FORM. 'bulk': how many values and letters a reading holds, each counted each time it is reached (what is shared counts as often as it is met; a slice's spare places count too). A statement '..UptoSaid' is the law's where the arguments, and the package variables that the reading takes, are together of bulk at most 1048576: NARROWER than '..Said'. Prove '..Said' where nothing that the law and all that it calls make is longer than what came in: it says more and counts as full. Else prove '..UptoSaid'. A law counts once. -/
mutual
def uptoBulk {H : Type} : DataW H → Nat
  | .lit (.string bytes) => bytes.length + 1
  | .lit _ => 1
  | .nil => 1
  | .ptr d => uptoBulk d + 1
  | .slice elems spare => uptoBulkAll elems + uptoBulkAll spare + 1
  | .agg parts => uptoBulkAll parts + 1
  | .iface _ d => uptoBulk d + 1
  | .map entries => uptoBulkEntries entries + 1
  | .held _ => 1
def uptoBulkAll {H : Type} : List (DataW H) → Nat
  | [] => 0
  | d :: r => uptoBulk d + uptoBulkAll r
def uptoBulkEntries {H : Type} : List (Lit × DataW H) → Nat
  | [] => 0
  | x :: r => uptoBulkEntry x + uptoBulkEntries r
def uptoBulkEntry {H : Type} : Lit × DataW H → Nat
  | (.string bytes, d) => bytes.length + uptoBulk d + 1
  | (_, d) => uptoBulk d + 1
 end
def uptoSmall : (H : Type) → List (DataW H) → Bool := fun _ ds => decide (uptoBulkAll ds ≤ 1048576)
def OpenSpec.upto (s : _root_.Go.ChangeSpec) : _root_.Go.OpenSpec := { _root_.Go.OpenSpec.ofChange s with cond := some uptoSmall }

/-- 'bobbinlaw03.DiskSome', WHERE WHAT IT READS IS OF BULK AT MOST 1048576: true; the input reads as it did. -/
def diskSomeUptoRow : OpenClaim := { program := "ytghhmbagjhmgfaa", sum := "ebc154357e76e24cbcdd10ebddd5a9019aed276877c1f5c90fa973f82a1cfd75", func := "bobbin/bobbinlaw03.DiskSome", spec := "diskSome", unfollowed := true, recurses := true, apart := false, narrowed := true }
def DiskSomeUptoSaid : Prop := diskSomeUptoRow.holds Try.pinned (OpenSpec.upto diskSomeSpec)

/-- 'bobbinlaw03.DiskDies', WHERE WHAT IT READS IS OF BULK AT MOST 1048576: true; the input reads as it did. -/
def diskDiesUptoRow : OpenClaim := { program := "ytghhmbagjhmgfaa", sum := "ebc154357e76e24cbcdd10ebddd5a9019aed276877c1f5c90fa973f82a1cfd75", func := "bobbin/bobbinlaw03.DiskDies", spec := "diskDies", unfollowed := true, recurses := true, apart := false, narrowed := true }
def DiskDiesUptoSaid : Prop := diskDiesUptoRow.holds Try.pinned (OpenSpec.upto diskDiesSpec)

/-- 'bobbinlaw03.DiskEnds', WHERE WHAT IT READS IS OF BULK AT MOST 1048576: true; the input reads as it did. -/
def diskEndsUptoRow : OpenClaim := { program := "ytghhmbagjhmgfaa", sum := "ebc154357e76e24cbcdd10ebddd5a9019aed276877c1f5c90fa973f82a1cfd75", func := "bobbin/bobbinlaw03.DiskEnds", spec := "diskEnds", unfollowed := true, recurses := true, apart := false, narrowed := true }
def DiskEndsUptoSaid : Prop := diskEndsUptoRow.holds Try.pinned (OpenSpec.upto diskEndsSpec)

/-- 'bobbinlaw03.DiskDoes', WHERE WHAT IT READS IS OF BULK AT MOST 1048576: true; the input reads as it did. -/
def diskDoesUptoRow : OpenClaim := { program := "ytghhmbagjhmgfaa", sum := "ebc154357e76e24cbcdd10ebddd5a9019aed276877c1f5c90fa973f82a1cfd75", func := "bobbin/bobbinlaw03.DiskDoes", spec := "diskDoes", unfollowed := true, recurses := true, apart := false, narrowed := true }
def DiskDoesUptoSaid : Prop := diskDoesUptoRow.holds Try.pinned (OpenSpec.upto diskDoesSpec)

/-- 'bobbinlaw03.DiskKeeps', WHERE WHAT IT READS IS OF BULK AT MOST 1048576: true; the input reads as it did. -/
def diskKeepsUptoRow : OpenClaim := { program := "ytghhmbagjhmgfaa", sum := "ebc154357e76e24cbcdd10ebddd5a9019aed276877c1f5c90fa973f82a1cfd75", func := "bobbin/bobbinlaw03.DiskKeeps", spec := "diskKeeps", unfollowed := true, recurses := true, apart := false, narrowed := true }
def DiskKeepsUptoSaid : Prop := diskKeepsUptoRow.holds Try.pinned (OpenSpec.upto diskKeepsSpec)

/-- 'bobbinlaw03.DiskNone', WHERE WHAT IT READS IS OF BULK AT MOST 1048576: true; the input reads as it did. -/
def diskNoneUptoRow : OpenClaim := { program := "ytghhmbagjhmgfaa", sum := "ebc154357e76e24cbcdd10ebddd5a9019aed276877c1f5c90fa973f82a1cfd75", func := "bobbin/bobbinlaw03.DiskNone", spec := "diskNone", unfollowed := true, recurses := true, apart := false, narrowed := true }
def DiskNoneUptoSaid : Prop := diskNoneUptoRow.holds Try.pinned (OpenSpec.upto diskNoneSpec)

end Rows
end Go.Proofs.Ytghhmbagjhmgfaa
