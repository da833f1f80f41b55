/-
  No cell of these rows narrows 'for every input' (looked for: loops, veiled, ifaces, maps, wideKeys, modest, calm, conditions, laid).
  DERIVED. THE GIVEN ROWS OF THIS SEAT. 5 by the template 'for every input the law returns true; each argument reads behind the call as it read before'; 0 by the template 'total and deterministic' (their statements: YtoklljioloekmaaTotals.lean).
  GIVEN WITH THE SEED: the statements are not yours to turn. If you find one false, say at which input.
  Laid BY PROGRAM, IN A SANDBOX (cutbox-rows.mjs): the forced cells as the released guide's own fill.sh prints them over the translation 332d351752f05a03… (all of the seat's roots in one cut). By AI agents, Wed Nov 11 2026. No macro, syntax, notation, axiom, sorry.
-/
import Derived.Test.YtoklljioloekmaaChecked
import GoSem.Claim
import GoSem.ClaimJoined
import GoSem.ClaimMapViews
import Derived.JoinedTies
import Derived.KernelRfl
namespace Go.Proofs.Ytoklljioloekmaa
/- THE CELL 'sum', in the pinned program and in every row, IS THE sha256 OF THE DUMP (.gsa) THAT YtoklljioloekmaaProg.lean LOADS. Nothing in Lean hashes anything: it is a label: what it is worth is what the hold of that sum in a sandbox is worth. -/
noncomputable def Try.pinned : Pinned := { name := "ytoklljioloekmaa", sum := "332d351752f05a032129487967019103ae77eb54f250190d01a77519538bb8b3", checked := Try.checked }
namespace Rows
def none {H : Type} : Left H := { results := [], args := [] }

/-- 'bobbinlaw16.ClockStays': WHATEVER THE INPUT: true; the input reads as it did. -/
def clockStaysSpec : ChangeSpec := { name := "clockStays", fn := fun _ => fun
  | [d1, d2, d3] => { results := [.lit (.bool true)], args := [d1, d2, d3] }
  | _ => none }
def clockStaysRow : OpenClaim := { program := "ytoklljioloekmaa", sum := "332d351752f05a032129487967019103ae77eb54f250190d01a77519538bb8b3", func := "bobbin/bobbinlaw16.ClockStays", spec := "clockStays", unfollowed := true, recurses := true, apart := false }
def ClockStaysSaid : Prop := clockStaysRow.holds Try.pinned (OpenSpec.ofChange clockStaysSpec)

/-- ITS FALSE NEIGHBOUR: 'it returns false'. Refute it at one input. -/
def clockStaysWrong : ChangeSpec := { name := "clockStays", fn := fun _ => fun
  | [d1, d2, d3] => { results := [.lit (.bool false)], args := [d1, d2, d3] }
  | _ => none }
def ClockStaysWrongFalsely : Prop := clockStaysRow.holds Try.pinned (OpenSpec.ofChange clockStaysWrong)

/-- 'bobbinlaw16.ClockOld': WHATEVER THE INPUT: true; the input reads as it did. -/
def clockOldSpec : ChangeSpec := { name := "clockOld", fn := fun _ => fun
  | [d1, d2, d3] => { results := [.lit (.bool true)], args := [d1, d2, d3] }
  | _ => none }
def clockOldRow : OpenClaim := { program := "ytoklljioloekmaa", sum := "332d351752f05a032129487967019103ae77eb54f250190d01a77519538bb8b3", func := "bobbin/bobbinlaw16.ClockOld", spec := "clockOld", unfollowed := true, recurses := true, apart := false }
def ClockOldSaid : Prop := clockOldRow.holds Try.pinned (OpenSpec.ofChange clockOldSpec)

/-- ITS FALSE NEIGHBOUR: 'it returns false'. Refute it at one input. -/
def clockOldWrong : ChangeSpec := { name := "clockOld", fn := fun _ => fun
  | [d1, d2, d3] => { results := [.lit (.bool false)], args := [d1, d2, d3] }
  | _ => none }
def ClockOldWrongFalsely : Prop := clockOldRow.holds Try.pinned (OpenSpec.ofChange clockOldWrong)

/-- 'bobbinlaw16.ClockRound': WHATEVER THE INPUT: true; the input reads as it did. -/
def clockRoundSpec : ChangeSpec := { name := "clockRound", fn := fun _ => fun
  | [d1, d2] => { results := [.lit (.bool true)], args := [d1, d2] }
  | _ => none }
def clockRoundRow : OpenClaim := { program := "ytoklljioloekmaa", sum := "332d351752f05a032129487967019103ae77eb54f250190d01a77519538bb8b3", func := "bobbin/bobbinlaw16.ClockRound", spec := "clockRound", unfollowed := true, recurses := true, apart := false }
def ClockRoundSaid : Prop := clockRoundRow.holds Try.pinned (OpenSpec.ofChange clockRoundSpec)

/-- ITS FALSE NEIGHBOUR: 'it returns false'. Refute it at one input. -/
def clockRoundWrong : ChangeSpec := { name := "clockRound", fn := fun _ => fun
  | [d1, d2] => { results := [.lit (.bool false)], args := [d1, d2] }
  | _ => none }
def ClockRoundWrongFalsely : Prop := clockRoundRow.holds Try.pinned (OpenSpec.ofChange clockRoundWrong)

/-- 'bobbinlaw16.ClockTells': WHATEVER THE INPUT: true; the input reads as it did. -/
def clockTellsSpec : ChangeSpec := { name := "clockTells", fn := fun _ => fun
  | [d1, d2, d3, d4] => { results := [.lit (.bool true)], args := [d1, d2, d3, d4] }
  | _ => none }
def clockTellsRow : OpenClaim := { program := "ytoklljioloekmaa", sum := "332d351752f05a032129487967019103ae77eb54f250190d01a77519538bb8b3", func := "bobbin/bobbinlaw16.ClockTells", spec := "clockTells", unfollowed := true, recurses := true, apart := false }
def ClockTellsSaid : Prop := clockTellsRow.holds Try.pinned (OpenSpec.ofChange clockTellsSpec)

/-- ITS FALSE NEIGHBOUR: 'it returns false'. Refute it at one input. -/
def clockTellsWrong : ChangeSpec := { name := "clockTells", fn := fun _ => fun
  | [d1, d2, d3, d4] => { results := [.lit (.bool false)], args := [d1, d2, d3, d4] }
  | _ => none }
def ClockTellsWrongFalsely : Prop := clockTellsRow.holds Try.pinned (OpenSpec.ofChange clockTellsWrong)

/-- 'bobbinlaw16.ClockTouches': WHATEVER THE INPUT: true; the input reads as it did. -/
def clockTouchesSpec : ChangeSpec := { name := "clockTouches", fn := fun _ => fun
  | [d1, d2, d3] => { results := [.lit (.bool true)], args := [d1, d2, d3] }
  | _ => none }
def clockTouchesRow : OpenClaim := { program := "ytoklljioloekmaa", sum := "332d351752f05a032129487967019103ae77eb54f250190d01a77519538bb8b3", func := "bobbin/bobbinlaw16.ClockTouches", spec := "clockTouches", unfollowed := true, recurses := true, apart := false }
def ClockTouchesSaid : Prop := clockTouchesRow.holds Try.pinned (OpenSpec.ofChange clockTouchesSpec)

/-- ITS FALSE NEIGHBOUR: 'it returns false'. Refute it at one input. -/
def clockTouchesWrong : ChangeSpec := { name := "clockTouches", fn := fun _ => fun
  | [d1, d2, d3] => { results := [.lit (.bool false)], args := [d1, d2, d3] }
  | _ => none }
def ClockTouchesWrongFalsely : Prop := clockTouchesRow.holds Try.pinned (OpenSpec.ofChange clockTouchesWrong)

/- THE SECOND FORM. 'bulk': how many values and letters a reading holds, each counted each time it is reached (what is shared counts as often as it is met; a slice's spare places count too). A statement '..UptoSaid' is the law's where the arguments, and the package variables that the reading takes, are together of bulk at most 1048576: NARROWER than '..Said'. Prove '..Said' where nothing that the law and all that it calls make is longer than what came in: it says more and counts as full. Else prove '..UptoSaid'. A law counts once. -/
mutual
def uptoBulk {H : Type} : DataW H → Nat
  | .lit (.string bytes) => bytes.length + 1
  | .lit _ => 1
  | .nil => 1
  | .ptr d => uptoBulk d + 1
  | .slice elems spare => uptoBulkAll elems + uptoBulkAll spare + 1
  | .agg parts => uptoBulkAll parts + 1
  | .iface _ d => uptoBulk d + 1
  | .map entries => uptoBulkEntries entries + 1
  | .held _ => 1
def uptoBulkAll {H : Type} : List (DataW H) → Nat
  | [] => 0
  | d :: r => uptoBulk d + uptoBulkAll r
def uptoBulkEntries {H : Type} : List (Lit × DataW H) → Nat
  | [] => 0
  | x :: r => uptoBulkEntry x + uptoBulkEntries r
def uptoBulkEntry {H : Type} : Lit × DataW H → Nat
  | (.string bytes, d) => bytes.length + uptoBulk d + 1
  | (_, d) => uptoBulk d + 1
 end
def uptoSmall : (H : Type) → List (DataW H) → Bool := fun _ ds => decide (uptoBulkAll ds ≤ 1048576)
def OpenSpec.upto (s : _root_.Go.ChangeSpec) : _root_.Go.OpenSpec := { _root_.Go.OpenSpec.ofChange s with cond := some uptoSmall }

/-- 'bobbinlaw16.ClockStays', WHERE WHAT IT READS IS OF BULK AT MOST 1048576: true; the input reads as it did. -/
def clockStaysUptoRow : OpenClaim := { program := "ytoklljioloekmaa", sum := "332d351752f05a032129487967019103ae77eb54f250190d01a77519538bb8b3", func := "bobbin/bobbinlaw16.ClockStays", spec := "clockStays", unfollowed := true, recurses := true, apart := false, narrowed := true }
def ClockStaysUptoSaid : Prop := clockStaysUptoRow.holds Try.pinned (OpenSpec.upto clockStaysSpec)

/-- 'bobbinlaw16.ClockOld', WHERE WHAT IT READS IS OF BULK AT MOST 1048576: true; the input reads as it did. -/
def clockOldUptoRow : OpenClaim := { program := "ytoklljioloekmaa", sum := "332d351752f05a032129487967019103ae77eb54f250190d01a77519538bb8b3", func := "bobbin/bobbinlaw16.ClockOld", spec := "clockOld", unfollowed := true, recurses := true, apart := false, narrowed := true }
def ClockOldUptoSaid : Prop := clockOldUptoRow.holds Try.pinned (OpenSpec.upto clockOldSpec)

/-- 'bobbinlaw16.ClockRound', WHERE WHAT IT READS IS OF BULK AT MOST 1048576: true; the input reads as it did. -/
def clockRoundUptoRow : OpenClaim := { program := "ytoklljioloekmaa", sum := "332d351752f05a032129487967019103ae77eb54f250190d01a77519538bb8b3", func := "bobbin/bobbinlaw16.ClockRound", spec := "clockRound", unfollowed := true, recurses := true, apart := false, narrowed := true }
def ClockRoundUptoSaid : Prop := clockRoundUptoRow.holds Try.pinned (OpenSpec.upto clockRoundSpec)

/-- 'bobbinlaw16.ClockTells', WHERE WHAT IT READS IS OF BULK AT MOST 1048576: true; the input reads as it did. -/
def clockTellsUptoRow : OpenClaim := { program := "ytoklljioloekmaa", sum := "332d351752f05a032129487967019103ae77eb54f250190d01a77519538bb8b3", func := "bobbin/bobbinlaw16.ClockTells", spec := "clockTells", unfollowed := true, recurses := true, apart := false, narrowed := true }
def ClockTellsUptoSaid : Prop := clockTellsUptoRow.holds Try.pinned (OpenSpec.upto clockTellsSpec)

/-- 'bobbinlaw16.ClockTouches', WHERE WHAT IT READS IS OF BULK AT MOST 1048576: true; the input reads as it did. -/
def clockTouchesUptoRow : OpenClaim := { program := "ytoklljioloekmaa", sum := "332d351752f05a032129487967019103ae77eb54f250190d01a77519538bb8b3", func := "bobbin/bobbinlaw16.ClockTouches", spec := "clockTouches", unfollowed := true, recurses := true, apart := false, narrowed := true }
def ClockTouchesUptoSaid : Prop := clockTouchesUptoRow.holds Try.pinned (OpenSpec.upto clockTouchesSpec)

end Rows
end Go.Proofs.Ytoklljioloekmaa
