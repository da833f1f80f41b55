/-
  No cell of these rows narrows 'for every input' (looked for: loops, veiled, ifaces, maps, wideKeys, modest, calm, conditions, laid).
  DERIVED. THE GIVEN ROWS OF THIS SEAT. 7 by the template 'for every input the law returns true; each argument reads behind the call as it read before'; 0 by the template 'total and deterministic' (their statements: YtdbbibndjknafaaTotals.lean).
  GIVEN WITH THE SEED: the statements are not yours to turn. If you find one false, say at which input.
  Laid BY PROGRAM, IN A SANDBOX (cutbox-rows.mjs): the forced cells as the released guide's own fill.sh prints them over the translation 2d51666277bedfdb… (all of the seat's roots in one cut). By AI agents, Wed Nov 11 2026. No macro, syntax, notation, axiom, sorry.
-/
import Derived.Test.YtdbbibndjknafaaChecked
import GoSem.Claim
import GoSem.ClaimJoined
import GoSem.ClaimMapViews
import Derived.JoinedTies
import Derived.KernelRfl
namespace Go.Proofs.Ytdbbibndjknafaa
/- THE CELL 'sum', in the pinned program and in every row, IS THE sha256 OF THE DUMP (.gsa) THAT YtdbbibndjknafaaProg.lean LOADS. Nothing in Lean hashes anything: it is a label: what it is worth is what the hold of that sum in a sandbox is worth. -/
noncomputable def Try.pinned : Pinned := { name := "ytdbbibndjknafaa", sum := "2d51666277bedfdbc985ab796c4c9b01d6f0fc2b52ad60f000684bd926abc396", checked := Try.checked }
namespace Rows
def none {H : Type} : Left H := { results := [], args := [] }

/-- 'bobbinlaw14.TxnTells': WHATEVER THE INPUT: true; the input reads as it did. -/
def txnTellsSpec : ChangeSpec := { name := "txnTells", fn := fun _ => fun
  | [d1, d2, d3] => { results := [.lit (.bool true)], args := [d1, d2, d3] }
  | _ => none }
def txnTellsRow : OpenClaim := { program := "ytdbbibndjknafaa", sum := "2d51666277bedfdbc985ab796c4c9b01d6f0fc2b52ad60f000684bd926abc396", func := "bobbin/bobbinlaw14.TxnTells", spec := "txnTells", unfollowed := true, recurses := true, apart := false }
def TxnTellsSaid : Prop := txnTellsRow.holds Try.pinned (OpenSpec.ofChange txnTellsSpec)

/-- ITS FALSE NEIGHBOUR: 'it returns false'. Refute it at one input. -/
def txnTellsWrong : ChangeSpec := { name := "txnTells", fn := fun _ => fun
  | [d1, d2, d3] => { results := [.lit (.bool false)], args := [d1, d2, d3] }
  | _ => none }
def TxnTellsWrongFalsely : Prop := txnTellsRow.holds Try.pinned (OpenSpec.ofChange txnTellsWrong)

/-- 'bobbinlaw14.TxnKept': WHATEVER THE INPUT: true; the input reads as it did. -/
def txnKeptSpec : ChangeSpec := { name := "txnKept", fn := fun _ => fun
  | [d1, d2, d3] => { results := [.lit (.bool true)], args := [d1, d2, d3] }
  | _ => none }
def txnKeptRow : OpenClaim := { program := "ytdbbibndjknafaa", sum := "2d51666277bedfdbc985ab796c4c9b01d6f0fc2b52ad60f000684bd926abc396", func := "bobbin/bobbinlaw14.TxnKept", spec := "txnKept", unfollowed := true, recurses := true, apart := false }
def TxnKeptSaid : Prop := txnKeptRow.holds Try.pinned (OpenSpec.ofChange txnKeptSpec)

/-- ITS FALSE NEIGHBOUR: 'it returns false'. Refute it at one input. -/
def txnKeptWrong : ChangeSpec := { name := "txnKept", fn := fun _ => fun
  | [d1, d2, d3] => { results := [.lit (.bool false)], args := [d1, d2, d3] }
  | _ => none }
def TxnKeptWrongFalsely : Prop := txnKeptRow.holds Try.pinned (OpenSpec.ofChange txnKeptWrong)

/-- 'bobbinlaw14.TxnBack': WHATEVER THE INPUT: true; the input reads as it did. -/
def txnBackSpec : ChangeSpec := { name := "txnBack", fn := fun _ => fun
  | [d1, d2] => { results := [.lit (.bool true)], args := [d1, d2] }
  | _ => none }
def txnBackRow : OpenClaim := { program := "ytdbbibndjknafaa", sum := "2d51666277bedfdbc985ab796c4c9b01d6f0fc2b52ad60f000684bd926abc396", func := "bobbin/bobbinlaw14.TxnBack", spec := "txnBack", unfollowed := true, recurses := true, apart := false }
def TxnBackSaid : Prop := txnBackRow.holds Try.pinned (OpenSpec.ofChange txnBackSpec)

/-- ITS FALSE NEIGHBOUR: 'it returns false'. Refute it at one input. -/
def txnBackWrong : ChangeSpec := { name := "txnBack", fn := fun _ => fun
  | [d1, d2] => { results := [.lit (.bool false)], args := [d1, d2] }
  | _ => none }
def TxnBackWrongFalsely : Prop := txnBackRow.holds Try.pinned (OpenSpec.ofChange txnBackWrong)

/-- 'bobbinlaw14.TxnSaves': WHATEVER THE INPUT: true; the input reads as it did. -/
def txnSavesSpec : ChangeSpec := { name := "txnSaves", fn := fun _ => fun
  | [d1, d2] => { results := [.lit (.bool true)], args := [d1, d2] }
  | _ => none }
def txnSavesRow : OpenClaim := { program := "ytdbbibndjknafaa", sum := "2d51666277bedfdbc985ab796c4c9b01d6f0fc2b52ad60f000684bd926abc396", func := "bobbin/bobbinlaw14.TxnSaves", spec := "txnSaves", unfollowed := true, recurses := true, apart := false }
def TxnSavesSaid : Prop := txnSavesRow.holds Try.pinned (OpenSpec.ofChange txnSavesSpec)

/-- ITS FALSE NEIGHBOUR: 'it returns false'. Refute it at one input. -/
def txnSavesWrong : ChangeSpec := { name := "txnSaves", fn := fun _ => fun
  | [d1, d2] => { results := [.lit (.bool false)], args := [d1, d2] }
  | _ => none }
def TxnSavesWrongFalsely : Prop := txnSavesRow.holds Try.pinned (OpenSpec.ofChange txnSavesWrong)

/-- 'bobbinlaw14.TxnRoom': WHATEVER THE INPUT: true; the input reads as it did. -/
def txnRoomSpec : ChangeSpec := { name := "txnRoom", fn := fun _ => fun
  | [d1, d2] => { results := [.lit (.bool true)], args := [d1, d2] }
  | _ => none }
def txnRoomRow : OpenClaim := { program := "ytdbbibndjknafaa", sum := "2d51666277bedfdbc985ab796c4c9b01d6f0fc2b52ad60f000684bd926abc396", func := "bobbin/bobbinlaw14.TxnRoom", spec := "txnRoom", unfollowed := true, recurses := true, apart := false }
def TxnRoomSaid : Prop := txnRoomRow.holds Try.pinned (OpenSpec.ofChange txnRoomSpec)

/-- ITS FALSE NEIGHBOUR: 'it returns false'. Refute it at one input. -/
def txnRoomWrong : ChangeSpec := { name := "txnRoom", fn := fun _ => fun
  | [d1, d2] => { results := [.lit (.bool false)], args := [d1, d2] }
  | _ => none }
def TxnRoomWrongFalsely : Prop := txnRoomRow.holds Try.pinned (OpenSpec.ofChange txnRoomWrong)

/-- 'bobbinlaw14.TxnAdds': WHATEVER THE INPUT: true; the input reads as it did. -/
def txnAddsSpec : ChangeSpec := { name := "txnAdds", fn := fun _ => fun
  | [d1, d2, d3, d4] => { results := [.lit (.bool true)], args := [d1, d2, d3, d4] }
  | _ => none }
def txnAddsRow : OpenClaim := { program := "ytdbbibndjknafaa", sum := "2d51666277bedfdbc985ab796c4c9b01d6f0fc2b52ad60f000684bd926abc396", func := "bobbin/bobbinlaw14.TxnAdds", spec := "txnAdds", unfollowed := true, recurses := true, apart := false }
def TxnAddsSaid : Prop := txnAddsRow.holds Try.pinned (OpenSpec.ofChange txnAddsSpec)

/-- ITS FALSE NEIGHBOUR: 'it returns false'. Refute it at one input. -/
def txnAddsWrong : ChangeSpec := { name := "txnAdds", fn := fun _ => fun
  | [d1, d2, d3, d4] => { results := [.lit (.bool false)], args := [d1, d2, d3, d4] }
  | _ => none }
def TxnAddsWrongFalsely : Prop := txnAddsRow.holds Try.pinned (OpenSpec.ofChange txnAddsWrong)

/-- 'bobbinlaw14.TxnOwn': WHATEVER THE INPUT: true; the input reads as it did. -/
def txnOwnSpec : ChangeSpec := { name := "txnOwn", fn := fun _ => fun
  | [d1, d2] => { results := [.lit (.bool true)], args := [d1, d2] }
  | _ => none }
def txnOwnRow : OpenClaim := { program := "ytdbbibndjknafaa", sum := "2d51666277bedfdbc985ab796c4c9b01d6f0fc2b52ad60f000684bd926abc396", func := "bobbin/bobbinlaw14.TxnOwn", spec := "txnOwn", unfollowed := true, recurses := true, apart := false }
def TxnOwnSaid : Prop := txnOwnRow.holds Try.pinned (OpenSpec.ofChange txnOwnSpec)

/-- ITS FALSE NEIGHBOUR: 'it returns false'. Refute it at one input. -/
def txnOwnWrong : ChangeSpec := { name := "txnOwn", fn := fun _ => fun
  | [d1, d2] => { results := [.lit (.bool false)], args := [d1, d2] }
  | _ => none }
def TxnOwnWrongFalsely : Prop := txnOwnRow.holds Try.pinned (OpenSpec.ofChange txnOwnWrong)

/- THE SECOND FORM. 'bulk': how many values and letters a reading holds, each counted each time it is reached (what is shared counts as often as it is met; a slice's spare places count too). A statement '..UptoSaid' is the law's where the arguments, and the package variables that the reading takes, are together of bulk at most 1048576: NARROWER than '..Said'. Prove '..Said' where nothing that the law and all that it calls make is longer than what came in: it says more and counts as full. Else prove '..UptoSaid'. A law counts once. -/
mutual
def uptoBulk {H : Type} : DataW H → Nat
  | .lit (.string bytes) => bytes.length + 1
  | .lit _ => 1
  | .nil => 1
  | .ptr d => uptoBulk d + 1
  | .slice elems spare => uptoBulkAll elems + uptoBulkAll spare + 1
  | .agg parts => uptoBulkAll parts + 1
  | .iface _ d => uptoBulk d + 1
  | .map entries => uptoBulkEntries entries + 1
  | .held _ => 1
def uptoBulkAll {H : Type} : List (DataW H) → Nat
  | [] => 0
  | d :: r => uptoBulk d + uptoBulkAll r
def uptoBulkEntries {H : Type} : List (Lit × DataW H) → Nat
  | [] => 0
  | x :: r => uptoBulkEntry x + uptoBulkEntries r
def uptoBulkEntry {H : Type} : Lit × DataW H → Nat
  | (.string bytes, d) => bytes.length + uptoBulk d + 1
  | (_, d) => uptoBulk d + 1
 end
def uptoSmall : (H : Type) → List (DataW H) → Bool := fun _ ds => decide (uptoBulkAll ds ≤ 1048576)
def OpenSpec.upto (s : _root_.Go.ChangeSpec) : _root_.Go.OpenSpec := { _root_.Go.OpenSpec.ofChange s with cond := some uptoSmall }

/-- 'bobbinlaw14.TxnTells', WHERE WHAT IT READS IS OF BULK AT MOST 1048576: true; the input reads as it did. -/
def txnTellsUptoRow : OpenClaim := { program := "ytdbbibndjknafaa", sum := "2d51666277bedfdbc985ab796c4c9b01d6f0fc2b52ad60f000684bd926abc396", func := "bobbin/bobbinlaw14.TxnTells", spec := "txnTells", unfollowed := true, recurses := true, apart := false, narrowed := true }
def TxnTellsUptoSaid : Prop := txnTellsUptoRow.holds Try.pinned (OpenSpec.upto txnTellsSpec)

/-- 'bobbinlaw14.TxnKept', WHERE WHAT IT READS IS OF BULK AT MOST 1048576: true; the input reads as it did. -/
def txnKeptUptoRow : OpenClaim := { program := "ytdbbibndjknafaa", sum := "2d51666277bedfdbc985ab796c4c9b01d6f0fc2b52ad60f000684bd926abc396", func := "bobbin/bobbinlaw14.TxnKept", spec := "txnKept", unfollowed := true, recurses := true, apart := false, narrowed := true }
def TxnKeptUptoSaid : Prop := txnKeptUptoRow.holds Try.pinned (OpenSpec.upto txnKeptSpec)

/-- 'bobbinlaw14.TxnBack', WHERE WHAT IT READS IS OF BULK AT MOST 1048576: true; the input reads as it did. -/
def txnBackUptoRow : OpenClaim := { program := "ytdbbibndjknafaa", sum := "2d51666277bedfdbc985ab796c4c9b01d6f0fc2b52ad60f000684bd926abc396", func := "bobbin/bobbinlaw14.TxnBack", spec := "txnBack", unfollowed := true, recurses := true, apart := false, narrowed := true }
def TxnBackUptoSaid : Prop := txnBackUptoRow.holds Try.pinned (OpenSpec.upto txnBackSpec)

/-- 'bobbinlaw14.TxnSaves', WHERE WHAT IT READS IS OF BULK AT MOST 1048576: true; the input reads as it did. -/
def txnSavesUptoRow : OpenClaim := { program := "ytdbbibndjknafaa", sum := "2d51666277bedfdbc985ab796c4c9b01d6f0fc2b52ad60f000684bd926abc396", func := "bobbin/bobbinlaw14.TxnSaves", spec := "txnSaves", unfollowed := true, recurses := true, apart := false, narrowed := true }
def TxnSavesUptoSaid : Prop := txnSavesUptoRow.holds Try.pinned (OpenSpec.upto txnSavesSpec)

/-- 'bobbinlaw14.TxnRoom', WHERE WHAT IT READS IS OF BULK AT MOST 1048576: true; the input reads as it did. -/
def txnRoomUptoRow : OpenClaim := { program := "ytdbbibndjknafaa", sum := "2d51666277bedfdbc985ab796c4c9b01d6f0fc2b52ad60f000684bd926abc396", func := "bobbin/bobbinlaw14.TxnRoom", spec := "txnRoom", unfollowed := true, recurses := true, apart := false, narrowed := true }
def TxnRoomUptoSaid : Prop := txnRoomUptoRow.holds Try.pinned (OpenSpec.upto txnRoomSpec)

/-- 'bobbinlaw14.TxnAdds', WHERE WHAT IT READS IS OF BULK AT MOST 1048576: true; the input reads as it did. -/
def txnAddsUptoRow : OpenClaim := { program := "ytdbbibndjknafaa", sum := "2d51666277bedfdbc985ab796c4c9b01d6f0fc2b52ad60f000684bd926abc396", func := "bobbin/bobbinlaw14.TxnAdds", spec := "txnAdds", unfollowed := true, recurses := true, apart := false, narrowed := true }
def TxnAddsUptoSaid : Prop := txnAddsUptoRow.holds Try.pinned (OpenSpec.upto txnAddsSpec)

/-- 'bobbinlaw14.TxnOwn', WHERE WHAT IT READS IS OF BULK AT MOST 1048576: true; the input reads as it did. -/
def txnOwnUptoRow : OpenClaim := { program := "ytdbbibndjknafaa", sum := "2d51666277bedfdbc985ab796c4c9b01d6f0fc2b52ad60f000684bd926abc396", func := "bobbin/bobbinlaw14.TxnOwn", spec := "txnOwn", unfollowed := true, recurses := true, apart := false, narrowed := true }
def TxnOwnUptoSaid : Prop := txnOwnUptoRow.holds Try.pinned (OpenSpec.upto txnOwnSpec)

end Rows
end Go.Proofs.Ytdbbibndjknafaa
