-- Written by a program of this session (myprint.py over the kit's print.py) out of the translation. Not trusted: Lean checks it.
import Derived.Test.YtdbbibndjknafaaProg
import Derived.Below
import Derived.Deep.Draws
import Derived.Deep.AppendLies
import Derived.Maps.AppendAt
import Derived.OwnWalk
import Derived.Laws.BytesArg
import Derived.Laws.MakeOwn
import Derived.Laws.OwnMore
import Derived.Deep.OwnRows
import Derived.Tactics
import Derived.Lib.ConvBytes
import Derived.Laws.Slices
import Derived.WalkKit
import Derived.KernelRfl
import Derived.RowKit3
import Derived.Deep.LoopGhost
import Derived.Deep.QuietTactic
import Derived.BigQuiet
import Derived.WideLaws
import Derived.Deep.DeepCutAuto
import Derived.Deep.CutBlock
import Derived.Deep.RegionHeld3
import Derived.Laws.Rows
import Derived.Lib.AppendStr
import Derived.ArgAppend
import Derived.Laws.IdiomCopy
import Derived.OrdersHeld
import Derived.Laws.BitsLemmas
import Derived.RowKit
import Derived.WalkSpells
import Derived.WalkLawsBesides
import Derived.Laws.CopyOwn
import Derived.Test.YtdbbibndjknafaaBase
import Derived.Test.YtdbbibndjknafaaHandFrames
import Derived.Test.YtdbbibndjknafaaWWords
import Derived.Test.YtdbbibndjknafaaWLast
import Derived.Test.YtdbbibndjknafaaWTab
import Derived.Test.YtdbbibndjknafaaWFour
import Derived.Test.YtdbbibndjknafaaWQPut
import Derived.Test.YtdbbibndjknafaaWApart
import Derived.Test.YtdbbibndjknafaaWArr
import Derived.Test.YtdbbibndjknafaaWZeros
import Derived.Test.YtdbbibndjknafaaWFoot
import Derived.Test.YtdbbibndjknafaaWKept
import Derived.Test.YtdbbibndjknafaaWShare
import Derived.Test.YtdbbibndjknafaaWN
import Derived.Test.YtdbbibndjknafaaWFootNe
import Derived.Test.YtdbbibndjknafaaWAt
import Derived.Test.YtdbbibndjknafaaWEqStruct
import Derived.Test.YtdbbibndjknafaaWRepsOne
import Derived.Test.YtdbbibndjknafaaWInv
import Derived.Test.YtdbbibndjknafaaWInvWords
import Derived.Test.YtdbbibndjknafaaWGuard
import Derived.Test.YtdbbibndjknafaaWNEv
import Derived.Test.YtdbbibndjknafaaWMore
namespace Go.Proofs.Ytdbbibndjknafaa.Print
open Go.RowKit Go.Proofs.YtdbbibndjknafaaW.PrintWords Go.Proofs.YtdbbibndjknafaaW.PrintLast Go.Proofs.YtdbbibndjknafaaW.PrintMore
attribute [local go_sem] max2_int min2_int max_two min_two max_three min_three max_four min_four   -- for this text's walks alone
set_option linter.unusedVariables false
set_option linter.unusedSimpArgs false
def errW : Option Int → Value
  | none => .nilIface
  | some c => .iface 0 (.int .i64 c)
theorem errW_none : errW none = .nilIface := rfl
theorem errW_some (c : Int) : errW (some c) = .iface 0 (.int .i64 c) := rfl
theorem info3 : (Try.prog.info? 3).map (fun i => (i.zero, i.size, i.bytes)) = some (some (.int .i64 0), 1, 8) := by kernel_rfl
theorem info5 : (Try.prog.info? 5).map (fun i => (i.zero, i.size, i.bytes)) = some (some (.int .u8 0), 1, 1) := by kernel_rfl
theorem info30 : (Try.prog.info? 30).map (fun i => (i.zero, i.size, i.bytes)) = some (some (.agg #[(.int .i64 0), (.int .i64 0), (.int .i64 0), (.bool false), (.slice none 0 0), (.bool false), (.slice none 0 0)]), 7, 88) := by kernel_rfl
-- the values' own types
structure S28 where
  f0 : Bool
  f1 : (List Int)
def z28 : S28 := ⟨false, ([] : List Int)⟩
def k28 : Kd S28 := Kd.iso (Kd.pair Kd.bool (Kd.slice 5 (Kd.int .u8))) (fun x : S28 => (x.f0, x.f1))
theorem k28_open {w : World} {x : S28} {cs : List Value} (h : k28.K w x cs) : ∃ A1 c1, cs = [.bool x.f0, .slice A1 x.f1.length c1] ∧ x.f1.length ≤ c1 ∧ (Kd.int .u8).C w A1 x.f1.length x.f1 := by
  obtain ⟨_, _, rfl, rfl, ⟨A1, c1, rfl, l1, g1⟩⟩ := h
  exact ⟨A1, c1, rfl, l1, g1⟩
theorem k28_mk (w : World) (x : S28) {A1 : Option Addr} {c1 : Nat} (l1 : x.f1.length ≤ c1) (g1 : (Kd.int .u8).C w A1 x.f1.length x.f1) : k28.K w x [.bool x.f0, .slice A1 x.f1.length c1] := ⟨[.bool x.f0], [.slice A1 x.f1.length c1], rfl, rfl, ⟨A1, c1, rfl, l1, g1⟩⟩
structure S30 where
  f0 : Int
  f1 : Int
  f2 : Int
  f3 : S28
  f4 : S28
def z30 : S30 := ⟨(0 : Int), (0 : Int), (0 : Int), z28, z28⟩
def k30 : Kd S30 := Kd.iso (Kd.pair (Kd.int .i64) (Kd.pair (Kd.int .i64) (Kd.pair (Kd.int .i64) (Kd.pair k28 k28)))) (fun x : S30 => (x.f0, x.f1, x.f2, x.f3, x.f4))
theorem k30_open {w : World} {x : S30} {cs : List Value} (h : k30.K w x cs) : ∃ A4 c4 A6 c6, cs = [.int .i64 x.f0, .int .i64 x.f1, .int .i64 x.f2, .bool x.f3.f0, .slice A4 x.f3.f1.length c4, .bool x.f4.f0, .slice A6 x.f4.f1.length c6] ∧ x.f3.f1.length ≤ c4 ∧ (Kd.int .u8).C w A4 x.f3.f1.length x.f3.f1 ∧ x.f4.f1.length ≤ c6 ∧ (Kd.int .u8).C w A6 x.f4.f1.length x.f4.f1 := by
  obtain ⟨_, _, rfl, rfl, ⟨_, _, rfl, rfl, ⟨_, _, rfl, rfl, ⟨_, _, rfl, s3, s5⟩⟩⟩⟩ := h
  obtain ⟨A4, c4, rfl, l4, g4⟩ := k28_open s3
  obtain ⟨A6, c6, rfl, l6, g6⟩ := k28_open s5
  exact ⟨A4, c4, A6, c6, rfl, l4, g4, l6, g6⟩
theorem k30_mk (w : World) (x : S30) {A4 : Option Addr} {c4 : Nat} (l4 : x.f3.f1.length ≤ c4) (g4 : (Kd.int .u8).C w A4 x.f3.f1.length x.f3.f1) {A6 : Option Addr} {c6 : Nat} (l6 : x.f4.f1.length ≤ c6) (g6 : (Kd.int .u8).C w A6 x.f4.f1.length x.f4.f1) : k30.K w x [.int .i64 x.f0, .int .i64 x.f1, .int .i64 x.f2, .bool x.f3.f0, .slice A4 x.f3.f1.length c4, .bool x.f4.f0, .slice A6 x.f4.f1.length c6] := ⟨[.int .i64 x.f0], [.int .i64 x.f1, .int .i64 x.f2, .bool x.f3.f0, .slice A4 x.f3.f1.length c4, .bool x.f4.f0, .slice A6 x.f4.f1.length c6], rfl, rfl, ⟨[.int .i64 x.f1], [.int .i64 x.f2, .bool x.f3.f0, .slice A4 x.f3.f1.length c4, .bool x.f4.f0, .slice A6 x.f4.f1.length c6], rfl, rfl, ⟨[.int .i64 x.f2], [.bool x.f3.f0, .slice A4 x.f3.f1.length c4, .bool x.f4.f0, .slice A6 x.f4.f1.length c6], rfl, rfl, ⟨[.bool x.f3.f0, .slice A4 x.f3.f1.length c4], [.bool x.f4.f0, .slice A6 x.f4.f1.length c6], rfl, (k28_mk w x.f3 l4 g4), (k28_mk w x.f4 l6 g6)⟩⟩⟩⟩
theorem k30_openF {W : World} {ok : Nat → Prop} {x : S30} {cs : List Value} (h : Kd.FK k30 W ok x cs) : ∃ A4 c4 A6 c6, cs = [.int .i64 x.f0, .int .i64 x.f1, .int .i64 x.f2, .bool x.f3.f0, .slice A4 x.f3.f1.length c4, .bool x.f4.f0, .slice A6 x.f4.f1.length c6] ∧ x.f3.f1.length ≤ c4 ∧ Kd.F (Kd.int .u8) W ok A4 x.f3.f1.length x.f3.f1 ∧ x.f4.f1.length ≤ c6 ∧ Kd.F (Kd.int .u8) W ok A6 x.f4.f1.length x.f4.f1 := by
  obtain ⟨A4, c4, A6, c6, rfl, l4, _, l6, _⟩ := k30_open (Kd.FK_now h)
  exact ⟨A4, c4, A6, c6, rfl, l4, (fun W' hW => by obtain ⟨A4_, c4_, A6_, c6_, he, l4_, g4_, l6_, g6_⟩ := k30_open (h W' hW); injection (Option.some.inj (show some (Value.slice A4 x.f3.f1.length c4) = some (Value.slice A4_ x.f3.f1.length c4_) from congrArg (fun l => l[4]?) he)) with ha_ _ _; rw [ha_]; exact g4_), l6, (fun W' hW => by obtain ⟨A4_, c4_, A6_, c6_, he, l4_, g4_, l6_, g6_⟩ := k30_open (h W' hW); injection (Option.some.inj (show some (Value.slice A6 x.f4.f1.length c6) = some (Value.slice A6_ x.f4.f1.length c6_) from congrArg (fun l => l[6]?) he)) with ha_ _ _; rw [ha_]; exact g6_)⟩
theorem k30_mkF (W : World) (ok : Nat → Prop) (x : S30) {A4 : Option Addr} {c4 : Nat} (l4 : x.f3.f1.length ≤ c4) (g4 : Kd.F (Kd.int .u8) W ok A4 x.f3.f1.length x.f3.f1) {A6 : Option Addr} {c6 : Nat} (l6 : x.f4.f1.length ≤ c6) (g6 : Kd.F (Kd.int .u8) W ok A6 x.f4.f1.length x.f4.f1) : Kd.FK k30 W ok x [.int .i64 x.f0, .int .i64 x.f1, .int .i64 x.f2, .bool x.f3.f0, .slice A4 x.f3.f1.length c4, .bool x.f4.f0, .slice A6 x.f4.f1.length c6] := fun W2 hW => k30_mk W2 x l4 (g4 W2 hW) l6 (g6 W2 hW)
def rd_T30 (xs : List S30) (i : Int) : S30 := xs.getD i.toNat z30
theorem at_T30 {w : World} {A : Option Addr} {n : Nat} {xs : List S30} (h : Kd.C k30 w A n xs) (i : Int) (h0 : 0 ≤ i) (h1 : i < n) : ∃ ad A4 c4 A6 c6, A = some ad ∧ w.cell? (ad.add (i.toNat * 7)) = some (.int .i64 (rd_T30 xs i).f0) ∧ w.cell? ⟨(ad.add (i.toNat * 7)).block, (ad.add (i.toNat * 7)).off + 1, none⟩ = some (.int .i64 (rd_T30 xs i).f1) ∧ w.cell? ⟨(ad.add (i.toNat * 7)).block, (ad.add (i.toNat * 7)).off + 2, none⟩ = some (.int .i64 (rd_T30 xs i).f2) ∧ w.cell? ⟨(ad.add (i.toNat * 7)).block, (ad.add (i.toNat * 7)).off + 3, none⟩ = some (.bool (rd_T30 xs i).f3.f0) ∧ w.cell? ⟨(ad.add (i.toNat * 7)).block, (ad.add (i.toNat * 7)).off + 4, none⟩ = some (.slice A4 (rd_T30 xs i).f3.f1.length c4) ∧ w.cell? ⟨(ad.add (i.toNat * 7)).block, (ad.add (i.toNat * 7)).off + 5, none⟩ = some (.bool (rd_T30 xs i).f4.f0) ∧ w.cell? ⟨(ad.add (i.toNat * 7)).block, (ad.add (i.toNat * 7)).off + 6, none⟩ = some (.slice A6 (rd_T30 xs i).f4.f1.length c6) ∧ (rd_T30 xs i).f3.f1.length ≤ c4 ∧ (Kd.int .u8).C w A4 (rd_T30 xs i).f3.f1.length (rd_T30 xs i).f3.f1 ∧ (rd_T30 xs i).f4.f1.length ≤ c6 ∧ (Kd.int .u8).C w A6 (rd_T30 xs i).f4.f1.length (rd_T30 xs i).f4.f1 := by
  obtain ⟨ad, c, e, _, hK, hc0⟩ := Kd.C_get h z30 i h0 h1
  have hc : ∀ j u, c[j]? = some u → w.cell? (ad.add (i.toNat * 7 + j)) = some u := hc0
  obtain ⟨A4, c4, A6, c6, rfl, l4, g4, l6, g6⟩ := k30_open hK
  exact ⟨ad, A4, c4, A6, c6, e, hc 0 _ rfl, by rw [← add_field _ _ 1 (by omega)]; exact hc 1 _ rfl, by rw [← add_field _ _ 2 (by omega)]; exact hc 2 _ rfl, by rw [← add_field _ _ 3 (by omega)]; exact hc 3 _ rfl, by rw [← add_field _ _ 4 (by omega)]; exact hc 4 _ rfl, by rw [← add_field _ _ 5 (by omega)]; exact hc 5 _ rfl, by rw [← add_field _ _ 6 (by omega)]; exact hc 6 _ rfl, l4, g4, l6, g6⟩
structure S25 where
  f0 : Int
  f1 : Int
  f2 : Int
  f3 : Int
  f4 : (List S30)
  f5 : (List Int)
def z25 : S25 := ⟨(0 : Int), (0 : Int), (0 : Int), (0 : Int), ([] : List S30), ([] : List Int)⟩
def k25 : Kd S25 := Kd.iso (Kd.pair (Kd.int .i64) (Kd.pair (Kd.int .i64) (Kd.pair (Kd.int .i64) (Kd.pair (Kd.int .i64) (Kd.pair (Kd.slice 30 k30) (Kd.slice 3 (Kd.int .i64))))))) (fun x : S25 => (x.f0, x.f1, x.f2, x.f3, x.f4, x.f5))
theorem k25_open {w : World} {x : S25} {cs : List Value} (h : k25.K w x cs) : ∃ A4 c4 A5 c5, cs = [.int .i64 x.f0, .int .i64 x.f1, .int .i64 x.f2, .int .i64 x.f3, .slice A4 x.f4.length c4, .slice A5 x.f5.length c5] ∧ x.f4.length ≤ c4 ∧ k30.C w A4 x.f4.length x.f4 ∧ x.f5.length ≤ c5 ∧ (Kd.int .i64).C w A5 x.f5.length x.f5 := by
  obtain ⟨_, _, rfl, rfl, ⟨_, _, rfl, rfl, ⟨_, _, rfl, rfl, ⟨_, _, rfl, rfl, ⟨_, _, rfl, ⟨A4, c4, rfl, l4, g4⟩, ⟨A5, c5, rfl, l5, g5⟩⟩⟩⟩⟩⟩ := h
  exact ⟨A4, c4, A5, c5, rfl, l4, g4, l5, g5⟩
theorem k25_mk (w : World) (x : S25) {A4 : Option Addr} {c4 : Nat} (l4 : x.f4.length ≤ c4) (g4 : k30.C w A4 x.f4.length x.f4) {A5 : Option Addr} {c5 : Nat} (l5 : x.f5.length ≤ c5) (g5 : (Kd.int .i64).C w A5 x.f5.length x.f5) : k25.K w x [.int .i64 x.f0, .int .i64 x.f1, .int .i64 x.f2, .int .i64 x.f3, .slice A4 x.f4.length c4, .slice A5 x.f5.length c5] := ⟨[.int .i64 x.f0], [.int .i64 x.f1, .int .i64 x.f2, .int .i64 x.f3, .slice A4 x.f4.length c4, .slice A5 x.f5.length c5], rfl, rfl, ⟨[.int .i64 x.f1], [.int .i64 x.f2, .int .i64 x.f3, .slice A4 x.f4.length c4, .slice A5 x.f5.length c5], rfl, rfl, ⟨[.int .i64 x.f2], [.int .i64 x.f3, .slice A4 x.f4.length c4, .slice A5 x.f5.length c5], rfl, rfl, ⟨[.int .i64 x.f3], [.slice A4 x.f4.length c4, .slice A5 x.f5.length c5], rfl, rfl, ⟨[.slice A4 x.f4.length c4], [.slice A5 x.f5.length c5], rfl, ⟨A4, c4, rfl, l4, g4⟩, ⟨A5, c5, rfl, l5, g5⟩⟩⟩⟩⟩⟩
def rd_T25 (xs : List S25) (i : Int) : S25 := xs.getD i.toNat z25
theorem at_T25 {w : World} {A : Option Addr} {n : Nat} {xs : List S25} (h : Kd.C k25 w A n xs) (i : Int) (h0 : 0 ≤ i) (h1 : i < n) : ∃ ad A4 c4 A5 c5, A = some ad ∧ w.cell? (ad.add (i.toNat * 6)) = some (.int .i64 (rd_T25 xs i).f0) ∧ w.cell? ⟨(ad.add (i.toNat * 6)).block, (ad.add (i.toNat * 6)).off + 1, none⟩ = some (.int .i64 (rd_T25 xs i).f1) ∧ w.cell? ⟨(ad.add (i.toNat * 6)).block, (ad.add (i.toNat * 6)).off + 2, none⟩ = some (.int .i64 (rd_T25 xs i).f2) ∧ w.cell? ⟨(ad.add (i.toNat * 6)).block, (ad.add (i.toNat * 6)).off + 3, none⟩ = some (.int .i64 (rd_T25 xs i).f3) ∧ w.cell? ⟨(ad.add (i.toNat * 6)).block, (ad.add (i.toNat * 6)).off + 4, none⟩ = some (.slice A4 (rd_T25 xs i).f4.length c4) ∧ w.cell? ⟨(ad.add (i.toNat * 6)).block, (ad.add (i.toNat * 6)).off + 5, none⟩ = some (.slice A5 (rd_T25 xs i).f5.length c5) ∧ (rd_T25 xs i).f4.length ≤ c4 ∧ k30.C w A4 (rd_T25 xs i).f4.length (rd_T25 xs i).f4 ∧ (rd_T25 xs i).f5.length ≤ c5 ∧ (Kd.int .i64).C w A5 (rd_T25 xs i).f5.length (rd_T25 xs i).f5 := by
  obtain ⟨ad, c, e, _, hK, hc0⟩ := Kd.C_get h z25 i h0 h1
  have hc : ∀ j u, c[j]? = some u → w.cell? (ad.add (i.toNat * 6 + j)) = some u := hc0
  obtain ⟨A4, c4, A5, c5, rfl, l4, g4, l5, g5⟩ := k25_open hK
  exact ⟨ad, A4, c4, A5, c5, e, hc 0 _ rfl, by rw [← add_field _ _ 1 (by omega)]; exact hc 1 _ rfl, by rw [← add_field _ _ 2 (by omega)]; exact hc 2 _ rfl, by rw [← add_field _ _ 3 (by omega)]; exact hc 3 _ rfl, by rw [← add_field _ _ 4 (by omega)]; exact hc 4 _ rfl, by rw [← add_field _ _ 5 (by omega)]; exact hc 5 _ rfl, l4, g4, l5, g5⟩
end Go.Proofs.Ytdbbibndjknafaa.Print
