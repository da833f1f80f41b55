/- law03's Op and api.Crash, read from memory. -/
import Derived.Test.YtghhmbagjhmgfaaAwake
namespace Go.Proofs.Ytghhmbagjhmgfaa.Print
open Go.RowKit Go.Proofs.YtghhmbagjhmgfaaW.PrintWords Go.Proofs.YtghhmbagjhmgfaaW.PrintLast Go.Proofs.YtghhmbagjhmgfaaW.PrintMore
set_option linter.unusedVariables false
set_option linter.unusedSimpArgs false
structure S29 where
  f0 : (List Bool)
  f1 : Int
  f2 : Int
def z29 : S29 := ⟨[], 0, 0⟩
def k29 : Kd S29 := Kd.iso (Kd.pair (Kd.slice 4 Kd.bool) (Kd.pair (Kd.int .i64) (Kd.int .i64))) (fun x : S29 => (x.f0, x.f1, x.f2))
structure S35 where
  f0 : Int
  f1 : Int
  f2 : Int
  f3 : Int
  f4 : Bool
  f5 : S29
def z35 : S35 := ⟨0, 0, 0, 0, false, z29⟩
def k35 : Kd S35 := Kd.iso (Kd.pair (Kd.int .i64) (Kd.pair (Kd.int .i64) (Kd.pair (Kd.int .i64) (Kd.pair (Kd.int .u8) (Kd.pair Kd.bool k29))))) (fun x : S35 => (x.f0, x.f1, x.f2, x.f3, x.f4, x.f5))
theorem kC_open {w : World} {x : S29} {cs : List Value} (h : k29.K w x cs) : ∃ A1 c1, cs = [.slice A1 x.f0.length c1, .int .i64 x.f1, .int .i64 x.f2] ∧ x.f0.length ≤ c1 ∧ Kd.bool.C w A1 x.f0.length x.f0 := by
  obtain ⟨_, _, rfl, ⟨A1, c1, rfl, l1, g1⟩, ⟨_, _, rfl, rfl, rfl⟩⟩ := h
  exact ⟨A1, c1, rfl, l1, g1⟩
theorem kO_open {w : World} {x : S35} {cs : List Value} (h : k35.K w x cs) : ∃ A1 c1, cs = [.int .i64 x.f0, .int .i64 x.f1, .int .i64 x.f2, .int .u8 x.f3, .bool x.f4, .slice A1 x.f5.f0.length c1, .int .i64 x.f5.f1, .int .i64 x.f5.f2] ∧ x.f5.f0.length ≤ c1 ∧ Kd.bool.C w A1 x.f5.f0.length x.f5.f0 := by
  obtain ⟨_, _, rfl, rfl, ⟨_, _, rfl, rfl, ⟨_, _, rfl, rfl, ⟨_, _, rfl, rfl, ⟨_, _, rfl, rfl, hc⟩⟩⟩⟩⟩ := h
  obtain ⟨A1, c1, rfl, l1, g1⟩ := kC_open hc
  exact ⟨A1, c1, rfl, l1, g1⟩
def rd_T35 (xs : List S35) (i : Nat) : S35 := xs.getD i z35
/-- The cells of the i-th call. -/
structure OpAt (ad : Addr) (i : Nat) (x : S35) (A1 : Option Addr) (cc : Nat) (w : World) : Prop where
  c0 : w.cell? (ad.add (i * 8)) = some (.int .i64 x.f0)
  c1 : w.cell? ⟨(ad.add (i * 8)).block, (ad.add (i * 8)).off + 1, none⟩ = some (.int .i64 x.f1)
  c2 : w.cell? ⟨(ad.add (i * 8)).block, (ad.add (i * 8)).off + 2, none⟩ = some (.int .i64 x.f2)
  c3 : w.cell? ⟨(ad.add (i * 8)).block, (ad.add (i * 8)).off + 3, none⟩ = some (.int .u8 x.f3)
  c4 : w.cell? ⟨(ad.add (i * 8)).block, (ad.add (i * 8)).off + 4, none⟩ = some (.bool x.f4)
  c5 : w.cell? ⟨(ad.add (i * 8)).block, (ad.add (i * 8)).off + 5, none⟩ = some (.slice A1 x.f5.f0.length cc)
  c6 : w.cell? ⟨(ad.add (i * 8)).block, (ad.add (i * 8)).off + 6, none⟩ = some (.int .i64 x.f5.f1)
  c7 : w.cell? ⟨(ad.add (i * 8)).block, (ad.add (i * 8)).off + 7, none⟩ = some (.int .i64 x.f5.f2)
  keep : ∀ j, j < x.f5.f0.length → ∃ ak, A1 = some ak ∧ w.cell? (ak.add j) = some (.bool (x.f5.f0.getD j false))
theorem OpAt.below {ad : Addr} {i : Nat} {x : S35} {A1 : Option Addr} {c1 : Nat} {w W : World} (h : OpAt ad i x A1 c1 w) (hb : Below w.heap.size w W) : OpAt ad i x A1 c1 W :=
  ⟨pw_cell_below hb h.c0, pw_cell_below hb h.c1, pw_cell_below hb h.c2, pw_cell_below hb h.c3, pw_cell_below hb h.c4, pw_cell_below hb h.c5, pw_cell_below hb h.c6, pw_cell_below hb h.c7, fun j hj => by
    obtain ⟨ak, h1, h2⟩ := h.keep j hj
    exact ⟨ak, h1, pw_cell_below hb h2⟩⟩
theorem bools_at {w : World} {A : Option Addr} {n : Nat} {l : List Bool} (h : Kd.bool.C w A n l) (j : Nat) (hj : j < n) : ∃ ak, A = some ak ∧ w.cell? (ak.add j) = some (.bool (l.getD j false)) := by
  obtain ⟨ad, c, e, _, hK, hc0⟩ := Kd.C_get h false (j : Int) (by omega) (by omega)
  have hc : ∀ i u, c[i]? = some u → w.cell? (ad.add (((j : Int)).toNat * 1 + i)) = some u := hc0
  rw [show ((j : Int)).toNat = j by omega] at hc hK
  obtain rfl : c = [.bool (l.getD j false)] := by
    first
      | exact hK
      | (rcases hK with ⟨h1, rfl⟩ | ⟨h1, rfl⟩ <;> simp [h1])
  have := hc 0 _ rfl
  rw [Nat.mul_one, Nat.add_zero] at this
  exact ⟨ad, e, this⟩
theorem ops_at {w : World} {A : Option Addr} {n : Nat} {xs : List S35} (h : Kd.C k35 w A n xs) (i : Nat) (hi : i < n) : ∃ ad A1 c1, A = some ad ∧ OpAt ad i (rd_T35 xs i) A1 c1 w := by
  obtain ⟨ad, c, e, _, hK, hc0⟩ := Kd.C_get h z35 (i : Int) (by omega) (by omega)
  have hc : ∀ j u, c[j]? = some u → w.cell? (ad.add (((i : Int)).toNat * 8 + j)) = some u := hc0
  rw [show ((i : Int)).toNat = i by omega] at hc hK
  obtain ⟨A1, c1, rfl, l1, g1⟩ := kO_open hK
  have f : ∀ j u, 0 < j → [Value.int IntKind.i64 (xs.getD i z35).f0, .int .i64 (xs.getD i z35).f1, .int .i64 (xs.getD i z35).f2, .int .u8 (xs.getD i z35).f3, .bool (xs.getD i z35).f4, .slice A1 (xs.getD i z35).f5.f0.length c1, .int .i64 (xs.getD i z35).f5.f1, .int .i64 (xs.getD i z35).f5.f2][j]? = some u → w.cell? ⟨(ad.add (i * 8)).block, (ad.add (i * 8)).off + j, none⟩ = some u := fun j u hj hu => by rw [← add_field _ _ j (by omega)]; exact hc j u hu
  exact ⟨ad, A1, c1, e, hc 0 _ rfl, f 1 _ (by decide) rfl, f 2 _ (by decide) rfl, f 3 _ (by decide) rfl, f 4 _ (by decide) rfl, f 5 _ (by decide) rfl, f 6 _ (by decide) rfl, f 7 _ (by decide) rfl, fun j hj => bools_at g1 j hj⟩
end Go.Proofs.Ytghhmbagjhmgfaa.Print
