/- Small lemmas of this session: what a block of cells tells of a slice over it. -/
import Derived.Test.YtfaflgdhffkaiaaProg
import Derived.Test.YtfaflgdhffkaiaaWWords
import Derived.Test.YtfaflgdhffkaiaaWLast
import Derived.Test.YtfaflgdhffkaiaaWMore
import Derived.Laws.CopyOwn
import Derived.WalkSpells
import Derived.Lib.EndianBits
import Derived.WalkLawsBesides
namespace Go.Proofs.Ytfaflgdhffkaiaa.Print
open Go.RowKit Go.Proofs.YtfaflgdhffkaiaaW.PrintWords Go.Proofs.YtfaflgdhffkaiaaW.PrintLast Go.Proofs.YtfaflgdhffkaiaaW.PrintMore
set_option linter.unusedVariables false
/-- A slice over a known block of numbers. -/
theorem C_of_block {W : World} {g off n : Nat} {cs : List Value} {t : TypeId} {fr : Nat × Nat} {k : IntKind} {xs : List Int} (hb : W.heap[g]? = some (.cells cs.toArray t fr))
    (hn : xs.length = n) (hm : n ≤ 9223372036854775807) (hx : ∀ j, j < n → cs[off + j]? = some (.int k (xs.getD j 0))) : Kd.C (Kd.int k) W (some ⟨g, off, none⟩) n xs := by
  refine Kd.C_of_reads (d := (0 : Int)) (h1 := fun _ => rfl) ⟨hn, hm, fun _ => ⟨_, rfl, fun j hj => ?_⟩⟩
  have e : (⟨g, off, none⟩ : Addr).add j = ⟨g, off + j, none⟩ := by unfold Addr.add; split <;> simp_all
  rw [e]
  simp [World.cell?, hb, hx j hj]
/-- The cells of a slice of numbers. -/
theorem C_cells {W : World} {A : Option Addr} {k : IntKind} {xs : List Int} (h : Kd.C (Kd.int k) W A xs.length xs) (hp : 0 < xs.length) :
    ∃ ad, A = some ad ∧ ∀ j v, (nums k xs)[j]? = some v → W.cell? (ad.add j) = some v := by
  obtain ⟨ad, e, hc⟩ := h.2.2 hp
  refine ⟨ad, e, fun j v hv => ?_⟩
  obtain ⟨x, hx, rfl⟩ : ∃ x, xs[j]? = some x ∧ .int k x = v := by simpa [nums] using hv
  obtain ⟨c, _, hc2, hc3⟩ := hc j x hx
  have e2 : c = [.int k x] := hc2
  subst e2
  have := hc3 0 (.int k x) (by simp)
  simpa [show (Kd.int k).sz = 1 from rfl] using this
/-- A block of numbers, shared: the slice over all of it. -/
theorem V_of_block {W : World} {g c e base base' : Nat} {t : TypeId} {k : IntKind} {xs : List Int} (hb : W.heap[g]? = some (.cells (nums k xs).toArray t (0, 0))) (hg : base ≤ g) (hm : xs.length ≤ 9223372036854775807) (hc : xs.length ≤ c) :
    Kd.V (Kd.int k) e W base' (fun k_ => base ≤ k_) (.slice (some ⟨g, 0, none⟩) xs.length c) xs := by
  have hlt : g < W.heap.size := (Array.getElem?_eq_some_iff.1 hb).1
  refine ⟨_, c, rfl, hc, fun W' h => ?_⟩
  have hb' := (h g hg hlt).trans hb
  refine C_of_block hb' rfl hm fun j hj => ?_
  simp [nums, List.getElem?_eq_getElem hj, List.getD_eq_getElem?_getD]
/-- An element of a slice of slices. -/
theorem C_rows_at {α : Type} {d : Kd α} {W : World} {A : Option Addr} {n e : Nat} {xs : List (List α)} (h : Kd.C (Kd.slice e d) W A n xs) (i : Nat) (hi : i < n) :
    ∃ ad Ai ci, A = some ad ∧ W.cell? (ad.add i) = some (.slice Ai (xs.getD i []).length ci) ∧ (xs.getD i []).length ≤ ci ∧ d.C W Ai (xs.getD i []).length (xs.getD i []) := by
  obtain ⟨ad, ea, hc⟩ := h.2.2 (by omega)
  have hl : i < xs.length := by have := h.1; omega
  obtain ⟨c, _, hK, hcell⟩ := hc i xs[i] (List.getElem?_eq_getElem hl)
  obtain ⟨Ai, ci, rfl, hle, hC⟩ := hK
  have e1 : xs.getD i [] = xs[i] := by simp [List.getD_eq_getElem?_getD, List.getElem?_eq_getElem hl]
  have := hcell 0 _ rfl
  refine ⟨ad, Ai, ci, ea, ?_, by rw [e1]; exact hle, by rw [e1]; exact hC⟩
  rw [e1]
  simpa [show (Kd.slice e d).sz = 1 from rfl] using this
theorem take_flat {α : Type} (xs : List (List α)) (k : Nat) (h : k < xs.length) : (xs.take (k + 1)).flatten = (xs.take k).flatten ++ xs.getD k [] := by
  rw [List.take_succ_eq_append_getElem h, List.flatten_append]; simp [List.getD_eq_getElem?_getD, List.getElem?_eq_getElem h]
theorem take_flat_le {α : Type} (xs : List (List α)) (k : Nat) : (xs.take k).flatten.length ≤ xs.flatten.length := by
  have h := congrArg (fun l => (List.flatten l).length) (List.take_append_drop k xs)
  rw [← h, List.flatten_append, List.length_append]
  omega
/-- The cells of a slice of numbers, one by one. -/
theorem C_cells' {W : World} {A : Option Addr} {n : Nat} {k : IntKind} {xs : List Int} (h : Kd.C (Kd.int k) W A n xs) (hp : 0 < n) :
    ∃ ad, A = some ad ∧ ∀ j, j < n → W.cell? (ad.add j) = some (.int k (xs.getD j 0)) := by
  obtain rfl : xs.length = n := h.1
  obtain ⟨ad, e, hc⟩ := C_cells h hp
  refine ⟨ad, e, fun j hj => hc j _ ?_⟩
  simp [nums, List.getElem?_eq_getElem hj, List.getD_eq_getElem?_getD]
theorem addr_add_add (a : Addr) (x y : Nat) : (a.add x).add y = a.add (x + y) := by
  unfold Addr.add
  by_cases hx : x = 0
  · simp [hx]
  · by_cases hy : y = 0
    · simp [hx, hy]
    · simp [hx, hy, Nat.add_assoc]
/-- A part of a slice. -/
theorem C_part {α : Type} {d : Kd α} {W : World} {ad : Addr} {n : Nat} {xs : List α} (h : d.C W (some ad) n xs) (lo m : Nat) (hm : lo + m ≤ n) (h1 : d.sz = 1) : d.C W (some (ad.add lo)) m ((xs.drop lo).take m) := by
  obtain ⟨hl, hn, hc⟩ := h
  refine ⟨by simp; omega, by omega, fun hp => ?_⟩
  obtain ⟨ad', e, hc⟩ := hc (by omega)
  obtain rfl := Option.some.inj e
  refine ⟨_, rfl, fun j p hj => ?_⟩
  have hj2 : j < m := by
    have := (List.getElem?_eq_some_iff.1 hj).1
    simp at this
    omega
  rw [List.getElem?_take_of_lt hj2, List.getElem?_drop] at hj
  obtain ⟨c, g1, g2, g3⟩ := hc _ _ hj
  refine ⟨c, g1, g2, fun i u hu => ?_⟩
  have := g3 i u hu
  rw [addr_add_add, show lo + (j * d.sz + i) = (lo + j) * d.sz + i by rw [h1]; omega]
  exact this
/-- A store below where a row of one's own begins. -/
theorem R_farB {α : Type} {d : Kd α} {e base : Nat} {w : World} {v : Value} {xs : List α} (h : d.R e w base (fun _ => True) v xs) {p : Addr} (hp : p.block < base) (u : Value) : d.R e (w.setCell p u) base (fun _ => True) v xs :=
  Kd.R_mono (Kd.R_far (Kd.R_bound h) (fun k hk => by have := hk.2.1; omega) u) (fun _ _ => trivial)
theorem bb_far {w : World} {p q : Addr} {v : Value} (h : w.cell? q = some v) (hne : q.block ≠ p.block) (u : Value) : (w.setCell p u).cell? q = some v := (World.cell?_of_block (w := w) (Below.heap_setCell w p u q.block hne)).trans h
theorem bb_ffar {w : World} {p q : Addr} (h : w.frozen? q = false) (hne : q.block ≠ p.block) (u : Value) : (w.setCell p u).frozen? q = false := (World.frozen?_of_block (w := w) (Below.heap_setCell w p u q.block hne)).trans h
theorem two_cells {W : World} {g : Nat} {a b : Value} {t : TypeId} (h : W.heap[g]? = some (.cells #[a, b] t (0, 0))) :
    W.cell? ⟨g, 0, none⟩ = some a ∧ W.cell? ⟨g, 1, none⟩ = some b ∧ W.frozen? ⟨g, 0, none⟩ = false ∧ W.frozen? ⟨g, 1, none⟩ = false := ⟨(blk_cell h 0).trans rfl, (blk_cell h 1).trans rfl, blk_frozen h _, blk_frozen h _⟩
theorem three_cells {W : World} {g : Nat} {a b c : Value} {t : TypeId} (h : W.heap[g]? = some (.cells #[a, b, c] t (0, 0))) :
    W.cell? ⟨g, 0, none⟩ = some a ∧ W.cell? ⟨g, 1, none⟩ = some b ∧ W.cell? ⟨g, 2, none⟩ = some c ∧ W.frozen? ⟨g, 0, none⟩ = false ∧ W.frozen? ⟨g, 1, none⟩ = false ∧ W.frozen? ⟨g, 2, none⟩ = false :=
  ⟨(blk_cell h 0).trans rfl, (blk_cell h 1).trans rfl, (blk_cell h 2).trans rfl, blk_frozen h _, blk_frozen h _, blk_frozen h _⟩
theorem bb_below {B g : Nat} {w w1 : World} {o : Option Obj} (h : w.heap[g]? = o) (hb : Below B w w1) (hlt : g < B) : w1.heap[g]? = o := (hb.block g hlt).trans h
theorem bb_blkfar {w : World} {p : Addr} {g : Nat} {o : Option Obj} (h : w.heap[g]? = o) (hne : g ≠ p.block) (u : Value) : (w.setCell p u).heap[g]? = o := (Below.heap_setCell w p u g hne).trans h
theorem bb_set0 {W : World} {g : Nat} {a b : Value} {t : TypeId} (h : W.heap[g]? = some (.cells #[a, b] t (0, 0))) (v : Value) : (W.setCell ⟨g, 0, none⟩ v).heap[g]? = some (.cells #[v, b] t (0, 0)) := by simpa using blk_set h 0 v
theorem bb_set1 {W : World} {g : Nat} {a b : Value} {t : TypeId} (h : W.heap[g]? = some (.cells #[a, b] t (0, 0))) (v : Value) : (W.setCell ⟨g, 1, none⟩ v).heap[g]? = some (.cells #[a, v] t (0, 0)) := by simpa using blk_set h 1 v
theorem bb_new {w : World} {o : Obj} : (w.alloc o).heap[w.heap.size]? = some o := heap_alloc_new w o
theorem bb_old {w : World} {o : Obj} {g : Nat} {r : Option Obj} (h : w.heap[g]? = r) (hlt : g < w.heap.size) : (w.alloc o).heap[g]? = r := (Below.heap_alloc w o g hlt).trans h
theorem wraps_i64 (n : Int) (h₀ : 0 ≤ n) (h₁ : n < 2 ^ 63) : IntKind.i64.wrap n = n := by
  have e : (2 : Int) ^ 63 = 9223372036854775808 := by decide
  rw [e] at h₁
  exact IntWalk.i64_in n ⟨by omega, by omega⟩
/-- Four bytes put together. -/
theorem or4 (x0 x1 x2 x3 : Int) (a0 : 0 ≤ x0) (b0 : x0 ≤ 255) (a1 : 0 ≤ x1) (b1 : x1 ≤ 255) (a2 : 0 ≤ x2) (b2 : x2 ≤ 255) (a3 : 0 ≤ x3) (b3 : x3 ≤ 255) :
    bits .or .i64 (bits .or .i64 (bits .or .i64 (bits .or .i64 0 x0) (x1 * 256)) (x2 * 65536)) (x3 * 16777216) = x0 + 256 * x1 + 65536 * x2 + 16777216 * x3 := by
  have h := fun (i : Nat) (y x : Int) p q r s t u => bits_join_low .i64 63 (by decide) wraps_i64 i y x p q r s t u
  rw [h 0 0 x0 (by omega) (by decide) (by decide) a0 (by omega) (by omega)]
  rw [h 8 (0 + x0) (x1 * 256) (by omega) (by omega) (by omega) (by omega) (by omega) (by omega)]
  rw [h 16 (0 + x0 + x1 * 256) (x2 * 65536) (by omega) (by omega) (by omega) (by omega) (by omega) (by omega)]
  rw [h 24 (0 + x0 + x1 * 256 + x2 * 65536) (x3 * 16777216) (by omega) (by omega) (by omega) (by omega) (by omega) (by omega)]
  omega
end Go.Proofs.Ytfaflgdhffkaiaa.Print
