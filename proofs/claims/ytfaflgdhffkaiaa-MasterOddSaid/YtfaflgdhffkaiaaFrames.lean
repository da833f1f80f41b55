/- What a call may turn: the blocks of a set, and what is new since. -/
import Derived.Test.YtfaflgdhffkaiaaBase
import Derived.Test.YtfaflgdhffkaiaaWKept
import Derived.Test.YtfaflgdhffkaiaaWShare
namespace Go.Proofs.Ytfaflgdhffkaiaa.Print
open Go.RowKit Go.Proofs.YtfaflgdhffkaiaaW.PrintWords Go.Proofs.YtfaflgdhffkaiaaW.PrintLast Go.Proofs.YtfaflgdhffkaiaaW.PrintMore
set_option linter.unusedVariables false
/-- All but the blocks of S stays; what is new is new. -/
structure Chg (S : Nat → Prop) (w w' : World) : Prop where
  os : w'.os = w.os
  tape : w'.tape = w.tape
  output : w'.output = w.output
  size : w.heap.size ≤ w'.heap.size
  block : ∀ k, k < w.heap.size → ¬ S k → w'.heap[k]? = w.heap[k]?
namespace Chg
variable {S S2 : Nat → Prop} {w w0 w1 w2 : World} {B : Nat}
theorem refl (S : Nat → Prop) (w : World) : Chg S w w := ⟨rfl, rfl, rfl, Nat.le_refl _, fun _ _ _ => rfl⟩
theorem of_below (h : Below B w w1) (hS : ∀ k, B ≤ k → k < w.heap.size → S k) : Chg S w w1 :=
  ⟨h.os, h.tape, h.output, h.size, fun k hk hn => h.block k (by
    rcases Nat.lt_or_ge k B with c | c
    · exact c
    · exact absurd (hS k c hk) hn)⟩
theorem of_new (h : Below w.heap.size w w1) (S : Nat → Prop) : Chg S w w1 := of_below h (fun k a b => absurd b (by omega))
theorem of_grown {row : Option Nat} (h : w.grownBy w1 row) (hS : ∀ k, row = some k → S k) : Chg S w w1 := ⟨h.os, h.tape, h.output, h.size, fun k hk hn => h.block k hk (fun e => hn (hS k e.symm))⟩
theorem trans (h : Chg S w w1) (k : Chg S2 w1 w2) (hs : ∀ j, S2 j → S j ∨ w.heap.size ≤ j) : Chg S w w2 :=
  ⟨k.os.trans h.os, k.tape.trans h.tape, k.output.trans h.output, Nat.le_trans h.size k.size, fun j hj hn => (k.block j (Nat.lt_of_lt_of_le hj h.size) (fun h2 => (hs j h2).elim hn (fun h3 => by omega))).trans (h.block j hj hn)⟩
theorem mono (h : Chg S w w1) (hs : ∀ j, S j → S2 j) : Chg S2 w w1 := ⟨h.os, h.tape, h.output, h.size, fun j hj hn => h.block j hj (fun hk => hn (hs j hk))⟩
theorem new (h : Chg S w w1) (k : Below w1.heap.size w1 w2) : Chg S w w2 := h.trans (S2 := fun _ => False) (of_new k _) (fun _ hk => hk.elim)
theorem set (h : Chg S w w1) {p : Addr} (hp : S p.block ∨ w.heap.size ≤ p.block) (u : Value) : Chg S w (w1.setCell p u) :=
  h.trans (S2 := fun k => k = p.block) ⟨rfl, rfl, rfl, by simp [World.setCell], fun i _ hn => Below.heap_setCell w1 p u i hn⟩ (fun k hk => by rw [hk]; exact hp)
theorem below (h : Chg S w w1) (hS : ∀ k, S k → B ≤ k) (hB : B ≤ w.heap.size) : Below B w w1 := ⟨h.os, h.tape, h.output, h.size, fun k hk => h.block k (by omega) (fun hs => by have := hS k hs; omega)⟩
theorem then_ (h0 : Below B w0 w) (h : Chg S w w1) (hS : ∀ k, S k → B ≤ k) (hB : B ≤ w.heap.size) : Below B w0 w1 := h0.trans (h.below hS hB)
theorem obj (h : Chg S w w1) {g : Nat} {o : Obj} (hb : w.heap[g]? = some o) (hn : ¬ S g) : w1.heap[g]? = some o := (h.block g (Array.getElem?_eq_some_iff.1 hb).1 hn).trans hb
end Chg
/-- A block of one cell. -/
theorem one_cell {W : World} {g : Nat} {v : Value} {t : TypeId} (h : W.heap[g]? = some (.cells #[v] t (0, 0))) : W.cell? ⟨g, 0, none⟩ = some v ∧ W.frozen? ⟨g, 0, none⟩ = false := ⟨(blk_cell h 0).trans rfl, blk_frozen h _⟩
theorem one_set {W : World} {g : Nat} {v : Value} {t : TypeId} (h : W.heap[g]? = some (.cells #[v] t (0, 0))) (u : Value) : (W.setCell ⟨g, 0, none⟩ u).heap[g]? = some (.cells #[u] t (0, 0)) := by simpa using blk_set h 0 u
/-- A row's block bears its elements' type. -/
theorem own_typed {W : World} {base n size : Nat} {e : TypeId} {v : Value} {xs : List Value} (h : W.ownsRow base e size v n xs) {k : Nat} (hk : v.ownBlock = some k) : ∃ cur, W.heap[k]? = some (.cells cur e (0, 0)) := by
  rcases h.2 with ⟨rfl, _⟩ | ⟨g, cap, cur, rfl, _, hh, _⟩
  · simp [Value.ownBlock] at hk
  · have : g = k := by simpa [Value.ownBlock] using hk
    exact ⟨cur, this ▸ hh⟩
theorem own_step {W W1 : World} {base n size : Nat} {e : TypeId} {v : Value} {xs : List Value} {S : Nat → Prop} (h : W.ownsRow base e size v n xs) (hc : Chg S W W1) (hn : ∀ k, v.ownBlock = some k → ¬ S k) : W1.ownsRow base e size v n xs := by
  refine ⟨h.1, ?_⟩
  rcases h.2 with h2 | ⟨g, cap, cur, rfl, hb, hh, h3⟩
  · exact .inl h2
  · exact .inr ⟨g, cap, cur, rfl, hb, hc.obj hh (hn g (by simp [Value.ownBlock])), h3⟩
end Go.Proofs.Ytfaflgdhffkaiaa.Print
