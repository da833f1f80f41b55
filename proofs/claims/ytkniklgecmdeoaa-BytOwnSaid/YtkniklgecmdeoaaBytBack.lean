/- The walk of BytBack: what was put and laid is got and taken, in that order; nothing is left then. -/
import Derived.Test.YtkniklgecmdeoaaBytWrote
import Derived.Test.YtkniklgecmdeoaaBytReads
namespace Go.Proofs.Ytkniklgecmdeoaa.Print
open Go.RowKit Go.Proofs.YtkniklgecmdeoaaW.PrintWords Go.Proofs.YtkniklgecmdeoaaW.PrintLast Go.Proofs.YtkniklgecmdeoaaW.PrintMore Go.Proofs.Ytkniklgecmdeoaa.Pure
set_option linter.unusedVariables false
set_option linter.unusedSimpArgs false
theorem leN_le : ∀ (k : Nat) (n : Int), 0 ≤ n → n < 256 ^ k → leN (le k n) = n
  | 0, n, h0, h1 => by simp at h1; simp [le, leN]; omega
  | k + 1, n, h0, h1 => by
    have e : (256 : Int) ^ (k + 1) = 256 ^ k * 256 := Int.pow_succ ..
    rw [e] at h1
    have h2 : n / 256 < 256 ^ k := by
      apply Int.ediv_lt_of_lt_mul (by decide) h1
    simp only [le, leN, leN_le k (n / 256) (by omega) h2]
    omega
theorem bytes_le : ∀ (k : Nat) (n : Int), Bytes (le k n)
  | 0, n => fun x hx => by simp [le] at hx
  | k + 1, n => fun x hx => by
    simp only [le, List.mem_cons] at hx
    rcases hx with rfl | hx
    · omega
    · exact bytes_le k _ x hx
/-- What is taken of laid bytes. -/
theorem take_lay (b rest : List Int) (hb : b.length ≤ 255) : takeB ((b.length : Int) :: b ++ rest) = b ∧ takeL ((b.length : Int) :: b ++ rest) = rest ∧ takeE ((b.length : Int) :: b ++ rest) = 0 := by
  have e : takeOk ((b.length : Int) :: b ++ rest) := by
    unfold takeOk
    simp
    omega
  unfold takeB takeL takeE
  simp only [if_pos e]
  simp
/-- What is got of a number that was put. -/
theorem get_put (n m : Int) (rest : List Int) (h : mayPut n m) : getV (le m.toNat n ++ rest) m = n ∧ getL (le m.toNat n ++ rest) m = rest ∧ getE (le m.toNat n ++ rest) m = 0 := by
  obtain ⟨hW, h0, h1⟩ := h
  have hm : 0 ≤ m := by rcases hW with rfl | rfl | rfl <;> omega
  have hl : (le m.toNat n).length = m.toNat := le_length _ _
  have e : getOk (le m.toNat n ++ rest) m := ⟨hW, by rw [List.length_append, hl]; omega⟩
  unfold getV getL getE
  simp only [if_pos e, if_pos hW, if_pos e.2]
  rw [List.take_append_of_le_length (by omega), List.take_of_length_le (by omega), List.drop_append_of_le_length (by omega), List.drop_eq_nil_of_le (by omega)]
  refine ⟨leN_le _ _ h0 ?_, by simp, by simp⟩
  rcases hW with rfl | rfl | rfl <;> exact h1
theorem bytes_opB (x : S30) (h : Bytes x.f3) : Bytes (opB x) := by
  unfold opB
  split
  · unfold layB
    split
    · intro y hy
      simp only [List.mem_cons] at hy
      rcases hy with rfl | hy
      · omega
      · exact h y hy
    · exact fun y hy => by simp at hy
  · unfold putB
    split
    · exact bytes_le _ _
    · exact fun y hy => by simp at hy
theorem bytes_opsB (l : List S30) (h : ∀ x ∈ l, Bytes x.f3) : Bytes (opsB l) := fun y hy => by
  obtain ⟨x, hx, hy⟩ := List.mem_flatMap.1 hy
  exact bytes_opB x (h x hx) y hy
theorem N_past {α : Type} {d : Kd α} {e : Nat} {wr w1 : World} {g : Nat} {r r1 : Option Nat} {v : Value} {D : List α} (h : Kd.N d e wr 0 (fun k => k ≠ g ∧ some k ≠ r) v D) (hc : Chg (fun k => k = g ∨ some k = r) wr w1) (hr : r1 = r ∨ ∃ b, r1 = some b ∧ wr.heap.size ≤ b) :
    Kd.N d e w1 0 (fun k => k ≠ g ∧ some k ≠ r1) v D := by
  refine Kd.N_mono (Kd.N_step (Kd.N_bound h) (fun k hk hlt => hc.block k hlt (fun q => q.elim hk.1.1 hk.1.2))) (fun k hk => ⟨hk.1.1, ?_⟩)
  rcases hr with rfl | ⟨b, rfl, hb⟩
  · exact hk.1.2
  · intro e
    obtain rfl := Option.some.inj e
    have := hk.2
    omega
/-- Behind k calls: the Writer holds the bytes of the good ones, which stand in a row. -/
def BI (w : World) (g k : Nat) (l : List S30) (v : Value) (wr : World) : Prop :=
  ∃ r D, Wr wr g r (opsB D) ∧ Kd.N k30 30 wr 0 (fun k => k ≠ g ∧ some k ≠ r) v D ∧ (∀ x ∈ D, opE x = 0 ∧ x ∈ l) ∧ (∀ k, r = some k → w.heap.size ≤ k) ∧ w.heap.size ≤ g ∧ (∀ k, v.ownBlock = some k → w.heap.size ≤ k) ∧ D.length ≤ k ∧ Below w.heap.size w wr
theorem opB_bad {x : S30} (h : opE x ≠ 0) : opB x = [] := by
  unfold opE at h
  unfold opB
  split at h
  · rename_i hx
    rw [if_pos hx]
    unfold layE at h
    unfold layB
    split at h
    · exact absurd rfl h
    · rename_i q; rw [if_neg q]
  · rename_i hx
    rw [if_neg hx]
    unfold putE at h
    unfold putB
    split at h
    · exact absurd rfl h
    · rename_i q; rw [if_neg q]
/-- Behind a call of the Writer. -/
structure BMid (w : World) (g k : Nat) (l : List S30) (D : List S30) (x : S30) (v : Value) (w2 : World) (r1 : Option Nat) : Prop where
  wr : Wr w2 g r1 (opsB D ++ opB x)
  row : Kd.N k30 30 w2 0 (fun k => k ≠ g ∧ some k ≠ r1) v D
  good : ∀ x ∈ D, opE x = 0 ∧ x ∈ l
  rlow : ∀ k, r1 = some k → w.heap.size ≤ k
  glow : w.heap.size ≤ g
  vlow : ∀ k, v.ownBlock = some k → w.heap.size ≤ k
  len : D.length ≤ k
  below : Below w.heap.size w w2
theorem BMid.of {w wr w2 : World} {g k : Nat} {l D : List S30} {x : S30} {v : Value} {r : Option Nat} (hN : Kd.N k30 30 wr 0 (fun k => k ≠ g ∧ some k ≠ r) v D) (hD : ∀ x ∈ D, opE x = 0 ∧ x ∈ l)
    (hr : ∀ k, r = some k → w.heap.size ≤ k) (hg : w.heap.size ≤ g) (hv : ∀ k, v.ownBlock = some k → w.heap.size ≤ k) (hl : D.length ≤ k) (hb : Below w.heap.size w wr) (hp : WrPost g r (opsB D ++ opB x) wr w2) : ∃ r1, BMid w g k l D x v w2 r1 := by
  obtain ⟨r1, h1, h2, h3⟩ := hp
  refine ⟨r1, h1, N_past hN h3 h2, hD, fun k hk => ?_, hg, hv, hl, Chg.then_ hb h3 (fun k hk => by rcases hk with rfl | e; exact hg; exact hr k e.symm) hb.size⟩
  rcases h2 with rfl | ⟨b, rfl, hbl⟩
  · exact hr k hk
  · obtain rfl := Option.some.inj hk
    exact Nat.le_trans hb.size hbl
theorem BMid.bad {w w2 : World} {g k : Nat} {l D : List S30} {x : S30} {v : Value} {r1 : Option Nat} (h : BMid w g k l D x v w2 r1) (hx : opE x ≠ 0) : BI w g (k + 1) l v w2 :=
  ⟨r1, D, by have := h.wr; rwa [opB_bad hx, List.append_nil] at this, h.row, h.good, h.rlow, h.glow, h.vlow, by have := h.len; omega, h.below⟩
theorem BMid.app {w w2 w4 : World} {g k : Nat} {l D : List S30} {x : S30} {v v1 : Value} {r1 : Option Nat} (h : BMid w g k l D x v w2 r1) (hx : opE x = 0) (hxl : x ∈ l) {o : Obj}
    (hN : Kd.N k30 30 w4 0 (fun k => k ≠ g ∧ some k ≠ r1) v1 (D ++ [x])) (hg : (w2.alloc o).grownBy w4 v.ownBlock ∨ w2.grownBy w4 v.ownBlock) (hat : v1.ownBlock = v.ownBlock ∨ ∃ b, v1.ownBlock = some b ∧ w2.heap.size ≤ b) : BI w g (k + 1) l v1 w4 := by
  have hg2 : w2.grownBy w4 v.ownBlock := by
    rcases hg with hg | hg
    · exact (World.grownBy_alloc w2 o _).trans hg
    · exact hg
  have hlt := h.wr.lt
  have hne : ∀ k, v.ownBlock = some k → k ≠ g ∧ r1 ≠ some k := fun k hk => by
    obtain ⟨h0, _⟩ := h.row
    exact ⟨(h0 k hk).1, fun e => (h0 k hk).2 e.symm⟩
  refine ⟨r1, D ++ [x], ?_, hN, ?_, h.rlow, h.glow, fun k hk => ?_, by have := h.len; simp; omega, h.below.grown hg2 h.below.size (fun k hk => h.vlow k hk)⟩
  · have e : opsB (D ++ [x]) = opsB D ++ opB x := by
      unfold opsB
      rw [List.flatMap_append]
      simp only [List.flatMap_cons, List.flatMap_nil, List.append_nil]
    rw [e]
    exact h.wr.step (Chg.of_grown (S := fun k => v.ownBlock = some k) hg2 (fun k e => e)) (fun e => (hne g e).1 rfl) (fun k hk e => (hne k e).2 hk)
  · intro y hy
    rcases List.mem_append.1 hy with hy | hy
    · exact h.good y hy
    · obtain rfl : y = x := by simpa using hy
      exact ⟨hx, hxl⟩
  · rcases hat with e | ⟨b, e, hb⟩
    · exact h.vlow k (e ▸ hk)
    · rw [hk] at e
      obtain rfl := Option.some.inj e
      have := h.below.size
      omega
end Go.Proofs.Ytkniklgecmdeoaa.Print
