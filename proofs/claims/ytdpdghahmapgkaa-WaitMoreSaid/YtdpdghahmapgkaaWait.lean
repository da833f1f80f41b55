/- What the waits come to, by who reaches whom. -/
import Derived.Test.YtdpdghahmapgkaaHandE
import Derived.Test.YtdpdghahmapgkaaPrint1
namespace Go.Proofs.Ytdpdghahmapgkaa.Pure
open Go.RowKit Go.Proofs.Ytdpdghahmapgkaa.Print Go.Proofs.YtdpdghahmapgkaaW.PrintWords Go.Proofs.YtdpdghahmapgkaaW.PrintLast Go.Proofs.Ytdpdghahmapgkaa.Hand
set_option linter.unusedVariables false
set_option linter.unusedSimpArgs false
theorem Ev.const {α : Type} {o : Option α} {r : α} (h : o = some r) : Ev (fun _ => o) r := ⟨0, fun _ _ => h⟩
theorem Ev.ifp {α : Type} {c : Prop} [Decidable c] {g f : Nat → Option α} {r : α} (hc : c) (h : Ev g r) : Ev (fun k => if c then g k else f k) r := by simpa [hc] using h
theorem Ev.ifn {α : Type} {c : Prop} [Decidable c] {g f : Nat → Option α} {r : α} (hc : ¬ c) (h : Ev f r) : Ev (fun k => if c then g k else f k) r := by simpa [hc] using h
theorem Ev.bnd {α β : Type} {o : Option α} {f : Nat → α → Option β} {a : α} {r : β} (h : o = some a) (k : Ev (fun n => f n a) r) : Ev (fun n => o.bind (f n)) r := by simpa [h] using k
theorem w64 {x : Int} (h0 : -9223372036854775808 ≤ x) (h1 : x < 9223372036854775808) : wrap64 x = x := by unfold wrap64; omega
abbrev g (l : List S29) (i : Nat) : S29 := l.getD i z29
theorem rdT (l : List S29) (i : Nat) : rd_T29 l (i : Int) = g l i := rfl
theorem rdI (l : List Int) (i : Nat) : rd l (i : Int) = l.getD i 0 := rfl
abbrev wl := wait_Reach.wl
/-- What the law lets in. -/
structure Small (l : List S29) : Prop where
  len : l.length ≤ 40
  each : ∀ i, i < l.length → (g l i).f1.length ≤ 20
theorem few_loop (l : List S29) (hl : l.length ≤ 40) (d : Nat) : ∀ i : Nat, i ≤ l.length → l.length - i = d → (Ev (fun k => bobbinlaw13_few.l0 k l (i : Int)) false) ∨ (Ev (fun k => bobbinlaw13_few.l0 k l (i : Int)) true ∧ ∀ j, i ≤ j → j < l.length → (g l j).f1.length ≤ 20) := by
  induction d with
  | zero =>
    intro i hi hd
    exact .inr ⟨Ev.step (fun k => bobbinlaw13_few.l0_eq k _ _) (Ev.ifn (by omega) (Ev.now _)), fun j a b => by omega⟩
  | succ d ih =>
    intro i hi hd
    by_cases c : (g l i).f1.length ≤ 20
    · have st : ∀ {b}, Ev (fun k => bobbinlaw13_few.l0 k l ((i + 1 : Nat) : Int)) b → Ev (fun k => bobbinlaw13_few.l0 k l (i : Int)) b := fun h => by
        refine Ev.step (fun k => bobbinlaw13_few.l0_eq k _ _) (Ev.ifp (by omega) (Ev.ifp (by omega) (Ev.ifn (by rw [rdT]; omega) ?_)))
        rw [w64 (by omega) (by omega)]
        exact h
      rcases ih (i + 1) (by omega) (by omega) with h | ⟨h, k⟩
      · exact .inl (st h)
      · refine .inr ⟨st h, fun j a b => ?_⟩
        rcases Nat.lt_or_ge i j with q | q
        · exact k j q b
        · obtain rfl : j = i := by omega
          exact c
    · exact .inl (Ev.step (fun k => bobbinlaw13_few.l0_eq k _ _) (Ev.ifp (by omega) (Ev.ifp (by omega) (Ev.ifp (by rw [rdT]; omega) (Ev.now _)))))
theorem few_cases (l : List S29) : Ev (fun k => bobbinlaw13_few.f k l) false ∨ (Ev (fun k => bobbinlaw13_few.f k l) true ∧ Small l) := by
  unfold bobbinlaw13_few.f
  by_cases c : (l.length : Int) > 40
  · exact .inl (Ev.ifp c (Ev.now _))
  · rcases few_loop l (by omega) l.length 0 (by omega) (by omega) with h | ⟨h, k⟩
    · exact .inl (Ev.ifn c h)
    · exact .inr ⟨Ev.ifn c h, by omega, fun i hi => k i (Nat.zero_le _) hi⟩
theorem flat_le (n : Nat) : ∀ (l : WL), (∀ e ∈ l, e.2.length ≤ n) → (flat l).length ≤ n * l.length
  | [], _ => by simp [flat]
  | e :: r, h => by
    have := flat_le n r (fun x hx => h x (by simp [hx]))
    have h0 := h e (by simp)
    have : (flat (e :: r)).length = e.2.length + (flat r).length := by simp [flat]
    simp only [List.length_cons, Nat.mul_add, Nat.mul_one]
    omega
theorem mem_g {l : List S29} {x : S29} (h : x ∈ l) : ∃ i, i < l.length ∧ g l i = x := by
  obtain ⟨i, hi, rfl⟩ := List.mem_iff_getElem.1 h
  exact ⟨i, hi, by simp [g, List.getD_eq_getElem?_getD, List.getElem?_eq_getElem hi]⟩
theorem g_mem {l : List S29} {i : Nat} (h : i < l.length) : g l i ∈ l := by
  rw [show g l i = l[i] by simp [g, List.getD_eq_getElem?_getD, List.getElem?_eq_getElem h]]
  exact List.getElem_mem h
/-- Whole numbers of their kind. -/
def Wf (l : List S29) : Prop := ∀ a ∈ l, (Lit.int .i64 a.f0).wf = true ∧ ∀ z ∈ a.f1, (Lit.int .i64 z).wf = true
theorem fits_of {l : List S29} (n m : Nat) (h1 : l.length ≤ n) (h2 : ∀ a ∈ l, a.f1.length ≤ m) (hn : n ≤ 1000000) (hm : m * n ≤ 1000000) (hw : Wf l) : fits (wl l) = true := by
  have hl : (wl l).length = l.length := by simp [wait_Reach.wl]
  refine fits_iff.2 ⟨by omega, ?_, fun z hz => ?_⟩
  · have := flat_le m (wl l) (fun e he => by
      obtain ⟨x, hx, rfl⟩ := List.mem_map.1 he
      exact h2 x hx)
    rw [hl] at this
    exact Nat.le_trans this (Nat.le_trans (Nat.mul_le_mul_left _ h1) hm)
  · obtain ⟨e, he, hz⟩ := List.mem_flatMap.1 hz
    obtain ⟨x, hx, rfl⟩ := List.mem_map.1 he
    exact (hw x hx).2 z hz
theorem Small.fits {l : List S29} (h : Small l) (hw : Wf l) : fits (wl l) = true :=
  fits_of 40 20 h.len (fun a ha => by obtain ⟨i, hi, rfl⟩ := mem_g ha; exact h.each i hi) (by decide) (by decide) hw
theorem reach_f {l : List S29} (h : fits (wl l) = true) (a b : Int) : wait_Reach.f l a b = some (rch (wl l) a b) := by unfold wait_Reach.f; rw [if_pos h]
theorem adj_iff {l : List S29} {a b : Int} : Adj (wl l) a b ↔ ∃ i, i < l.length ∧ (g l i).f0 = a ∧ ∃ j, j < (g l i).f1.length ∧ (g l i).f1.getD j 0 = b := by
  constructor
  · rintro ⟨e, he, h1, h2⟩
    obtain ⟨x, hx, rfl⟩ := List.mem_map.1 he
    obtain ⟨i, hi, rfl⟩ := mem_g hx
    obtain ⟨j, hj, hb⟩ := List.mem_iff_getElem.1 h2
    exact ⟨i, hi, h1, j, hj, by rw [List.getD_eq_getElem?_getD, List.getElem?_eq_getElem hj]; exact hb⟩
  · rintro ⟨i, hi, h1, j, hj, hb⟩
    refine ⟨((g l i).f0, (g l i).f1), List.mem_map.2 ⟨g l i, g_mem hi, rfl⟩, h1, ?_⟩
    rw [← hb, List.getD_eq_getElem?_getD, List.getElem?_eq_getElem hj]
    exact List.getElem_mem hj
theorem Rch.trans {l : WL} {a b c : Int} (h : Rch l a b) (k : Rch l b c) : Rch l a c := by
  induction k with
  | one q => exact .more h q
  | more _ q ih => exact .more ih q
theorem Rch.head {l : WL} {a b : Int} : Rch l a b ↔ ∃ z, Adj l a z ∧ (z = b ∨ Rch l z b) := by
  constructor
  · intro h
    induction h with
    | one q => exact ⟨_, q, .inl rfl⟩
    | more _ q ih =>
      obtain ⟨z, hz, rfl | h⟩ := ih
      · exact ⟨_, hz, .inr (.one q)⟩
      · exact ⟨_, hz, .inr (.more h q)⟩
  · rintro ⟨z, hz, rfl | h⟩
    · exact .one hz
    · exact Rch.trans (.one hz) h
end Go.Proofs.Ytdpdghahmapgkaa.Pure
