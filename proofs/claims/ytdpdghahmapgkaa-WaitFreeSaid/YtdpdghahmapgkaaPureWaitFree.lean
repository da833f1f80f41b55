/- The pure statement of WaitFree: as long as nobody reaches itself, somebody waits for nobody. No condition. -/
import Derived.Test.YtdpdghahmapgkaaWait
import Derived.Test.YtdpdghahmapgkaaPrint5
namespace Go.Proofs.Ytdpdghahmapgkaa.Pure
open Go.RowKit Go.Proofs.Ytdpdghahmapgkaa.Print Go.Proofs.YtdpdghahmapgkaaW.PrintWords Go.Proofs.YtdpdghahmapgkaaW.PrintLast Go.Proofs.Ytdpdghahmapgkaa.Hand
set_option linter.unusedVariables false
set_option linter.unusedSimpArgs false
theorem no_chain {W : WL} {L : List Int} (h : ∀ y ∈ L, ¬ Rch W y y) (s : ∀ y ∈ L, ∃ y', y' ∈ L ∧ Rch W y y') : ∀ (n : Nat) (y : Int), y ∈ L → (L.filter (fun z => rch W y z)).length ≤ n → False := by
  intro n
  induction n with
  | zero =>
    intro y hy hn
    obtain ⟨y', hy', r⟩ := s y hy
    have : y' ∈ L.filter (fun z => rch W y z) := List.mem_filter.2 ⟨hy', rch_iff.2 r⟩
    have := List.length_pos_of_mem this
    omega
  | succ n ih =>
    intro y hy hn
    obtain ⟨y', hy', r⟩ := s y hy
    have := Hand.filter_lt (p := fun z => rch W y z) (q := fun z => rch W y' z) (fun z hz => rch_iff.2 (Rch.trans r (rch_iff.1 hz))) (z := y') (rch_iff.2 r) (by
      cases e : rch W y' y' with
      | false => rfl
      | true => exact absurd (rch_iff.1 e) (h y' hy')) L hy'
    exact ih y' hy' (by omega)
def Waits (l : List S29) (z : Int) : Prop := ∃ k, k < l.length ∧ (g l k).f0 = z ∧ 0 < (g l k).f1.length
theorem free_contra {l : List S29} (hst : ∀ i, i < l.length → ¬ Rch (wl l) (g l i).f0 (g l i).f0) (hn : 0 < l.length) (h1 : ∀ i, i < l.length → Waits l (g l i).f0) (h2 : ∀ i, i < l.length → ∀ j, j < (g l i).f1.length → Waits l ((g l i).f1.getD j 0)) : False := by
  have mem : ∀ z, z ∈ l.map (·.f0) ↔ ∃ i, i < l.length ∧ (g l i).f0 = z := fun z => by
    rw [List.mem_map]
    constructor
    · rintro ⟨x, hx, rfl⟩
      obtain ⟨i, hi, rfl⟩ := mem_g hx
      exact ⟨i, hi, rfl⟩
    · rintro ⟨i, hi, rfl⟩
      exact ⟨g l i, g_mem hi, rfl⟩
  refine no_chain (W := wl l) (L := l.map (·.f0)) (fun y hy => ?_) (fun y hy => ?_) _ (g l 0).f0 ((mem _).2 ⟨0, hn, rfl⟩) (Nat.le_refl _)
  · obtain ⟨i, hi, rfl⟩ := (mem y).1 hy
    exact hst i hi
  · obtain ⟨i, hi, rfl⟩ := (mem y).1 hy
    obtain ⟨k, hk, e, hl⟩ := h1 i hi
    obtain ⟨k', hk', e', _⟩ := h2 k hk 0 hl
    exact ⟨_, (mem _).2 ⟨k', hk', rfl⟩, .one (adj_iff.2 ⟨k, hk, e, 0, hl, e'.symm⟩)⟩
/-- Does anybody of whom the first k tell wait for what stands at j? -/
theorem free_3 {l : List S29} (hS : Small l) (i j : Nat) (hi : i < l.length) (hj : j < (g l i).f1.length) (next : Waits l ((g l i).f1.getD j 0) → Ev (fun k => bobbinlaw13_WaitFree.l2 k l (i : Int) ((j + 1 : Nat) : Int)) true) (d : Nat) :
    ∀ (m : Nat) (w : Bool), (w = true → Waits l ((g l i).f1.getD j 0)) → m ≤ l.length → l.length - m = d → Ev (fun k => bobbinlaw13_WaitFree.l3 k l (i : Int) (j : Int) w (m : Int)) true := by
  have hl := hS.len
  have he := hS.each i hi
  induction d with
  | zero =>
    intro m w hw hm hd
    refine Ev.step (fun k => bobbinlaw13_WaitFree.l3_eq k _ _ _ _ _) (Ev.ifn (by omega) ?_)
    rw [w64 (by omega) (by omega)]
    cases w with
    | true => exact Ev.ifp rfl (next (hw rfl))
    | false => exact Ev.ifn (by decide) (Ev.now _)
  | succ d ih =>
    intro m w hw hm hd
    have hml : m < l.length := by omega
    refine Ev.step (fun k => bobbinlaw13_WaitFree.l3_eq k _ _ _ _ _) (Ev.ifp (by omega) ?_)
    rw [w64 (by omega) (by omega), rdT, rdT, rdI]
    cases w with
    | true => exact Ev.ifp rfl (ih (m + 1) true hw (by omega) (by omega))
    | false =>
      refine Ev.ifn (by decide) (Ev.ifp (by omega) (Ev.ifp (by omega) (Ev.ifp (by omega) (Ev.ifp (by omega) (Ev.ifp (by omega) ?_)))))
      by_cases c : (g l m).f0 = (g l i).f1.getD j 0
      · refine Ev.ifp c (ih (m + 1) _ (fun q => ⟨m, hml, c, ?_⟩) (by omega) (by omega))
        have := of_decide_eq_true q
        omega
      · exact Ev.ifn c (ih (m + 1) false (fun q => by cases q) (by omega) (by omega))
theorem free_2 {l : List S29} (hS : Small l) (i : Nat) (hi : i < l.length) (next : (∀ j, j < (g l i).f1.length → Waits l ((g l i).f1.getD j 0)) → Ev (fun k => bobbinlaw13_WaitFree.l0 k l ((i + 1 : Nat) : Int)) true) (d : Nat) :
    ∀ (j : Nat), (∀ j', j' < j → j' < (g l i).f1.length → Waits l ((g l i).f1.getD j' 0)) → j ≤ (g l i).f1.length → (g l i).f1.length - j = d → Ev (fun k => bobbinlaw13_WaitFree.l2 k l (i : Int) (j : Int)) true := by
  have hl := hS.len
  have he := hS.each i hi
  induction d with
  | zero =>
    intro j hw hj hd
    refine Ev.step (fun k => bobbinlaw13_WaitFree.l2_eq k _ _ _) (Ev.ifp (by omega) (Ev.ifp (by omega) (Ev.ifn (by rw [rdT]; omega) ?_)))
    rw [w64 (by omega) (by omega)]
    exact next (fun j' hj' => hw j' (by omega) hj')
  | succ d ih =>
    intro j hw hj hd
    refine Ev.step (fun k => bobbinlaw13_WaitFree.l2_eq k _ _ _) (Ev.ifp (by omega) (Ev.ifp (by omega) (Ev.ifp (by rw [rdT]; omega) ?_)))
    refine free_3 hS i j hi (by omega) (fun hw1 => ih (j + 1) (fun j' a b => ?_) (by omega) (by omega)) l.length 0 false (fun q => by cases q) (by omega) (by omega)
    rcases Nat.lt_or_ge j' j with q | q
    · exact hw j' q b
    · obtain rfl : j' = j := by omega
      exact hw1
theorem free_1 {l : List S29} (hS : Small l) (i : Nat) (hi : i < l.length) (next : Waits l (g l i).f0 → (∀ j, j < (g l i).f1.length → Waits l ((g l i).f1.getD j 0)) → Ev (fun k => bobbinlaw13_WaitFree.l0 k l ((i + 1 : Nat) : Int)) true) (d : Nat) :
    ∀ (m : Nat) (idle : Bool), (idle = false → Waits l (g l i).f0) → m ≤ l.length → l.length - m = d → Ev (fun k => bobbinlaw13_WaitFree.l1 k l (i : Int) idle (m : Int)) true := by
  have hl := hS.len
  induction d with
  | zero =>
    intro m w hw hm hd
    refine Ev.step (fun k => bobbinlaw13_WaitFree.l1_eq k _ _ _ _) (Ev.ifn (by omega) ?_)
    cases w with
    | true => exact Ev.ifp rfl (Ev.now _)
    | false => exact Ev.ifn (by decide) (free_2 hS i hi (next (hw rfl)) _ 0 (fun _ q => absurd q (by omega)) (by omega) rfl)
  | succ d ih =>
    intro m w hw hm hd
    have hml : m < l.length := by omega
    refine Ev.step (fun k => bobbinlaw13_WaitFree.l1_eq k _ _ _ _) (Ev.ifp (by omega) ?_)
    rw [w64 (by omega) (by omega), rdT, rdT]
    cases w with
    | false => exact Ev.ifn (by decide) (ih (m + 1) false hw (by omega) (by omega))
    | true =>
      refine Ev.ifp rfl (Ev.ifp (by omega) (Ev.ifp (by omega) (Ev.ifp (by omega) ?_)))
      by_cases c : (g l m).f0 = (g l i).f0
      · refine Ev.ifp c (ih (m + 1) _ (fun q => ⟨m, hml, c, ?_⟩) (by omega) (by omega))
        have : ¬ (((g l m).f1.length : Int) = 0) := by simpa using q
        omega
      · exact Ev.ifn c (ih (m + 1) true (fun q => by cases q) (by omega) (by omega))
theorem free_0 {l : List S29} (hS : Small l) (hn : 0 < l.length) (hst : ∀ i, i < l.length → ¬ Rch (wl l) (g l i).f0 (g l i).f0) (d : Nat) :
    ∀ (i : Nat), (∀ i', i' < i → i' < l.length → Waits l (g l i').f0 ∧ ∀ j, j < (g l i').f1.length → Waits l ((g l i').f1.getD j 0)) → i ≤ l.length → l.length - i = d → Ev (fun k => bobbinlaw13_WaitFree.l0 k l (i : Int)) true := by
  induction d with
  | zero =>
    intro i h hi hd
    exact (free_contra hst hn (fun i' h' => (h i' (by omega) h').1) (fun i' h' => (h i' (by omega) h').2)).elim
  | succ d ih =>
    intro i h hi hd
    refine Ev.step (fun k => bobbinlaw13_WaitFree.l0_eq k _ _) (Ev.ifp (by omega) ?_)
    refine free_1 hS i (by omega) (fun w1 w2 => ih (i + 1) (fun i' a b => ?_) (by omega) (by omega)) l.length 0 true (fun q => by cases q) (by omega) (by omega)
    rcases Nat.lt_or_ge i' i with q | q
    · exact h i' q b
    · obtain rfl : i' = i := by omega
      exact ⟨w1, w2⟩
theorem WaitFree (x0 : List S29) (w0 : x0.length * 32 ≤ reachBytes ∧ x0.length ≤ maxLen ∧ ∀ a ∈ x0, ((Lit.int .i64 a.f0).wf = true) ∧ (a.f1.length * 8 ≤ reachBytes ∧ a.f1.length ≤ maxLen ∧ ∀ b ∈ a.f1, (Lit.int .i64 b).wf = true)) : ∃ k, bobbinlaw13_WaitFree.f k x0 = some true := by
  have hw : Wf x0 := fun a ha => ⟨(w0.2.2 a ha).1, (w0.2.2 a ha).2.2.2⟩
  refine Ev.rounds ?_
  unfold bobbinlaw13_WaitFree.f
  refine Ev.bnd (show bobbinlaw13_awake.f = some true from rfl) ?_
  have stop : Ev (fun k => bobbinlaw13_WaitFree.j0 k x0 true true) true := Ev.step (fun k => bobbinlaw13_WaitFree.j0_eq k _ _ _) (Ev.ifp rfl (Ev.now _))
  rcases few_cases x0 with h | ⟨h, hS⟩
  · exact Ev.bind h (Ev.ifp rfl (Ev.ifn (by decide) stop))
  · refine Ev.bind h (Ev.ifp rfl (Ev.ifp rfl ?_))
    have hf := hS.fits hw
    refine Ev.bnd (show wait_Still.f x0 = some (!x0.any (fun x => rch (wl x0) x.f0 x.f0)) by unfold wait_Still.f; rw [if_pos hf]) ?_
    cases e : x0.any (fun x => rch (wl x0) x.f0 x.f0) with
    | true => exact Ev.ifn (by decide) stop
    | false =>
      refine Ev.ifp rfl ?_
      rw [List.any_eq_false] at e
      by_cases c : (x0.length : Int) = 0
      · rw [show (((x0.length : Int)) == 0) = true from beq_iff_eq.2 c]
        exact stop
      · rw [show (((x0.length : Int)) == 0) = false from beq_eq_false_iff_ne.2 c]
        refine Ev.step (fun k => bobbinlaw13_WaitFree.j0_eq k _ _ _) (Ev.ifn (by decide) ?_)
        exact free_0 hS (by omega) (fun i hi r => e _ (g_mem hi) (rch_iff.2 r)) x0.length 0 (fun _ q => absurd q (by omega)) (by omega) (by omega)
end Go.Proofs.Ytdpdghahmapgkaa.Pure
