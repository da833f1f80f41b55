/- The document's answer for the waits is who reaches whom. -/
import Derived.Test.YtdpdghahmapgkaaWait
import Derived.Test.YtdpdghahmapgkaaPrint1
import Derived.Test.YtdpdghahmapgkaaPrint2
import Derived.Test.YtdpdghahmapgkaaPrint3
namespace Go.Proofs.Ytdpdghahmapgkaa.Pure
open Go.RowKit Go.Proofs.Ytdpdghahmapgkaa.Print Go.Proofs.YtdpdghahmapgkaaW.PrintWords Go.Proofs.YtdpdghahmapgkaaW.PrintLast Go.Proofs.Ytdpdghahmapgkaa.Hand
set_option linter.unusedVariables false
set_option linter.unusedSimpArgs false
theorem in_loop (l : List Int) (a : Int) (hl : l.length ≤ 1000000) (d : Nat) : ∀ i : Nat, i ≤ l.length → l.length - i = d → Ev (fun k => bobbinref13_in.l0 k l a (i : Int)) (decide (a ∈ l.drop i)) := by
  induction d with
  | zero =>
    intro i hi hd
    refine Ev.step (fun k => bobbinref13_in.l0_eq k _ _ _) (Ev.ifn (by omega) (Ev.const ?_))
    rw [List.drop_eq_nil_of_le (by omega)]
    simp
  | succ d ih =>
    intro i hi hd
    have hl2 : i < l.length := by omega
    refine Ev.step (fun k => bobbinref13_in.l0_eq k _ _ _) (Ev.ifp (by omega) (Ev.ifp (by omega) ?_))
    rw [w64 (by omega) (by omega), rdI, List.drop_eq_getElem_cons hl2]
    have e : l.getD i 0 = l[i] := by rw [List.getD_eq_getElem?_getD, List.getElem?_eq_getElem hl2]; rfl
    rw [e]
    by_cases c : l[i] = a
    · exact Ev.ifp c (Ev.const (by simp [c]))
    · have := ih (i + 1) (by omega) (by omega)
      refine Ev.ifn c ?_
      rw [show decide (a ∈ l[i] :: l.drop (i + 1)) = decide (a ∈ l.drop (i + 1)) by rw [decide_eq_decide, List.mem_cons]; exact ⟨fun q => q.resolve_left (Ne.symm c), .inr⟩]
      exact this
theorem in_ev {l : List Int} (hl : l.length ≤ 1000000) (a : Int) : Ev (fun k => bobbinref13_in.f k l a) (decide (a ∈ l)) := by
  have := in_loop l a hl l.length 0 (by omega) (by omega)
  rw [List.drop_zero] at this
  exact this
/-- What has come is reached, each once. -/
structure Out (l : List S29) (fr : Int) (out : List Int) : Prop where
  sound : ∀ x ∈ out, Rch (wl l) fr x
  nodup : out.Nodup
theorem Out.len {l : List S29} {fr : Int} {out : List Int} (h : Out l fr out) : out.length ≤ (flat (wl l)).length :=
  nodup_le h.nodup (fun x hx => by
    cases h.sound x hx with
    | one a => exact flat_adj a
    | more _ a => exact flat_adj a)
def Goal (l : List S29) (fr : Int) (g : Nat → Option (List Int)) : Prop := ∃ res, Ev g res ∧ res.length ≤ 1000000 ∧ ∀ x, x ∈ res ↔ Rch (wl l) fr x
theorem Goal.step {l : List S29} {fr : Int} {g f : Nat → Option (List Int)} (e : ∀ k, g (k + 1) = f k) (h : Goal l fr f) : Goal l fr g := by
  obtain ⟨r, h1, h2⟩ := h
  exact ⟨r, Ev.step e h1, h2⟩
theorem Goal.ifp {l : List S29} {fr : Int} {c : Prop} [Decidable c] {g f : Nat → Option (List Int)} (hc : c) (h : Goal l fr g) : Goal l fr (fun k => if c then g k else f k) := by
  obtain ⟨r, h1, h2⟩ := h
  exact ⟨r, Ev.ifp hc h1, h2⟩
theorem Goal.ifn {l : List S29} {fr : Int} {c : Prop} [Decidable c] {g f : Nat → Option (List Int)} (hc : ¬ c) (h : Goal l fr f) : Goal l fr (fun k => if c then g k else f k) := by
  obtain ⟨r, h1, h2⟩ := h
  exact ⟨r, Ev.ifn hc h1, h2⟩
theorem Goal.bind {α : Type} {l : List S29} {fr : Int} {o : Nat → Option α} {f : Nat → α → Option (List Int)} {a : α} (ho : Ev o a) (h : Goal l fr (fun k => f k a)) : Goal l fr (fun k => (o k).bind (f k)) := by
  obtain ⟨r, h1, h2⟩ := h
  exact ⟨r, Ev.bind ho h1, h2⟩
/-- One round over all that wait: what has come, and whether it grew. -/
structure St (l : List S29) (fr : Int) (out0 : List Int) (i : Nat) (out : List Int) (grew : Bool) : Prop where
  told : Out l fr out
  more : grew = true → out0.length < out.length
  same : grew = false → out = out0 ∧ ∀ i', i' < i → i' < l.length → ((g l i').f0 = fr ∨ (g l i').f0 ∈ out0) → ∀ j, j < (g l i').f1.length → (g l i').f1.getD j 0 ∈ out0
section
variable {l : List S29} (hS : Small l) (hN : (flat (wl l)).length ≤ 1000000) {fr : Int} {out0 : List Int} (again : ∀ out, Out l fr out → out0.length < out.length → Goal l fr (fun k => bobbinref13_Reached.l0 k l fr out))
include hS hN in
theorem ref_l2 (i : Nat) (hi : i < l.length) (next : ∀ out grew, St l fr out0 (i + 1) out grew → Goal l fr (fun k => bobbinref13_Reached.l1 k l fr out grew ((i + 1 : Nat) : Int))) (d : Nat) :
    ∀ (j : Nat) (out : List Int) (grew : Bool), St l fr out0 i out grew → ((g l i).f0 = fr ∨ (g l i).f0 ∈ out) → (grew = false → ∀ j', j' < j → j' < (g l i).f1.length → (g l i).f1.getD j' 0 ∈ out0) → j ≤ (g l i).f1.length → (g l i).f1.length - j = d →
      Goal l fr (fun k => bobbinref13_Reached.l2 k l fr out grew (i : Int) (j : Int)) := by
  have hl := hS.len
  have he := hS.each i hi
  induction d with
  | zero =>
    intro j out grew st hc hd hj hdd
    refine Goal.step (fun k => bobbinref13_Reached.l2_eq k _ _ _ _ _ _) (Goal.ifp (by omega) (Goal.ifp (by omega) (Goal.ifn (by rw [rdT]; omega) ?_)))
    rw [w64 (by omega) (by omega)]
    refine next out grew ⟨st.told, st.more, fun q => ⟨(st.same q).1, fun i' a b h => ?_⟩⟩
    rcases Nat.lt_or_ge i' i with r | r
    · exact (st.same q).2 i' r b h
    · obtain rfl : i' = i := by omega
      exact fun j' hj' => hd q j' (by omega) hj'
  | succ d ih =>
    intro j out grew st hc hd hj hdd
    have hjl : j < (g l i).f1.length := by omega
    have hol := st.told.len
    refine Goal.step (fun k => bobbinref13_Reached.l2_eq k _ _ _ _ _ _) (Goal.ifp (by omega) (Goal.ifp (by omega) (Goal.ifp (by rw [rdT]; omega) (Goal.ifp (by omega) ?_))))
    rw [rdT, rdI, w64 (by omega) (by omega)]
    refine Goal.bind (in_ev (by omega) _) ?_
    by_cases c : (g l i).f1.getD j 0 ∈ out
    · rw [decide_eq_true c]
      refine Goal.ifp rfl (ih (j + 1) out grew st hc (fun q j' a b => ?_) (by omega) (by omega))
      rcases Nat.lt_or_ge j' j with r | r
      · exact hd q j' r b
      · obtain rfl : j' = j := by omega
        rw [← (st.same q).1]
        exact c
    · rw [decide_eq_false c]
      have ha : Adj (wl l) (g l i).f0 ((g l i).f1.getD j 0) := adj_iff.2 ⟨i, hi, rfl, j, hjl, rfl⟩
      have hle : out0.length ≤ out.length := by
        cases grew with
        | true => have := st.more rfl; omega
        | false => rw [(st.same rfl).1]; exact Nat.le_refl _
      refine Goal.ifn (by decide) (Goal.ifp (by omega) (ih (j + 1) _ true ⟨⟨fun x hx => ?_, ?_⟩, fun _ => by simp; omega, fun q => by cases q⟩ (hc.imp id (fun q => List.mem_append_left _ q)) (fun q => by cases q) (by omega) (by omega)))
      · rcases List.mem_append.1 hx with q | q
        · exact st.told.sound x q
        · rw [List.mem_singleton.1 q]
          rcases hc with h | h
          · exact .one (h ▸ ha)
          · exact .more (st.told.sound _ h) ha
      · rw [List.nodup_append]
        refine ⟨st.told.nodup, by simp, fun x hx y hy e => ?_⟩
        rw [List.mem_singleton.1 hy] at e
        exact c (e ▸ hx)
include hS hN again in
theorem ref_l1 (d : Nat) : ∀ (i : Nat) (out : List Int) (grew : Bool), St l fr out0 i out grew → i ≤ l.length → l.length - i = d → Goal l fr (fun k => bobbinref13_Reached.l1 k l fr out grew (i : Int)) := by
  have hl := hS.len
  induction d with
  | zero =>
    intro i out grew st hi hd
    have hol := st.told.len
    refine Goal.step (fun k => bobbinref13_Reached.l1_eq k _ _ _ _ _) (Goal.ifn (by omega) ?_)
    cases grew with
    | true => exact Goal.ifp rfl (again out st.told (st.more rfl))
    | false =>
      refine Goal.ifn (by decide) ⟨out, Ev.now _, by omega, fun x => ⟨st.told.sound x, fun r => ?_⟩⟩
      obtain ⟨rfl, h⟩ := st.same rfl
      have cl : ∀ y, (y = fr ∨ y ∈ out) → ∀ z, Adj (wl l) y z → z ∈ out := fun y hy z hz => by
        obtain ⟨i', hi', rfl, j, hj, rfl⟩ := adj_iff.1 hz
        exact h i' (by omega) hi' hy j hj
      induction r with
      | one a => exact cl _ (.inl rfl) _ a
      | more _ a ih => exact cl _ (.inr ih) _ a
  | succ d ih =>
    intro i out grew st hi hd
    have hil : i < l.length := by omega
    have hol := st.told.len
    refine Goal.step (fun k => bobbinref13_Reached.l1_eq k _ _ _ _ _) (Goal.ifp (by omega) (Goal.ifp (by omega) ?_))
    rw [rdT]
    refine Goal.bind (in_ev (by omega) _) ?_
    have go : ((g l i).f0 = fr ∨ (g l i).f0 ∈ out) → Goal l fr (fun k => bobbinref13_Reached.j2 k l fr out grew (i : Int) false) := fun h =>
      Goal.step (fun k => bobbinref13_Reached.j2_eq k _ _ _ _ _ _) (Goal.ifn (by decide) (ref_l2 hS hN i hil (fun out grew st => ih (i + 1) out grew st (by omega) (by omega)) _ 0 out grew st h (fun _ j' q => absurd q (by omega)) (by omega) rfl))
    by_cases c : (g l i).f0 = fr
    · exact Goal.ifp c (go (.inl c))
    · refine Goal.ifn c ?_
      by_cases q : (g l i).f0 ∈ out
      · rw [decide_eq_true q]
        exact go (.inr q)
      · rw [decide_eq_false q]
        refine Goal.step (fun k => bobbinref13_Reached.j2_eq k _ _ _ _ _ _) (Goal.ifp rfl ?_)
        rw [w64 (by omega) (by omega)]
        refine ih (i + 1) out grew ⟨st.told, st.more, fun e => ⟨(st.same e).1, fun i' a b h => ?_⟩⟩ (by omega) (by omega)
        rcases Nat.lt_or_ge i' i with r | r
        · exact (st.same e).2 i' r b h
        · obtain rfl : i' = i := by omega
          rw [← (st.same e).1] at h
          exact (h.elim c q).elim
end
theorem ref_l0 {l : List S29} (hS : Small l) (hN : (flat (wl l)).length ≤ 1000000) {fr : Int} (n : Nat) : ∀ out, Out l fr out → (flat (wl l)).length - out.length ≤ n → Goal l fr (fun k => bobbinref13_Reached.l0 k l fr out) := by
  induction n with
  | zero =>
    intro out ho hn
    refine Goal.step (fun k => bobbinref13_Reached.l0_eq k _ _ _) (ref_l1 hS hN (out0 := out) (fun o h1 h2 => ?_) l.length 0 out false ⟨ho, fun q => (by cases q), fun _ => ⟨rfl, fun i' q => absurd q (by omega)⟩⟩ (by omega) (by omega))
    have := h1.len
    omega
  | succ n ih =>
    intro out ho hn
    refine Goal.step (fun k => bobbinref13_Reached.l0_eq k _ _ _) (ref_l1 hS hN (out0 := out) (fun o h1 h2 => ih o h1 (by omega)) l.length 0 out false ⟨ho, fun q => (by cases q), fun _ => ⟨rfl, fun i' q => absurd q (by omega)⟩⟩ (by omega) (by omega))
theorem ref_reach {l : List S29} (hS : Small l) (hw : Wf l) (a b : Int) : Ev (fun k => bobbinref13_Reach.f k l a b) (rch (wl l) a b) := by
  obtain ⟨_, hN, _⟩ := fits_iff.1 (hS.fits hw)
  obtain ⟨res, h1, h2, h3⟩ := ref_l0 hS hN (fr := a) _ [] ⟨by simp, by simp⟩ (Nat.le_refl _)
  unfold bobbinref13_Reach.f
  refine Ev.bind h1 (Ev.bind (in_ev h2 b) (Ev.const ?_))
  rw [show decide (b ∈ res) = rch (wl l) a b by rw [Bool.eq_iff_iff, decide_eq_true_iff, h3, rch_iff]]
theorem ref_still {l : List S29} (hS : Small l) (hw : Wf l) : Ev (fun k => bobbinref13_Still.f k l) (!l.any (fun x => rch (wl l) x.f0 x.f0)) := by
  have hl := hS.len
  have lp : ∀ (d i : Nat), i ≤ l.length → l.length - i = d → Ev (fun k => bobbinref13_Still.l0 k l (i : Int)) (!(l.drop i).any (fun x => rch (wl l) x.f0 x.f0)) := fun d => by
    induction d with
    | zero =>
      intro i hi hd
      refine Ev.step (fun k => bobbinref13_Still.l0_eq k _ _) (Ev.ifn (by omega) (Ev.const ?_))
      rw [List.drop_eq_nil_of_le (by omega)]
      rfl
    | succ d ih =>
      intro i hi hd
      have hil : i < l.length := by omega
      refine Ev.step (fun k => bobbinref13_Still.l0_eq k _ _) (Ev.ifp (by omega) (Ev.ifp (by omega) ?_))
      rw [rdT, w64 (by omega) (by omega), List.drop_eq_getElem_cons hil, List.any_cons, show l[i] = g l i by simp [g, List.getD_eq_getElem?_getD, List.getElem?_eq_getElem hil]]
      refine Ev.bind (ref_reach hS hw _ _) ?_
      cases e : rch (wl l) (g l i).f0 (g l i).f0 with
      | true => exact Ev.ifp rfl (Ev.now _)
      | false => exact Ev.ifn (by decide) (ih (i + 1) (by omega) (by omega))
  have := lp l.length 0 (by omega) (by omega)
  rw [List.drop_zero] at this
  exact this
end Go.Proofs.Ytdpdghahmapgkaa.Pure
