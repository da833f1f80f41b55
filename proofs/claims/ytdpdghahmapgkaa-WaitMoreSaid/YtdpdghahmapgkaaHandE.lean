/- wait.Reach, as a function that can be reckoned. -/
import Derived.Test.YtdpdghahmapgkaaHandD
namespace Go.Proofs.Ytdpdghahmapgkaa.Hand
open Go.RowKit Go.Shelf Go.Proofs.YtdpdghahmapgkaaW.PrintWords Go.Proofs.YtdpdghahmapgkaaW.PrintLast Go.Proofs.Ytdpdghahmapgkaa.Print
set_option linter.unusedVariables false
set_option linter.unusedSimpArgs false
/-- One more step: whoever is waited for by one that is there. -/
def grow (l : WL) (fr : Int) (S : List Int) : List Int := S ++ (flat (l.filter (fun e => e.1 == fr || S.contains e.1))).filter (fun z => !S.contains z)
def clo (l : WL) (fr : Int) : Nat → List Int → List Int
  | 0, S => S
  | k + 1, S => clo l fr k (grow l fr S)
def Closed (l : WL) (fr : Int) (S : List Int) : Prop := ∀ y, (y = fr ∨ y ∈ S) → ∀ z, Adj l y z → z ∈ S
theorem mem_grow {l : WL} {fr z : Int} {S : List Int} : z ∈ grow l fr S ↔ z ∈ S ∨ ∃ y, (y = fr ∨ y ∈ S) ∧ Adj l y z := by
  simp only [grow, List.mem_append, List.mem_filter, flat, List.mem_flatMap, Bool.or_eq_true, beq_iff_eq, List.contains_iff_mem, Bool.not_eq_true', decide_eq_false_iff_not, Adj]
  constructor
  · rintro (h | ⟨⟨e, ⟨he, h1⟩, hz⟩, _⟩)
    · exact .inl h
    · exact .inr ⟨e.1, h1, e, he, rfl, hz⟩
  · rintro (h | ⟨y, hy, e, he, rfl, hz⟩)
    · exact .inl h
    · by_cases c : z ∈ S
      · exact .inl c
      · exact .inr ⟨⟨e, ⟨he, hy⟩, hz⟩, by simpa using c⟩
theorem closed_grow {l : WL} {fr : Int} {S : List Int} (h : Closed l fr S) : Closed l fr (grow l fr S) := by
  have e : ∀ z, z ∈ grow l fr S ↔ z ∈ S := fun z => by
    rw [mem_grow]
    exact ⟨fun q => q.elim id (fun ⟨y, hy, a⟩ => h y hy z a), .inl⟩
  intro y hy z hz
  rw [e]
  exact h y (hy.imp id (fun q => (e y).1 q)) z hz
theorem closed_clo {l : WL} {fr : Int} : ∀ (k : Nat) {S : List Int}, Closed l fr S → Closed l fr (clo l fr k S)
  | 0, _, h => h
  | k + 1, _, h => closed_clo k (closed_grow h)
def left (l : WL) (S : List Int) : Nat := ((flat l).filter (fun z => !S.contains z)).length
theorem filter_le {p q : Int → Bool} (h : ∀ x, q x = true → p x = true) : ∀ l : List Int, (l.filter q).length ≤ (l.filter p).length
  | [] => Nat.le_refl _
  | a :: r => by
    have := filter_le h r
    simp only [List.filter_cons]
    by_cases hq : q a = true
    · simp only [hq, h a hq, if_true, List.length_cons]; omega
    · have hq' : q a = false := by simpa using hq
      cases hp : p a <;> simp [hq'] <;> omega
theorem filter_lt {p q : Int → Bool} (h : ∀ x, q x = true → p x = true) {z : Int} (h1 : p z = true) (h2 : q z = false) : ∀ l : List Int, z ∈ l → (l.filter q).length < (l.filter p).length
  | [], hz => by simp at hz
  | a :: r, hz => by
    simp only [List.filter_cons]
    rcases List.mem_cons.1 hz with rfl | hz
    · have := filter_le h r
      simp only [h1, h2, if_true, List.length_cons]
      simp; omega
    · have := filter_lt h h1 h2 r hz
      by_cases hq : q a = true
      · simp only [hq, h a hq, if_true, List.length_cons]; omega
      · have hq' : q a = false := by simpa using hq
        cases hp : p a <;> simp [hq'] <;> omega
theorem clo_closed {l : WL} {fr : Int} : ∀ (k : Nat) (S : List Int), left l S ≤ k → Closed l fr (clo l fr k S)
  | 0, S, h => fun y hy z hz => by
    have : (flat l).filter (fun z => !S.contains z) = [] := List.eq_nil_of_length_eq_zero (by unfold left at h; omega)
    rw [List.filter_eq_nil_iff] at this
    have := this z (flat_adj hz)
    show z ∈ S
    simpa using this
  | k + 1, S, h => by
    by_cases c : ∀ z, z ∈ grow l fr S → z ∈ S
    · exact closed_clo (k + 1) (fun y hy z hz => c z (mem_grow.2 (.inr ⟨y, hy, hz⟩)))
    · obtain ⟨z, hz⟩ := Classical.not_forall.1 c
      have hz1 : z ∈ grow l fr S := Classical.byContradiction fun q => hz fun a => absurd a q
      have hz2 : z ∉ S := fun q => hz fun _ => q
      obtain ⟨y, hy, ha⟩ := (mem_grow.1 hz1).resolve_left hz2
      refine clo_closed k _ ?_
      have := filter_lt (p := fun z => !S.contains z) (q := fun z => !(grow l fr S).contains z) (fun x hx => by
        simp at hx ⊢
        exact fun q => hx (mem_grow.2 (.inl q))) (z := z) (by simpa using hz2) (by simpa using hz1) (flat l) (flat_adj ha)
      unfold left at h ⊢
      omega
theorem clo_mono {l : WL} {fr z : Int} : ∀ (k : Nat) {S : List Int}, (∀ x ∈ S, Rch l fr x) → z ∈ clo l fr k S → Rch l fr z
  | 0, _, h, hz => h z hz
  | k + 1, S, h, hz => clo_mono k (fun x hx => by
      rcases mem_grow.1 hx with q | ⟨y, rfl | hy, ha⟩
      · exact h x q
      · exact .one ha
      · exact .more (h y hy) ha) hz
def rch (l : WL) (a b : Int) : Bool := (clo l a (flat l).length []).contains b
theorem rch_iff {l : WL} {a b : Int} : rch l a b = true ↔ Rch l a b := by
  unfold rch
  rw [List.contains_iff_mem]
  refine ⟨clo_mono _ (by simp), fun h => ?_⟩
  have cl := clo_closed (l := l) (fr := a) (flat l).length [] (by unfold left; exact List.length_filter_le _ _)
  induction h with
  | one q => exact cl _ (.inl rfl) _ q
  | more _ q ih => exact cl _ (.inr ih) _ q
/-- How far the walk may go. -/
def fits (l : WL) : Bool := decide (l.length ≤ 1000000) && decide ((flat l).length ≤ 1000000) && (flat l).all (fun z => (Lit.int .i64 z).wf)
theorem fits_iff {l : WL} : fits l = true ↔ l.length ≤ 1000000 ∧ (flat l).length ≤ 1000000 ∧ ∀ z ∈ flat l, (Lit.int .i64 z).wf = true := by
  simp [fits, List.all_eq_true, and_assoc]
theorem reach_calls (ll : WL) (fr tt : Int) (A : Option Addr) (c : Nat) (w : World) (hC : dW.C w A ll.length ll) (hf : fits ll = true) :
    Calls Try.prog 10 #[.slice A ll.length c, .int .i64 fr, .int .i64 tt] w fun e w' => e = .returned (.bool (rch ll fr tt)) ∧ Below w.heap.size w w' := by
  obtain ⟨h1, h2, h3⟩ := fits_iff.1 hf
  refine (callsIn_wide (n := 3)).1 ((reach10 Fence.wide 3 trivial trivial trivial rfl (by omega) ll fr tt A c w hC h3 h2 h1).mono ?_)
  rintro e w' ⟨⟨b, rfl, hb⟩, hB⟩
  refine ⟨?_, hB⟩
  have : b = rch ll fr tt := by
    rw [Bool.eq_iff_iff, hb, rch_iff]
  rw [this]
end Go.Proofs.Ytdpdghahmapgkaa.Hand
