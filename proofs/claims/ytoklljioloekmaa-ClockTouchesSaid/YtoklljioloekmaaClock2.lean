/- The hand's way round the clock, and what is admitted (numbers and lists alone). -/
import Derived.Test.YtoklljioloekmaaClock
namespace Go.Proofs.Ytoklljioloekmaa.Pure
open Go.RowKit Go.Proofs.Ytoklljioloekmaa.Print Go.Proofs.YtoklljioloekmaaW.PrintWords Go.Proofs.YtoklljioloekmaaW.PrintLast
set_option linter.unusedVariables false
set_option linter.unusedSimpArgs false
theorem g_set {l : List S32} {i j : Nat} (x : S32) (hi : i < l.length) : g (l.set i x) j = if i = j then x else g l j := by
  simp only [g, List.getD_eq_getElem?_getD]
  by_cases h : i = j
  · subst h; simp [hi]
  · simp [h]
theorem g_set_self {l : List S32} {i : Nat} (x : S32) (hi : i < l.length) : g (l.set i x) i = x := by rw [g_set x hi, if_pos rfl]
theorem g_set_ne {l : List S32} {i j : Nat} (x : S32) (hi : i < l.length) (h : i ≠ j) : g (l.set i x) j = g l j := by rw [g_set x hi, if_neg h]
/-- The same pages, pinned as they were. -/
def Sim (l m : List S32) : Prop := l.length = m.length ∧ ∀ i, i < l.length → (g l i).f0 = (g m i).f0 ∧ (g l i).f2 = (g m i).f2
theorem Sim.refl (l : List S32) : Sim l l := ⟨rfl, fun _ _ => ⟨rfl, rfl⟩⟩
theorem Sim.trans {a b c : List S32} (h : Sim a b) (k : Sim b c) : Sim a c := ⟨h.1.trans k.1, fun i hi => ⟨(h.2 i hi).1.trans (k.2 i (h.1 ▸ hi)).1, (h.2 i hi).2.trans (k.2 i (h.1 ▸ hi)).2⟩⟩
theorem Sim.clear {l : List S32} {i : Nat} (hi : i < l.length) : Sim l (l.set i { g l i with f1 := false }) := ⟨by simp, fun j hj => by
  rw [g_set _ hi]
  by_cases e : i = j
  · subst e; simp
  · simp [e]⟩
abbrev loop := @clock_Admit.loop
theorem next_lt (h n : Nat) (hn : 0 < n) : ((h : Int) + 1) % (n : Int) = (((h + 1) % n : Nat) : Int) := by rw [Int.natCast_emod, Int.natCast_add]; rfl
theorem loop_pin {l : List S32} {h : Nat} (p : Int) (hh : h < l.length) (h2 : (g l h).f2 = true) (k : Nat) : loop (k + 1) l h p = loop k l (((h + 1) % l.length : Nat) : Int) p := by
  show clock_Admit.loop (k + 1) l h p = _
  rw [clock_Admit.loop, if_pos (by omega), show ((h : Int)).toNat = h from rfl, if_pos h2, next_lt h l.length (by omega)]
theorem loop_ref {l : List S32} {h : Nat} (p : Int) (hh : h < l.length) (h2 : (g l h).f2 = false) (h1 : (g l h).f1 = true) (k : Nat) : loop (k + 1) l h p = loop k (l.set h { g l h with f1 := false }) (((h + 1) % l.length : Nat) : Int) p := by
  show clock_Admit.loop (k + 1) l h p = _
  rw [clock_Admit.loop, if_pos (by omega), show ((h : Int)).toNat = h from rfl, if_neg (by rw [show (l.getD h z32) = g l h from rfl, h2]; decide), if_pos h1, next_lt h l.length (by omega)]
theorem loop_stop {l : List S32} {h : Nat} (p : Int) (hh : h < l.length) (h2 : (g l h).f2 = false) (h1 : (g l h).f1 = false) (k : Nat) : loop (k + 1) l h p = some ((((h + 1) % l.length : Nat) : Int), l.set h ⟨p, true, false⟩, (g l h).f0, 0) := by
  show clock_Admit.loop (k + 1) l h p = _
  rw [clock_Admit.loop, if_pos (by omega), show ((h : Int)).toNat = h from rfl, if_neg (by rw [show (l.getD h z32) = g l h from rfl, h2]; decide), if_neg (by rw [show (l.getD h z32) = g l h from rfl, h1]; decide), next_lt h l.length (by omega)]
theorem next_add (h d n : Nat) (hn : 0 < n) (hh : h < n) : ((h + 1) % n + d) % n = (h + (d + 1)) % n := by
  rw [Nat.mod_add_mod]; congr 1; omega
/-- What the hand finds: within d steps a frame that is neither pinned nor touched. -/
def Finds (p : Int) (d : Nat) (l : List S32) (h : Nat) (K : Nat) : Prop :=
  ∃ e, e ≤ d ∧ ∃ i, i = (h + e) % l.length ∧ i < l.length ∧ (g l i).f1 = false ∧ (g l i).f2 = false ∧ ∃ m, Sim l m ∧ (g m i) = g l i ∧ ∀ k, K ≤ k → loop k l h p = some ((((i + 1) % l.length : Nat) : Int), m.set i ⟨p, true, false⟩, (g l i).f0, 0)
theorem finds (p : Int) (d : Nat) : ∀ (l : List S32) (h : Nat), h < l.length → d < l.length → (g l ((h + d) % l.length)).f1 = false → (g l ((h + d) % l.length)).f2 = false → Finds p d l h (d + 1) := by
  induction d with
  | zero =>
    intro l h hh hd h1 h2
    rw [Nat.add_zero, Nat.mod_eq_of_lt hh] at h1 h2
    refine ⟨0, Nat.le_refl _, h, by rw [Nat.add_zero, Nat.mod_eq_of_lt hh], hh, h1, h2, l, Sim.refl l, rfl, fun k hk => ?_⟩
    obtain ⟨k, rfl⟩ : ∃ q, k = q + 1 := ⟨k - 1, by omega⟩
    exact loop_stop p hh h2 h1 k
  | succ d ih =>
    intro l h hh hd h1 h2
    have hn : 0 < l.length := by omega
    have hnx : (h + 1) % l.length < l.length := Nat.mod_lt _ hn
    have far : ∀ e, e ≤ d → ((h + 1) % l.length + e) % l.length ≠ h := fun e he q => by
      rw [next_add h e _ hn hh] at q
      by_cases c : h + (e + 1) < l.length
      · rw [Nat.mod_eq_of_lt c] at q; omega
      · rw [Nat.mod_eq_sub_mod (by omega), Nat.mod_eq_of_lt (by omega)] at q; omega
    have step : ∀ m : List S32, Sim l m → (∀ j, j ≠ h → g m j = g l j) → (∀ k, loop (k + 1) l h p = loop k m (((h + 1) % l.length : Nat) : Int) p) → Finds p (d + 1) l h (d + 1 + 1) := fun m hs hg hl => by
      have hlen := hs.1
      have j0 : ((h + 1) % l.length + d) % l.length ≠ h := far d (Nat.le_refl _)
      have a1 : (g m (((h + 1) % l.length + d) % m.length)).f1 = false := by rw [← hlen, hg _ j0, next_add h d _ hn hh]; exact h1
      have a2 : (g m (((h + 1) % l.length + d) % m.length)).f2 = false := by rw [← hlen, hg _ j0, next_add h d _ hn hh]; exact h2
      obtain ⟨e, he, i, hi, hil, f1, f2, q, hq, hqi, hk⟩ := ih m ((h + 1) % l.length) (by omega) (by omega) a1 a2
      rw [← hlen] at hi hil
      have hih : i ≠ h := by rw [hi]; exact far e he
      rw [hg i hih] at f1 f2 hqi hk
      refine ⟨e + 1, by omega, i, by rw [hi, next_add h e _ hn hh], hil, f1, f2, q, hs.trans hq, hqi, fun k hk2 => ?_⟩
      obtain ⟨k, rfl⟩ : ∃ q, k = q + 1 := ⟨k - 1, by omega⟩
      rw [hl, hk k (by omega), ← hlen]
    cases c2 : (g l h).f2 with
    | true => exact step l (Sim.refl l) (fun _ _ => rfl) (fun k => loop_pin p hh c2 k)
    | false =>
      cases c1 : (g l h).f1 with
      | true => exact step _ (Sim.clear hh) (fun j hj => g_set_ne _ hh (Ne.symm hj)) (fun k => loop_ref p hh c2 c1 k)
      | false =>
        refine ⟨0, by omega, h, by rw [Nat.add_zero, Nat.mod_eq_of_lt hh], hh, c1, c2, l, Sim.refl l, rfl, fun k hk => ?_⟩
        obtain ⟨k, rfl⟩ : ∃ q, k = q + 1 := ⟨k - 1, by omega⟩
        exact loop_stop p hh c2 c1 k
/-- It ends in any case where one is not pinned. -/
def Ends (p : Int) (l : List S32) (h : Nat) (K : Nat) : Prop :=
  ∃ i m, i < l.length ∧ Sim l m ∧ (g l i).f2 = false ∧ ∀ k, K ≤ k → loop k l h p = some ((((i + 1) % l.length : Nat) : Int), m.set i ⟨p, true, false⟩, (g l i).f0, 0)
theorem ends (p : Int) (d : Nat) : ∀ (l : List S32) (h : Nat), h < l.length → d < l.length → (g l ((h + d) % l.length)).f2 = false → Ends p l h (d + 1 + l.length) := by
  induction d with
  | zero =>
    intro l h hh hd h2
    rw [Nat.add_zero, Nat.mod_eq_of_lt hh] at h2
    cases c1 : (g l h).f1 with
    | false =>
      refine ⟨h, l, hh, Sim.refl l, h2, fun k hk => ?_⟩
      obtain ⟨k, rfl⟩ : ∃ q, k = q + 1 := ⟨k - 1, by omega⟩
      exact loop_stop p hh h2 c1 k
    | true =>
      have hn : 0 < l.length := by omega
      have hs := Sim.clear (l := l) hh
      have hlen := hs.1
      have e1 : ((h + 1) % l.length + (l.length - 1)) % l.length = h := by
        rw [next_add h _ _ hn hh, show h + (l.length - 1 + 1) = h + l.length by omega, Nat.add_mod_right, Nat.mod_eq_of_lt hh]
      have hm := g_set_self { g l h with f1 := false } hh
      obtain ⟨e, he, i, hi, hil, f1, f2, q, hq, hqi, hk⟩ := finds p (l.length - 1) (l.set h { g l h with f1 := false }) ((h + 1) % l.length) (by rw [← hlen]; exact Nat.mod_lt _ hn) (by rw [← hlen]; omega)
        (by rw [← hlen, e1, hm]) (by rw [← hlen, e1, hm]; exact h2)
      rw [← hlen] at hil
      have s := (hs.2 i hil)
      refine ⟨i, q, hil, hs.trans hq, s.2.trans f2, fun k hk2 => ?_⟩
      obtain ⟨k, rfl⟩ : ∃ q, k = q + 1 := ⟨k - 1, by omega⟩
      rw [loop_ref p hh h2 c1, hk k (by omega), ← hlen, ← s.1]
  | succ d ih =>
    intro l h hh hd h2
    have hn : 0 < l.length := by omega
    have step : ∀ m : List S32, Sim l m → (∀ k, loop (k + 1) l h p = loop k m (((h + 1) % l.length : Nat) : Int) p) → Ends p l h (d + 1 + 1 + l.length) := fun m hs hl => by
      have hlen := hs.1
      have hj : (h + (d + 1)) % l.length < l.length := Nat.mod_lt _ hn
      have a2 : (g m (((h + 1) % l.length + d) % m.length)).f2 = false := by rw [← hlen, next_add h d _ hn hh, ← (hs.2 _ hj).2]; exact h2
      obtain ⟨i, q, hil, hq, f2, hk⟩ := ih m ((h + 1) % l.length) (by rw [← hlen]; exact Nat.mod_lt _ hn) (by omega) a2
      rw [← hlen] at hil
      have s := (hs.2 i hil)
      refine ⟨i, q, hil, hs.trans hq, s.2.trans f2, fun k hk2 => ?_⟩
      obtain ⟨k, rfl⟩ : ∃ q, k = q + 1 := ⟨k - 1, by omega⟩
      rw [hl, hk k (by omega), ← hlen, ← s.1]
    cases c2 : (g l h).f2 with
    | true => exact step l (Sim.refl l) (fun k => loop_pin p hh c2 k)
    | false =>
      cases c1 : (g l h).f1 with
      | true => exact step _ (Sim.clear hh) (fun k => loop_ref p hh c2 c1 k)
      | false =>
        refine ⟨h, l, hh, Sim.refl l, c2, fun k hk => ?_⟩
        obtain ⟨k, rfl⟩ : ∃ q, k = q + 1 := ⟨k - 1, by omega⟩
        exact loop_stop p hh c2 c1 k
theorem dist (h j n : Nat) (hh : h < n) (hj : j < n) : ∃ d, d < n ∧ (h + d) % n = j := by
  by_cases c : h ≤ j
  · exact ⟨j - h, by omega, by rw [show h + (j - h) = j by omega]; exact Nat.mod_eq_of_lt hj⟩
  · exact ⟨n + j - h, by omega, by rw [show h + (n + j - h) = j + n by omega, Nat.add_mod_right]; exact Nat.mod_eq_of_lt hj⟩
/-- What Admit comes to. -/
theorem admit_bad {h : Int} {l : List S32} {most page : Int} (hl : l.length ≤ 140737488355328) (hb : ¬ Valid h l ∨ page < 0 ∨ 255 < page ∨ most < 1 ∨ 16 < most ∨ most < (l.length : Int)) : Ev (fun k => clock_Admit.f k h l most page) (0, [], 0, 1) := by
  unfold clock_Admit.f
  by_cases v : Valid h l
  · refine Ev.bind (may_yes v) (Ev.ifp ?_ (Ev.now _))
    unfold clock_Admit.bad
    rcases hb with a | a
    · exact absurd v a
    · exact .inr a
  · exact Ev.bind (may_no v hl) (Ev.ifp (by unfold clock_Admit.bad; exact .inl rfl) (Ev.now _))
theorem admit_ok {h : Int} {l : List S32} {most page : Int} (v : Valid h l) (h1 : 0 ≤ page ∧ page ≤ 255) (h2 : 1 ≤ most ∧ most ≤ 16 ∧ (l.length : Int) ≤ most) {r : Int × List S32 × Int × Int}
    (hr : Ev (fun k => if 0 ≤ clock_at.idx l page then some (0, [], 0, 5) else if (l.length : Int) = most ∧ l.any (fun x => !x.f2) = false then some (0, [], 0, 4) else
      if (l.length : Int) < most then some (h, l ++ [⟨page, true, false⟩], -1, 0) else clock_Admit.loop k l h page) r) : Ev (fun k => clock_Admit.f k h l most page) r := by
  unfold clock_Admit.f
  refine Ev.bind (may_yes v) (Ev.ifn ?_ hr)
  unfold clock_Admit.bad
  rintro (a | a | a | a | a | a)
  · exact absurd a (by decide)
  all_goals omega
theorem any_free {l : List S32} : l.any (fun x => !x.f2) = true ↔ ∃ j, j < l.length ∧ (g l j).f2 = false := by
  rw [List.any_eq_true]
  constructor
  · rintro ⟨x, hx, h⟩
    obtain ⟨j, hj, rfl⟩ := List.mem_iff_getElem.1 hx
    exact ⟨j, hj, by simpa [g, List.getD_eq_getElem?_getD, List.getElem?_eq_getElem hj] using h⟩
  · rintro ⟨j, hj, h⟩
    exact ⟨l[j], List.getElem_mem hj, by simpa [g, List.getD_eq_getElem?_getD, List.getElem?_eq_getElem hj] using h⟩
theorem has_yes {h : Int} {l : List S32} (v : Valid h l) {i : Nat} (hi : i < l.length) : Ev (fun k => clock_Has.f k h l (g l i).f0) true := by
  unfold clock_Has.f
  refine Ev.bind (may_yes v) (Ev.ifp rfl (Ev.const ?_))
  show (some (clock_at.idx l (g l i).f0)).bind _ = _
  rw [Option.bind_some, show clock_at.idx l (g l i).f0 = (i : Int) from v.idx hi]
  simp
theorem has_no {h : Int} {l : List S32} (v : Valid h l) {p : Int} (hp : ∀ j, j < l.length → (g l j).f0 ≠ p) : Ev (fun k => clock_Has.f k h l p) false := by
  unfold clock_Has.f
  refine Ev.bind (may_yes v) (Ev.ifp rfl (Ev.const ?_))
  show (some (clock_at.idx l p)).bind _ = _
  rw [Option.bind_some, show clock_at.idx l p = -1 from idx_neg hp]
  rfl
end Go.Proofs.Ytoklljioloekmaa.Pure
