/- What Admit comes to where a frame is taken over, and what a clock has then. -/
import Derived.Test.YtoklljioloekmaaClock2
import Derived.Test.YtoklljioloekmaaPrint3
namespace Go.Proofs.Ytoklljioloekmaa.Pure
set_option linter.unusedVariables false
set_option linter.unusedSimpArgs false
open Go.RowKit Go.Proofs.Ytoklljioloekmaa.Print Go.Proofs.YtoklljioloekmaaW.PrintWords Go.Proofs.YtoklljioloekmaaW.PrintLast
theorem awake16' : Ev (fun k => bobbinlaw16_awake.f k) true := Ev.of bobbinlaw16_awake.mono (k := 12) (by decide +kernel)
theorem idx_new {l : List S32} {p : Int} (h : idx l p = -1) (j : Nat) (hj : j < l.length) : (g l j).f0 ≠ p := by
  rcases idx_cases l p with ⟨_, k⟩ | ⟨i, k, _⟩
  · exact k j hj
  · omega
theorem g_app {l : List S32} {x : S32} {i : Nat} (h : i < l.length) : g (l ++ [x]) i = g l i := by
  simp only [g, List.getD_eq_getElem?_getD]
  rw [List.getElem?_append_left h]
theorem g_end {l : List S32} {x : S32} : g (l ++ [x]) l.length = x := by simp [g, List.getD_eq_getElem?_getD]
theorem app_valid {h : Int} {l : List S32} {page : Int} (v : Valid h l) (h1 : 0 ≤ page ∧ page ≤ 255) (hl : l.length < 16) (hn : ∀ j, j < l.length → (g l j).f0 ≠ page) : Valid h (l ++ [⟨page, true, false⟩]) := by
  have hlen : (l ++ [(⟨page, true, false⟩ : S32)]).length = l.length + 1 := by simp
  refine ⟨by omega, v.lo, fun a => by have := v.hi a; omega, fun i hi => ?_, fun i j hi hj => ?_⟩
  · by_cases c : i < l.length
    · rw [g_app c]; exact v.pages i c
    · obtain rfl : i = l.length := by omega
      rw [g_end]; exact h1
  · by_cases c : i < l.length
    · rw [g_app c, g_app (by omega)]; exact v.distinct i j c hj
    · obtain rfl : i = l.length := by omega
      rw [g_end, g_app (by omega)]; exact hn j (by omega)
theorem set_valid {h : Int} {l m : List S32} {i : Nat} {page : Int} (v : Valid h l) (s : Sim l m) (hi : i < l.length) (h1 : 0 ≤ page ∧ page ≤ 255) (hn : ∀ j, j < l.length → (g l j).f0 ≠ page) :
    Valid (((i + 1) % l.length : Nat) : Int) (m.set i ⟨page, true, false⟩) := by
  have hm : i < m.length := by rw [← s.1]; exact hi
  have hlen : (m.set i (⟨page, true, false⟩ : S32)).length = l.length := by simp [s.1]
  have f0 : ∀ j, j < l.length → j ≠ i → (g (m.set i ⟨page, true, false⟩) j).f0 = (g l j).f0 := fun j hj ne => by rw [g_set_ne _ hm (Ne.symm ne), (s.2 j hj).1]
  have lt : (i + 1) % l.length < l.length := Nat.mod_lt _ (by omega)
  refine ⟨by rw [hlen]; exact v.len, by omega, fun _ => by omega, fun j hj => ?_, fun j k hj hk => ?_⟩
  · rw [hlen] at hj
    by_cases c : j = i
    · subst c; rw [g_set_self _ hm]; exact h1
    · rw [f0 j hj c]; exact v.pages j hj
  · rw [hlen] at hj
    by_cases c : j = i
    · subst c; rw [g_set_self _ hm, f0 k (by omega) (by omega)]; exact hn k (by omega)
    · rw [f0 j hj c]
      by_cases c2 : k = i
      · subst c2; rw [g_set_self _ hm]; exact Ne.symm (hn j hj)
      · rw [f0 k (by omega) c2]; exact v.distinct j k hj hk
/-- A frame is taken over. -/
theorem admit_set {h : Int} {l : List S32} {most page : Int} (v : Valid h l) (h1 : 0 ≤ page ∧ page ≤ 255) (h2 : 1 ≤ most ∧ most ≤ 16 ∧ (l.length : Int) ≤ most) (hn : idx l page = -1) (hlen : ¬ (l.length : Int) < most) (hf : ¬ ((l.length : Int) = most ∧ l.any (fun x => !x.f2) = false)) :
    ∃ i m, i < l.length ∧ Sim l m ∧ (g l i).f2 = false ∧ ((∃ j, j < l.length ∧ (g l j).f1 = false ∧ (g l j).f2 = false) → (g l i).f1 = false) ∧
      Ev (fun k => clock_Admit.f k h l most page) ((((i + 1) % l.length : Nat) : Int), m.set i ⟨page, true, false⟩, (g l i).f0, 0) := by
  obtain ⟨hh, rfl⟩ := Int.eq_ofNat_of_zero_le v.lo
  have hhl : hh < l.length := by
    by_cases c : 0 < hh
    · have := v.hi (by omega); omega
    · omega
  have ev : ∀ {i : Nat} {m : List S32} {K : Nat}, (∀ k, K ≤ k → loop k l hh page = some ((((i + 1) % l.length : Nat) : Int), m.set i ⟨page, true, false⟩, (g l i).f0, 0)) → Ev (fun k => clock_Admit.f k hh l most page) ((((i + 1) % l.length : Nat) : Int), m.set i ⟨page, true, false⟩, (g l i).f0, 0) := fun {i m K} hk =>
    admit_ok v h1 h2 (Ev.ifn (by rw [show clock_at.idx l page = -1 from hn]; omega) (Ev.ifn hf (Ev.ifn hlen (Ev.ex K hk))))
  by_cases c : ∃ j, j < l.length ∧ (g l j).f1 = false ∧ (g l j).f2 = false
  · obtain ⟨j, hj, j1, j2⟩ := c
    obtain ⟨d, hd, rfl⟩ := dist hh j l.length hhl hj
    obtain ⟨e, he, i, hi, hil, f1, f2, m, hs, hm, hk⟩ := finds page d l hh hhl hd j1 j2
    exact ⟨i, m, hil, hs, f2, fun _ => f1, ev hk⟩
  · have : ∃ j, j < l.length ∧ (g l j).f2 = false := by
      rw [← any_free]
      cases e : l.any (fun x => !x.f2)
      · exact absurd ⟨by omega, e⟩ hf
      · rfl
    obtain ⟨j, hj, j2⟩ := this
    obtain ⟨d, hd, rfl⟩ := dist hh j l.length hhl hj
    obtain ⟨i, m, hil, hs, f2, hk⟩ := ends page d l hh hhl hd j2
    exact ⟨i, m, hil, hs, f2, fun q => absurd q c, ev hk⟩
/-- What Admit comes to, at a clock that may be: an error, one more frame, or a frame that is taken over. -/
theorem admit_cases {h : Int} {l : List S32} (v : Valid h l) (most page : Int) :
    (∃ e, e ≠ 0 ∧ Ev (fun k => clock_Admit.f k h l most page) (0, [], 0, e)) ∨
    ((0 ≤ page ∧ page ≤ 255) ∧ (1 ≤ most ∧ most ≤ 16 ∧ (l.length : Int) ≤ most) ∧ idx l page = -1 ∧
      ((((l.length : Int) < most) ∧ Ev (fun k => clock_Admit.f k h l most page) (h, l ++ [⟨page, true, false⟩], -1, 0)) ∨
       ∃ i m, i < l.length ∧ Sim l m ∧ (g l i).f2 = false ∧ ((∃ j, j < l.length ∧ (g l j).f1 = false ∧ (g l j).f2 = false) → (g l i).f1 = false) ∧
      Ev (fun k => clock_Admit.f k h l most page) ((((i + 1) % l.length : Nat) : Int), m.set i ⟨page, true, false⟩, (g l i).f0, 0))) := by
  by_cases hb : page < 0 ∨ 255 < page ∨ most < 1 ∨ 16 < most ∨ most < (l.length : Int)
  · exact .inl ⟨1, by decide, admit_bad (by have := v.len; omega) (.inr hb)⟩
  have h1 : 0 ≤ page ∧ page ≤ 255 := by omega
  have h2 : 1 ≤ most ∧ most ≤ 16 ∧ (l.length : Int) ≤ most := by omega
  by_cases hx : 0 ≤ idx l page
  · exact .inl ⟨5, by decide, admit_ok v h1 h2 (Ev.ifp hx (Ev.now _))⟩
  by_cases hf : (l.length : Int) = most ∧ l.any (fun x => !x.f2) = false
  · exact .inl ⟨4, by decide, admit_ok v h1 h2 (Ev.ifn hx (Ev.ifp hf (Ev.now _)))⟩
  have hn : idx l page = -1 := by
    rcases idx_cases l page with ⟨k, _⟩ | ⟨i, k, _⟩
    · exact k
    · omega
  refine .inr ⟨h1, h2, hn, ?_⟩
  by_cases c : (l.length : Int) < most
  · exact .inl ⟨c, admit_ok v h1 h2 (Ev.ifn hx (Ev.ifn hf (Ev.ifp c (Ev.now _))))⟩
  · exact .inr (admit_set v h1 h2 hn c hf)
end Go.Proofs.Ytoklljioloekmaa.Pure
