/- The pure statement of ClockRound: where nothing is pinned, as many pages as there are frames, admitted one behind the other, and not touched, are all there; one more lets the first of them go. No condition. -/
import Derived.Test.YtoklljioloekmaaClock2
import Derived.Test.YtoklljioloekmaaPrint3
import Derived.Test.YtoklljioloekmaaPrint6
namespace Go.Proofs.Ytoklljioloekmaa.Pure
set_option linter.unusedVariables false
set_option linter.unusedSimpArgs false
open Go.RowKit Go.Proofs.Ytoklljioloekmaa.Print Go.Proofs.YtoklljioloekmaaW.PrintWords Go.Proofs.YtoklljioloekmaaW.PrintLast
def L (first : Int) (i : Nat) : List S32 := (List.range i).map (fun (j : Nat) => (⟨first + (j : Int), true, false⟩ : S32))
theorem L_len (first : Int) (i : Nat) : (L first i).length = i := by simp [L]
theorem L_at {first : Int} {i j : Nat} (h : j < i) : g (L first i) j = ⟨first + (j : Int), true, false⟩ := by
  simp [g, L, List.getD_eq_getElem?_getD, h]
theorem L_succ (first : Int) (i : Nat) : L first (i + 1) = L first i ++ [⟨first + (i : Int), true, false⟩] := by simp [L, List.range_succ]
theorem L_valid {first : Int} {i : Nat} (h0 : 0 ≤ first) (h1 : first ≤ 200) (hi : i ≤ 16) : Valid 0 (L first i) where
  len := by rw [L_len]; exact hi
  lo := by omega
  hi := fun h => by omega
  pages := fun j hj => by rw [L_len] at hj; rw [L_at hj]; dsimp only; omega
  distinct := fun j k hj hk => by rw [L_len] at hj; rw [L_at hj, L_at (by omega)]; dsimp only; omega
theorem L_new {first : Int} {i j : Nat} (hj : j < (L first i).length) : (g (L first i) j).f0 ≠ first + (i : Int) := by rw [L_len] at hj; rw [L_at hj]; dsimp only; omega
theorem sweep (first p : Int) (n : Nat) (hn : 0 < n) (d : Nat) : ∀ (l : List S32) (m : Nat), l.length = n → n - m = d → m ≤ n → (∀ j, j < n → (g l j).f2 = false ∧ (g l j).f0 = first + (j : Int)) → (∀ j, j < m → (g l j).f1 = false) → (∀ j, m ≤ j → j < n → (g l j).f1 = true) →
    ∃ a b, ∀ k, d + 1 ≤ k → loop k l ((m % n : Nat) : Int) p = some (a, b, first, 0) := by
  induction d with
  | zero =>
    intro l m hl hd hm hg h0 h1
    obtain rfl : m = n := by omega
    rw [Nat.mod_self]
    have f1 := h0 0 hn
    have f2 := hg 0 hn
    refine ⟨(((0 + 1) % l.length : Nat) : Int), l.set 0 ⟨p, true, false⟩, fun k hk => ?_⟩
    obtain ⟨k, rfl⟩ : ∃ q, k = q + 1 := ⟨k - 1, by omega⟩
    rw [loop_stop p (by omega) f2.1 f1 k, f2.2, show first + ((0 : Nat) : Int) = first by omega]
  | succ d ih =>
    intro l m hl hd hm hg h0 h1
    have hmn : m < n := by omega
    rw [Nat.mod_eq_of_lt hmn]
    have hml : m < l.length := by omega
    obtain ⟨a, b, hk⟩ := ih (l.set m { g l m with f1 := false }) (m + 1) (by simpa using hl) (by omega) (by omega)
      (fun j hj => by
        rw [g_set _ hml]
        by_cases e : m = j
        · subst e; simpa using hg m hj
        · simpa [e] using hg j hj)
      (fun j hj => by
        rw [g_set _ hml]
        by_cases e : m = j
        · simp [e]
        · simpa [e] using h0 j (by omega))
      (fun j a b => by rw [g_set_ne _ hml (by omega)]; exact h1 j (by omega) b)
    refine ⟨a, b, fun k hk2 => ?_⟩
    obtain ⟨k, rfl⟩ : ∃ q, k = q + 1 := ⟨k - 1, by omega⟩
    rw [loop_ref p hml (hg m hmn).1 (h1 m (Nat.le_refl _) hmn) k, hl]
    exact hk k (by omega)
theorem has_loop (most first : Int) (n : Nat) (hm : most = (n : Int)) (hn : 1 ≤ n ∧ n ≤ 16) (h0 : 0 ≤ first) (h1 : first ≤ 200) (d : Nat) : ∀ i : Nat, i ≤ n → n - i = d → Ev (fun k => bobbinlaw16_ClockRound.l1 k most first (i : Int) 0 (L first n)) true := by
  have v := L_valid h0 h1 hn.2
  induction d with
  | zero =>
    intro i hi hd
    refine Ev.step (fun k => bobbinlaw16_ClockRound.l1_eq k _ _ _ _ _) (Ev.ifn (by omega) ?_)
    obtain ⟨a, b, hs⟩ := sweep first (first + (n : Int)) n (by omega) n (L first n) 0 (L_len _ _) (by omega) (by omega) (fun j hj => by rw [L_at hj]; exact ⟨rfl, rfl⟩) (fun j hj => absurd hj (by omega)) (fun j _ hj => by rw [L_at hj])
    rw [hm, w64 (by omega) (by omega)]
    have hx : idx (L first n) (first + (n : Int)) = -1 := idx_neg (fun j hj => L_new hj)
    refine Ev.bind (admit_ok v (by omega) ⟨by omega, by omega, by rw [L_len]; omega⟩ (Ev.ifn (by rw [show clock_at.idx _ _ = -1 from hx]; omega) (Ev.ifn ?_ (Ev.ifn (by rw [L_len]; omega) (Ev.ex (n + 1) hs))))) (Ev.ifp rfl (Ev.const (by simp)))
    rintro ⟨_, q⟩
    have := any_free.2 ⟨0, by rw [L_len]; omega, (by rw [L_at (by omega)] : (g (L first n) 0).f2 = false)⟩
    rw [this] at q
    exact absurd q (by decide)
  | succ d ih =>
    intro i hi hd
    refine Ev.step (fun k => bobbinlaw16_ClockRound.l1_eq k _ _ _ _ _) (Ev.ifp (by omega) ?_)
    rw [w64 (x := first + (i : Int)) (by omega) (by omega), w64 (x := (i : Int) + 1) (by omega) (by omega)]
    have hl : i < (L first n).length := by rw [L_len]; omega
    have := has_yes v hl
    rw [L_at (by omega)] at this
    exact Ev.bind this (Ev.ifp rfl (ih (i + 1) (by omega) (by omega)))
theorem admit_loop (most first : Int) (n : Nat) (hm : most = (n : Int)) (hn : 1 ≤ n ∧ n ≤ 16) (h0 : 0 ≤ first) (h1 : first ≤ 200) (d : Nat) : ∀ i : Nat, i ≤ n → n - i = d → Ev (fun k => bobbinlaw16_ClockRound.l0 k most first (i : Int) 0 (L first i)) true := by
  induction d with
  | zero =>
    intro i hi hd
    obtain rfl : i = n := by omega
    exact Ev.step (fun k => bobbinlaw16_ClockRound.l0_eq k _ _ _ _ _) (Ev.ifn (by omega) (has_loop most first i hm hn h0 h1 i 0 (by omega) (by omega)))
  | succ d ih =>
    intro i hi hd
    refine Ev.step (fun k => bobbinlaw16_ClockRound.l0_eq k _ _ _ _ _) (Ev.ifp (by omega) ?_)
    rw [w64 (x := first + (i : Int)) (by omega) (by omega), w64 (x := (i : Int) + 1) (by omega) (by omega)]
    have hx : idx (L first i) (first + (i : Int)) = -1 := idx_neg (fun j hj => L_new hj)
    refine Ev.bind (admit_ok (L_valid h0 h1 (by omega)) (by omega) ⟨by omega, by omega, by rw [L_len]; omega⟩ (Ev.ifn (by rw [show clock_at.idx _ _ = -1 from hx]; omega) (Ev.ifn (by rw [L_len]; omega) (Ev.ifp (by rw [L_len]; omega) (Ev.now _))))) (Ev.ifp rfl (Ev.ifp rfl ?_))
    have := ih (i + 1) (by omega) (by omega)
    rw [L_succ] at this
    exact this
theorem awake16 : Ev (fun k => bobbinlaw16_awake.f k) true := Ev.of bobbinlaw16_awake.mono (k := 12) (by decide +kernel)
theorem ClockRound : bobbinlaw16_ClockRound.Pure := by
  intro most first hm hf
  refine Ev.rounds ?_
  unfold bobbinlaw16_ClockRound.f
  refine Ev.bind awake16 (Ev.ifp rfl ?_)
  have stop : Ev (fun k => bobbinlaw16_ClockRound.j0 k most first true true) true := Ev.step (fun k => bobbinlaw16_ClockRound.j0_eq k _ _ _ _) (Ev.ifp rfl (Ev.now _))
  by_cases c1 : most < 1
  · exact Ev.ifp c1 stop
  refine Ev.ifn c1 ?_
  by_cases c2 : most > 16
  · exact Ev.ifp c2 stop
  refine Ev.ifn c2 ?_
  by_cases c3 : first < 0
  · exact Ev.ifp c3 stop
  refine Ev.ifn c3 ?_
  by_cases c4 : first > 200
  · rw [decide_eq_true c4]; exact stop
  rw [decide_eq_false c4]
  obtain ⟨n, rfl⟩ := Int.eq_ofNat_of_zero_le (show 0 ≤ most by omega)
  exact Ev.step (fun k => bobbinlaw16_ClockRound.j0_eq k _ _ _ _) (Ev.ifn (by decide) (admit_loop n first n rfl ⟨by omega, by omega⟩ (by omega) (by omega) n 0 (by omega) (by omega)))
end Go.Proofs.Ytoklljioloekmaa.Pure
