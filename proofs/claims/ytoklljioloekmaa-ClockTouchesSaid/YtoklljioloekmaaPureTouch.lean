/- What touching and pinning come to (numbers and lists alone). -/
import Derived.Test.YtoklljioloekmaaClockSet
import Derived.Test.YtoklljioloekmaaPrint10
import Derived.Test.YtoklljioloekmaaPrint6
import Derived.Test.YtoklljioloekmaaPrint8
namespace Go.Proofs.Ytoklljioloekmaa.Pure
set_option linter.unusedVariables false
set_option linter.unusedSimpArgs false
open Go.RowKit Go.Proofs.Ytoklljioloekmaa.Print Go.Proofs.YtoklljioloekmaaW.PrintWords Go.Proofs.YtoklljioloekmaaW.PrintLast
theorem rsame_loop1 (h : Int) (l : List S32) (hl : l.length ≤ 1000) (d : Nat) : ∀ i : Nat, i ≤ l.length → l.length - i = d → Ev (fun k => bobbinref16_Same.l0 k (i : Int) h l h l) true := by
  induction d with
  | zero =>
    intro i hi hd
    exact Ev.step (fun k => bobbinref16_Same.l0_eq k _ _ _ _ _) (Ev.ifn (by omega) (Ev.now _))
  | succ d ih =>
    intro i hi hd
    refine Ev.step (fun k => bobbinref16_Same.l0_eq k _ _ _ _ _) (Ev.ifp (by omega) (Ev.ifp (by omega) (Ev.ifp (by omega) (Ev.ifn (by simp) ?_))))
    rw [w64 (by omega) (by omega)]
    exact ih (i + 1) (by omega) (by omega)
theorem rsame1 (h : Int) (l : List S32) (hl : l.length ≤ 1000) : Ev (fun k => bobbinref16_Same.f k h l h l) true := by
  unfold bobbinref16_Same.f
  refine Ev.ifp rfl ?_
  rw [show ((l.length : Int) != (l.length : Int)) = false by simp]
  exact Ev.step (fun k => bobbinref16_Same.j0_eq k _ _ _ _ _) (Ev.ifn (by decide) (rsame_loop1 h l hl l.length 0 (Nat.zero_le _) (by omega)))
theorem touch_val {h : Int} {l : List S32} {p : Int} {i : Nat} (v : Valid h l) (e : idx l p = (i : Int)) : Ev (fun k => clock_Touch.f k h l p) (h, l.set i { g l i with f1 := true }, 0) := by
  have := v.len
  unfold clock_Touch.f
  refine Ev.bind (may_yes v) (Ev.ifp rfl (Ev.ifn (by rw [show clock_at.idx l p = (i : Int) from e]; omega) (Ev.ifp (by omega) ?_)))
  rw [show clock_at.idx l p = (i : Int) from e]
  exact Ev.now _
theorem pin_val {h : Int} {l : List S32} {p : Int} {i : Nat} (on : Bool) (v : Valid h l) (e : idx l p = (i : Int)) : Ev (fun k => clock_Pin.f k h l p on) (h, l.set i { g l i with f2 := on }, 0) := by
  have := v.len
  unfold clock_Pin.f
  refine Ev.bind (may_yes v) (Ev.ifp rfl (Ev.ifn (by rw [show clock_at.idx l p = (i : Int) from e]; omega) (Ev.ifp (by omega) ?_)))
  rw [show clock_at.idx l p = (i : Int) from e]
  exact Ev.now _
theorem page_set {l : List S32} {i : Nat} (hi : i < l.length) {y : S32} (hy : y.f0 = (g l i).f0) (j : Nat) : (g (l.set i y) j).f0 = (g l j).f0 := by
  rw [g_set y hi]
  split
  · rename_i e
    rw [← e, hy]
  · rfl
theorem valid_set {h : Int} {l : List S32} {i : Nat} (v : Valid h l) (hi : i < l.length) {y : S32} (hy : y.f0 = (g l i).f0) : Valid h (l.set i y) where
  len := by rw [List.length_set]; exact v.len
  lo := v.lo
  hi := fun q => by rw [List.length_set]; exact v.hi q
  pages := fun j hj => by rw [List.length_set] at hj; rw [page_set hi hy]; exact v.pages j hj
  distinct := fun j m hj hm => by rw [List.length_set] at hj; rw [page_set hi hy, page_set hi hy]; exact v.distinct j m hj hm
theorem idx_set {l : List S32} {p : Int} {i : Nat} (e : idx l p = (i : Int)) {y : S32} (hy : y.f0 = (g l i).f0) : idx (l.set i y) p = (i : Int) := by
  obtain ⟨hi, hp, hn⟩ := idx_iff.1 e
  refine idx_iff.2 ⟨by rw [List.length_set]; exact hi, by rw [page_set hi hy]; exact hp, fun j hj => by rw [page_set hi hy]; exact hn j hj⟩
end Go.Proofs.Ytoklljioloekmaa.Pure
