/- DiskEnds: what run's device keeps, and what a crash that keeps all leaves. -/
import Derived.Test.YtghhmbagjhmgfaaAlike
namespace Go.Proofs.Ytghhmbagjhmgfaa.Print
set_option linter.unusedVariables false
def setW (D : List (List Int)) (x : Int × List Int) : List (List Int) := D.set x.1.toNat x.2
structure Calm (d : DS) : Prop where
  armed : d.armed = false
  dead : d.dead = false
  lw : d.L = d.W.foldl setW d.D
theorem Calm.lives {d : DS} (h : Calm d) : (livesF d).dead = false := by simp [livesF, h.armed, h.dead]
theorem Calm.write {d : DS} (h : Calm d) (i : Int) (s : List Int) : Calm (writeD d i s) := by
  unfold writeD
  split
  · exact h
  · rw [if_neg (by rw [h.lives]; decide)]
    exact ⟨h.armed, h.lives, by show d.L.set i.toNat s = (d.W ++ [(i, s)]).foldl setW d.D; rw [List.foldl_append, ← h.lw]; rfl⟩
theorem Calm.sync {d : DS} (h : Calm d) : Calm (syncD d) := by
  unfold syncD
  rw [if_neg (by rw [h.dead]; decide), if_neg (by rw [h.lives]; decide)]
  exact ⟨h.armed, h.lives, rfl⟩
theorem run_calm (l : List S35) : Calm (runD l) := by
  refine fold_calm l (newD 20) ⟨rfl, rfl, rfl⟩
where
  fold_calm : ∀ (l : List S35) (d : DS), Calm d → Calm (l.foldl runS d)
  | [], _, h => h
  | x :: t, d, h => fold_calm t _ (by
    unfold runS
    split
    · exact h.write _ _
    · split
      · exact h.sync
      · exact h)
theorem kf_all (i : Nat) : kf (fun j => [true].getD j false) 1 (-1) 0 i = 256 := by
  unfold kf
  rw [if_neg (by omega), if_pos ⟨by decide, by rw [Nat.mod_one]; rfl⟩]
theorem part_all {o s : List Int} (h1 : o.length = 256) (h2 : s.length = 256) : partL o s 256 = s := by
  unfold partL
  rw [show ((256 : Int)).toNat = 256 from rfl, List.take_of_length_le (by omega), List.drop_eq_nil_of_le (by omega), List.append_nil]
theorem crash_none {d : DS} (f : Nat → Int) (h : d.W = []) : (crashD d f).L = d.D := by
  show crL d f (List.range d.W.length) = d.D
  rw [h]
  rfl
theorem crL_all {d : DS} {m : Nat} (f : Nat → Int) (hf : ∀ i, f i = 256) (hO : d.Ok m) : ∀ k, k ≤ d.W.length → crL d f (List.range k) = (d.W.take k).foldl setW d.D
  | 0, _ => rfl
  | k + 1, h => by
    have hW : 0 < d.W.length := by omega
    have hw := w_ok hO hW k
    have hl : wAt d k < (crL d f (List.range k)).length := by rw [crL_len]; exact hw.1
    have h6 : ((crL d f (List.range k)).getD (wAt d k) []).length = 256 := by
      rw [List.getD_eq_getElem?_getD, List.getElem?_eq_getElem hl]
      exact crL_256 f hO hW (fun i => by rw [hf]; omega) _ _ (List.getElem_mem hl)
    rw [List.range_succ, crL_snoc, hf, part_all h6 hw.2.1, crL_all f hf hO k (by omega), List.take_succ_eq_append_getElem (by omega), List.foldl_append]
    have e : d.W.getD (min k (d.W.length - 1)) (0, []) = d.W[k] := by
      rw [show min k (d.W.length - 1) = k by omega, List.getD_eq_getElem?_getD, List.getElem?_eq_getElem (by omega)]
      rfl
    show _ = setW _ d.W[k]
    unfold setW wAt wS
    rw [e]
theorem crash_all {d : DS} {m : Nat} (f : Nat → Int) (hf : ∀ i, f i = 256) (hO : d.Ok m) (hC : Calm d) : (crashD d f).L = d.L := by
  show crL d f (List.range d.W.length) = d.L
  rw [crL_all f hf hO _ (Nat.le_refl _), List.take_length, hC.lw]
end Go.Proofs.Ytghhmbagjhmgfaa.Print
