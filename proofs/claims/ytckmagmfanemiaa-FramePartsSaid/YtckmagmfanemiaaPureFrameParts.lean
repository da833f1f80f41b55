/- The pure statement of FrameParts: of a part of a sector over another one, and then a part of it once more, there is what the greater part makes; nothing of it is the old one, all of it the new one. No condition. -/
import Derived.Test.YtckmagmfanemiaaFrame
import Derived.Test.YtckmagmfanemiaaPrint5
namespace Go.Proofs.Ytckmagmfanemiaa.Pure
set_option linter.unusedVariables false
set_option linter.unusedSimpArgs false
open Go.RowKit Go.Proofs.Ytckmagmfanemiaa.Print Go.Proofs.YtckmagmfanemiaaW.PrintWords Go.Proofs.YtckmagmfanemiaaW.PrintLast
theorem part_len {old new : List Int} {k : Nat} (ho : old.length = 256) (hn : new.length = 256) (hk : k ≤ 256) : (new.take k ++ old.drop k).length = 256 := by simp; omega
theorem part_twice (old new : List Int) (ho : old.length = 256) (hn : new.length = 256) (a b : Nat) (ha : a ≤ 256) (hb : b ≤ 256) :
    new.take b ++ (new.take a ++ old.drop a).drop b = new.take (max a b) ++ old.drop (max a b) := by
  by_cases h : b ≤ a
  · rw [Nat.max_eq_left h, List.drop_append_of_le_length (by simp; omega), ← List.append_assoc]
    congr 1
    have e := List.take_append_drop b (new.take a)
    rw [List.take_take, Nat.min_eq_left h] at e
    exact e
  · rw [Nat.max_eq_right (by omega), List.drop_append, List.drop_eq_nil_of_le (by simp; omega), List.nil_append, List.drop_drop]
    congr 2
    simp
    omega
theorem FrameParts : bobbinlaw02_FrameParts.Pure := by
  intro o n a b _ _ _ _ _ _ _ _
  refine Ev.rounds ?_
  unfold bobbinlaw02_FrameParts.f
  refine Ev.bnd awake (Ev.ifp rfl ?_)
  have stop : Ev (fun k => bobbinlaw02_FrameParts.j0 k o n a b true true) true := Ev.step (fun k => bobbinlaw02_FrameParts.j0_eq k _ _ _ _ _ _) (Ev.ifp rfl (Ev.now _))
  by_cases c1 : (o.length : Int) = 256
  rotate_left
  · exact Ev.ifn c1 stop
  refine Ev.ifp c1 ?_
  by_cases c2 : (n.length : Int) = 256
  rotate_left
  · exact Ev.ifn c2 stop
  refine Ev.ifp c2 ?_
  by_cases c3 : a < 0
  · exact Ev.ifp c3 stop
  refine Ev.ifn c3 ?_
  by_cases c4 : b < 0
  · exact Ev.ifp c4 stop
  refine Ev.ifn c4 ?_
  by_cases c5 : a > 256
  · exact Ev.ifp c5 stop
  refine Ev.ifn c5 ?_
  by_cases c6 : b > 256
  · rw [decide_eq_true c6]; exact stop
  rw [decide_eq_false c6]
  obtain ⟨a, rfl⟩ := Int.eq_ofNat_of_zero_le (show 0 ≤ a by omega)
  obtain ⟨b, rfl⟩ := Int.eq_ofNat_of_zero_le (show 0 ≤ b by omega)
  have ho : o.length = 256 := by omega
  have hn : n.length = 256 := by omega
  have la := part_len ho hn (show a ≤ 256 by omega)
  refine Ev.step (fun k => bobbinlaw02_FrameParts.j0_eq k _ _ _ _ _ _) (Ev.ifn (by decide) (Ev.bnd (part_ok ho hn (by omega)) (Ev.bnd (part_ok la hn (by omega)) ?_)))
  have key : ∀ m : Nat, m = max a b → Ev (fun k => bobbinlaw02_FrameParts.j1 k o n 0 (n.take b ++ (n.take a ++ o.drop a).drop b) 0 (m : Int)) true := fun m hm => by
    subst hm
    refine Ev.step (fun k => bobbinlaw02_FrameParts.j1_eq k _ _ _ _ _ _) (Ev.bnd (part_ok ho hn (by omega)) (Ev.bnd (part_ok (k := 0) ho hn (by omega)) (Ev.bnd (part_ok (k := 256) ho hn (by omega)) ?_)))
    refine Ev.bind (same_true _ _ (part_twice o n ho hn a b (by omega) (by omega)) (by simp; omega)) (Ev.bind (same_true _ _ (by simp) (by simp; omega)) (Ev.bind (same_true _ _ ?_ (by simp; omega)) ?_))
    · show n.take 256 ++ o.drop 256 = n
      rw [List.take_of_length_le (by omega), List.drop_eq_nil_of_le (by omega), List.append_nil]
    · exact Ev.ifp rfl (Ev.ifp rfl (Ev.ifp rfl (Ev.ifp rfl (Ev.ifp rfl (Ev.ifp rfl (Ev.ifp rfl (Ev.now _)))))))
  by_cases c7 : (b : Int) > (a : Int)
  · exact Ev.ifp c7 (key b (by omega))
  · exact Ev.ifn c7 (key a (by omega))
end Go.Proofs.Ytckmagmfanemiaa.Pure
