/- The pure statement of FrameTorn: of two that were sealed with two stamps, a part of the one over the other is torn, or it is the one, or the other, as a whole. No condition. -/
import Derived.Test.YtckmagmfanemiaaFrame
import Derived.Test.YtckmagmfanemiaaPrint7
namespace Go.Proofs.Ytckmagmfanemiaa.Pure
set_option linter.unusedVariables false
set_option linter.unusedSimpArgs false
open Go.RowKit Go.Proofs.Ytckmagmfanemiaa.Print Go.Proofs.YtckmagmfanemiaaW.PrintWords Go.Proofs.YtckmagmfanemiaaW.PrintLast
/-- What a part of a sector over another one is: one of four things. -/
theorem torn_cases (a c : Int) (m q : List Int) (hm : m.length = 248) (hq : q.length = 248) (k : Nat) (hk : k ≤ 256) (hne : b4 a ≠ b4 c) :
    let p := (b4 c ++ (q ++ b4 c)).take k ++ (b4 a ++ (m ++ b4 a)).drop k
    p = b4 a ++ (m ++ b4 a) ∨ p = b4 c ++ (q ++ b4 c) ∨ ∃ x z y, p = x ++ (z ++ y) ∧ x.length = 4 ∧ z.length = 248 ∧ y.length = 4 ∧ x ≠ y := by
  intro p
  have la : (b4 a).length = 4 := rfl
  have lc : (b4 c).length = 4 := rfl
  by_cases h1 : k ≤ 4
  · have e : p = ((b4 c).take k ++ (b4 a).drop k) ++ (m ++ b4 a) := by
      show (b4 c ++ (q ++ b4 c)).take k ++ (b4 a ++ (m ++ b4 a)).drop k = _
      rw [List.take_append_of_le_length (by omega), List.drop_append_of_le_length (by omega), List.append_assoc]
    have lx : ((b4 c).take k ++ (b4 a).drop k).length = 4 := by simp; omega
    by_cases hx : (b4 c).take k ++ (b4 a).drop k = b4 a
    · exact .inl (by rw [e, hx])
    · exact .inr (.inr ⟨_, _, _, e, lx, hm, la, hx⟩)
  · by_cases h2 : k ≤ 252
    · have e : p = b4 c ++ ((q.take (k - 4) ++ m.drop (k - 4)) ++ b4 a) := by
        show (b4 c ++ (q ++ b4 c)).take k ++ (b4 a ++ (m ++ b4 a)).drop k = _
        rw [List.take_append, List.take_of_length_le (by omega), List.drop_append, List.drop_eq_nil_of_le (by omega), List.nil_append, la, lc,
          List.take_append_of_le_length (by omega), List.drop_append_of_le_length (by omega)]
        simp
      exact .inr (.inr ⟨_, _, _, e, lc, by simp; omega, la, fun h => hne h.symm⟩)
    · have e : p = b4 c ++ (q ++ ((b4 c).take (k - 252) ++ (b4 a).drop (k - 252))) := by
        show (b4 c ++ (q ++ b4 c)).take k ++ (b4 a ++ (m ++ b4 a)).drop k = _
        rw [List.take_append, List.take_of_length_le (by omega), List.drop_append, List.drop_eq_nil_of_le (by omega), List.nil_append, la, lc,
          List.take_append, List.take_of_length_le (by omega), List.drop_append, List.drop_eq_nil_of_le (by omega), List.nil_append, hm, hq, show k - 4 - 248 = k - 252 by omega]
        simp
      have ly : ((b4 c).take (k - 252) ++ (b4 a).drop (k - 252)).length = 4 := by simp; omega
      by_cases hx : b4 c = (b4 c).take (k - 252) ++ (b4 a).drop (k - 252)
      · exact .inr (.inl (by rw [e, ← hx]))
      · exact .inr (.inr ⟨_, _, _, e, lc, hq, ly, hx⟩)
theorem FrameTorn : bobbinlaw02_FrameTorn.Pure := by
  intro a l c d kk ha _ _ hxl hc _ _ hxd hk
  refine Ev.rounds ?_
  unfold bobbinlaw02_FrameTorn.f
  refine Ev.bnd awake (Ev.ifp rfl ?_)
  have stop : Ev (fun k => bobbinlaw02_FrameTorn.j0 k a l c d kk true true) true := Ev.step (fun k => bobbinlaw02_FrameTorn.j0_eq k _ _ _ _ _ _ _) (Ev.ifp rfl (Ev.now _))
  by_cases c1 : (l.length : Int) > 248
  · exact Ev.ifp c1 stop
  refine Ev.ifn c1 ?_
  by_cases c2 : (d.length : Int) > 248
  · exact Ev.ifp c2 stop
  refine Ev.ifn c2 ?_
  by_cases c3 : a < 0
  · exact Ev.ifp c3 stop
  refine Ev.ifn c3 ?_
  by_cases c4 : c < 0
  · exact Ev.ifp c4 stop
  refine Ev.ifn c4 ?_
  by_cases c5 : a > 4294967295
  · exact Ev.ifp c5 stop
  refine Ev.ifn c5 ?_
  by_cases c6 : c > 4294967295
  · exact Ev.ifp c6 stop
  refine Ev.ifn c6 ?_
  by_cases c7 : a = c
  · exact Ev.ifp c7 stop
  refine Ev.ifn c7 ?_
  by_cases c8 : kk < 0
  · exact Ev.ifp c8 stop
  refine Ev.ifn c8 ?_
  by_cases c9 : kk > 256
  · rw [decide_eq_true c9]; exact stop
  rw [decide_eq_false c9]
  obtain ⟨k, rfl⟩ := Int.eq_ofNat_of_zero_le (show 0 ≤ kk by omega)
  have la := frame_Seal.bytes_len a l (by omega)
  have lc := frame_Seal.bytes_len c d (by omega)
  have hbl := Bytes.sealed (bytes_of_wf hxl) a
  have hbd := Bytes.sealed (bytes_of_wf hxd) c
  have hne : b4 a ≠ b4 c := fun e => c7 (b4_inj (by omega) (by omega) (by omega) (by omega) e)
  refine Ev.step (fun k => bobbinlaw02_FrameTorn.j0_eq k _ _ _ _ _ _ _) (Ev.ifn (by decide) (Ev.bnd (seal_ok a l (by omega) (by omega) (by omega)) (Ev.bnd (seal_ok c d (by omega) (by omega) (by omega)) (Ev.bnd (part_ok la lc (by omega)) ?_))))
  have hcase := torn_cases a c (pad l) (pad d) (pad_len (by omega)) (pad_len (by omega)) k (by omega) hne
  rw [← bytes_eq, ← bytes_eq] at hcase
  generalize hp : (frame_Seal.bytes c d).take k ++ (frame_Seal.bytes a l).drop k = p at *
  have lp : p.length = 256 := by rw [← hp]; simp; omega
  rcases hcase with h | h | ⟨x, z, y, h, lx, lz, ly, hxy⟩
  · have h : p = frame_Seal.bytes a l := h
    subst h
    refine Ev.bnd (open_seal (by omega) (by omega) (by omega) (bytes_of_wf hxl)) (Ev.ifp rfl (Ev.ifp rfl ?_))
    refine Ev.step (fun k => bobbinlaw02_FrameTorn.j1_eq k _ _ _ _ _ _ _ _ _) (Ev.ifn (by simp) (Ev.ifp rfl (Ev.bind (same_true _ _ rfl (by dsimp only; omega)) (Ev.bind (same_ev _ _ (by dsimp only; omega)) (Ev.ifp rfl (Ev.ifp rfl (Ev.now _)))))))
  · have h : p = frame_Seal.bytes c d := h
    subst h
    have hn : frame_Seal.bytes c d ≠ frame_Seal.bytes a l := fun e => hne (by
      have := congrArg (List.take 4) e
      rw [bytes_eq, bytes_eq, sect_take rfl, sect_take rfl] at this
      exact this.symm)
    refine Ev.bnd (open_seal (by omega) (by omega) (by omega) (bytes_of_wf hxd)) (Ev.ifp rfl (Ev.ifp rfl ?_))
    refine Ev.step (fun k => bobbinlaw02_FrameTorn.j1_eq k _ _ _ _ _ _ _ _ _) (Ev.ifn (by simp) (Ev.ifp rfl (Ev.bind (same_ev _ _ (by dsimp only; omega)) (Ev.bind (same_true _ _ rfl (by dsimp only; omega)) ?_))))
    rw [decide_eq_false hn]
    exact Ev.ifn (by decide) (Ev.ifp rfl (Ev.const (by simp)))
  · have ho : frame_Open.f p = some ([], 0, 20) := by rw [show p = x ++ (z ++ y) from h]; exact open_torn lx lz ly hxy
    refine Ev.bnd ho (Ev.ifp rfl (Ev.ifp rfl ?_))
    refine Ev.step (fun k => bobbinlaw02_FrameTorn.j1_eq k _ _ _ _ _ _ _ _ _) (Ev.ifn (by simp) (Ev.ifn (by decide) (Ev.ifp rfl (Ev.ifp rfl (Ev.now _)))))
end Go.Proofs.Ytckmagmfanemiaa.Pure
