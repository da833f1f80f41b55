/- The pure statement of FrameBack: what was sealed is opened to the same, filled up with noughts. No condition. -/
import Derived.Test.YtckmagmfanemiaaFrame
import Derived.Test.YtckmagmfanemiaaPrint3
namespace Go.Proofs.Ytckmagmfanemiaa.Pure
set_option linter.unusedVariables false
set_option linter.unusedSimpArgs false
open Go.RowKit Go.Proofs.Ytckmagmfanemiaa.Print Go.Proofs.YtckmagmfanemiaaW.PrintWords Go.Proofs.YtckmagmfanemiaaW.PrintLast
theorem back_loop (l : List Int) (hl : l.length ≤ 248) (d : Nat) : ∀ (k i : Nat), i ≤ 248 → 248 - i = d → d < k → bobbinlaw02_FrameBack.l0 k l (pad l) (i : Int) = some true := by
  have hp := pad_len hl
  induction d with
  | zero =>
    intro k i h0 h1 hk
    obtain ⟨k, rfl⟩ : ∃ q, k = q + 1 := ⟨k - 1, by omega⟩
    rw [bobbinlaw02_FrameBack.l0_eq, if_neg (by omega)]
  | succ d ih =>
    intro k i h0 h1 hk
    obtain ⟨k, rfl⟩ : ∃ q, k = q + 1 := ⟨k - 1, by omega⟩
    have hi := ih k (i + 1) (by omega) (by omega) (by omega)
    rw [bobbinlaw02_FrameBack.l0_eq, if_pos (by omega), w64 (by omega) (by omega), show ((i : Int) + 1) = ((i + 1 : Nat) : Int) by omega, hi]
    by_cases c : i < l.length
    · rw [if_pos (by omega), if_pos (by omega), if_pos (by omega), if_pos, if_neg (by omega)]
      rw [rd_nat, rd_nat]
      simp [pad, List.getD_eq_getElem?_getD, List.getElem?_append_left c]
    · rw [if_neg (by omega), if_pos (by omega), if_pos (by omega), if_pos (by omega), if_pos]
      rw [rd_nat]
      have : i - l.length < 248 - l.length := by omega
      simp [pad, List.getD_eq_getElem?_getD, List.getElem?_append_right (show l.length ≤ i by omega), List.getElem?_replicate, this]
theorem FrameBack : bobbinlaw02_FrameBack.Pure := by
  intro a l ha hm _ hx
  refine Ev.rounds ?_
  unfold bobbinlaw02_FrameBack.f
  refine Ev.bnd awake (Ev.ifp rfl ?_)
  have stop : Ev (fun k => bobbinlaw02_FrameBack.j0 k a l true true) true := Ev.step (fun k => bobbinlaw02_FrameBack.j0_eq k _ _ _ _) (Ev.ifp rfl (Ev.now _))
  by_cases c1 : (l.length : Int) > 248
  · exact Ev.ifp c1 stop
  refine Ev.ifn c1 ?_
  by_cases c2 : a < 0
  · exact Ev.ifp c2 stop
  refine Ev.ifn c2 ?_
  by_cases c3 : a > 4294967295
  · rw [decide_eq_true c3]; exact stop
  rw [decide_eq_false c3]
  refine Ev.step (fun k => bobbinlaw02_FrameBack.j0_eq k _ _ _ _) (Ev.ifn (by decide) (Ev.bnd (seal_ok a l (by omega) (by omega) (by omega)) (Ev.bnd (open_seal (by omega) (by omega) (by omega) (bytes_of_wf hx)) ?_)))
  refine Ev.ifp rfl (Ev.ifp rfl (Ev.ifp rfl ?_))
  have hp := pad_len (l := l) (by omega)
  rw [show (((pad l).length : Int) != 248) = false by rw [hp]; rfl]
  refine Ev.step (fun k => bobbinlaw02_FrameBack.j1_eq k _ _ _) (Ev.ifn (by decide) (Ev.ex 300 fun k hk => ?_))
  exact back_loop l (by omega) 248 k 0 (by omega) (by omega) (by omega)
end Go.Proofs.Ytckmagmfanemiaa.Pure
