/- What the sealing of a sector comes to, as the document and as the program have it (numbers and lists alone). -/
import Derived.Test.YtckmagmfanemiaaRef01
import Derived.Test.YtckmagmfanemiaaPrint1
namespace Go.Proofs.Ytckmagmfanemiaa.Pure
open Go.RowKit Go.Proofs.Ytckmagmfanemiaa.Print Go.Proofs.YtckmagmfanemiaaW.PrintWords Go.Proofs.YtckmagmfanemiaaW.PrintLast
set_option linter.unusedVariables false
set_option linter.unusedSimpArgs false
theorem seal_loop (x6 : List Int) (d : Nat) : ∀ (k : Nat) (x8 : List Int), x6.length ≤ 100 → x8.length + d = 252 → d < k → bobbinref02_Seal.l0 k x6 x8 = some (x8 ++ List.replicate d 0 ++ x6, 0) := by
  induction d with
  | zero =>
    intro k x8 h6 h hk
    obtain ⟨k, rfl⟩ : ∃ q, k = q + 1 := ⟨k - 1, by omega⟩
    rw [bobbinref02_Seal.l0_eq, if_neg (by omega), if_pos (by omega)]
    simp
  | succ d ih =>
    intro k x8 h6 h hk
    obtain ⟨k, rfl⟩ : ∃ q, k = q + 1 := ⟨k - 1, by omega⟩
    rw [bobbinref02_Seal.l0_eq, if_pos (by omega), if_pos (by omega), ih k _ h6 (by simp; omega) (by omega)]
    simp [List.replicate_succ]
theorem b4_len (n : Int) : (b4 n).length = 4 := rfl
theorem seal_b4 (n : Int) : frame_Seal.b4 n = b4 n := rfl
/-- The document's sector. -/
theorem refseal_ev (a : Int) (l : List Int) (hl : l.length ≤ 140737488355000) : ∃ r, frame_Seal.f a l = some r ∧ Ev (fun k => bobbinref02_Seal.f k a l) r := by
  by_cases ha : a < 0 ∨ 4294967296 ≤ a
  · refine ⟨([], 1), by unfold frame_Seal.f; rw [if_pos ha], ?_⟩
    unfold bobbinref02_Seal.f
    exact Ev.bind (put4_bad a ha) (Ev.ifn (by simp) (Ev.now _))
  · by_cases h2 : 248 < l.length
    · refine ⟨([], 2), by unfold frame_Seal.f; rw [if_neg ha, if_pos h2], ?_⟩
      unfold bobbinref02_Seal.f
      exact Ev.bind (put4_ok a (by omega) (by omega)) (Ev.ifp rfl (Ev.ifp (by omega) (Ev.now _)))
    · refine ⟨(frame_Seal.bytes a l, 0), by unfold frame_Seal.f; rw [if_neg ha, if_neg h2], ?_⟩
      unfold bobbinref02_Seal.f
      refine Ev.bind (put4_ok a (by omega) (by omega)) (Ev.ifp rfl (Ev.ifn (by omega) (Ev.ifp (by simp [b4]) ?_)))
      refine Ev.bnd rfl (Ev.ifp (by simp [b4]; omega) (Ev.ex 300 fun k hk => ?_))
      rw [seal_loop (b4 a) (248 - l.length) k _ (by simp [b4]) (by simp [b4]; omega) (by omega)]
      simp [frame_Seal.bytes, seal_b4]
theorem awake : bobbinlaw02_awake.f = some true := by decide +kernel
theorem seal_len (a : Int) (l r : List Int) (e : Int) (h : frame_Seal.f a l = some (r, e)) : r.length ≤ 256 := by
  unfold frame_Seal.f at h
  split at h
  · simp at h; simp [h.1]
  · split at h
    · simp at h; simp [h.1]
    · simp at h; rw [← h.1, frame_Seal.bytes_len a l (by omega)]; omega
theorem seal_ok (a : Int) (l : List Int) (h0 : 0 ≤ a) (h1 : a < 4294967296) (hl : l.length ≤ 248) : frame_Seal.f a l = some (frame_Seal.bytes a l, 0) := by
  unfold frame_Seal.f
  rw [if_neg (by omega), if_neg (by omega)]
end Go.Proofs.Ytckmagmfanemiaa.Pure
