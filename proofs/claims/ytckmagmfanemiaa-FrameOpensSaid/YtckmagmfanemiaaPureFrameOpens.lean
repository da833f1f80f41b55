/- The pure statement of FrameOpens: any sector is opened, and any part of one over another one is, what the document says. No condition. -/
import Derived.Test.YtckmagmfanemiaaFrame
import Derived.Test.YtckmagmfanemiaaPrint5
import Derived.Test.YtckmagmfanemiaaPrint6
namespace Go.Proofs.Ytckmagmfanemiaa.Pure
set_option linter.unusedVariables false
set_option linter.unusedSimpArgs false
open Go.RowKit Go.Proofs.Ytckmagmfanemiaa.Print Go.Proofs.YtckmagmfanemiaaW.PrintWords Go.Proofs.YtckmagmfanemiaaW.PrintLast
theorem get_round (k : Nat) (l : List Int) (n : Int) (i : Nat) (p : Int) (hp : bobbinref01_power.f k i = some p) (hi : i < 4) (h4 : 4 ≤ l.length) (hr : 0 ≤ l.getD i 0 ∧ l.getD i 0 ≤ 255) (hn : 0 ≤ n ∧ n ≤ 4294967296) (hpp : 0 ≤ p ∧ p ≤ 16777216) :
    bobbinref01_Get.l0 (k + 1) l 4 n (i : Int) = bobbinref01_Get.l0 k l 4 (n + l.getD i 0 * p) ((i + 1 : Nat) : Int) := by
  have hm : 0 ≤ l.getD i 0 * p ∧ l.getD i 0 * p ≤ 255 * 16777216 := ⟨Int.mul_nonneg hr.1 hpp.1, Int.mul_le_mul hr.2 hpp.2 hpp.1 (by decide)⟩
  rw [bobbinref01_Get.l0_eq, if_pos (by omega), if_pos (by omega), if_pos (by omega), hp, Option.bind_some, rd_nat, w64 (x := l.getD i 0) (by omega) (by omega), w64 (x := l.getD i 0 * p) (by omega) (by omega), w64 (x := n + _) (by omega) (by omega), w64 (x := (i : Int) + 1) (by omega) (by omega)]
  rfl
theorem get4_ev (l : List Int) (h4 : 4 ≤ l.length) (hb : Bytes l) : Ev (fun k => bobbinref01_Get.f k l 4) (l.getD 0 0 + 256 * l.getD 1 0 + 65536 * l.getD 2 0 + 16777216 * l.getD 3 0, l.drop 4, 0) := by
  obtain ⟨K0, p0⟩ := power0
  obtain ⟨K1, p1⟩ := power1
  obtain ⟨K2, p2⟩ := power2
  obtain ⟨K3, p3⟩ := power3
  have hg : ∀ i, i < 4 → 0 ≤ l.getD i 0 ∧ l.getD i 0 ≤ 255 := fun i hi => by
    rw [List.getD_eq_getElem?_getD, List.getElem?_eq_getElem (by omega)]
    exact hb _ (List.getElem_mem _)
  have g0 := hg 0 (by omega)
  have g1 := hg 1 (by omega)
  have g2 := hg 2 (by omega)
  have g3 := hg 3 (by omega)
  refine Ev.ex (K0 + K1 + K2 + K3 + 10) fun k hk => ?_
  obtain ⟨k, rfl⟩ : ∃ q, k = q + 6 := ⟨k - 6, by omega⟩
  unfold bobbinref01_Get.f
  rw [if_neg (by decide), if_neg (by decide), show ((4 : Int) != 4) = false from rfl, show k + 6 = (k + 5) + 1 from rfl, bobbinref01_Get.j0_eq, if_neg (by decide), if_neg (by omega)]
  show bobbinref01_Get.l0 ((k + 4) + 1) l 4 0 ((0 : Nat) : Int) = _
  rw [get_round (k + 4) l _ 0 1 (p0 _ (by omega)) (by omega) h4 g0 (by omega) (by omega)]
  rw [show k + 4 = (k + 3) + 1 from rfl, get_round (k + 3) l _ 1 256 (p1 _ (by omega)) (by omega) h4 g1 (by omega) (by omega)]
  rw [show k + 3 = (k + 2) + 1 from rfl, get_round (k + 2) l _ 2 65536 (p2 _ (by omega)) (by omega) h4 g2 (by omega) (by omega)]
  rw [show k + 2 = (k + 1) + 1 from rfl, get_round (k + 1) l _ 3 16777216 (p3 _ (by omega)) (by omega) h4 g3 (by omega) (by omega)]
  rw [bobbinref01_Get.l0_eq, if_neg (by decide), if_pos (by decide), if_pos (by omega)]
  simp only [Option.some.injEq, Prod.mk.injEq, and_true]
  exact ⟨by omega, rfl⟩
theorem refopen_ev (l : List Int) (hb : Bytes l) : ∃ r, frame_Open.f l = some r ∧ Ev (fun k => bobbinref02_Open.f k l) r := by
  by_cases hl : l.length = 256
  rotate_left
  · refine ⟨([], 0, 1), by unfold frame_Open.f; rw [if_pos hl], ?_⟩
    unfold bobbinref02_Open.f
    exact Ev.ifp hl (Ev.now _)
  have e := split3 hl
  have h4 : (l.take 4).length = 4 := by simp; omega
  have h8 : ((l.drop 4).take 248).length = 248 := by simp; omega
  have h5 : (l.drop 252).length = 4 := by simp; omega
  have t1 := get4_ev l (by omega) hb
  have t2 := get4_ev (l.drop 252) (by omega) (hb.drop 252)
  have hx := four h4
  have hy := four h5
  have hbx := hb.take 4
  have hby := hb.drop 252
  have ex : ∀ i, i < 4 → l.getD i 0 = (l.take 4).getD i 0 := fun i hi => by simp [List.getD_eq_getElem?_getD, List.getElem?_take_of_lt hi]
  rw [ex 0 (by omega), ex 1 (by omega), ex 2 (by omega), ex 3 (by omega)] at t1
  have rng : ∀ (y : List Int), Bytes y → y = [y.getD 0 0, y.getD 1 0, y.getD 2 0, y.getD 3 0] → ∀ v ∈ [y.getD 0 0, y.getD 1 0, y.getD 2 0, y.getD 3 0], 0 ≤ v ∧ v ≤ 255 := fun y h1 h2 v hv => h1 v (h2 ▸ hv)
  have rx := rng _ hbx hx
  have ry := rng _ hby hy
  have ru : Ev (fun k => bobbinref02_Open.f k l) (if l.take 4 = l.drop 252 then ((l.drop 4).take 248, (l.drop 252).getD 0 0 + 256 * (l.drop 252).getD 1 0 + 65536 * (l.drop 252).getD 2 0 + 16777216 * (l.drop 252).getD 3 0, 0) else ([], 0, 20)) := by
    unfold bobbinref02_Open.f
    refine Ev.ifn (by simpa using hl) (Ev.bind t1 (Ev.bind t2 ?_))
    by_cases hq : l.take 4 = l.drop 252
    · rw [if_pos hq, hq]
      exact Ev.ifp rfl (Ev.now _)
    · rw [if_neg hq]
      refine Ev.ifn (fun h => hq ?_) (Ev.now _)
      dsimp only at h
      rw [hx, hy]
      simp only [List.mem_cons, List.not_mem_nil, or_false, forall_eq_or_imp, forall_eq] at rx ry
      simp only [List.cons.injEq, and_true]
      omega
  by_cases hq : l.take 4 = l.drop 252
  · rw [if_pos hq] at ru
    refine ⟨_, ?_, ru⟩
    have ho := open_ok h4 h8 hq (e ▸ hb)
    rwa [← e] at ho
  · rw [if_neg hq] at ru
    refine ⟨_, ?_, ru⟩
    have ho := open_torn h4 h8 h5 hq
    rwa [← e] at ho
theorem part_loop (o n : List Int) (ho : o.length = 256) (hn : n.length = 256) (m : Nat) (hm : m ≤ 256) (d : Nat) : ∀ (k i : Nat) (out : List Int), i ≤ 256 → out.length = i → 256 - i = d → d < k →
    bobbinref02_Part.l0 k o n (m : Int) out (i : Int) = some (out ++ ((n.take m).drop i ++ (o.drop m).drop (i - m)), 0) := by
  induction d with
  | zero =>
    intro k i out h0 hout h1 hk
    obtain ⟨k, rfl⟩ : ∃ q, k = q + 1 := ⟨k - 1, by omega⟩
    rw [bobbinref02_Part.l0_eq, if_neg (by omega), List.drop_eq_nil_of_le (by simp; omega), List.drop_eq_nil_of_le (by simp; omega)]
    simp
  | succ d ih =>
    intro k i out h0 hout h1 hk
    obtain ⟨k, rfl⟩ : ∃ q, k = q + 1 := ⟨k - 1, by omega⟩
    rw [bobbinref02_Part.l0_eq, if_pos (by omega), w64 (by omega) (by omega), show ((i : Int) + 1) = ((i + 1 : Nat) : Int) by omega]
    by_cases c : i < m
    · rw [if_pos (by omega), if_pos (by omega), if_pos (by omega), if_pos (by omega), ih k (i + 1) _ (by omega) (by simp; omega) (by omega) (by omega)]
      have e : (n.take m).drop i = rd n (i : Int) :: (n.take m).drop (i + 1) := by
        rw [List.drop_eq_getElem_cons (show i < (n.take m).length by simp; omega)]
        simp [rd, List.getD_eq_getElem?_getD, List.getElem?_eq_getElem (show i < n.length by omega)]
      rw [e, show i + 1 - m = i - m by omega]
      simp
    · rw [if_neg (by omega), if_pos (by omega), if_pos (by omega), if_pos (by omega), ih k (i + 1) _ (by omega) (by simp; omega) (by omega) (by omega)]
      have e : (o.drop m).drop (i - m) = rd o (i : Int) :: (o.drop m).drop (i + 1 - m) := by
        rw [List.drop_drop, List.drop_drop, show m + (i - m) = i by omega, show m + (i + 1 - m) = i + 1 by omega]
        exact rd_drop o i (by omega)
      rw [e, List.drop_eq_nil_of_le (show (n.take m).length ≤ i by simp; omega), List.drop_eq_nil_of_le (show (n.take m).length ≤ i + 1 by simp; omega)]
      simp
theorem refpart_ev (o n : List Int) (m : Int) : ∃ r, frame_Part.f o n m = some r ∧ Ev (fun k => bobbinref02_Part.f k o n m) r ∧ r.1.length ≤ 256 := by
  have stop : Ev (fun k => bobbinref02_Part.j0 k o n m true) ([], 1) := Ev.step (fun k => bobbinref02_Part.j0_eq k _ _ _ _) (Ev.ifp rfl (Ev.now _))
  by_cases c : o.length ≠ 256 ∨ n.length ≠ 256 ∨ m < 0 ∨ 256 < m
  · refine ⟨([], 1), part_bad c, ?_, by simp⟩
    unfold bobbinref02_Part.f
    by_cases c1 : (o.length : Int) = 256
    rotate_left
    · exact Ev.ifn c1 stop
    refine Ev.ifp c1 ?_
    by_cases c2 : (n.length : Int) = 256
    rotate_left
    · exact Ev.ifn c2 stop
    refine Ev.ifp c2 ?_
    by_cases c3 : m < 0
    · exact Ev.ifp c3 stop
    refine Ev.ifn c3 ?_
    rw [decide_eq_true (show m > 256 by omega)]
    exact stop
  · obtain ⟨k, rfl⟩ := Int.eq_ofNat_of_zero_le (show 0 ≤ m by omega)
    have ho : o.length = 256 := by omega
    have hn : n.length = 256 := by omega
    refine ⟨_, part_ok ho hn (by omega), ?_, by simp; omega⟩
    unfold bobbinref02_Part.f
    refine Ev.ifp (by omega) (Ev.ifp (by omega) (Ev.ifn (by omega) ?_))
    rw [decide_eq_false (show ¬ (k : Int) > 256 by omega)]
    refine Ev.step (fun k => bobbinref02_Part.j0_eq k _ _ _ _) (Ev.ifn (by decide) (Ev.ex 300 fun q hq => ?_))
    have := part_loop o n ho hn k (by omega) 256 q 0 [] (by omega) rfl (by omega) (by omega)
    simpa using this
theorem FrameOpens : bobbinlaw02_FrameOpens.Pure := by
  intro o n m _ _ hxo _ _ hxn hk
  refine Ev.rounds ?_
  unfold bobbinlaw02_FrameOpens.f
  refine Ev.bnd awake (Ev.ifp rfl ?_)
  have stop : Ev (fun k => bobbinlaw02_FrameOpens.j0 k o n m true true) true := Ev.step (fun k => bobbinlaw02_FrameOpens.j0_eq k _ _ _ _ _) (Ev.ifp rfl (Ev.now _))
  by_cases c1 : (o.length : Int) > 2000
  · exact Ev.ifp c1 stop
  refine Ev.ifn c1 ?_
  by_cases c2 : (n.length : Int) > 2000
  · rw [decide_eq_true c2]; exact stop
  rw [decide_eq_false c2]
  obtain ⟨r, h1, h2⟩ := refopen_ev o (bytes_of_wf hxo)
  obtain ⟨s, h3, h4, hs⟩ := refpart_ev o n m
  have hr : r.1.length ≤ 140737488355328 := by
    unfold frame_Open.f at h1
    split at h1
    · simp at h1; simp [← h1]
    · split at h1
      · simp at h1; simp [← h1]
      · split at h1
        · simp at h1; rw [← h1]; simp; omega
        · simp at h1
  refine Ev.step (fun k => bobbinlaw02_FrameOpens.j0_eq k _ _ _ _ _) (Ev.ifn (by decide) (Ev.bnd h1 (Ev.bind h2 (Ev.bnd h3 (Ev.bind h4 (Ev.bind (same_true _ _ rfl hr) (Ev.bind (same_true _ _ rfl (by omega)) ?_)))))))
  exact Ev.ifp rfl (Ev.ifp rfl (Ev.ifp rfl (Ev.ifp rfl (Ev.const (by simp)))))
end Go.Proofs.Ytckmagmfanemiaa.Pure
