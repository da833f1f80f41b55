/- slices.ContainsFunc with told's closure: is there a byte that is not nought? -/
import Derived.Test.YtfaflgdhffkaiaaBytG
import Derived.Test.YtfaflgdhffkaiaaFrameS
import Derived.Test.YtfaflgdhffkaiaaMastP
import Derived.Deep.CutRange
import Derived.Deep.RegionHeld3
namespace Go.Proofs.Ytfaflgdhffkaiaa.Print
open Go.RowKit Go.Proofs.YtfaflgdhffkaiaaW.PrintWords Go.Proofs.YtfaflgdhffkaiaaW.PrintLast Go.Proofs.YtfaflgdhffkaiaaW.PrintMore
set_option linter.unusedVariables false
set_option linter.unusedSimpArgs false
theorem clo_calls (x : Int) (w : World) : Calls Try.prog 43 #[.int .u8 x] w fun e w' => e = .returned (.bool (x != 0)) ∧ w' = w := by
  go_enter Try.func43, Try.ntmps43
  go_wp2
  all_goals (go_ret; exact ⟨by simp_all, rfl⟩)
/-- Where the first byte stands that is not nought; -1: nowhere. -/
def idxN : List Int → Int → Int
  | [], _ => -1
  | x :: t, i => if x = 0 then idxN t (i + 1) else i
theorem idxN_neg : ∀ (l : List Int) (i : Int), 0 ≤ i → (idxN l i ≥ 0 ↔ ¬ ∀ x ∈ l, x = 0)
  | [], i, h => by simp [idxN]
  | x :: t, i, h => by
    unfold idxN
    by_cases hx : x = 0
    · rw [if_pos hx, idxN_neg t (i + 1) (by omega)]
      simp [hx]
    · rw [if_neg hx]
      constructor
      · intro _ hh
        exact hx (hh x (List.mem_cons_self ..))
      · intro _; exact h
set_option maxHeartbeats 1000000 in
set_option maxRecDepth 100000 in
theorem idx_any (A : Option Addr) (c n : Nat) (l : List Int) (w : World) (hn : n = l.length) (hC : Kd.C (Kd.int .u8) w A n l) (hc : n ≤ c) (h6 : n ≤ 100000) :
    Calls Try.prog 52 #[.slice A n c, .func (.func 43) #[] #[]] w fun e w' => e = .returned (.int .i64 (idxN l 0)) ∧ w' = w := by
  have HC := Aside0.mk hC
  replace hn := Aside0.mk hn
  clear hC
  go_enter Try.func52, Try.ntmps52
  go_wp2_with fail
  go_loopw [8] (fun v8 wr => ∃ k : Nat, k ≤ n ∧ v8 = .int .i64 k ∧ wr = w ∧ Aside0 (idxN l 0 = idxN (l.drop k) k)) (fun v8 _ => n - (intOf v8).toNat)
  case atStart => exact ⟨0, Nat.zero_le _, rfl, rfl, ⟨rfl⟩⟩
  case round =>
    obtain ⟨k, hk, rfl, rfl, HI⟩ := hrel
    by_cases hlk : k < n
    · have f0 : decide ((k : Int) < (n : Int)) = true := by simp; omega
      obtain ⟨ad, rfl, hcell⟩ := Kd.at_int HC.out (k : Int) (by omega) (by omega)
      rw [show ((k : Int)).toNat = k from rfl] at hcell
      have hd : Aside0 (l.drop k = rd l (k : Int) :: l.drop (k + 1)) := ⟨Pure.rd_drop l k (by rw [← hn.out]; exact hlk)⟩
      generalize rd l (k : Int) = x at *
      go_wp2_with fail
      refine (clo_calls x wr).mono ?_
      rintro e wz ⟨rfl, hq_⟩
      obtain rfl := hq_.symm
      by_cases hx : x = 0
      · have f1 : (x != 0) = false := by simpa using hx
        have hnx : Aside0 (idxN l 0 = idxN (l.drop (k + 1)) ((k + 1 : Nat) : Int)) := ⟨by rw [HI.out, hd.out, idxN, if_pos hx]; rfl⟩
        clear hx
        go_wp2_with fail
        go_roundw
        case rel => exact ⟨k + 1, by omega, by go_num, by first | rfl | trivial, hnx⟩
        case measure => simp only [intOf]; omega
      · have f1 : (x != 0) = true := by simpa using hx
        have hnx : Aside0 (idxN l 0 = (k : Int)) := ⟨by rw [HI.out, hd.out, idxN, if_neg hx]⟩
        clear hx
        go_wp2_with fail
        go_ret
        exact ⟨by rw [hnx.out]; rfl, rfl⟩
    · obtain rfl : k = n := by omega
      have f0 : decide ((k : Int) < (k : Int)) = false := by simp
      have hd : idxN l 0 = -1 := by rw [HI.out, List.drop_eq_nil_of_le (by rw [hn.out]; exact Nat.le_refl _)]; rfl
      replace hd := Aside0.mk hd
      go_wp2_with fail
      go_ret
      exact ⟨by rw [hd.out]; rfl, rfl⟩
set_option maxHeartbeats 1000000 in
theorem contains_any (A : Option Addr) (c n : Nat) (l : List Int) (w : World) (hn : n = l.length) (hC : Kd.C (Kd.int .u8) w A n l) (hc : n ≤ c) (h6 : n ≤ 100000) :
    Calls Try.prog 42 #[.slice A n c, .func (.func 43) #[] #[]] w fun e w' => e = .returned (.bool (decide (¬ ∀ x ∈ l, x = 0))) ∧ w' = w := by
  have hi := idx_any A c n l w hn hC hc h6
  have hd : decide (idxN l 0 ≥ 0) = decide (¬ ∀ x ∈ l, x = 0) := by simp only [idxN_neg l 0 (Int.le_refl _)]
  rw [← hd]
  replace hi := Aside0.mk hi
  clear hn hC hd
  generalize idxN l 0 = q at *
  go_enter Try.func42, Try.ntmps42
  go_wp2_with (go_at_call 52; refine hi.out.mono ?_; rintro e wz ⟨rfl, hq_⟩; obtain rfl := hq_.symm)
  go_ret
  exact ⟨rfl, rfl⟩
end Go.Proofs.Ytfaflgdhffkaiaa.Print
namespace Go.Proofs.Ytfaflgdhffkaiaa.Print
open Go.RowKit Go.Proofs.YtfaflgdhffkaiaaW.PrintWords Go.Proofs.YtfaflgdhffkaiaaW.PrintLast Go.Proofs.YtfaflgdhffkaiaaW.PrintMore
set_option linter.unusedVariables false
set_option linter.unusedSimpArgs false
/-- told behind its Reader: the Reader's block g (its row at rk), the master's block mb; what is left to read, what was read. -/
structure TdI (w W : World) (g rk mb q : Nat) (b rest : List Int) (m : MS) : Prop where
  rd : Rd W g (fun k => k = rk) rest
  res : W.heap[w.heap.size]? = some (.cells #[.int .i64 0, .int .i64 0, .int .i64 0, .int .i64 0] 30 (0, 0))
  box : W.heap[mb]? = some (.cells (agM m) 30 (0, 0))
  bF : Kd.F (Kd.int .u8) W (fun k => k < rk) (some ⟨q, 0, none⟩) 248 b
  bel : Below w.heap.size w W
  n0 : w.heap.size < rk
  n1 : rk < g
  n2 : g < mb
theorem TdI.first {w w1 w2 : World} {g q : Nat} {b : List Int} (hx : w2.heap[w.heap.size]? = some (.cells #[.int .i64 0, .int .i64 0, .int .i64 0, .int .i64 0] 30 (0, 0))) (hB : Below w.heap.size w w2) (hF : Kd.F (Kd.int .u8) w2 (fun k => k < w1.heap.size) (some ⟨q, 0, none⟩) 248 b) (hrd : Rd w2 g (fun k => k = w1.heap.size) b) (hl : w.heap.size < w1.heap.size) (hg : w1.heap.size < g) (h12 : w1.heap.size ≤ w2.heap.size) (hg2 : g < w2.heap.size) :
    TdI w (w2.alloc (.cells #[.int .i64 0, .int .i64 0, .int .i64 0, .int .i64 0] 30)) g w1.heap.size w2.heap.size q b b ⟨0, 0, 0, 0⟩ := by
  have hb := below_alloc (Below.refl w2.heap.size w2) (.cells #[.int .i64 0, .int .i64 0, .int .i64 0, .int .i64 0] 30)
  exact ⟨hrd.below hb, (hb.block _ (by omega)).trans hx, heap_alloc_new _ _, Kd.F_below hF hb, hB.trans (hb.mono hB.size), hl, hg, hg2⟩
section
variable {w W W1 : World} {g rk mb q : Nat} {b rest rest' : List Int} {m m' : MS}
theorem TdI.lt (h : TdI w W g rk mb q b rest m) : mb < W.heap.size := (Array.getElem?_eq_some_iff.1 h.box).1
theorem TdI.below (h : TdI w W g rk mb q b rest m) (hb : Below W.heap.size W W1) : TdI w W1 g rk mb q b rest m := by
  have := h.lt
  have := h.n0
  have := h.n1
  have := h.n2
  exact ⟨h.rd.below hb, (hb.block _ (by omega)).trans h.res, (hb.block _ h.lt).trans h.box, Kd.F_below h.bF hb, h.bel.trans (hb.mono h.bel.size), h.n0, h.n1, h.n2⟩
theorem TdI.get (h : TdI w W g rk mb q b rest m) (hp : RdPost g (fun k => k = rk) rest' W W1) : TdI w W1 g rk mb q b rest' m ∧ Chg (fun k => k = g) W W1 := by
  obtain ⟨h1, h2⟩ := hp
  have n0 := h.n0
  have n1 := h.n1
  have n2 := h.n2
  have hl := h.lt
  exact ⟨⟨h1, (h2.block _ (by omega) (by omega)).trans h.res, (h2.block _ hl (by omega)).trans h.box, Kd.F_step h.bF (fun k a b => h2.block k b (by omega)), h.bel.trans (Chg.below h2 (fun k e => by omega) h.bel.size), h.n0, h.n1, h.n2⟩, h2⟩
theorem TdI.put (h : TdI w W g rk mb q b rest m) (i : Nat) (v : Value) (hm : (W.setCell ⟨mb, i, none⟩ v).heap[mb]? = some (.cells (agM m') 30 (0, 0))) : TdI w (W.setCell ⟨mb, i, none⟩ v) g rk mb q b rest m' ∧ Chg (fun k => k = mb) W (W.setCell ⟨mb, i, none⟩ v) := by
  have n0 := h.n0
  have n1 := h.n1
  have n2 := h.n2
  have hl := h.lt
  have hc : Chg (fun k => k = mb) W (W.setCell ⟨mb, i, none⟩ v) := (Chg.refl (fun k => k = mb) W).set (p := ⟨mb, i, none⟩) (.inl rfl) v
  exact ⟨⟨h.rd.step hc (by omega) (fun k a => by omega), (hc.block _ (by omega) (by omega)).trans h.res, hm, Kd.F_step h.bF (fun k a b => hc.block k b (by omega)), h.bel.trans (Chg.below hc (fun k e => by omega) h.bel.size), h.n0, h.n1, h.n2⟩, hc⟩
end
theorem four_cells {W : World} {g : Nat} {a b c d : Value} {t : TypeId} (h : W.heap[g]? = some (.cells #[a, b, c, d] t (0, 0))) :
    W.cell? ⟨g, 0, none⟩ = some a ∧ W.cell? ⟨g, 1, none⟩ = some b ∧ W.cell? ⟨g, 2, none⟩ = some c ∧ W.cell? ⟨g, 3, none⟩ = some d ∧
    W.frozen? ⟨g, 0, none⟩ = false ∧ W.frozen? ⟨g, 1, none⟩ = false ∧ W.frozen? ⟨g, 2, none⟩ = false ∧ W.frozen? ⟨g, 3, none⟩ = false :=
  ⟨(blk_cell h 0).trans rfl, (blk_cell h 1).trans rfl, (blk_cell h 2).trans rfl, (blk_cell h 3).trans rfl, blk_frozen h _, blk_frozen h _, blk_frozen h _, blk_frozen h _⟩
theorem four_store {W : World} {rb : Nat} {a b c d : Value} {t : TypeId} (h : W.heap[rb]? = some (.cells #[a, b, c, d] t (0, 0))) (a' b' c' d' : Value) :
    Chg (fun k => k = rb) W ((((W.setCell ⟨rb, 0, none⟩ a').setCell ⟨rb, 1, none⟩ b').setCell ⟨rb, 2, none⟩ c').setCell ⟨rb, 3, none⟩ d') ∧ ((((W.setCell ⟨rb, 0, none⟩ a').setCell ⟨rb, 1, none⟩ b').setCell ⟨rb, 2, none⟩ c').setCell ⟨rb, 3, none⟩ d').heap[rb]? = some (.cells #[a', b', c', d'] t (0, 0)) := by
  refine ⟨((((Chg.refl (fun k => k = rb) W).set (p := ⟨rb, 0, none⟩) (.inl rfl) a').set (p := ⟨rb, 1, none⟩) (.inl rfl) b').set (p := ⟨rb, 2, none⟩) (.inl rfl) c').set (p := ⟨rb, 3, none⟩) (.inl rfl) d', ?_⟩
  have h1 := blk_set h 0 a'
  have h2 := blk_set h1 1 b'
  have h3 := blk_set h2 2 c'
  have h4 := blk_set h3 3 d'
  simpa using h4
set_option maxHeartbeats 2000000 in
set_option maxRecDepth 100000 in
theorem told_any (A : Option Addr) (c : Nat) (l : List Int) (at_ : Int) (w : World) (hl : l.length = 256) (hB : Bytes l) (hC : Kd.C (Kd.int .u8) w A 256 l) (hc : 256 ≤ c) :
    Calls Try.prog 29 #[.slice A 256 c, .int .i64 at_] w fun e w' => e = .returned (.tuple #[.agg (agM (toldM l)), .bool (toldB l at_)]) ∧ Below w.heap.size w w' := by
  have ho := open_any hl hB
  have hopen : Aside0 (∀ X, Below w.heap.size w X → ∀ r1 r2 r3, frame_Open.f l = some (r1, r2, r3) → Calls Try.prog 39 #[.slice A 256 c] X fun e w' => ∃ v0_ : Value, e = .returned (.tuple #[v0_, .int .i64 r2, .int .i64 r3]) ∧ Kd.R (Kd.int .u8) 5 w' X.heap.size (fun _ => True) v0_ r1 ∧ Below X.heap.size X w') := ⟨fun X hX r1 r2 r3 h => by
    have := frame_Open.calls A c l r1 r2 r3 X (by rw [hl]; exact Kd.C_below hC hX) (by omega) h
    rwa [hl] at this⟩
  have hb0 : Aside0 (Below w.heap.size w (w.alloc (.cells #[.int .i64 0, .int .i64 0, .int .i64 0, .int .i64 0] 30))) := ⟨below_alloc (Below.refl _ _) _⟩
  clear hC
  by_cases h : okS l
  · rw [if_pos h] at ho
    have ht : toldM l = rdM (body l) := if_pos h
    replace ho := Aside0.mk ho
    replace ht := Aside0.mk ht
    have hBb := Aside0.mk (body_bytes hB)
    have hlb := Aside0.mk (body_len hl)
    have hst : toldB l at_ = ((rdM (body l)).may && ((rdM (body l)).no == frame_Open.stamp l) && (Int.tmod (rdM (body l)).no 2 == at_) && !more (body l)) := by unfold toldB; rw [decide_eq_true h, Bool.true_and]
    clear h
    rw [ht.out, hst]
    generalize frame_Open.stamp l = st at *
    generalize body l = b at *
    clear hst ht
    go_enter Try.func29, Try.ntmps29
    go_wp2_with fail
    refine (hopen.out _ hb0.out _ _ _ ho.out).mono ?_
    rintro e w1 ⟨v0, rfl, hR, hb1⟩
    have hx0 := (hb1.block w.heap.size (by rw [World.size_alloc]; omega)).trans (heap_alloc_new w _)
    have hB1 := Aside0.mk (hb0.out.trans (hb1.mono (by rw [World.size_alloc]; omega)))
    have hl1 : w.heap.size < w1.heap.size := by have := hb1.size; rw [World.size_alloc] at this; omega
    obtain ⟨q, cb, rfl, hq0, hq1, _⟩ := Kd.R_form hR (by rw [hlb.out]; decide)
    have hcb := (Kd.R_reads' hR).2.1
    have hFb := Kd.R_F (Kd.R_bound hR)
    have hnr := newReader_any (some ⟨q, 0, none⟩) cb b w1 (Kd.R_reads' hR).2.2 hcb (by rw [hlb.out]; decide)
    rw [hlb.out] at hnr hcb hFb ⊢
    have hFb := Aside0.mk (Kd.F_mono hFb (fun k (a : _ ∧ _ ≤ k ∧ k < w1.heap.size ∧ _) => show k < w1.heap.size from a.2.2.1))
    replace hnr := Aside0.mk hnr
    replace hx0 := Aside0.mk hx0
    clear hR hb1 hb0 hopen
    go_wp2_with fail
    refine hnr.out.mono ?_
    rintro e w2 ⟨g, rfl, hg, hrd, hb2⟩
    have hx0 := Aside0.mk ((hb2.block w.heap.size hl1).trans hx0.out)
    have hB2 := Aside0.mk (hB1.out.trans (hb2.mono hB1.out.size))
    have hFb := Aside0.mk (Kd.F_below hFb.out hb2)
    have hg2 := hrd.lt
    have hb12 := hb2.size
    replace hrd := Aside0.mk hrd
    clear hb2 hnr hB1
    go_upto_region 6 with fail
    have hTd0 : Aside0 (TdI w (w2.alloc (.cells #[.int .i64 0, .int .i64 0, .int .i64 0, .int .i64 0] 30)) g w1.heap.size w2.heap.size q b b ⟨0, 0, 0, 0⟩) := ⟨TdI.first hx0.out hB2.out hFb.out hrd.out hl1 hg hb12 hg2⟩
    have hz := heap_alloc_new w2 (.cells #[.int .i64 0, .int .i64 0, .int .i64 0, .int .i64 0] 30)
    have hmb : w2.heap.size < (w2.alloc (.cells #[.int .i64 0, .int .i64 0, .int .i64 0, .int .i64 0] 30)).heap.size := by rw [World.size_alloc]; omega
    generalize w2.alloc (.cells #[.int .i64 0, .int .i64 0, .int .i64 0, .int .i64 0] 30) = w3 at *
    generalize hmbe : w2.heap.size = mb at *
    clear hx0 hB2 hFb hrd
    go_wp2_with fail
    have hsb := Aside0.mk (heap_alloc_new w3 (.cells #[.pointer (some ⟨mb, 0, none⟩), .pointer (some ⟨mb, 1, none⟩), .pointer (some ⟨mb, 2, none⟩), .pointer (some ⟨mb, 3, none⟩)] 78))
    have hTd := Aside0.mk (hTd0.out.below (below_alloc (Below.refl w3.heap.size w3) (.cells #[.pointer (some ⟨mb, 0, none⟩), .pointer (some ⟨mb, 1, none⟩), .pointer (some ⟨mb, 2, none⟩), .pointer (some ⟨mb, 3, none⟩)] 78)))
    have hmsb : mb < w3.heap.size := hTd0.out.lt
    generalize w3.alloc (.cells #[.pointer (some ⟨mb, 0, none⟩), .pointer (some ⟨mb, 1, none⟩), .pointer (some ⟨mb, 2, none⟩), .pointer (some ⟨mb, 3, none⟩)] 78) = w4 at *
    generalize w3.heap.size = sb at *
    clear hTd0 hz
    refine wp_loop_rounds 5 ?_
    obtain ⟨y0, y1, y2, y3, _⟩ := four_cells hsb.out
    rw [rounds_succ]
    go_wp2_with fail
    refine (get_ok g _ _ 4 _ hTd.out.rd (.inr (.inr rfl)) (by first | (rw [hlb.out]; decide) | (simp only [List.length_drop]; rw [hlb.out]; decide)) (fun x hx => hBb.out x (by first | exact hx | exact List.mem_of_mem_drop hx | exact List.mem_of_mem_drop (List.mem_of_mem_drop hx) | exact List.mem_of_mem_drop (List.mem_of_mem_drop (List.mem_of_mem_drop hx))))).mono ?_
    rintro e wx ⟨rfl, hrp⟩
    obtain ⟨hTe, hcg⟩ := hTd.out.get hrp
    have hsb := Aside0.mk ((hcg.block sb (by exact (Array.getElem?_eq_some_iff.1 hsb.out).1) (by have := hTe.n2; omega)).trans hsb.out)
    obtain ⟨v0, hv0⟩ : ∃ v : Int, v = leN (b.take 4) := ⟨_, rfl⟩
    replace hv0 := Aside0.mk hv0
    rw [← hv0.out]
    clear hrp hcg y0 y1 y2 y3
    obtain ⟨y0, y1, y2, y3, _⟩ := four_cells hsb.out
    obtain ⟨z0, z1, z2, z3, f0, f1, f2, f3⟩ := four_cells hTe.box
    obtain ⟨hTf, hcp⟩ := hTe.put 0 (.int .i64 v0) (m' := ⟨v0, 0, 0, 0⟩) (by simpa using blk_set hTe.box 0 (.int .i64 v0))
    have hsb := Aside0.mk ((hcp.block sb (by exact (Array.getElem?_eq_some_iff.1 hsb.out).1) (by omega)).trans hsb.out)
    replace hTd := Aside0.mk hTf
    clear hTf hcp hTe
    go_wp2_with fail
    clear y0 y1 y2 y3 z0 z1 z2 z3 f0 f1 f2 f3
    generalize World.setCell _ _ _ = w5 at *
    obtain ⟨y0, y1, y2, y3, _⟩ := four_cells hsb.out
    rw [rounds_succ]
    go_wp2_with fail
    refine (get_ok g _ _ 4 _ hTd.out.rd (.inr (.inr rfl)) (by first | (rw [hlb.out]; decide) | (simp only [List.length_drop]; rw [hlb.out]; decide)) (fun x hx => hBb.out x (by first | exact hx | exact List.mem_of_mem_drop hx | exact List.mem_of_mem_drop (List.mem_of_mem_drop hx) | exact List.mem_of_mem_drop (List.mem_of_mem_drop (List.mem_of_mem_drop hx))))).mono ?_
    rintro e wx ⟨rfl, hrp⟩
    obtain ⟨hTe, hcg⟩ := hTd.out.get hrp
    have hsb := Aside0.mk ((hcg.block sb (by exact (Array.getElem?_eq_some_iff.1 hsb.out).1) (by have := hTe.n2; omega)).trans hsb.out)
    obtain ⟨v1, hv1⟩ : ∃ v : Int, v = leN ((b.drop 4).take 4) := ⟨_, rfl⟩
    replace hv1 := Aside0.mk hv1
    rw [← hv1.out]
    clear hrp hcg y0 y1 y2 y3
    obtain ⟨y0, y1, y2, y3, _⟩ := four_cells hsb.out
    obtain ⟨z0, z1, z2, z3, f0, f1, f2, f3⟩ := four_cells hTe.box
    obtain ⟨hTf, hcp⟩ := hTe.put 1 (.int .i64 v1) (m' := ⟨v0, v1, 0, 0⟩) (by simpa using blk_set hTe.box 1 (.int .i64 v1))
    have hsb := Aside0.mk ((hcp.block sb (by exact (Array.getElem?_eq_some_iff.1 hsb.out).1) (by omega)).trans hsb.out)
    replace hTd := Aside0.mk hTf
    clear hTf hcp hTe
    go_wp2_with fail
    clear y0 y1 y2 y3 z0 z1 z2 z3 f0 f1 f2 f3
    generalize World.setCell _ _ _ = w6 at *
    obtain ⟨y0, y1, y2, y3, _⟩ := four_cells hsb.out
    rw [rounds_succ]
    go_wp2_with fail
    refine (get_ok g _ _ 4 _ hTd.out.rd (.inr (.inr rfl)) (by first | (rw [hlb.out]; decide) | (simp only [List.length_drop]; rw [hlb.out]; decide)) (fun x hx => hBb.out x (by first | exact hx | exact List.mem_of_mem_drop hx | exact List.mem_of_mem_drop (List.mem_of_mem_drop hx) | exact List.mem_of_mem_drop (List.mem_of_mem_drop (List.mem_of_mem_drop hx))))).mono ?_
    rintro e wx ⟨rfl, hrp⟩
    obtain ⟨hTe, hcg⟩ := hTd.out.get hrp
    have hsb := Aside0.mk ((hcg.block sb (by exact (Array.getElem?_eq_some_iff.1 hsb.out).1) (by have := hTe.n2; omega)).trans hsb.out)
    obtain ⟨v2, hv2⟩ : ∃ v : Int, v = leN (((b.drop 4).drop 4).take 4) := ⟨_, rfl⟩
    replace hv2 := Aside0.mk hv2
    rw [← hv2.out]
    clear hrp hcg y0 y1 y2 y3
    obtain ⟨y0, y1, y2, y3, _⟩ := four_cells hsb.out
    obtain ⟨z0, z1, z2, z3, f0, f1, f2, f3⟩ := four_cells hTe.box
    obtain ⟨hTf, hcp⟩ := hTe.put 2 (.int .i64 v2) (m' := ⟨v0, v1, v2, 0⟩) (by simpa using blk_set hTe.box 2 (.int .i64 v2))
    have hsb := Aside0.mk ((hcp.block sb (by exact (Array.getElem?_eq_some_iff.1 hsb.out).1) (by omega)).trans hsb.out)
    replace hTd := Aside0.mk hTf
    clear hTf hcp hTe
    go_wp2_with fail
    clear y0 y1 y2 y3 z0 z1 z2 z3 f0 f1 f2 f3
    generalize World.setCell _ _ _ = w7 at *
    obtain ⟨y0, y1, y2, y3, _⟩ := four_cells hsb.out
    rw [rounds_succ]
    go_wp2_with fail
    refine (get_ok g _ _ 4 _ hTd.out.rd (.inr (.inr rfl)) (by first | (rw [hlb.out]; decide) | (simp only [List.length_drop]; rw [hlb.out]; decide)) (fun x hx => hBb.out x (by first | exact hx | exact List.mem_of_mem_drop hx | exact List.mem_of_mem_drop (List.mem_of_mem_drop hx) | exact List.mem_of_mem_drop (List.mem_of_mem_drop (List.mem_of_mem_drop hx))))).mono ?_
    rintro e wx ⟨rfl, hrp⟩
    obtain ⟨hTe, hcg⟩ := hTd.out.get hrp
    have hsb := Aside0.mk ((hcg.block sb (by exact (Array.getElem?_eq_some_iff.1 hsb.out).1) (by have := hTe.n2; omega)).trans hsb.out)
    obtain ⟨v3, hv3⟩ : ∃ v : Int, v = leN ((((b.drop 4).drop 4).drop 4).take 4) := ⟨_, rfl⟩
    replace hv3 := Aside0.mk hv3
    rw [← hv3.out]
    clear hrp hcg y0 y1 y2 y3
    obtain ⟨y0, y1, y2, y3, _⟩ := four_cells hsb.out
    obtain ⟨z0, z1, z2, z3, f0, f1, f2, f3⟩ := four_cells hTe.box
    obtain ⟨hTf, hcp⟩ := hTe.put 3 (.int .i64 v3) (m' := ⟨v0, v1, v2, v3⟩) (by simpa using blk_set hTe.box 3 (.int .i64 v3))
    have hsb := Aside0.mk ((hcp.block sb (by exact (Array.getElem?_eq_some_iff.1 hsb.out).1) (by omega)).trans hsb.out)
    replace hTd := Aside0.mk hTf
    clear hTf hcp hTe
    go_wp2_with fail
    clear y0 y1 y2 y3 z0 z1 z2 z3 f0 f1 f2 f3
    generalize World.setCell _ _ _ = w8 at *
    rw [rounds_succ]
    go_wp2_with fail
    have hF16 := Kd.F_cut (m := 16) (c := cb) (by rw [hlb.out]; exact hTd.out.bF) (by rw [hlb.out]; decide) (by rw [hlb.out]; exact hcb)
    rw [if_neg (by omega)] at hF16
    have hl16 : (b.drop 16).length = 232 := by rw [List.length_drop, hlb.out]
    have hca := contains_any (some ⟨q, 16, none⟩) (cb - 16) 232 (b.drop 16) w8 hl16.symm (by rw [← hl16]; exact Kd.F_now hF16) (by omega) (by decide)
    rw [show decide (¬ ∀ x ∈ b.drop 16, x = 0) = more b from rfl] at hca
    obtain ⟨mo, hmo⟩ : ∃ mo, mo = more b := ⟨_, rfl⟩
    rw [← hmo] at hca
    replace hmo := Aside0.mk hmo
    have hrm : Aside0 (rdM b = ⟨v0, v1, v2, v3⟩) := ⟨by rw [hv0.out, hv1.out, hv2.out, hv3.out]; simp only [rdM, List.drop_drop]⟩
    refine hca.mono ?_
    rintro e wz ⟨rfl, hq_⟩
    obtain rfl := hq_.symm
    clear hF16 hl16 hca hv0 hv1 hv2 hv3
    have hma := may_any ⟨v0, v1, v2, v3⟩
    obtain ⟨z0, z1, z2, z3, _⟩ := four_cells hTd.out.box
    have hmne : mb ≠ w.heap.size := by have := hTd.out.n0; have := hTd.out.n1; have := hTd.out.n2; omega
    have hrl : w.heap.size < w8.heap.size := by have := hTd.out.lt; have := hTd.out.n0; have := hTd.out.n1; have := hTd.out.n2; omega
    -- REGION 12
    go_upto_region 12 with fail
    cases hmy : (⟨v0, v1, v2, v3⟩ : MS).may with
    | false =>
      rw [hmy] at hma
      replace hma := Aside0.mk hma
      refine wp_region_held_drew (S := fun X => X.cell? ⟨mb, 0, none⟩ = some (.int .i64 v0) ∧ X.cell? ⟨mb, 1, none⟩ = some (.int .i64 v1) ∧ X.cell? ⟨mb, 2, none⟩ = some (.int .i64 v2) ∧ X.cell? ⟨mb, 3, none⟩ = some (.int .i64 v3)) (by kernel_rfl) ⟨z0, z1, z2, z3⟩ (fun hHeld => ?_)
      refine wpAnyH_take (i := 0) (v := ?_) rfl (by kernel_rfl) (by kernel_rfl) (by kernel_rfl) (fun _ _ _ h => h) (Or.inl ⟨by kernel_rfl, ?_⟩) (by assumption) ?_
      rotate_left
      · intro w hSw
        (try dsimp only at hSw)
        go_simp
        try with_reducible rfl
      try simp only [Act.put, List.setIfInBounds_toArray, List.set_cons_zero, List.set_cons_succ]
      refine wpAnyH_take (i := 1) (v := ?_) rfl (by kernel_rfl) (by kernel_rfl) (by kernel_rfl) (fun _ _ _ h => h) (Or.inl ⟨by kernel_rfl, ?_⟩) (by assumption) ?_
      rotate_left
      · intro w hSw
        (try dsimp only at hSw)
        go_simp
        try with_reducible rfl
      try simp only [Act.put, List.setIfInBounds_toArray, List.set_cons_zero, List.set_cons_succ]
      refine wpAnyH_ready (rs := [2]) (by kernel_rfl) (by simp) (AllReadyH.cons rfl (fun K hK => ?_) AllReadyH.nil)
      go_simp
      go_at_call 14
      refine (hma.out w8.drew).mono ?_
      rintro e w9 ⟨rfl, hb9⟩
      have hb9 := (below_drew (Below.refl w8.heap.size w8)).trans hb9
      have b0 := pw_cell_below hb9 z0
      have b1 := pw_cell_below hb9 z1
      have b2 := pw_cell_below hb9 z2
      have b3 := pw_cell_below hb9 z3
      have hr9 := (hb9.block _ hrl).trans hTd.out.res
      have hst := four_store hr9 (.int .i64 v0) (.int .i64 v1) (.int .i64 v2) (.int .i64 v3)
      obtain ⟨d0, d1, d2, d3, _⟩ := four_cells ((hst.1.block mb (Nat.lt_of_lt_of_le hTd.out.lt hb9.size) hmne).trans ((hb9.block mb hTd.out.lt).trans hTd.out.box))
      have hB9 := hTd.out.bel.trans (hb9.mono hTd.out.bel.size)
      have hB10 := Aside0.mk (hB9.trans (Chg.below hst.1 (fun k e => Nat.le_of_eq e.symm) hB9.size))
      clear hb9 hB9
      replace hst := Aside0.mk hst
      replace hr9 := Aside0.mk hr9
      replace d0 := Aside0.mk d0
      replace d1 := Aside0.mk d1
      replace d2 := Aside0.mk d2
      replace d3 := Aside0.mk d3
      go_wp2_with fail
      refine hK.out _ _ ⟨b0, b1, b2, b3⟩ (fun hHeld => ?_)
      clear hK K
      try simp only [Act.put, List.setIfInBounds_toArray, List.set_cons_zero, List.set_cons_succ]
      refine wpAnyH_take (i := 3) (v := ?_) rfl (by kernel_rfl) (by kernel_rfl) (by kernel_rfl) (fun _ _ _ h => h) (Or.inl ⟨by kernel_rfl, ?_⟩) (by assumption) ?_
      rotate_left
      · intro w hSw
        (try dsimp only at hSw)
        go_simp
        try with_reducible rfl
      try simp only [Act.put, List.setIfInBounds_toArray, List.set_cons_zero, List.set_cons_succ]
      refine wpAnyH_take (i := 4) (v := undef) rfl (by kernel_rfl) (by kernel_rfl) (by kernel_rfl) (fun _ _ _ h => h) (Or.inr ⟨by kernel_rfl, rfl⟩) (by assumption) ?_
      try simp only [Act.put, List.setIfInBounds_toArray, List.set_cons_zero, List.set_cons_succ]
      refine wpAnyH_take (i := 5) (v := undef) rfl (by kernel_rfl) (by kernel_rfl) (by kernel_rfl) (fun _ _ _ h => h) (Or.inr ⟨by kernel_rfl, rfl⟩) (by assumption) ?_
      try simp only [Act.put, List.setIfInBounds_toArray, List.set_cons_zero, List.set_cons_succ]
      refine wpAnyH_take (i := 6) (v := undef) rfl (by kernel_rfl) (by kernel_rfl) (by kernel_rfl) (fun _ _ _ h => h) (Or.inr ⟨by kernel_rfl, rfl⟩) (by assumption) ?_
      try simp only [Act.put, List.setIfInBounds_toArray, List.set_cons_zero, List.set_cons_succ]
      refine wpAnyH_take (i := 7) (v := undef) rfl (by kernel_rfl) (by kernel_rfl) (by kernel_rfl) (fun _ _ _ h => h) (Or.inr ⟨by kernel_rfl, rfl⟩) (by assumption) ?_
      try simp only [Act.put, List.setIfInBounds_toArray, List.set_cons_zero, List.set_cons_succ]
      refine wpAnyH_take (i := 8) (v := ?_) rfl (by kernel_rfl) (by kernel_rfl) (by kernel_rfl) (fun _ _ _ h => h) (Or.inl ⟨by kernel_rfl, ?_⟩) (by assumption) ?_
      rotate_left
      · intro w hSw
        (try dsimp only at hSw)
        go_simp
        try with_reducible rfl
      try simp only [Act.put, List.setIfInBounds_toArray, List.set_cons_zero, List.set_cons_succ]
      refine wpAnyH_take (i := 9) (v := ?_) rfl (by kernel_rfl) (by kernel_rfl) (by kernel_rfl) (fun _ _ _ h => h) (Or.inl ⟨by kernel_rfl, ?_⟩) (by assumption) ?_
      rotate_left
      · intro w hSw
        (try dsimp only at hSw)
        go_simp
        try with_reducible rfl
      try simp only [Act.put, List.setIfInBounds_toArray, List.set_cons_zero, List.set_cons_succ]
      refine wpAnyH_take (i := 10) (v := undef) rfl (by kernel_rfl) (by kernel_rfl) (by kernel_rfl) (fun _ _ _ h => h) (Or.inr ⟨by kernel_rfl, rfl⟩) (by assumption) ?_
      try simp only [Act.put, List.setIfInBounds_toArray, List.set_cons_zero, List.set_cons_succ]
      refine wpAnyH_take (i := 11) (v := undef) rfl (by kernel_rfl) (by kernel_rfl) (by kernel_rfl) (fun _ _ _ h => h) (Or.inr ⟨by kernel_rfl, rfl⟩) (by assumption) ?_
      try simp only [Act.put, List.setIfInBounds_toArray, List.set_cons_zero, List.set_cons_succ]
      refine wpAnyH_take (i := 12) (v := undef) rfl (by kernel_rfl) (by kernel_rfl) (by kernel_rfl) (fun _ _ _ h => h) (Or.inr ⟨by kernel_rfl, rfl⟩) (by assumption) ?_
      try simp only [Act.put, List.setIfInBounds_toArray, List.set_cons_zero, List.set_cons_succ]
      refine wpAnyH_take (i := 13) (v := undef) rfl (by kernel_rfl) (by kernel_rfl) (by kernel_rfl) (fun _ _ _ h => h) (Or.inr ⟨by kernel_rfl, rfl⟩) (by assumption) ?_
      try simp only [Act.put, List.setIfInBounds_toArray, List.set_cons_zero, List.set_cons_succ]
      refine wpAnyH_take (i := 14) (v := undef) rfl (by kernel_rfl) (by kernel_rfl) (by kernel_rfl) (fun _ _ _ h => h) (Or.inr ⟨by kernel_rfl, rfl⟩) (by assumption) ?_
      try simp only [Act.put, List.setIfInBounds_toArray, List.set_cons_zero, List.set_cons_succ]
      refine wpAnyH_take (i := 15) (v := ?_) rfl (by kernel_rfl) (by kernel_rfl) (by kernel_rfl) (fun _ _ _ h => h) (Or.inl ⟨by kernel_rfl, ?_⟩) (by assumption) ?_
      rotate_left
      · intro w hSw
        (try dsimp only at hSw)
        go_simp
        try with_reducible rfl
      try simp only [Act.put, List.setIfInBounds_toArray, List.set_cons_zero, List.set_cons_succ]
      refine wpAnyH_take (i := 16) (v := ?_) rfl (by kernel_rfl) (by kernel_rfl) (by kernel_rfl) (fun _ _ _ h => h) (Or.inl ⟨by kernel_rfl, ?_⟩) (by assumption) ?_
      rotate_left
      · intro w hSw
        (try dsimp only at hSw)
        go_simp
        try with_reducible rfl
      try simp only [Act.put, List.setIfInBounds_toArray, List.set_cons_zero, List.set_cons_succ]
      refine wpAnyH_take (i := 17) (v := undef) rfl (by kernel_rfl) (by kernel_rfl) (by kernel_rfl) (fun _ _ _ h => h) (Or.inr ⟨by kernel_rfl, rfl⟩) (by assumption) ?_
      try simp only [Act.put, List.setIfInBounds_toArray, List.set_cons_zero, List.set_cons_succ]
      refine wpAnyH_take (i := 18) (v := undef) rfl (by kernel_rfl) (by kernel_rfl) (by kernel_rfl) (fun _ _ _ h => h) (Or.inr ⟨by kernel_rfl, rfl⟩) (by assumption) ?_
      try simp only [Act.put, List.setIfInBounds_toArray, List.set_cons_zero, List.set_cons_succ]
      refine wpAnyH_take (i := 19) (v := ?_) rfl (by kernel_rfl) (by kernel_rfl) (by kernel_rfl) (fun _ _ _ h => h) (Or.inl ⟨by kernel_rfl, ?_⟩) (by assumption) ?_
      rotate_left
      · intro w hSw
        (try dsimp only at hSw)
        go_simp
        try with_reducible rfl
      try simp only [Act.put, List.setIfInBounds_toArray, List.set_cons_zero, List.set_cons_succ]
      have hq := hr9.out
      have hq2 := four_cells hq
      have x0 := hq2.1
      have x1 := hq2.2.1
      have x2 := hq2.2.2.1
      have x3 := hq2.2.2.2.1
      have g0 := hq2.2.2.2.2.1
      have g1 := hq2.2.2.2.2.2.1
      have g2 := hq2.2.2.2.2.2.2.1
      have g3 := hq2.2.2.2.2.2.2.2
      clear hq hq2
      refine wpAnyH_ready (rs := [20]) (by kernel_rfl) (by simp) (AllReadyH.cons rfl (fun K hK => ?_) AllReadyH.nil)
      go_simp
      refine hK.out _ _ ⟨d0.out, d1.out, d2.out, d3.out⟩ (fun hHeld => ?_)
      clear hK K
      try simp only [Act.put, List.setIfInBounds_toArray, List.set_cons_zero, List.set_cons_succ]
      refine wpAnyH_take (i := 21) (v := ?_) rfl (by kernel_rfl) (by kernel_rfl) (by kernel_rfl) (fun _ _ _ h => h) (Or.inl ⟨by kernel_rfl, ?_⟩) (by assumption) ?_
      rotate_left
      · intro w hSw
        (try dsimp only at hSw)
        go_simp
        try with_reducible rfl
      change wpAnyH _ _ _ _ _ _ _ (Act.put _ (some 5) _) _
      try simp only [Act.put, List.setIfInBounds_toArray, List.set_cons_zero, List.set_cons_succ]
      refine wpAnyH_done (by kernel_rfl) ?_ _
      go_wp2_with fail
      refine bodyPost_ret (results_ct rfl _ _ w.heap.size 30 #[.int .i64 v0, .int .i64 v1, .int .i64 v2, .int .i64 v3] (0, 0) _ rfl hst.out.2 Try.underlying30 rfl (by kernel_rfl)) rfl ?_
      exact ⟨by rw [hrm.out, ← hmo.out]; rw [hmy]; rfl, hB10.out⟩
    | true =>
      rw [hmy] at hma
      replace hma := Aside0.mk hma
      replace hmy := Aside0.mk hmy
      cases hs1 : (v0 == st) with
      | false =>
        refine wp_region_held_drew (S := fun X => X.cell? ⟨mb, 0, none⟩ = some (.int .i64 v0) ∧ X.cell? ⟨mb, 1, none⟩ = some (.int .i64 v1) ∧ X.cell? ⟨mb, 2, none⟩ = some (.int .i64 v2) ∧ X.cell? ⟨mb, 3, none⟩ = some (.int .i64 v3)) (by kernel_rfl) ⟨z0, z1, z2, z3⟩ (fun hHeld => ?_)
        refine wpAnyH_take (i := 0) (v := ?_) rfl (by kernel_rfl) (by kernel_rfl) (by kernel_rfl) (fun _ _ _ h => h) (Or.inl ⟨by kernel_rfl, ?_⟩) (by assumption) ?_
        rotate_left
        · intro w hSw
          (try dsimp only at hSw)
          go_simp
          try with_reducible rfl
        try simp only [Act.put, List.setIfInBounds_toArray, List.set_cons_zero, List.set_cons_succ]
        refine wpAnyH_take (i := 1) (v := ?_) rfl (by kernel_rfl) (by kernel_rfl) (by kernel_rfl) (fun _ _ _ h => h) (Or.inl ⟨by kernel_rfl, ?_⟩) (by assumption) ?_
        rotate_left
        · intro w hSw
          (try dsimp only at hSw)
          go_simp
          try with_reducible rfl
        try simp only [Act.put, List.setIfInBounds_toArray, List.set_cons_zero, List.set_cons_succ]
        refine wpAnyH_ready (rs := [2]) (by kernel_rfl) (by simp) (AllReadyH.cons rfl (fun K hK => ?_) AllReadyH.nil)
        go_simp
        go_at_call 14
        refine (hma.out w8.drew).mono ?_
        rintro e w9 ⟨rfl, hb9⟩
        have hb9 := (below_drew (Below.refl w8.heap.size w8)).trans hb9
        have b0 := pw_cell_below hb9 z0
        have b1 := pw_cell_below hb9 z1
        have b2 := pw_cell_below hb9 z2
        have b3 := pw_cell_below hb9 z3
        have hr9 := (hb9.block _ hrl).trans hTd.out.res
        have hst := four_store hr9 (.int .i64 v0) (.int .i64 v1) (.int .i64 v2) (.int .i64 v3)
        obtain ⟨d0, d1, d2, d3, _⟩ := four_cells ((hst.1.block mb (Nat.lt_of_lt_of_le hTd.out.lt hb9.size) hmne).trans ((hb9.block mb hTd.out.lt).trans hTd.out.box))
        have hB9 := hTd.out.bel.trans (hb9.mono hTd.out.bel.size)
        have hB10 := Aside0.mk (hB9.trans (Chg.below hst.1 (fun k e => Nat.le_of_eq e.symm) hB9.size))
        clear hb9 hB9
        replace hst := Aside0.mk hst
        replace hr9 := Aside0.mk hr9
        replace d0 := Aside0.mk d0
        replace d1 := Aside0.mk d1
        replace d2 := Aside0.mk d2
        replace d3 := Aside0.mk d3
        go_wp2_with fail
        refine hK.out _ _ ⟨b0, b1, b2, b3⟩ (fun hHeld => ?_)
        clear hK K
        try simp only [Act.put, List.setIfInBounds_toArray, List.set_cons_zero, List.set_cons_succ]
        refine wpAnyH_take (i := 3) (v := ?_) rfl (by kernel_rfl) (by kernel_rfl) (by kernel_rfl) (fun _ _ _ h => h) (Or.inl ⟨by kernel_rfl, ?_⟩) (by assumption) ?_
        rotate_left
        · intro w hSw
          (try dsimp only at hSw)
          go_simp
          try with_reducible rfl
        try simp only [Act.put, List.setIfInBounds_toArray, List.set_cons_zero, List.set_cons_succ]
        refine wpAnyH_take (i := 4) (v := ?_) rfl (by kernel_rfl) (by kernel_rfl) (by kernel_rfl) (fun _ _ _ h => h) (Or.inl ⟨by kernel_rfl, ?_⟩) (by assumption) ?_
        rotate_left
        · intro w hSw
          (try dsimp only at hSw)
          go_simp
          try with_reducible rfl
        try simp only [Act.put, List.setIfInBounds_toArray, List.set_cons_zero, List.set_cons_succ]
        refine wpAnyH_take (i := 5) (v := ?_) rfl (by kernel_rfl) (by kernel_rfl) (by kernel_rfl) (fun _ _ _ h => h) (Or.inl ⟨by kernel_rfl, ?_⟩) (by assumption) ?_
        rotate_left
        · intro w hSw
          (try dsimp only at hSw)
          go_simp
          try with_reducible rfl
        try simp only [Act.put, List.setIfInBounds_toArray, List.set_cons_zero, List.set_cons_succ]
        refine wpAnyH_take (i := 6) (v := ?_) rfl (by kernel_rfl) (by kernel_rfl) (by kernel_rfl) (fun _ _ _ h => h) (Or.inl ⟨by kernel_rfl, ?_⟩) (by assumption) ?_
        rotate_left
        · intro w hSw
          (try dsimp only at hSw)
          go_simp
          try with_reducible rfl
        try simp only [Act.put, List.setIfInBounds_toArray, List.set_cons_zero, List.set_cons_succ]
        refine wpAnyH_take (i := 7) (v := ?_) rfl (by kernel_rfl) (by kernel_rfl) (by kernel_rfl) (fun _ _ _ h => h) (Or.inl ⟨by kernel_rfl, ?_⟩) (by assumption) ?_
        rotate_left
        · intro w hSw
          (try dsimp only at hSw)
          go_simp
          try with_reducible rfl
        try simp only [Act.put, List.setIfInBounds_toArray, List.set_cons_zero, List.set_cons_succ]
        refine wpAnyH_take (i := 8) (v := ?_) rfl (by kernel_rfl) (by kernel_rfl) (by kernel_rfl) (fun _ _ _ h => h) (Or.inl ⟨by kernel_rfl, ?_⟩) (by assumption) ?_
        rotate_left
        · intro w hSw
          (try dsimp only at hSw)
          go_simp
          try with_reducible rfl
        try simp only [Act.put, List.setIfInBounds_toArray, List.set_cons_zero, List.set_cons_succ]
        refine wpAnyH_take (i := 9) (v := ?_) rfl (by kernel_rfl) (by kernel_rfl) (by kernel_rfl) (fun _ _ _ h => h) (Or.inl ⟨by kernel_rfl, ?_⟩) (by assumption) ?_
        rotate_left
        · intro w hSw
          (try dsimp only at hSw)
          go_simp
          try with_reducible rfl
        try simp only [Act.put, List.setIfInBounds_toArray, List.set_cons_zero, List.set_cons_succ]
        refine wpAnyH_take (i := 10) (v := undef) rfl (by kernel_rfl) (by kernel_rfl) (by kernel_rfl) (fun _ _ _ h => h) (Or.inr ⟨by kernel_rfl, rfl⟩) (by assumption) ?_
        try simp only [Act.put, List.setIfInBounds_toArray, List.set_cons_zero, List.set_cons_succ]
        refine wpAnyH_take (i := 11) (v := undef) rfl (by kernel_rfl) (by kernel_rfl) (by kernel_rfl) (fun _ _ _ h => h) (Or.inr ⟨by kernel_rfl, rfl⟩) (by assumption) ?_
        try simp only [Act.put, List.setIfInBounds_toArray, List.set_cons_zero, List.set_cons_succ]
        refine wpAnyH_take (i := 12) (v := undef) rfl (by kernel_rfl) (by kernel_rfl) (by kernel_rfl) (fun _ _ _ h => h) (Or.inr ⟨by kernel_rfl, rfl⟩) (by assumption) ?_
        try simp only [Act.put, List.setIfInBounds_toArray, List.set_cons_zero, List.set_cons_succ]
        refine wpAnyH_take (i := 13) (v := undef) rfl (by kernel_rfl) (by kernel_rfl) (by kernel_rfl) (fun _ _ _ h => h) (Or.inr ⟨by kernel_rfl, rfl⟩) (by assumption) ?_
        try simp only [Act.put, List.setIfInBounds_toArray, List.set_cons_zero, List.set_cons_succ]
        refine wpAnyH_take (i := 14) (v := undef) rfl (by kernel_rfl) (by kernel_rfl) (by kernel_rfl) (fun _ _ _ h => h) (Or.inr ⟨by kernel_rfl, rfl⟩) (by assumption) ?_
        try simp only [Act.put, List.setIfInBounds_toArray, List.set_cons_zero, List.set_cons_succ]
        refine wpAnyH_take (i := 15) (v := ?_) rfl (by kernel_rfl) (by kernel_rfl) (by kernel_rfl) (fun _ _ _ h => h) (Or.inl ⟨by kernel_rfl, ?_⟩) (by assumption) ?_
        rotate_left
        · intro w hSw
          (try dsimp only at hSw)
          go_simp
          try with_reducible rfl
        try simp only [Act.put, List.setIfInBounds_toArray, List.set_cons_zero, List.set_cons_succ]
        refine wpAnyH_take (i := 16) (v := ?_) rfl (by kernel_rfl) (by kernel_rfl) (by kernel_rfl) (fun _ _ _ h => h) (Or.inl ⟨by kernel_rfl, ?_⟩) (by assumption) ?_
        rotate_left
        · intro w hSw
          (try dsimp only at hSw)
          go_simp
          try with_reducible rfl
        try simp only [Act.put, List.setIfInBounds_toArray, List.set_cons_zero, List.set_cons_succ]
        refine wpAnyH_take (i := 17) (v := undef) rfl (by kernel_rfl) (by kernel_rfl) (by kernel_rfl) (fun _ _ _ h => h) (Or.inr ⟨by kernel_rfl, rfl⟩) (by assumption) ?_
        try simp only [Act.put, List.setIfInBounds_toArray, List.set_cons_zero, List.set_cons_succ]
        refine wpAnyH_take (i := 18) (v := undef) rfl (by kernel_rfl) (by kernel_rfl) (by kernel_rfl) (fun _ _ _ h => h) (Or.inr ⟨by kernel_rfl, rfl⟩) (by assumption) ?_
        try simp only [Act.put, List.setIfInBounds_toArray, List.set_cons_zero, List.set_cons_succ]
        refine wpAnyH_take (i := 19) (v := ?_) rfl (by kernel_rfl) (by kernel_rfl) (by kernel_rfl) (fun _ _ _ h => h) (Or.inl ⟨by kernel_rfl, ?_⟩) (by assumption) ?_
        rotate_left
        · intro w hSw
          (try dsimp only at hSw)
          go_simp
          try with_reducible rfl
        try simp only [Act.put, List.setIfInBounds_toArray, List.set_cons_zero, List.set_cons_succ]
        have hq := hr9.out
        have hq2 := four_cells hq
        have x0 := hq2.1
        have x1 := hq2.2.1
        have x2 := hq2.2.2.1
        have x3 := hq2.2.2.2.1
        have g0 := hq2.2.2.2.2.1
        have g1 := hq2.2.2.2.2.2.1
        have g2 := hq2.2.2.2.2.2.2.1
        have g3 := hq2.2.2.2.2.2.2.2
        clear hq hq2
        refine wpAnyH_ready (rs := [20]) (by kernel_rfl) (by simp) (AllReadyH.cons rfl (fun K hK => ?_) AllReadyH.nil)
        go_simp
        refine hK.out _ _ ⟨d0.out, d1.out, d2.out, d3.out⟩ (fun hHeld => ?_)
        clear hK K
        try simp only [Act.put, List.setIfInBounds_toArray, List.set_cons_zero, List.set_cons_succ]
        refine wpAnyH_take (i := 21) (v := ?_) rfl (by kernel_rfl) (by kernel_rfl) (by kernel_rfl) (fun _ _ _ h => h) (Or.inl ⟨by kernel_rfl, ?_⟩) (by assumption) ?_
        rotate_left
        · intro w hSw
          (try dsimp only at hSw)
          go_simp
          try with_reducible rfl
        change wpAnyH _ _ _ _ _ _ _ (Act.put _ (some 5) _) _
        try simp only [Act.put, List.setIfInBounds_toArray, List.set_cons_zero, List.set_cons_succ]
        refine wpAnyH_done (by kernel_rfl) ?_ _
        go_wp2_with fail
        refine bodyPost_ret (results_ct rfl _ _ w.heap.size 30 #[.int .i64 v0, .int .i64 v1, .int .i64 v2, .int .i64 v3] (0, 0) _ rfl hst.out.2 Try.underlying30 rfl (by kernel_rfl)) rfl ?_
        exact ⟨by rw [hrm.out, ← hmo.out]; rw [hmy.out]; show _ = Ending.returned (.tuple #[_, .bool (true && (v0 == st) && _ && _)]); rw [hs1]; rfl, hB10.out⟩
      | true =>
        cases hs2 : (v0.tmod 2 == at_) with
        | false =>
          refine wp_region_held_drew (S := fun X => X.cell? ⟨mb, 0, none⟩ = some (.int .i64 v0) ∧ X.cell? ⟨mb, 1, none⟩ = some (.int .i64 v1) ∧ X.cell? ⟨mb, 2, none⟩ = some (.int .i64 v2) ∧ X.cell? ⟨mb, 3, none⟩ = some (.int .i64 v3)) (by kernel_rfl) ⟨z0, z1, z2, z3⟩ (fun hHeld => ?_)
          refine wpAnyH_take (i := 0) (v := ?_) rfl (by kernel_rfl) (by kernel_rfl) (by kernel_rfl) (fun _ _ _ h => h) (Or.inl ⟨by kernel_rfl, ?_⟩) (by assumption) ?_
          rotate_left
          · intro w hSw
            (try dsimp only at hSw)
            go_simp
            try with_reducible rfl
          try simp only [Act.put, List.setIfInBounds_toArray, List.set_cons_zero, List.set_cons_succ]
          refine wpAnyH_take (i := 1) (v := ?_) rfl (by kernel_rfl) (by kernel_rfl) (by kernel_rfl) (fun _ _ _ h => h) (Or.inl ⟨by kernel_rfl, ?_⟩) (by assumption) ?_
          rotate_left
          · intro w hSw
            (try dsimp only at hSw)
            go_simp
            try with_reducible rfl
          try simp only [Act.put, List.setIfInBounds_toArray, List.set_cons_zero, List.set_cons_succ]
          refine wpAnyH_ready (rs := [2]) (by kernel_rfl) (by simp) (AllReadyH.cons rfl (fun K hK => ?_) AllReadyH.nil)
          go_simp
          go_at_call 14
          refine (hma.out w8.drew).mono ?_
          rintro e w9 ⟨rfl, hb9⟩
          have hb9 := (below_drew (Below.refl w8.heap.size w8)).trans hb9
          have b0 := pw_cell_below hb9 z0
          have b1 := pw_cell_below hb9 z1
          have b2 := pw_cell_below hb9 z2
          have b3 := pw_cell_below hb9 z3
          have hr9 := (hb9.block _ hrl).trans hTd.out.res
          have hst := four_store hr9 (.int .i64 v0) (.int .i64 v1) (.int .i64 v2) (.int .i64 v3)
          obtain ⟨d0, d1, d2, d3, _⟩ := four_cells ((hst.1.block mb (Nat.lt_of_lt_of_le hTd.out.lt hb9.size) hmne).trans ((hb9.block mb hTd.out.lt).trans hTd.out.box))
          have hB9 := hTd.out.bel.trans (hb9.mono hTd.out.bel.size)
          have hB10 := Aside0.mk (hB9.trans (Chg.below hst.1 (fun k e => Nat.le_of_eq e.symm) hB9.size))
          clear hb9 hB9
          replace hst := Aside0.mk hst
          replace hr9 := Aside0.mk hr9
          replace d0 := Aside0.mk d0
          replace d1 := Aside0.mk d1
          replace d2 := Aside0.mk d2
          replace d3 := Aside0.mk d3
          go_wp2_with fail
          refine hK.out _ _ ⟨b0, b1, b2, b3⟩ (fun hHeld => ?_)
          clear hK K
          try simp only [Act.put, List.setIfInBounds_toArray, List.set_cons_zero, List.set_cons_succ]
          refine wpAnyH_take (i := 3) (v := ?_) rfl (by kernel_rfl) (by kernel_rfl) (by kernel_rfl) (fun _ _ _ h => h) (Or.inl ⟨by kernel_rfl, ?_⟩) (by assumption) ?_
          rotate_left
          · intro w hSw
            (try dsimp only at hSw)
            go_simp
            try with_reducible rfl
          try simp only [Act.put, List.setIfInBounds_toArray, List.set_cons_zero, List.set_cons_succ]
          refine wpAnyH_take (i := 4) (v := ?_) rfl (by kernel_rfl) (by kernel_rfl) (by kernel_rfl) (fun _ _ _ h => h) (Or.inl ⟨by kernel_rfl, ?_⟩) (by assumption) ?_
          rotate_left
          · intro w hSw
            (try dsimp only at hSw)
            go_simp
            try with_reducible rfl
          try simp only [Act.put, List.setIfInBounds_toArray, List.set_cons_zero, List.set_cons_succ]
          refine wpAnyH_take (i := 5) (v := ?_) rfl (by kernel_rfl) (by kernel_rfl) (by kernel_rfl) (fun _ _ _ h => h) (Or.inl ⟨by kernel_rfl, ?_⟩) (by assumption) ?_
          rotate_left
          · intro w hSw
            (try dsimp only at hSw)
            go_simp
            try with_reducible rfl
          try simp only [Act.put, List.setIfInBounds_toArray, List.set_cons_zero, List.set_cons_succ]
          refine wpAnyH_take (i := 6) (v := ?_) rfl (by kernel_rfl) (by kernel_rfl) (by kernel_rfl) (fun _ _ _ h => h) (Or.inl ⟨by kernel_rfl, ?_⟩) (by assumption) ?_
          rotate_left
          · intro w hSw
            (try dsimp only at hSw)
            go_simp
            try with_reducible rfl
          try simp only [Act.put, List.setIfInBounds_toArray, List.set_cons_zero, List.set_cons_succ]
          refine wpAnyH_take (i := 7) (v := ?_) rfl (by kernel_rfl) (by kernel_rfl) (by kernel_rfl) (fun _ _ _ h => h) (Or.inl ⟨by kernel_rfl, ?_⟩) (by assumption) ?_
          rotate_left
          · intro w hSw
            (try dsimp only at hSw)
            go_simp
            try with_reducible rfl
          try simp only [Act.put, List.setIfInBounds_toArray, List.set_cons_zero, List.set_cons_succ]
          refine wpAnyH_take (i := 8) (v := ?_) rfl (by kernel_rfl) (by kernel_rfl) (by kernel_rfl) (fun _ _ _ h => h) (Or.inl ⟨by kernel_rfl, ?_⟩) (by assumption) ?_
          rotate_left
          · intro w hSw
            (try dsimp only at hSw)
            go_simp
            try with_reducible rfl
          try simp only [Act.put, List.setIfInBounds_toArray, List.set_cons_zero, List.set_cons_succ]
          refine wpAnyH_take (i := 9) (v := ?_) rfl (by kernel_rfl) (by kernel_rfl) (by kernel_rfl) (fun _ _ _ h => h) (Or.inl ⟨by kernel_rfl, ?_⟩) (by assumption) ?_
          rotate_left
          · intro w hSw
            (try dsimp only at hSw)
            go_simp
            try with_reducible rfl
          try simp only [Act.put, List.setIfInBounds_toArray, List.set_cons_zero, List.set_cons_succ]
          refine wpAnyH_take (i := 10) (v := ?_) rfl (by kernel_rfl) (by kernel_rfl) (by kernel_rfl) (fun _ _ _ h => h) (Or.inl ⟨by kernel_rfl, ?_⟩) (by assumption) ?_
          rotate_left
          · intro w hSw
            (try dsimp only at hSw)
            go_simp
            try with_reducible rfl
          try simp only [Act.put, List.setIfInBounds_toArray, List.set_cons_zero, List.set_cons_succ]
          refine wpAnyH_take (i := 11) (v := ?_) rfl (by kernel_rfl) (by kernel_rfl) (by kernel_rfl) (fun _ _ _ h => h) (Or.inl ⟨by kernel_rfl, ?_⟩) (by assumption) ?_
          rotate_left
          · intro w hSw
            (try dsimp only at hSw)
            go_simp
            try with_reducible rfl
          try simp only [Act.put, List.setIfInBounds_toArray, List.set_cons_zero, List.set_cons_succ]
          refine wpAnyH_take (i := 12) (v := ?_) rfl (by kernel_rfl) (by kernel_rfl) (by kernel_rfl) (fun _ _ _ h => h) (Or.inl ⟨by kernel_rfl, ?_⟩) (by assumption) ?_
          rotate_left
          · intro w hSw
            (try dsimp only at hSw)
            go_simp
            try with_reducible rfl
          try simp only [Act.put, List.setIfInBounds_toArray, List.set_cons_zero, List.set_cons_succ]
          refine wpAnyH_take (i := 13) (v := ?_) rfl (by kernel_rfl) (by kernel_rfl) (by kernel_rfl) (fun _ _ _ h => h) (Or.inl ⟨by kernel_rfl, ?_⟩) (by assumption) ?_
          rotate_left
          · intro w hSw
            (try dsimp only at hSw)
            go_simp
            try with_reducible rfl
          try simp only [Act.put, List.setIfInBounds_toArray, List.set_cons_zero, List.set_cons_succ]
          refine wpAnyH_take (i := 14) (v := ?_) rfl (by kernel_rfl) (by kernel_rfl) (by kernel_rfl) (fun _ _ _ h => h) (Or.inl ⟨by kernel_rfl, ?_⟩) (by assumption) ?_
          rotate_left
          · intro w hSw
            (try dsimp only at hSw)
            go_simp
            try with_reducible rfl
          try simp only [Act.put, List.setIfInBounds_toArray, List.set_cons_zero, List.set_cons_succ]
          refine wpAnyH_take (i := 15) (v := ?_) rfl (by kernel_rfl) (by kernel_rfl) (by kernel_rfl) (fun _ _ _ h => h) (Or.inl ⟨by kernel_rfl, ?_⟩) (by assumption) ?_
          rotate_left
          · intro w hSw
            (try dsimp only at hSw)
            go_simp
            try with_reducible rfl
          try simp only [Act.put, List.setIfInBounds_toArray, List.set_cons_zero, List.set_cons_succ]
          refine wpAnyH_take (i := 16) (v := ?_) rfl (by kernel_rfl) (by kernel_rfl) (by kernel_rfl) (fun _ _ _ h => h) (Or.inl ⟨by kernel_rfl, ?_⟩) (by assumption) ?_
          rotate_left
          · intro w hSw
            (try dsimp only at hSw)
            go_simp
            try with_reducible rfl
          try simp only [Act.put, List.setIfInBounds_toArray, List.set_cons_zero, List.set_cons_succ]
          refine wpAnyH_take (i := 17) (v := undef) rfl (by kernel_rfl) (by kernel_rfl) (by kernel_rfl) (fun _ _ _ h => h) (Or.inr ⟨by kernel_rfl, rfl⟩) (by assumption) ?_
          try simp only [Act.put, List.setIfInBounds_toArray, List.set_cons_zero, List.set_cons_succ]
          refine wpAnyH_take (i := 18) (v := undef) rfl (by kernel_rfl) (by kernel_rfl) (by kernel_rfl) (fun _ _ _ h => h) (Or.inr ⟨by kernel_rfl, rfl⟩) (by assumption) ?_
          try simp only [Act.put, List.setIfInBounds_toArray, List.set_cons_zero, List.set_cons_succ]
          refine wpAnyH_take (i := 19) (v := ?_) rfl (by kernel_rfl) (by kernel_rfl) (by kernel_rfl) (fun _ _ _ h => h) (Or.inl ⟨by kernel_rfl, ?_⟩) (by assumption) ?_
          rotate_left
          · intro w hSw
            (try dsimp only at hSw)
            go_simp
            try with_reducible rfl
          try simp only [Act.put, List.setIfInBounds_toArray, List.set_cons_zero, List.set_cons_succ]
          have hq := hr9.out
          have hq2 := four_cells hq
          have x0 := hq2.1
          have x1 := hq2.2.1
          have x2 := hq2.2.2.1
          have x3 := hq2.2.2.2.1
          have g0 := hq2.2.2.2.2.1
          have g1 := hq2.2.2.2.2.2.1
          have g2 := hq2.2.2.2.2.2.2.1
          have g3 := hq2.2.2.2.2.2.2.2
          clear hq hq2
          refine wpAnyH_ready (rs := [20]) (by kernel_rfl) (by simp) (AllReadyH.cons rfl (fun K hK => ?_) AllReadyH.nil)
          go_simp
          refine hK.out _ _ ⟨d0.out, d1.out, d2.out, d3.out⟩ (fun hHeld => ?_)
          clear hK K
          try simp only [Act.put, List.setIfInBounds_toArray, List.set_cons_zero, List.set_cons_succ]
          refine wpAnyH_take (i := 21) (v := ?_) rfl (by kernel_rfl) (by kernel_rfl) (by kernel_rfl) (fun _ _ _ h => h) (Or.inl ⟨by kernel_rfl, ?_⟩) (by assumption) ?_
          rotate_left
          · intro w hSw
            (try dsimp only at hSw)
            go_simp
            try with_reducible rfl
          change wpAnyH _ _ _ _ _ _ _ (Act.put _ (some 5) _) _
          try simp only [Act.put, List.setIfInBounds_toArray, List.set_cons_zero, List.set_cons_succ]
          refine wpAnyH_done (by kernel_rfl) ?_ _
          go_wp2_with fail
          refine bodyPost_ret (results_ct rfl _ _ w.heap.size 30 #[.int .i64 v0, .int .i64 v1, .int .i64 v2, .int .i64 v3] (0, 0) _ rfl hst.out.2 Try.underlying30 rfl (by kernel_rfl)) rfl ?_
          exact ⟨by rw [hrm.out, ← hmo.out]; rw [hmy.out]; show _ = Ending.returned (.tuple #[_, .bool (true && (v0 == st) && (v0.tmod 2 == at_) && _)]); rw [hs1, hs2]; rfl, hB10.out⟩
        | true =>
          refine wp_region_held_drew (S := fun X => X.cell? ⟨mb, 0, none⟩ = some (.int .i64 v0) ∧ X.cell? ⟨mb, 1, none⟩ = some (.int .i64 v1) ∧ X.cell? ⟨mb, 2, none⟩ = some (.int .i64 v2) ∧ X.cell? ⟨mb, 3, none⟩ = some (.int .i64 v3)) (by kernel_rfl) ⟨z0, z1, z2, z3⟩ (fun hHeld => ?_)
          refine wpAnyH_take (i := 0) (v := ?_) rfl (by kernel_rfl) (by kernel_rfl) (by kernel_rfl) (fun _ _ _ h => h) (Or.inl ⟨by kernel_rfl, ?_⟩) (by assumption) ?_
          rotate_left
          · intro w hSw
            (try dsimp only at hSw)
            go_simp
            try with_reducible rfl
          try simp only [Act.put, List.setIfInBounds_toArray, List.set_cons_zero, List.set_cons_succ]
          refine wpAnyH_take (i := 1) (v := ?_) rfl (by kernel_rfl) (by kernel_rfl) (by kernel_rfl) (fun _ _ _ h => h) (Or.inl ⟨by kernel_rfl, ?_⟩) (by assumption) ?_
          rotate_left
          · intro w hSw
            (try dsimp only at hSw)
            go_simp
            try with_reducible rfl
          try simp only [Act.put, List.setIfInBounds_toArray, List.set_cons_zero, List.set_cons_succ]
          refine wpAnyH_ready (rs := [2]) (by kernel_rfl) (by simp) (AllReadyH.cons rfl (fun K hK => ?_) AllReadyH.nil)
          go_simp
          go_at_call 14
          refine (hma.out w8.drew).mono ?_
          rintro e w9 ⟨rfl, hb9⟩
          have hb9 := (below_drew (Below.refl w8.heap.size w8)).trans hb9
          have b0 := pw_cell_below hb9 z0
          have b1 := pw_cell_below hb9 z1
          have b2 := pw_cell_below hb9 z2
          have b3 := pw_cell_below hb9 z3
          have hr9 := (hb9.block _ hrl).trans hTd.out.res
          have hst := four_store hr9 (.int .i64 v0) (.int .i64 v1) (.int .i64 v2) (.int .i64 v3)
          obtain ⟨d0, d1, d2, d3, _⟩ := four_cells ((hst.1.block mb (Nat.lt_of_lt_of_le hTd.out.lt hb9.size) hmne).trans ((hb9.block mb hTd.out.lt).trans hTd.out.box))
          have hB9 := hTd.out.bel.trans (hb9.mono hTd.out.bel.size)
          have hB10 := Aside0.mk (hB9.trans (Chg.below hst.1 (fun k e => Nat.le_of_eq e.symm) hB9.size))
          clear hb9 hB9
          replace hst := Aside0.mk hst
          replace hr9 := Aside0.mk hr9
          replace d0 := Aside0.mk d0
          replace d1 := Aside0.mk d1
          replace d2 := Aside0.mk d2
          replace d3 := Aside0.mk d3
          go_wp2_with fail
          refine hK.out _ _ ⟨b0, b1, b2, b3⟩ (fun hHeld => ?_)
          clear hK K
          try simp only [Act.put, List.setIfInBounds_toArray, List.set_cons_zero, List.set_cons_succ]
          refine wpAnyH_take (i := 3) (v := ?_) rfl (by kernel_rfl) (by kernel_rfl) (by kernel_rfl) (fun _ _ _ h => h) (Or.inl ⟨by kernel_rfl, ?_⟩) (by assumption) ?_
          rotate_left
          · intro w hSw
            (try dsimp only at hSw)
            go_simp
            try with_reducible rfl
          try simp only [Act.put, List.setIfInBounds_toArray, List.set_cons_zero, List.set_cons_succ]
          refine wpAnyH_take (i := 4) (v := ?_) rfl (by kernel_rfl) (by kernel_rfl) (by kernel_rfl) (fun _ _ _ h => h) (Or.inl ⟨by kernel_rfl, ?_⟩) (by assumption) ?_
          rotate_left
          · intro w hSw
            (try dsimp only at hSw)
            go_simp
            try with_reducible rfl
          try simp only [Act.put, List.setIfInBounds_toArray, List.set_cons_zero, List.set_cons_succ]
          refine wpAnyH_take (i := 5) (v := ?_) rfl (by kernel_rfl) (by kernel_rfl) (by kernel_rfl) (fun _ _ _ h => h) (Or.inl ⟨by kernel_rfl, ?_⟩) (by assumption) ?_
          rotate_left
          · intro w hSw
            (try dsimp only at hSw)
            go_simp
            try with_reducible rfl
          try simp only [Act.put, List.setIfInBounds_toArray, List.set_cons_zero, List.set_cons_succ]
          refine wpAnyH_take (i := 6) (v := ?_) rfl (by kernel_rfl) (by kernel_rfl) (by kernel_rfl) (fun _ _ _ h => h) (Or.inl ⟨by kernel_rfl, ?_⟩) (by assumption) ?_
          rotate_left
          · intro w hSw
            (try dsimp only at hSw)
            go_simp
            try with_reducible rfl
          try simp only [Act.put, List.setIfInBounds_toArray, List.set_cons_zero, List.set_cons_succ]
          refine wpAnyH_take (i := 7) (v := ?_) rfl (by kernel_rfl) (by kernel_rfl) (by kernel_rfl) (fun _ _ _ h => h) (Or.inl ⟨by kernel_rfl, ?_⟩) (by assumption) ?_
          rotate_left
          · intro w hSw
            (try dsimp only at hSw)
            go_simp
            try with_reducible rfl
          try simp only [Act.put, List.setIfInBounds_toArray, List.set_cons_zero, List.set_cons_succ]
          refine wpAnyH_take (i := 8) (v := ?_) rfl (by kernel_rfl) (by kernel_rfl) (by kernel_rfl) (fun _ _ _ h => h) (Or.inl ⟨by kernel_rfl, ?_⟩) (by assumption) ?_
          rotate_left
          · intro w hSw
            (try dsimp only at hSw)
            go_simp
            try with_reducible rfl
          try simp only [Act.put, List.setIfInBounds_toArray, List.set_cons_zero, List.set_cons_succ]
          refine wpAnyH_take (i := 9) (v := ?_) rfl (by kernel_rfl) (by kernel_rfl) (by kernel_rfl) (fun _ _ _ h => h) (Or.inl ⟨by kernel_rfl, ?_⟩) (by assumption) ?_
          rotate_left
          · intro w hSw
            (try dsimp only at hSw)
            go_simp
            try with_reducible rfl
          try simp only [Act.put, List.setIfInBounds_toArray, List.set_cons_zero, List.set_cons_succ]
          refine wpAnyH_take (i := 10) (v := ?_) rfl (by kernel_rfl) (by kernel_rfl) (by kernel_rfl) (fun _ _ _ h => h) (Or.inl ⟨by kernel_rfl, ?_⟩) (by assumption) ?_
          rotate_left
          · intro w hSw
            (try dsimp only at hSw)
            go_simp
            try with_reducible rfl
          try simp only [Act.put, List.setIfInBounds_toArray, List.set_cons_zero, List.set_cons_succ]
          refine wpAnyH_take (i := 11) (v := ?_) rfl (by kernel_rfl) (by kernel_rfl) (by kernel_rfl) (fun _ _ _ h => h) (Or.inl ⟨by kernel_rfl, ?_⟩) (by assumption) ?_
          rotate_left
          · intro w hSw
            (try dsimp only at hSw)
            go_simp
            try with_reducible rfl
          try simp only [Act.put, List.setIfInBounds_toArray, List.set_cons_zero, List.set_cons_succ]
          refine wpAnyH_take (i := 12) (v := ?_) rfl (by kernel_rfl) (by kernel_rfl) (by kernel_rfl) (fun _ _ _ h => h) (Or.inl ⟨by kernel_rfl, ?_⟩) (by assumption) ?_
          rotate_left
          · intro w hSw
            (try dsimp only at hSw)
            go_simp
            try with_reducible rfl
          try simp only [Act.put, List.setIfInBounds_toArray, List.set_cons_zero, List.set_cons_succ]
          refine wpAnyH_take (i := 13) (v := ?_) rfl (by kernel_rfl) (by kernel_rfl) (by kernel_rfl) (fun _ _ _ h => h) (Or.inl ⟨by kernel_rfl, ?_⟩) (by assumption) ?_
          rotate_left
          · intro w hSw
            (try dsimp only at hSw)
            go_simp
            try with_reducible rfl
          try simp only [Act.put, List.setIfInBounds_toArray, List.set_cons_zero, List.set_cons_succ]
          refine wpAnyH_take (i := 14) (v := ?_) rfl (by kernel_rfl) (by kernel_rfl) (by kernel_rfl) (fun _ _ _ h => h) (Or.inl ⟨by kernel_rfl, ?_⟩) (by assumption) ?_
          rotate_left
          · intro w hSw
            (try dsimp only at hSw)
            go_simp
            try with_reducible rfl
          try simp only [Act.put, List.setIfInBounds_toArray, List.set_cons_zero, List.set_cons_succ]
          refine wpAnyH_take (i := 15) (v := ?_) rfl (by kernel_rfl) (by kernel_rfl) (by kernel_rfl) (fun _ _ _ h => h) (Or.inl ⟨by kernel_rfl, ?_⟩) (by assumption) ?_
          rotate_left
          · intro w hSw
            (try dsimp only at hSw)
            go_simp
            try with_reducible rfl
          try simp only [Act.put, List.setIfInBounds_toArray, List.set_cons_zero, List.set_cons_succ]
          refine wpAnyH_take (i := 16) (v := ?_) rfl (by kernel_rfl) (by kernel_rfl) (by kernel_rfl) (fun _ _ _ h => h) (Or.inl ⟨by kernel_rfl, ?_⟩) (by assumption) ?_
          rotate_left
          · intro w hSw
            (try dsimp only at hSw)
            go_simp
            try with_reducible rfl
          try simp only [Act.put, List.setIfInBounds_toArray, List.set_cons_zero, List.set_cons_succ]
          refine wpAnyH_take (i := 17) (v := ?_) rfl (by kernel_rfl) (by kernel_rfl) (by kernel_rfl) (fun _ _ _ h => h) (Or.inl ⟨by kernel_rfl, ?_⟩) (by assumption) ?_
          rotate_left
          · intro w hSw
            (try dsimp only at hSw)
            go_simp
            try with_reducible rfl
          try simp only [Act.put, List.setIfInBounds_toArray, List.set_cons_zero, List.set_cons_succ]
          refine wpAnyH_take (i := 18) (v := ?_) rfl (by kernel_rfl) (by kernel_rfl) (by kernel_rfl) (fun _ _ _ h => h) (Or.inl ⟨by kernel_rfl, ?_⟩) (by assumption) ?_
          rotate_left
          · intro w hSw
            (try dsimp only at hSw)
            go_simp
            try with_reducible rfl
          try simp only [Act.put, List.setIfInBounds_toArray, List.set_cons_zero, List.set_cons_succ]
          refine wpAnyH_take (i := 19) (v := ?_) rfl (by kernel_rfl) (by kernel_rfl) (by kernel_rfl) (fun _ _ _ h => h) (Or.inl ⟨by kernel_rfl, ?_⟩) (by assumption) ?_
          rotate_left
          · intro w hSw
            (try dsimp only at hSw)
            go_simp
            try with_reducible rfl
          try simp only [Act.put, List.setIfInBounds_toArray, List.set_cons_zero, List.set_cons_succ]
          have hq := hr9.out
          have hq2 := four_cells hq
          have x0 := hq2.1
          have x1 := hq2.2.1
          have x2 := hq2.2.2.1
          have x3 := hq2.2.2.2.1
          have g0 := hq2.2.2.2.2.1
          have g1 := hq2.2.2.2.2.2.1
          have g2 := hq2.2.2.2.2.2.2.1
          have g3 := hq2.2.2.2.2.2.2.2
          clear hq hq2
          refine wpAnyH_ready (rs := [20]) (by kernel_rfl) (by simp) (AllReadyH.cons rfl (fun K hK => ?_) AllReadyH.nil)
          go_simp
          refine hK.out _ _ ⟨d0.out, d1.out, d2.out, d3.out⟩ (fun hHeld => ?_)
          clear hK K
          try simp only [Act.put, List.setIfInBounds_toArray, List.set_cons_zero, List.set_cons_succ]
          refine wpAnyH_take (i := 21) (v := ?_) rfl (by kernel_rfl) (by kernel_rfl) (by kernel_rfl) (fun _ _ _ h => h) (Or.inl ⟨by kernel_rfl, ?_⟩) (by assumption) ?_
          rotate_left
          · intro w hSw
            (try dsimp only at hSw)
            go_simp
            try with_reducible rfl
          change wpAnyH _ _ _ _ _ _ _ (Act.put _ (some 5) _) _
          try simp only [Act.put, List.setIfInBounds_toArray, List.set_cons_zero, List.set_cons_succ]
          refine wpAnyH_done (by kernel_rfl) ?_ _
          go_wp2_with fail
          refine bodyPost_ret (results_ct rfl _ _ w.heap.size 30 #[.int .i64 v0, .int .i64 v1, .int .i64 v2, .int .i64 v3] (0, 0) _ rfl hst.out.2 Try.underlying30 rfl (by kernel_rfl)) rfl ?_
          exact ⟨by rw [hrm.out, ← hmo.out]; rw [hmy.out]; show _ = Ending.returned (.tuple #[_, .bool (true && (v0 == st) && (v0.tmod 2 == at_) && !mo)]); rw [hs1, hs2]; rfl, hB10.out⟩
  · rw [if_neg h] at ho
    have ht : toldM l = ⟨0, 0, 0, 0⟩ := if_neg h
    have hf : toldB l at_ = false := by unfold toldB; rw [decide_eq_false h]; rfl
    replace ho := Aside0.mk ho
    replace ht := Aside0.mk ht
    replace hf := Aside0.mk hf
    clear h
    go_enter Try.func29, Try.ntmps29
    go_wp2_with fail
    refine (hopen.out _ hb0.out _ _ _ ho.out).mono ?_
    rintro e w1 ⟨v0, rfl, hR, hb1⟩
    have hx := (hb1.block w.heap.size (by rw [World.size_alloc]; omega)).trans (heap_alloc_new w _)
    have hB1 := Aside0.mk (hb0.out.trans (hb1.mono (by rw [World.size_alloc]; omega)))
    clear hR hb1
    obtain ⟨z0, z1, z2, z3, f0, f1, f2, f3⟩ := four_cells hx
    have hs := four_store hx (.int .i64 0) (.int .i64 0) (.int .i64 0) (.int .i64 0)
    have hB2 := Aside0.mk (hB1.out.trans (Chg.below hs.1 (fun k e => Nat.le_of_eq e.symm) hB1.out.size))
    clear hx
    go_wp2_with fail
    refine bodyPost_ret (results_ct rfl _ _ w.heap.size 30 #[.int .i64 0, .int .i64 0, .int .i64 0, .int .i64 0] (0, 0) _ rfl hs.2 Try.underlying30 rfl (by kernel_rfl)) rfl ?_
    exact ⟨by rw [hf.out, ht.out]; rfl, hB2.out⟩
end Go.Proofs.Ytfaflgdhffkaiaa.Print
