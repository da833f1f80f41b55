/- master.Read on a device of a law's own. -/
import Derived.Test.YtfaflgdhffkaiaaTell
import Derived.Test.YtfaflgdhffkaiaaDevMore
namespace Go.Proofs.Ytfaflgdhffkaiaa.Print
open Go.RowKit Go.Proofs.YtfaflgdhffkaiaaW.PrintWords Go.Proofs.YtfaflgdhffkaiaaW.PrintLast Go.Proofs.YtfaflgdhffkaiaaW.PrintMore
set_option linter.unusedVariables false
set_option linter.unusedSimpArgs false
def mz : MS := ⟨0, 0, 0, 0⟩
/-- The better one of the best so far and of what a sector tells. -/
def pickM (b : MS) (s : List Int) (at_ : Int) : MS := if toldB s at_ = true ∧ b.no < (toldM s).no then toldM s else b
def bestL (L : List (List Int)) : Nat → MS
  | 0 => mz
  | k + 1 => pickM (bestL L k) (L.getD k []) (k : Int)
def mrM (L : List (List Int)) : MS := if (bestL L 2).no = 0 then mz else bestL L 2
def mrE (L : List (List Int)) : Int := if (bestL L 2).no = 0 then 3 else 0
/-- While it is read. -/
structure MrI (W wr : World) (bb : Nat) (b : MS) : Prop where
  res : wr.heap[W.heap.size]? = some (.cells (agM mz) 30 (0, 0))
  box : wr.heap[bb]? = some (.cells (agM b) 30 (0, 0))
  bel : Below W.heap.size W wr
  n1 : W.heap.size < bb
section
variable {W wr w1 : World} {bb : Nat} {b b' : MS}
theorem MrI.lt (h : MrI W wr bb b) : bb < wr.heap.size := (Array.getElem?_eq_some_iff.1 h.box).1
theorem MrI.below (h : MrI W wr bb b) (hb : Below wr.heap.size wr w1) : MrI W w1 bb b := by
  have := h.n1
  have := h.lt
  exact ⟨(hb.block _ (by omega)).trans h.res, (hb.block _ h.lt).trans h.box, h.bel.trans (hb.mono h.bel.size), h.n1⟩
theorem MrI.put (h : MrI W wr bb b) (hc : Chg (fun k => k = bb) wr w1) (hk : w1.heap[bb]? = some (.cells (agM b') 30 (0, 0))) : MrI W w1 bb b' := by
  have := h.n1
  have := h.lt
  exact ⟨(hc.block _ (by omega) (by omega)).trans h.res, hk, h.bel.trans (Chg.below hc (fun k e => by omega) h.bel.size), h.n1⟩
end
theorem MrI.first (W : World) : MrI W ((W.alloc (.cells #[.int .i64 0, .int .i64 0, .int .i64 0, .int .i64 0] 30)).alloc (.cells #[.int .i64 0, .int .i64 0, .int .i64 0, .int .i64 0] 30)) (W.heap.size + 1) mz := by
  have hb1 := below_alloc (Below.refl W.heap.size W) (.cells #[.int .i64 0, .int .i64 0, .int .i64 0, .int .i64 0] 30)
  have hb2 := below_alloc (Below.refl (W.alloc (.cells #[.int .i64 0, .int .i64 0, .int .i64 0, .int .i64 0] 30)).heap.size (W.alloc (.cells #[.int .i64 0, .int .i64 0, .int .i64 0, .int .i64 0] 30))) (.cells #[.int .i64 0, .int .i64 0, .int .i64 0, .int .i64 0] 30)
  have hs : (W.alloc (.cells #[.int .i64 0, .int .i64 0, .int .i64 0, .int .i64 0] 30)).heap.size = W.heap.size + 1 := by rw [World.size_alloc]
  have hn := heap_alloc_new (W.alloc (.cells #[.int .i64 0, .int .i64 0, .int .i64 0, .int .i64 0] 30)) (.cells #[.int .i64 0, .int .i64 0, .int .i64 0, .int .i64 0] 30)
  rw [hs] at hn
  exact ⟨(hb2.block _ (by omega)).trans (heap_alloc_new W _), hn, hb1.trans (hb2.mono (by omega)), by omega⟩
set_option maxHeartbeats 2000000 in
set_option maxRecDepth 100000 in
theorem mread_any {w0 W : World} {g q : Nat} {d : DS} (h : Dev w0 W g d) (hO : d.Ok q) (hdd : d.dead = false) (h2 : 2 ≤ d.D.length) (hBy : ∀ k, k < 2 → Bytes (d.L.getD k [])) :
    Calls Try.prog 12 #[.pointer (some ⟨g, 0, none⟩)] W fun e w' => e = .returned (.tuple #[.agg #[.int .i64 (mrM d.L).no, .int .i64 (mrM d.L).ep, .int .i64 (mrM d.L).st, .int .i64 (mrM d.L).ck], .int .i64 (mrE d.L)]) ∧ Below W.heap.size W w' := by
  have hlen := Aside0.mk (fun X (hX : Below W.heap.size W X) => (h.below hX).lenC)
  have hdm := hO.max
  have hrd : Aside0 (∀ X i, Below W.heap.size W X → i < 2 → Calls Try.prog 16 #[.pointer (some ⟨g, 0, none⟩), .int .i64 ((i : Nat) : Int)] X fun e w' => ∃ A c, e = .returned (.tuple #[.slice A 256 c, .int .i64 0]) ∧ Kd.C (Kd.int .u8) w' A 256 (d.L.getD i []) ∧ 256 ≤ c ∧ Below X.heap.size X w') := ⟨fun X i hX hi => by
    have hr := (h.below hX).read hO (i : Int)
    rw [readE_live' hdd (by omega) (by omega), readB_live hdd (by omega)] at hr
    refine hr.mono ?_
    rintro e w' ⟨v, rfl, hR, hb⟩
    obtain ⟨A, c, rfl⟩ := Kd.R_slice hR
    have h3 := Kd.R_reads' hR
    rw [last_256 hO (by omega)] at h3 ⊢
    exact ⟨A, c, rfl, h3.2.2, h3.2.1, hb⟩⟩
  have hl6 : Aside0 (∀ k, k < 2 → (d.L.getD k []).length = 256) := ⟨fun k hk => last_256 hO (by omega)⟩
  replace hBy := Aside0.mk hBy
  have e1 : decide ((d.D.length : Int) < 2) = false := by simp; omega
  clear h hO hdd
  generalize hdl : d.D.length = n at *
  replace hdl := Aside0.mk hdl
  generalize d.L = L at *
  have hb0 : Aside0 (Below W.heap.size W (W.alloc (.cells #[.int .i64 0, .int .i64 0, .int .i64 0, .int .i64 0] 30))) := ⟨below_alloc (Below.refl _ _) _⟩
  go_enter Try.func12, Try.ntmps12
  go_wp2_with fail
  refine (hlen.out _ hb0.out).mono ?_
  rintro e wz ⟨rfl, hq_⟩
  obtain rfl := hq_.symm
  go_wp2_with fail
  have hI0 : Aside0 (MrI W ((W.alloc (.cells #[.int .i64 0, .int .i64 0, .int .i64 0, .int .i64 0] 30)).alloc (.cells #[.int .i64 0, .int .i64 0, .int .i64 0, .int .i64 0] 30)) (W.heap.size + 1) (bestL L 0)) := ⟨MrI.first W⟩
  generalize (W.alloc (.cells #[.int .i64 0, .int .i64 0, .int .i64 0, .int .i64 0] 30)).alloc (.cells #[.int .i64 0, .int .i64 0, .int .i64 0, .int .i64 0] 30) = w1 at *
  generalize hbb : W.heap.size + 1 = bb at *
  replace hbb := Aside0.mk hbb
  clear hb0 hlen
  go_loopw [14] (fun v14 wr => ∃ k : Nat, k ≤ 2 ∧ v14 = .int .i64 k ∧ Aside0 (MrI W wr bb (bestL L k))) (fun v14 _ => 2 - (intOf v14).toNat)
  case atStart => exact ⟨0, by omega, rfl, hI0⟩
  case round =>
    clear hI0
    obtain ⟨k, hk, rfl, HI⟩ := hrel
    by_cases hlk : k < 2
    · have f0 : decide ((k : Int) < 2) = true := by simp; omega
      have hnx : Aside0 (bestL L (k + 1) = pickM (bestL L k) (L.getD k []) (k : Int)) := ⟨rfl⟩
      have hr := hrd.out wr k HI.out.bel hlk
      have hls := hl6.out k hlk
      have hBs := hBy.out k hlk
      generalize L.getD k [] = s at *
      generalize bestL L k = b at *
      have htold : Aside0 (∀ X A c, Kd.C (Kd.int .u8) X A 256 s → 256 ≤ c → Calls Try.prog 29 #[.slice A 256 c, .int .i64 (k : Int)] X fun e w' => e = .returned (.tuple #[.agg #[.int .i64 (toldM s).no, .int .i64 (toldM s).ep, .int .i64 (toldM s).st, .int .i64 (toldM s).ck], .bool (toldB s k)]) ∧ Below X.heap.size X w') := ⟨fun X A c hC hc => told_any A c s k X hls hBs hC hc⟩
      have hpk : Aside0 (pickM b s k = if toldB s k = true ∧ b.no < (toldM s).no then toldM s else b) := ⟨rfl⟩
      generalize toldM s = tm at *
      generalize toldB s k = tb at *
      replace hr := Aside0.mk hr
      clear hls hBs
      go_wp2_with fail
      refine hr.out.mono ?_
      rintro e w2 ⟨A, c, rfl, hC, hc, hb2⟩
      have HI2 := Aside0.mk (HI.out.below hb2)
      replace hC := Aside0.mk hC
      clear hb2 hr
      go_wp2_with fail
      refine (htold.out _ _ _ hC.out hc).mono ?_
      rintro e w3 ⟨rfl, hb3⟩
      have HI3 := Aside0.mk (HI2.out.below hb3)
      clear hb3 hC htold HI2
      have HI4 := Aside0.mk (HI3.out.below (below_alloc (Below.refl w3.heap.size w3) (.cells (agM tm) 30)))
      have hx := Aside0.mk (heap_alloc_new w3 (.cells (agM tm) 30))
      go_upto_region 11 with fail
      generalize w3.alloc (.cells (agM tm) 30) = w4 at *
      generalize w3.heap.size = tb4 at *
      obtain ⟨z0, z1, z2, z3, _⟩ := four_cells hx.out
      obtain ⟨y0, y1, y2, y3, g0, g1, g2, g3⟩ := four_cells HI4.out.box
      cases tb with
      | false =>
        have hnb : Aside0 (bestL L (k + 1) = b) := ⟨by rw [hnx.out, hpk.out, if_neg (fun q => by cases q.1)]⟩
        go_wp2_with fail
        go_roundw
        case rel => exact ⟨k + 1, by omega, by go_num, ⟨by rw [hnb.out]; exact HI4.out⟩⟩
        case measure => simp only [intOf]; omega
      | true =>
        by_cases hgt : b.no < tm.no
        · have f1 : decide (tm.no > b.no) = true := by simpa using hgt
          have f2 : decide (b.no < tm.no) = true := by simpa using hgt
          have hnb : Aside0 (bestL L (k + 1) = tm) := ⟨by rw [hnx.out, hpk.out, if_pos ⟨rfl, hgt⟩]⟩
          have hst := four_store HI4.out.box (.int .i64 tm.no) (.int .i64 tm.ep) (.int .i64 tm.st) (.int .i64 tm.ck)
          have HI5 := Aside0.mk (HI4.out.put (b' := tm) hst.1 hst.2)
          clear hgt hst
          go_wp2_with fail
          go_roundw
          case rel => exact ⟨k + 1, by omega, by go_num, ⟨by rw [hnb.out]; exact HI5.out⟩⟩
          case measure => simp only [intOf]; omega
        · have f1 : decide (tm.no > b.no) = false := by simpa using hgt
          have f2 : decide (b.no < tm.no) = false := by simpa using hgt
          have hnb : Aside0 (bestL L (k + 1) = b) := ⟨by rw [hnx.out, hpk.out, if_neg (fun q => hgt q.2)]⟩
          clear hgt
          go_wp2_with fail
          go_roundw
          case rel => exact ⟨k + 1, by omega, by go_num, ⟨by rw [hnb.out]; exact HI4.out⟩⟩
          case measure => simp only [intOf]; omega
    · obtain rfl : k = 2 := by omega
      have hmM : Aside0 (mrM L = if (bestL L 2).no = 0 then mz else bestL L 2) := ⟨rfl⟩
      have hmE : Aside0 (mrE L = if (bestL L 2).no = 0 then 3 else 0) := ⟨rfl⟩
      generalize bestL L 2 = b at *
      obtain ⟨y0, y1, y2, y3, _⟩ := four_cells HI.out.box
      obtain ⟨x0, x1, x2, x3, g0, g1, g2, g3⟩ := four_cells HI.out.res
      by_cases hz : b.no = 0
      · have f1 : (b.no == (0 : Int)) = true := by simpa using hz
        have hm1 : Aside0 (mrM L = mz) := ⟨hmM.out.trans (if_pos hz)⟩
        have hm2 : Aside0 (mrE L = 3) := ⟨hmE.out.trans (if_pos hz)⟩
        have hst := Aside0.mk (four_store HI.out.res (.int .i64 0) (.int .i64 0) (.int .i64 0) (.int .i64 0))
        have hB := Aside0.mk (HI.out.bel.trans (Chg.below hst.out.1 (fun k e => Nat.le_of_eq e.symm) HI.out.bel.size))
        clear hz
        go_wp2_with fail
        refine bodyPost_ret (results_ct rfl _ _ W.heap.size 30 #[.int .i64 0, .int .i64 0, .int .i64 0, .int .i64 0] (0, 0) _ rfl hst.out.2 Try.underlying30 rfl (by kernel_rfl)) rfl ?_
        exact ⟨by rw [hm1.out, hm2.out]; rfl, hB.out⟩
      · have f1 : (b.no == (0 : Int)) = false := by simpa using hz
        have hm1 : Aside0 (mrM L = b) := ⟨hmM.out.trans (if_neg hz)⟩
        have hm2 : Aside0 (mrE L = 0) := ⟨hmE.out.trans (if_neg hz)⟩
        have hst := Aside0.mk (four_store HI.out.res (.int .i64 b.no) (.int .i64 b.ep) (.int .i64 b.st) (.int .i64 b.ck))
        have hB := Aside0.mk (HI.out.bel.trans (Chg.below hst.out.1 (fun k e => Nat.le_of_eq e.symm) HI.out.bel.size))
        clear hz
        go_wp2_with fail
        refine bodyPost_ret (results_ct rfl _ _ W.heap.size 30 #[.int .i64 b.no, .int .i64 b.ep, .int .i64 b.st, .int .i64 b.ck] (0, 0) _ rfl hst.out.2 Try.underlying30 rfl (by kernel_rfl)) rfl ?_
        exact ⟨by rw [hm1.out, hm2.out]; rfl, hB.out⟩
end Go.Proofs.Ytfaflgdhffkaiaa.Print
