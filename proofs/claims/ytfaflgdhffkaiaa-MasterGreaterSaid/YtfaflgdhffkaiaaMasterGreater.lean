/- MasterGreater: of two masters that stand in the two sectors the one of the greater No is read. -/
import Derived.Test.YtfaflgdhffkaiaaMAwake
namespace Go.Proofs.Ytfaflgdhffkaiaa.Print
open Go.RowKit Go.Proofs.YtfaflgdhffkaiaaW.PrintWords Go.Proofs.YtfaflgdhffkaiaaW.PrintLast Go.Proofs.YtfaflgdhffkaiaaW.PrintMore
set_option linter.unusedVariables false
set_option linter.unusedSimpArgs false
theorem greater_best {L : List (List Int)} (h : Two L none none) (a b : MS) (ha : a.mayP) (hb : b.mayP) :
    mrE ((L.set (a.no % 2).toNat a.sect).set (b.no % 2).toNat b.sect) = 0 ∧ mrM ((L.set (a.no % 2).toNat a.sect).set (b.no % 2).toNat b.sect) = if a.no % 2 ≠ b.no % 2 ∧ b.no < a.no then a else b := by
  have h1 := ha.1
  have h2 := hb.1
  have hbest : bestL ((L.set (a.no % 2).toNat a.sect).set (b.no % 2).toNat b.sect) 2 = if a.no % 2 ≠ b.no % 2 ∧ b.no < a.no then a else b := by
    rw [((h.put a ha).put b hb).best]
    have ea : betterO mz (some a) = a := if_pos (show mz.no < a.no from by show (0 : Int) < a.no; omega)
    have eb : betterO mz (some b) = b := if_pos (show mz.no < b.no from by show (0 : Int) < b.no; omega)
    unfold putX putY
    by_cases pa : a.no % 2 = 0 <;> by_cases pb : b.no % 2 = 0
    · rw [if_pos pa, if_pos pa, if_pos pb, if_pos pb, eb, if_neg (fun q => q.1 (by omega))]
      rfl
    · rw [if_pos pa, if_pos pa, if_neg pb, if_neg pb, ea]
      show (if a.no < b.no then b else a) = _
      by_cases c : b.no < a.no
      · rw [if_neg (by omega), if_pos ⟨by omega, c⟩]
      · rw [if_pos (by omega), if_neg (fun q => c q.2)]
    · rw [if_neg pa, if_neg pa, if_pos pb, if_pos pb, eb]
      show (if b.no < a.no then a else b) = _
      by_cases c : b.no < a.no
      · rw [if_pos c, if_pos ⟨by omega, c⟩]
      · rw [if_neg c, if_neg (fun q => c q.2)]
    · rw [if_neg pa, if_neg pa, if_neg pb, if_neg pb, if_neg (fun q => q.1 (by omega))]
      exact eb
  have hn : (if a.no % 2 ≠ b.no % 2 ∧ b.no < a.no then a else b).no ≠ 0 := by split <;> omega
  unfold mrM mrE
  rw [hbest, if_neg hn, if_neg hn]
  exact ⟨rfl, rfl⟩
/-- Two boxes of the law's own. -/
theorem two_boxes (a b : MS) (w : World) : Below w.heap.size w ((w.alloc (.cells (agM a) 30)).alloc (.cells (agM b) 30)) ∧ ((w.alloc (.cells (agM a) 30)).alloc (.cells (agM b) 30)).heap[w.heap.size]? = some (.cells (agM a) 30 (0, 0)) ∧ ((w.alloc (.cells (agM a) 30)).alloc (.cells (agM b) 30)).heap[w.heap.size + 1]? = some (.cells (agM b) 30 (0, 0)) ∧ w.heap.size + 1 < ((w.alloc (.cells (agM a) 30)).alloc (.cells (agM b) 30)).heap.size := by
  have hb1 := below_alloc (Below.refl w.heap.size w) (.cells (agM a) 30)
  have hb2 := below_alloc (Below.refl (w.alloc (.cells (agM a) 30)).heap.size (w.alloc (.cells (agM a) 30))) (.cells (agM b) 30)
  have hs : (w.alloc (.cells (agM a) 30)).heap.size = w.heap.size + 1 := by rw [World.size_alloc]
  have hn := heap_alloc_new (w.alloc (.cells (agM a) 30)) (.cells (agM b) 30)
  rw [hs] at hn
  exact ⟨hb1.trans (hb2.mono (by omega)), (hb2.block _ (by omega)).trans (heap_alloc_new w _), hn, by rw [World.size_alloc, hs]; omega⟩
theorem may_yes (m : MS) (h : m.mayP) (w : World) : Calls Try.prog 14 #[.agg #[.int .i64 m.no, .int .i64 m.ep, .int .i64 m.st, .int .i64 m.ck]] w fun e w' => e = .returned (.bool true) ∧ Below w.heap.size w w' := by
  have := may_any m w
  rwa [show m.may = true from decide_eq_true h] at this
theorem may_no (m : MS) (h : ¬ m.mayP) (w : World) : Calls Try.prog 14 #[.agg #[.int .i64 m.no, .int .i64 m.ep, .int .i64 m.st, .int .i64 m.ck]] w fun e w' => e = .returned (.bool false) ∧ Below w.heap.size w w' := by
  have := may_any m w
  rwa [show m.may = false from decide_eq_false h] at this
set_option maxHeartbeats 2000000 in
set_option maxRecDepth 100000 in
theorem greater_walk (a b : MS) (w : World) :
    Calls Try.prog 5 #[.agg #[.int .i64 a.no, .int .i64 a.ep, .int .i64 a.st, .int .i64 a.ck], .agg #[.int .i64 b.no, .int .i64 b.ep, .int .i64 b.st, .int .i64 b.ck]] w fun e w' => e = .returned (.bool true) ∧ Below w.heap.size w w' := by
  have hboxes := two_boxes a b w
  have haw := Aside0.mk awake_calls
  by_cases ha : a.mayP
  · have hma := Aside0.mk (may_yes a ha)
    by_cases hb : b.mayP
    · have hmb := Aside0.mk (may_yes b hb)
      obtain ⟨E1, S1, L1, _, _⟩ := mw_st (St.new 2 (by decide)) (by decide) a ha
      obtain ⟨E2, S2, L2, _, _⟩ := mw_st S1 (by decide) b hb
      have T1 := Two.new.put a ha
      have T2 := T1.put b hb
      obtain ⟨R1, R2⟩ := greater_best Two.new a b ha hb
      rw [← L1] at T2 R1 R2
      rw [← L2] at T2 R1 R2
      have hta : a.no.tmod 2 = a.no % 2 := Int.tmod_eq_emod_of_nonneg (by have := ha.1; omega)
      have htb : b.no.tmod 2 = b.no % 2 := Int.tmod_eq_emod_of_nonneg (by have := hb.1; omega)
      obtain ⟨wt, hwt⟩ : ∃ m : MS, m = if a.no % 2 ≠ b.no % 2 ∧ b.no < a.no then a else b := ⟨_, rfl⟩
      rw [← hwt] at R2
      have hq := fun X => equalM wt wt X
      rw [sameM_self] at hq
      replace hq : ∀ X, (Op.equalIn 10000 30 (.agg #[.int .i64 wt.no, .int .i64 wt.ep, .int .i64 wt.st, .int .i64 wt.ck]) (.agg #[.int .i64 wt.no, .int .i64 wt.ep, .int .i64 wt.st, .int .i64 wt.ck])).run Try.prog X = .ok true X := hq
      replace R1 := Aside0.mk R1
      replace R2 := Aside0.mk R2
      replace T2 := Aside0.mk T2
      replace E1 := Aside0.mk E1
      replace E2 := Aside0.mk E2
      replace S1 := Aside0.mk S1
      replace S2 := Aside0.mk S2
      replace ha := Aside0.mk ha
      replace hb := Aside0.mk hb
      replace hta := Aside0.mk hta
      replace htb := Aside0.mk htb
      replace hwt := Aside0.mk hwt
      replace hq := Aside0.mk hq
      clear L1 L2 T1
      go_enter Try.func5, Try.ntmps5
      go_wp2_with fail
      generalize (w.alloc (.cells (agM a) 30)).alloc (.cells (agM b) 30) = wb at *
      obtain ⟨hBb, hxa, hxb, hxl⟩ := hboxes
      have hcl := Aside0.mk (fun X (hX : Below wb.heap.size wb X) => And.intro (m_cells ((hX.block w.heap.size (by omega)).trans hxa)) (m_cells ((hX.block (w.heap.size + 1) hxl).trans hxb)))
      replace hBb := Aside0.mk hBb
      have hsz : Aside0 (w.heap.size ≤ wb.heap.size) := ⟨by omega⟩
      clear hxa hxb hxl
      generalize hw1 : w.heap.size = ba at *
      replace hw1 := Aside0.mk hw1
      generalize ba + 1 = bb at *
      refine (haw.out wb).mono ?_
      rintro e w1 ⟨rfl, hb1⟩
      obtain ⟨⟨y0, y1, y2, y3⟩, x0, x1, x2, x3⟩ := hcl.out w1 hb1
      replace hb1 := Aside0.mk hb1
      go_wp2_with fail
      refine (hma.out w1).mono ?_
      rintro e w2 ⟨rfl, hb2⟩
      have hb2 := Aside0.mk (hb1.out.trans (hb2.mono hb1.out.size))
      clear y0 y1 y2 y3 x0 x1 x2 x3 hb1
      obtain ⟨⟨y0, y1, y2, y3⟩, x0, x1, x2, x3⟩ := hcl.out w2 hb2.out
      go_wp2_with fail
      refine (hmb.out w2).mono ?_
      rintro e w3 ⟨rfl, hb3⟩
      have hb3 := Aside0.mk (hb2.out.trans (hb3.mono hb2.out.size))
      clear y0 y1 y2 y3 x0 x1 x2 x3 hb2
      go_wp2_with fail
      refine (Dev.new 2 wb w3 hb3.out (by decide) (by decide)).mono ?_
      rintro e w4 ⟨g, rfl, hd4, hB4⟩
      obtain ⟨⟨y0, y1, y2, y3⟩, x0, x1, x2, x3⟩ := hcl.out w4 hB4
      replace hd4 := Aside0.mk hd4
      replace hB4 := Aside0.mk hB4
      clear hb3
      go_wp2_with fail
      refine (mwrite_any hd4.out hB4.out (Below.refl _ _) (newD_ok 2 (by decide)) (by decide) a ha.out (by decide)).mono ?_
      rintro e w5 ⟨rfl, hd5, hB5, _⟩
      rw [E1.out]
      clear y0 y1 y2 y3 x0 x1 x2 x3 hd4 hB4 E1
      generalize mwD (newD 2) a = d1 at *
      obtain ⟨⟨y0, y1, y2, y3⟩, x0, x1, x2, x3⟩ := hcl.out w5 hB5
      replace hd5 := Aside0.mk hd5
      replace hB5 := Aside0.mk hB5
      go_wp2_with fail
      refine (mwrite_any hd5.out hB5.out (Below.refl _ _) S1.out.ok (by decide) b hb.out (by rw [S1.out.len]; decide)).mono ?_
      rintro e w6 ⟨rfl, hd6, hB6, _⟩
      rw [E2.out]
      clear y0 y1 y2 y3 x0 x1 x2 x3 hd5 hB5 E2
      have hr := mread_any hd6 S2.out.ok S2.out.dead (by rw [S2.out.len]; decide) T2.out.bytes
      rw [R1.out, R2.out] at hr
      replace hr := Aside0.mk hr
      replace hB6 := Aside0.mk hB6
      clear hd6 S1 S2 T2 R1 R2
      go_wp2_with fail
      refine hr.out.mono ?_
      rintro e w7 ⟨rfl, hb7⟩
      have hB7 := Aside0.mk (hB6.out.trans (hb7.mono hB6.out.size))
      have hx7 := heap_alloc_new w7 (.cells (agM wt) 30)
      have hl7 : w7.heap.size < (w7.alloc (.cells (agM wt) 30)).heap.size := by rw [World.size_alloc]; omega
      have hB8 := Aside0.mk (hB7.out.trans ((below_alloc (Below.refl w7.heap.size w7) (.cells (agM wt) 30)).mono hB7.out.size))
      clear hr hb7 hB6
      go_upto_region 8 with fail
      clear hB7
      generalize w7.alloc (.cells (agM wt) 30) = w8 at *
      generalize w7.heap.size = b7 at *
      obtain ⟨⟨y0, y1, y2, y3⟩, x0, x1, x2, x3⟩ := hcl.out w8 hB8.out
      have hal := below_alloc (Below.refl w8.heap.size w8) (.cells (agM b) 30)
      have hB9 := Aside0.mk (hB8.out.trans (hal.mono hB8.out.size))
      have hx9 := Aside0.mk (heap_alloc_new w8 (.cells (agM b) 30))
      have hx79 := Aside0.mk ((hal.block b7 hl7).trans hx7)
      have hn9 : Aside0 (w8.heap.size < (w8.alloc (.cells (agM b) 30)).heap.size) := ⟨by rw [World.size_alloc]; omega⟩
      have hne : b7 ≠ w8.heap.size := by omega
      have hwb8 := hB8.out.size
      clear hal hx7 hl7
      go_upto_region 9 with fail
      clear y0 y1 y2 y3 x0 x1 x2 x3
      generalize w8.alloc (.cells (agM b) 30) = w9 at *
      generalize w8.heap.size = b9 at *
      obtain ⟨⟨y0, y1, y2, y3⟩, x0, x1, x2, x3⟩ := hcl.out w9 hB9.out
      obtain ⟨z0, z1, z2, z3⟩ := m_cells hx79.out
      obtain ⟨u0, u1, u2, u3⟩ := m_cells hx9.out
      have hfr := (four_cells hx9.out).2.2.2.2
      obtain ⟨v0, v1, v2, v3⟩ := hfr
      have hst := four_store hx9.out (.int .i64 a.no) (.int .i64 a.ep) (.int .i64 a.st) (.int .i64 a.ck)
      have hBs := Aside0.mk (hB9.out.trans (Chg.below hst.1 (fun k e => by omega) (by have := hn9.out; omega)))
      have hz2 := Aside0.mk (m_cells ((hst.1.block b7 (Array.getElem?_eq_some_iff.1 hx79.out).1 hne).trans hx79.out))
      have hu2 := Aside0.mk (m_cells hst.2)
      clear hst
      by_cases c1 : a.no % 2 = b.no % 2
      · have f1 : (a.no.tmod 2 != b.no.tmod 2) = false := by rw [hta.out, htb.out]; simpa using c1
        have hw : wt = b := hwt.out.trans (if_neg (fun q => q.1 c1))
        clear c1
        subst hw
        have hq := hq.out
        go_wp2_with fail
        go_ret
        exact ⟨rfl, by rw [hw1.out] at *; exact hBb.out.trans (hB9.out.mono hsz.out)⟩
      · have f1 : (a.no.tmod 2 != b.no.tmod 2) = true := by rw [hta.out, htb.out]; simpa using c1
        by_cases c2 : b.no < a.no
        · have f2 : decide (a.no > b.no) = true := by simpa using c2
          have f3 : decide (b.no < a.no) = true := by simpa using c2
          have hw : wt = a := hwt.out.trans (if_pos ⟨c1, c2⟩)
          clear c1 c2
          subst hw
          have hq := hq.out
          go_upto_region 11 with fail
          obtain ⟨s0, s1, s2, s3⟩ := hz2.out
          obtain ⟨t0, t1, t2, t3⟩ := hu2.out
          clear y0 y1 y2 y3 x0 x1 x2 x3 z0 z1 z2 z3 u0 u1 u2 u3 v0 v1 v2 v3 hz2 hu2
          generalize World.setCell _ _ _ = wq at *
          go_wp2_with fail
          go_ret
          exact ⟨rfl, by rw [hw1.out] at *; exact hBb.out.trans (hBs.out.mono hsz.out)⟩
        · have f2 : decide (a.no > b.no) = false := by simpa using c2
          have f3 : decide (b.no < a.no) = false := by simpa using c2
          have hw : wt = b := hwt.out.trans (if_neg (fun q => c2 q.2))
          clear c1 c2
          subst hw
          have hq := hq.out
          go_wp2_with fail
          go_ret
          exact ⟨rfl, by rw [hw1.out] at *; exact hBb.out.trans (hB9.out.mono hsz.out)⟩
    · have hmb := Aside0.mk (may_no b hb)
      clear ha hb
      go_enter Try.func5, Try.ntmps5
      go_wp2_with fail
      generalize (w.alloc (.cells (agM a) 30)).alloc (.cells (agM b) 30) = wb at *
      obtain ⟨hBb, hxa, hxb, hxl⟩ := hboxes
      refine (haw.out wb).mono ?_
      rintro e w1 ⟨rfl, hb1⟩
      obtain ⟨y0, y1, y2, y3⟩ := m_cells ((hb1.block w.heap.size (by omega)).trans hxa)
      replace hb1 := Aside0.mk hb1
      go_wp2_with fail
      refine (hma.out w1).mono ?_
      rintro e w2 ⟨rfl, hb2⟩
      have hb2 := Aside0.mk (hb1.out.trans (hb2.mono hb1.out.size))
      clear y0 y1 y2 y3 hb1
      obtain ⟨y0, y1, y2, y3⟩ := m_cells ((hb2.out.block (w.heap.size + 1) hxl).trans hxb)
      go_wp2_with fail
      refine (hmb.out w2).mono ?_
      rintro e w3 ⟨rfl, hb3⟩
      have hB3 := Aside0.mk (hBb.trans ((hb2.out.trans (hb3.mono hb2.out.size)).mono hBb.size))
      clear y0 y1 y2 y3 hb2 hb3 hBb hxa hxb hxl
      go_wp2_with fail
      go_ret
      exact ⟨rfl, hB3.out⟩
  · have hma := Aside0.mk (may_no a ha)
    clear ha
    go_enter Try.func5, Try.ntmps5
    go_wp2_with fail
    generalize (w.alloc (.cells (agM a) 30)).alloc (.cells (agM b) 30) = wb at *
    obtain ⟨hBb, hxa, hxb, hxl⟩ := hboxes
    refine (haw.out wb).mono ?_
    rintro e w1 ⟨rfl, hb1⟩
    obtain ⟨y0, y1, y2, y3⟩ := m_cells ((hb1.block w.heap.size (by omega)).trans hxa)
    replace hb1 := Aside0.mk hb1
    go_wp2_with fail
    refine (hma.out w1).mono ?_
    rintro e w2 ⟨rfl, hb2⟩
    have hB3 := Aside0.mk (hBb.trans ((hb1.out.trans (hb2.mono hb1.out.size)).mono hBb.size))
    clear y0 y1 y2 y3 hb1 hb2 hBb hxa hxb hxl
    go_wp2_with fail
    go_ret
    exact ⟨rfl, hB3.out⟩
def bobbinlaw09_MasterGreater.f (a0_0 : Int) (a0_1 : Int) (a0_2 : Int) (a0_3 : Int) (a1_0 : Int) (a1_1 : Int) (a1_2 : Int) (a1_3 : Int) : Option Bool := some true
theorem bobbinlaw09_MasterGreater.calls (a0_0 : Int) (a0_1 : Int) (a0_2 : Int) (a0_3 : Int) (a1_0 : Int) (a1_1 : Int) (a1_2 : Int) (a1_3 : Int) (r : Bool) (w : World) (h : bobbinlaw09_MasterGreater.f a0_0 a0_1 a0_2 a0_3 a1_0 a1_1 a1_2 a1_3 = some r) :
    Calls Try.prog 5 #[.agg #[.int .i64 a0_0, .int .i64 a0_1, .int .i64 a0_2, .int .i64 a0_3], .agg #[.int .i64 a1_0, .int .i64 a1_1, .int .i64 a1_2, .int .i64 a1_3]] w fun e w' => e = .returned (.bool r) ∧ Below w.heap.size w w' := by
  obtain rfl : true = r := Option.some.inj h
  exact greater_walk ⟨a0_0, a0_1, a0_2, a0_3⟩ ⟨a1_0, a1_1, a1_2, a1_3⟩ w
end Go.Proofs.Ytfaflgdhffkaiaa.Print
