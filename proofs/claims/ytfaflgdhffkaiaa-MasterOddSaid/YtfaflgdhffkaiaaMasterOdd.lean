/- MasterOdd: one bit of a master's sector that is turned makes it none, or another one by its words. -/
import Derived.Test.YtfaflgdhffkaiaaOdd0
import Derived.Deep.CutRange
namespace Go.Proofs.Ytfaflgdhffkaiaa.Print
open Go.RowKit Go.Proofs.YtfaflgdhffkaiaaW.PrintWords Go.Proofs.YtfaflgdhffkaiaaW.PrintLast Go.Proofs.YtfaflgdhffkaiaaW.PrintMore
set_option linter.unusedVariables false
set_option linter.unusedSimpArgs false
set_option maxHeartbeats 2000000 in
set_option maxRecDepth 100000 in
theorem odd_out (m : MS) (at_ bit : Int) (w : World) (h : ¬ (m.mayP ∧ 0 ≤ at_ ∧ at_ ≤ 23 ∧ 0 ≤ bit ∧ bit ≤ 7)) :
    Calls Try.prog 6 #[.agg #[.int .i64 m.no, .int .i64 m.ep, .int .i64 m.st, .int .i64 m.ck], .int .i64 at_, .int .i64 bit] w fun e w' => e = .returned (.bool true) ∧ Below w.heap.size w w' := by
  have haw := Aside0.mk awake_calls
  have hbx := Aside0.mk (below_alloc (Below.refl w.heap.size w) (.cells (agM m) 30))
  have hx := Aside0.mk (heap_alloc_new w (.cells (agM m) 30))
  have hxl : w.heap.size < (w.alloc (.cells (agM m) 30)).heap.size := by rw [World.size_alloc]; omega
  by_cases hm : m.mayP
  · have hma := Aside0.mk (may_yes m hm)
    by_cases h1 : at_ < 0
    · have e1 : decide (at_ < 0) = true := by simpa using h1
      clear h hm h1
      go_enter Try.func6, Try.ntmps6
      go_wp2_with fail
      generalize w.alloc (.cells (agM m) 30) = wb at *
      have hcl := Aside0.mk (fun X (hX : Below wb.heap.size wb X) => m_cells ((hX.block w.heap.size hxl).trans hx.out))
      generalize hba : w.heap.size = ba at *
      replace hba := Aside0.mk hba
      clear hx
      refine (haw.out wb).mono ?_
      rintro e w1 ⟨rfl, hb1⟩
      obtain ⟨y0, y1, y2, y3⟩ := hcl.out w1 hb1
      replace hb1 := Aside0.mk hb1
      go_wp2_with fail
      refine (hma.out w1).mono ?_
      rintro e w2 ⟨rfl, hb2⟩
      have hb2 := Aside0.mk (hb1.out.trans (hb2.mono hb1.out.size))
      clear y0 y1 y2 y3 hb1
      go_wp2_with fail
      go_ret
      exact ⟨rfl, by rw [hba.out]; exact hbx.out.trans (hb2.out.mono (Nat.le_of_lt hxl))⟩
    · have e1 : decide (at_ < 0) = false := by simpa using h1
      by_cases h2 : 23 < at_
      · have e2 : decide (at_ > 23) = true := by simpa using h2
        clear h hm h1 h2
        go_enter Try.func6, Try.ntmps6
        go_wp2_with fail
        generalize w.alloc (.cells (agM m) 30) = wb at *
        have hcl := Aside0.mk (fun X (hX : Below wb.heap.size wb X) => m_cells ((hX.block w.heap.size hxl).trans hx.out))
        generalize hba : w.heap.size = ba at *
        replace hba := Aside0.mk hba
        clear hx
        refine (haw.out wb).mono ?_
        rintro e w1 ⟨rfl, hb1⟩
        obtain ⟨y0, y1, y2, y3⟩ := hcl.out w1 hb1
        replace hb1 := Aside0.mk hb1
        go_wp2_with fail
        refine (hma.out w1).mono ?_
        rintro e w2 ⟨rfl, hb2⟩
        have hb2 := Aside0.mk (hb1.out.trans (hb2.mono hb1.out.size))
        clear y0 y1 y2 y3 hb1
        go_wp2_with fail
        go_ret
        exact ⟨rfl, by rw [hba.out]; exact hbx.out.trans (hb2.out.mono (Nat.le_of_lt hxl))⟩
      · have e2 : decide (at_ > 23) = false := by simp; omega
        by_cases h3 : bit < 0
        · have e3 : decide (bit < 0) = true := by simpa using h3
          clear h hm h1 h2 h3
          go_enter Try.func6, Try.ntmps6
          go_wp2_with fail
          generalize w.alloc (.cells (agM m) 30) = wb at *
          have hcl := Aside0.mk (fun X (hX : Below wb.heap.size wb X) => m_cells ((hX.block w.heap.size hxl).trans hx.out))
          generalize hba : w.heap.size = ba at *
          replace hba := Aside0.mk hba
          clear hx
          refine (haw.out wb).mono ?_
          rintro e w1 ⟨rfl, hb1⟩
          obtain ⟨y0, y1, y2, y3⟩ := hcl.out w1 hb1
          replace hb1 := Aside0.mk hb1
          go_wp2_with fail
          refine (hma.out w1).mono ?_
          rintro e w2 ⟨rfl, hb2⟩
          have hb2 := Aside0.mk (hb1.out.trans (hb2.mono hb1.out.size))
          clear y0 y1 y2 y3 hb1
          go_wp2_with fail
          go_ret
          exact ⟨rfl, by rw [hba.out]; exact hbx.out.trans (hb2.out.mono (Nat.le_of_lt hxl))⟩
        · have e3 : decide (bit < 0) = false := by simpa using h3
          have e4 : decide (bit > 7) = true := by
            by_cases q : 7 < bit
            · simpa using q
            · exact absurd ⟨hm, by omega, by omega, by omega, by omega⟩ h
          clear h hm h1 h2 h3
          go_enter Try.func6, Try.ntmps6
          go_wp2_with fail
          generalize w.alloc (.cells (agM m) 30) = wb at *
          have hcl := Aside0.mk (fun X (hX : Below wb.heap.size wb X) => m_cells ((hX.block w.heap.size hxl).trans hx.out))
          generalize hba : w.heap.size = ba at *
          replace hba := Aside0.mk hba
          clear hx
          refine (haw.out wb).mono ?_
          rintro e w1 ⟨rfl, hb1⟩
          obtain ⟨y0, y1, y2, y3⟩ := hcl.out w1 hb1
          replace hb1 := Aside0.mk hb1
          go_wp2_with fail
          refine (hma.out w1).mono ?_
          rintro e w2 ⟨rfl, hb2⟩
          have hb2 := Aside0.mk (hb1.out.trans (hb2.mono hb1.out.size))
          clear y0 y1 y2 y3 hb1
          go_wp2_with fail
          go_ret
          exact ⟨rfl, by rw [hba.out]; exact hbx.out.trans (hb2.out.mono (Nat.le_of_lt hxl))⟩
  · have hma := Aside0.mk (may_no m hm)
    clear h hm
    go_enter Try.func6, Try.ntmps6
    go_wp2_with fail
    generalize w.alloc (.cells (agM m) 30) = wb at *
    have hcl := Aside0.mk (fun X (hX : Below wb.heap.size wb X) => m_cells ((hX.block w.heap.size hxl).trans hx.out))
    generalize hba : w.heap.size = ba at *
    replace hba := Aside0.mk hba
    clear hx
    refine (haw.out wb).mono ?_
    rintro e w1 ⟨rfl, hb1⟩
    obtain ⟨y0, y1, y2, y3⟩ := hcl.out w1 hb1
    replace hb1 := Aside0.mk hb1
    go_wp2_with fail
    refine (hma.out w1).mono ?_
    rintro e w2 ⟨rfl, hb2⟩
    have hb2 := Aside0.mk (hb1.out.trans (hb2.mono hb1.out.size))
    clear y0 y1 y2 y3 hb1
    go_wp2_with fail
    go_ret
    exact ⟨rfl, by rw [hba.out]; exact hbx.out.trans (hb2.out.mono (Nat.le_of_lt hxl))⟩
set_option maxHeartbeats 2000000 in
set_option maxRecDepth 100000 in
theorem odd_walk (m : MS) (at_ bit : Nat) (hm : m.mayP) (ha23 : at_ ≤ 23) (hb : bit ≤ 7) (w : World) :
    Calls Try.prog 6 #[.agg #[.int .i64 m.no, .int .i64 m.ep, .int .i64 m.st, .int .i64 m.ck], .int .i64 (at_ : Int), .int .i64 (bit : Int)] w fun e w' => e = .returned (.bool true) ∧ Below w.heap.size w w' := by
  have haw := Aside0.mk awake_calls
  have hbx := Aside0.mk (below_alloc (Below.refl w.heap.size w) (.cells (agM m) 30))
  have hx := Aside0.mk (heap_alloc_new w (.cells (agM m) 30))
  have hxl : w.heap.size < (w.alloc (.cells (agM m) 30)).heap.size := by rw [World.size_alloc]; omega
  have hma := Aside0.mk (may_yes m hm)
  have e1 : decide ((at_ : Int) < 0) = false := by simp
  have e2 : decide ((at_ : Int) > 23) = false := by simp; omega
  have e3 : decide ((bit : Int) < 0) = false := by simp
  have e4 : decide ((bit : Int) > 7) = false := by simp; omega
  obtain ⟨i, hi⟩ : ∃ i : Nat, i = if 20 ≤ at_ then at_ + 232 else at_ := ⟨_, rfl⟩
  have hi256 : i < 256 := by rw [hi]; split <;> omega
  have hxv := m.sect_bytes (m.sect.getD i 0) (by rw [List.getD_eq_getElem?_getD, List.getElem?_eq_getElem (by rw [m.sect_len]; exact hi256)]; exact List.getElem_mem _)
  obtain ⟨x1, x2, x3⟩ := xor_b bit hb (m.sect.getD i 0) hxv.1 hxv.2
  obtain ⟨y, hy⟩ : ∃ y, y = bits .xor .u8 (m.sect.getD i 0) (mk8 bit) := ⟨_, rfl⟩
  rw [← hy] at x1 x2 x3
  obtain ⟨E1, S1, RB, RE, hO2, hd2, hl2, hby, hres⟩ := odd_dev m hm i hi256 y x1 x2 x3
  have hmod : Aside0 (m.no.tmod 2 = m.no % 2) := ⟨Int.tmod_eq_emod_of_nonneg (by have := hm.1; omega)⟩
  have hwr := Aside0.mk (fun (wb X : World) (g : Nat) (h1 : Dev wb X g (newD 2)) (h3 : Below wb.heap.size wb X) => mwrite_any h1 h3 (Below.refl _ _) (newD_ok 2 (by decide)) (by decide) m hm (by decide))
  have hrd : Aside0 (∀ (wb X : World) (g : Nat), Dev wb X g (mwD (newD 2) m) → Calls Try.prog 16 #[.pointer (some ⟨g, 0, none⟩), .int .i64 (m.no.tmod 2)] X fun e w' => ∃ q c, e = .returned (.tuple #[.slice (some ⟨q, 0, none⟩) 256 c, .int .i64 0]) ∧ X.heap.size ≤ q ∧ q < w'.heap.size ∧ 256 ≤ c ∧ (∀ j, j < 256 → w'.cell? ⟨q, j, none⟩ = some (.int .u8 (m.sect.getD j 0)) ∧ w'.frozen? ⟨q, j, none⟩ = false) ∧ Below X.heap.size X w') := ⟨fun wb X g hd => by
    have h0 := hd.read S1.ok (m.no % 2)
    rw [RB, RE] at h0
    rw [hmod.out]
    refine h0.mono ?_
    rintro e w' ⟨v, rfl, hR, hb⟩
    obtain ⟨q, c, rfl, hq1, hq2, hc, hcell⟩ := own_form hR m.sect_len
    exact ⟨q, c, rfl, hq1, hq2, hc, hcell, hb⟩⟩
  have hw2 : Aside0 (∀ (wb W X : World) (g q c : Nat), Dev wb W g (mwD (newD 2) m) → Below wb.heap.size wb W → Below W.heap.size W X → Kd.F (Kd.int .u8) X (fun k => k = q) (some ⟨q, 0, none⟩) (m.sect.set i y).length (m.sect.set i y) → W.heap.size ≤ q → 256 ≤ c → Calls Try.prog 11 #[.pointer (some ⟨g, 0, none⟩), .int .i64 (m.no.tmod 2), .slice (some ⟨q, 0, none⟩) 256 c] X fun e w' => e = .returned (.int .i64 (writeE (mwD (newD 2) m) (m.no % 2) (m.sect.set i y))) ∧ Dev wb w' g (writeD (mwD (newD 2) m) (m.no % 2) (m.sect.set i y)) ∧ Below wb.heap.size wb w') := ⟨fun wb W X g q c h1 h3 h4 h5 h6 h7 => by
    have hlen : (m.sect.set i y).length = 256 := by rw [List.length_set]; exact m.sect_len
    rw [hmod.out]
    refine (((DevK.of h1 (Below.refl _ _)).less (K' := fun _ => False) (fun k q => q.elim)).writeF h3 h4 (fun k q => q.elim) S1.ok (by decide) (m.no % 2) hlen.symm (Kd.F_mono h5 (fun k a => by rw [show k = q from a]; exact h6)) (by omega)).mono ?_
    rintro e w' ⟨rfl, hd, hB, _⟩
    exact ⟨rfl, hd.dev, hB⟩⟩
  have hmr := Aside0.mk (fun (wb X : World) (g : Nat) (h1 : Dev wb X g (writeD (mwD (newD 2) m) (m.no % 2) (m.sect.set i y))) => mread_any h1 hO2 hd2 (by rw [hl2]; decide) hby)
  have hsl := Aside0.mk m.sect_len
  replace E1 := Aside0.mk E1
  replace hres := Aside0.mk hres
  replace hy := Aside0.mk hy
  have hi2 := Aside0.mk hi
  have hig : Aside0 ((20 ≤ at_ → i = at_ + 232) ∧ (at_ < 20 → i = at_)) := ⟨⟨fun q => by rw [hi, if_pos q], fun q => by rw [hi, if_neg (by omega)]⟩⟩
  replace hm := Aside0.mk hm
  clear S1 RB RE hO2 hd2 hl2 hby hxv x1 x2 x3 hi
  generalize writeD (mwD (newD 2) m) (m.no % 2) (m.sect.set i y) = d2 at *
  generalize writeE (mwD (newD 2) m) (m.no % 2) (m.sect.set i y) = ew at *
  go_enter Try.func6, Try.ntmps6
  go_wp2_with fail
  generalize w.alloc (.cells (agM m) 30) = wb at *
  have hcl := Aside0.mk (fun X (hX : Below wb.heap.size wb X) => m_cells ((hX.block w.heap.size hxl).trans hx.out))
  generalize hba : w.heap.size = ba at *
  replace hba := Aside0.mk hba
  clear hx
  refine (haw.out wb).mono ?_
  rintro e w1 ⟨rfl, hb1⟩
  obtain ⟨y0, y1, y2, y3⟩ := hcl.out w1 hb1
  replace hb1 := Aside0.mk hb1
  go_wp2_with fail
  refine (hma.out w1).mono ?_
  rintro e w2 ⟨rfl, hb2⟩
  have hb2 := Aside0.mk (hb1.out.trans (hb2.mono hb1.out.size))
  clear y0 y1 y2 y3 hb1
  go_wp2_with fail
  refine (Dev.new 2 wb w2 hb2.out (by decide) (by decide)).mono ?_
  rintro e w3 ⟨g, rfl, hd3, hB3⟩
  obtain ⟨y0, y1, y2, y3⟩ := hcl.out w3 hB3
  replace hd3 := Aside0.mk hd3
  replace hB3 := Aside0.mk hB3
  clear hb2
  go_wp2_with fail
  refine (hwr.out wb w3 g hd3.out hB3.out).mono ?_
  rintro e w4 ⟨rfl, hd4, hB4, _⟩
  rw [E1.out]
  clear y0 y1 y2 y3 hd3 hB3 E1 hwr
  generalize mwD (newD 2) m = d1 at *
  obtain ⟨y0, y1, y2, y3⟩ := hcl.out w4 hB4
  replace hd4 := Aside0.mk hd4
  replace hB4 := Aside0.mk hB4
  go_wp2_with fail
  refine (hrd.out wb w4 g hd4.out).mono ?_
  rintro e w5 ⟨q, c, rfl, hq1, hq2, hc5, hcell, hb5⟩
  have hB5 := Aside0.mk (hB4.out.trans (hb5.mono hB4.out.size))
  replace hb5 := Aside0.mk hb5
  replace hcell := Aside0.mk hcell
  clear y0 y1 y2 y3 hrd
  go_upto_if 69 with fail
  go_cut [1] from 70 to 71 (fun v1 wc => v1 = .int .i64 (i : Int) ∧ wc = w5)
  case first =>
    by_cases ha : 20 ≤ at_
    · have f1 : decide ((at_ : Int) ≥ 20) = true := by simp; omega
      have f2 : wrap64 ((at_ : Int) + 232) = (i : Int) := by have := hig.out.1 ha; unfold wrap64; omega
      have f3 : (at_ : Int) + 232 = (i : Int) := by have := hig.out.1 ha; omega
      replace f3 := Aside0.mk f3
      replace f2 := Aside0.mk f2
      go_wp2_with fail
      go_meet
      case rel => exact ⟨by first | rfl | (rw [f3.out]) | (rw [f2.out]) | (congr 1; have := f3.out; omega), rfl⟩
    · have f1 : decide ((at_ : Int) ≥ 20) = false := by simp; omega
      have f3 : Aside0 ((at_ : Int) = (i : Int)) := ⟨by have := hig.out.2 (by omega); omega⟩
      go_wp2_with fail
      go_meet
      case rel => exact ⟨by rw [f3.out], rfl⟩
  case rest =>
    obtain ⟨rfl, rfl⟩ := hcut
    clear e1 e2 hi2
    go_wp2_with fail
    go_loopw [13, 14] (fun v13 v14 wr => ∃ k : Nat, k ≤ bit ∧ v14 = .int .i64 k ∧ v13 = .int .u8 (mk8 k) ∧ wr = wc) (fun _ v14 _ => bit - (intOf v14).toNat)
    case atStart => exact ⟨0, Nat.zero_le _, rfl, rfl, rfl⟩
    case round =>
      obtain ⟨k, hk, rfl, rfl, rfl⟩ := hrel
      by_cases hlk : k < bit
      · have f0 : decide ((k : Int) < (bit : Int)) = true := by simp; omega
        have hnx : Aside0 (mk8 (k + 1) = mk8 k * 2 % 256) := ⟨rfl⟩
        generalize mk8 k = mk at *
        go_wp2_with fail
        go_roundw
        case rel => exact ⟨k + 1, by omega, by go_num, by rw [hnx.out], by first | rfl | trivial⟩
        case measure => simp only [intOf]; omega
      · obtain rfl : k = bit := by omega
        have f0 : decide ((k : Int) < (k : Int)) = false := by simp
        obtain ⟨s0, s1⟩ := hcell.out i hi256
        obtain ⟨xv, hxv⟩ : ∃ x : Int, x = m.sect.getD i 0 := ⟨_, rfl⟩
        rw [← hxv] at s0
        have hyx : Aside0 (bits .xor .u8 xv (mk8 k) = y) := ⟨by rw [hy.out, hxv]⟩
        have hF := Aside0.mk (set_F (c := c) hsl.out hq2 hcell.out i hi256 y)
        have hB6 := Aside0.mk (bel_far hb5.out (p := ⟨q, i, none⟩) hq1 (.int .u8 y))
        have hBb6 := Aside0.mk (hB4.out.trans (hB6.out.mono hB4.out.size))
        have hw := Aside0.mk (hw2.out wb w4 _ g q c hd4.out hB4.out hB6.out hF.out hq1 hc5)
        have hbi : (i : Int) < 256 := by omega
        have hb0 : (0 : Int) ≤ (i : Int) := by omega
        replace hxv := Aside0.mk hxv
        go_upto_region 17 with fail
        rw [hyx.out]
        generalize hmm : mrM d2.L = mm at *
        generalize hee : mrE d2.L = ee at *
        replace hmm := Aside0.mk hmm
        replace hee := Aside0.mk hee
        clear s0 s1 hF hB6 hw2 hcell hyx hy hxv
        generalize wr.setCell ⟨q, i, none⟩ (.int .u8 y) = w6 at *
        obtain ⟨y0, y1, y2, y3⟩ := hcl.out w6 hBb6.out
        go_wp2_with fail
        refine hw.out.mono ?_
        rintro e w7 ⟨rfl, hd7, hB7⟩
        have hr7 := Aside0.mk (hmr.out wb w7 g hd7)
        replace hB7 := Aside0.mk hB7
        clear y0 y1 y2 y3 hd7 hw hBb6 hmr
        go_wp2_with fail
        refine hr7.out.mono ?_
        rintro e w8 ⟨rfl, hb8⟩
        have hB8 := hB7.out.trans (hb8.mono hB7.out.size)
        have hal := below_alloc (Below.refl w8.heap.size w8) (.cells (agM mm) 30)
        have hB9 := Aside0.mk (hB8.trans (hal.mono hB8.size))
        have hm9 := Aside0.mk (heap_alloc_new w8 (.cells (agM mm) 30))
        clear hb8 hB8 hal hr7 hB7
        go_upto_region 19 with fail
        generalize w8.alloc (.cells (agM mm) 30) = w9 at *
        generalize w8.heap.size = bm at *
        obtain ⟨y0, y1, y2, y3⟩ := hcl.out w9 hB9.out
        obtain ⟨z0, z1, z2, z3⟩ := m_cells hm9.out
        have hrs := hres.out
        clear hres hmm hee
        rcases hrs with he | ⟨he, hno, hne, hi8, hi252⟩
        · subst he
          by_cases h8 : i < 8
          · have g1 : decide ((i : Int) < 8) = true := by simp; omega
            go_wp2_with fail
            go_ret
            exact ⟨rfl, by rw [hba.out]; exact hbx.out.trans (hB9.out.mono (Nat.le_of_lt hxl))⟩
          · have g1 : decide ((i : Int) < 8) = false := by simp; omega
            by_cases h25 : 251 < i
            · have g2 : decide ((i : Int) > 251) = true := by simp; omega
              go_wp2_with fail
              go_ret
              exact ⟨rfl, by rw [hba.out]; exact hbx.out.trans (hB9.out.mono (Nat.le_of_lt hxl))⟩
            · have g2 : decide ((i : Int) > 251) = false := by simp; omega
              go_wp2_with fail
              go_ret
              exact ⟨rfl, by rw [hba.out]; exact hbx.out.trans (hB9.out.mono (Nat.le_of_lt hxl))⟩
        · subst he
          have g1 : decide ((i : Int) < 8) = false := by simp; omega
          have g2 : decide ((i : Int) > 251) = false := by simp; omega
          have g3 : (mm.no == m.no) = true := by simpa using hno
          have hqm := fun X => equalM mm m X
          rw [sameM_ne hne] at hqm
          replace hqm : ∀ X, (Op.equalIn 10000 30 (.agg #[.int .i64 mm.no, .int .i64 mm.ep, .int .i64 mm.st, .int .i64 mm.ck]) (.agg #[.int .i64 m.no, .int .i64 m.ep, .int .i64 m.st, .int .i64 m.ck])).run Try.prog X = .ok false X := hqm
          replace hno := Aside0.mk hno
          clear hi8 hi252 hne
          go_wp2_with fail
          go_ret
          exact ⟨rfl, by rw [hba.out]; exact hbx.out.trans (hB9.out.mono (Nat.le_of_lt hxl))⟩
def bobbinlaw09_MasterOdd.f (a0_0 : Int) (a0_1 : Int) (a0_2 : Int) (a0_3 : Int) (a1 : Int) (a2 : Int) : Option Bool := some true
theorem bobbinlaw09_MasterOdd.calls (a0_0 : Int) (a0_1 : Int) (a0_2 : Int) (a0_3 : Int) (a1 : Int) (a2 : Int) (r : Bool) (w : World) (h : bobbinlaw09_MasterOdd.f a0_0 a0_1 a0_2 a0_3 a1 a2 = some r) :
    Calls Try.prog 6 #[.agg #[.int .i64 a0_0, .int .i64 a0_1, .int .i64 a0_2, .int .i64 a0_3], .int .i64 a1, .int .i64 a2] w fun e w' => e = .returned (.bool r) ∧ Below w.heap.size w w' := by
  obtain rfl : true = r := Option.some.inj h
  by_cases hh : (⟨a0_0, a0_1, a0_2, a0_3⟩ : MS).mayP ∧ 0 ≤ a1 ∧ a1 ≤ 23 ∧ 0 ≤ a2 ∧ a2 ≤ 7
  · obtain ⟨h0, h1, h2, h3, h4⟩ := hh
    obtain ⟨x, rfl⟩ : ∃ n : Nat, a1 = n := ⟨a1.toNat, by omega⟩
    obtain ⟨y, rfl⟩ : ∃ n : Nat, a2 = n := ⟨a2.toNat, by omega⟩
    exact odd_walk ⟨a0_0, a0_1, a0_2, a0_3⟩ x y h0 (by omega) (by omega) w
  · exact odd_out ⟨a0_0, a0_1, a0_2, a0_3⟩ a1 a2 w hh
end Go.Proofs.Ytfaflgdhffkaiaa.Print
