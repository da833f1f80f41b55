/- MasterEither: of one that was written, and then another one whose No is one more, in part, behind a crash either is read. -/
import Derived.Test.YtfaflgdhffkaiaaEither0
namespace Go.Proofs.Ytfaflgdhffkaiaa.Print
open Go.RowKit Go.Proofs.YtfaflgdhffkaiaaW.PrintWords Go.Proofs.YtfaflgdhffkaiaaW.PrintLast Go.Proofs.YtfaflgdhffkaiaaW.PrintMore
set_option linter.unusedVariables false
set_option linter.unusedSimpArgs false
set_option maxHeartbeats 2000000 in
set_option maxRecDepth 100000 in
theorem either_out (a b : MS) (k die : Int) (w : World) (h : ¬ (a.mayP ∧ b.mayP ∧ b.no = a.no + 1 ∧ (die = 0 ∨ die = 1))) :
    Calls Try.prog 7 #[.agg #[.int .i64 a.no, .int .i64 a.ep, .int .i64 a.st, .int .i64 a.ck], .agg #[.int .i64 b.no, .int .i64 b.ep, .int .i64 b.st, .int .i64 b.ck], .int .i64 k, .int .i64 die] w fun e w' => e = .returned (.bool true) ∧ Below w.heap.size w w' := by
  have hboxes := two_boxes a b w
  have haw := Aside0.mk awake_calls
  by_cases ha : a.mayP
  · have hma := Aside0.mk (may_yes a ha)
    have f0 : wrap64 (a.no + 1) = a.no + 1 := by
      have := ha.1
      have := ha.2.1
      unfold wrap64
      omega
    by_cases hb : b.mayP
    · have hmb := Aside0.mk (may_yes b hb)
      by_cases hn : b.no = a.no + 1
      · have f1 : (b.no != a.no + 1) = false := by simpa using hn
        have hd : die < 0 ∨ 1 < die := by
          by_cases q : die < 0 ∨ 1 < die
          · exact q
          · exact absurd ⟨ha, hb, hn, by omega⟩ h
        clear h ha hb
        by_cases hd0 : die < 0
        · have f2 : decide (die < 0) = true := by simpa using hd0
          replace hn := Aside0.mk hn
          clear hd hd0
          go_enter Try.func7, Try.ntmps7
          go_wp2_with fail
          generalize (w.alloc (.cells (agM a) 30)).alloc (.cells (agM b) 30) = wb at *
          obtain ⟨hBb, hxa, hxb, hxl⟩ := hboxes
          have hcl := Aside0.mk (fun X (hX : Below wb.heap.size wb X) => And.intro (m_cells ((hX.block w.heap.size (by omega)).trans hxa)) (m_cells ((hX.block (w.heap.size + 1) hxl).trans hxb)))
          replace hBb := Aside0.mk hBb
          have hsz : Aside0 (w.heap.size ≤ wb.heap.size) := ⟨by omega⟩
          clear hxa hxb hxl
          generalize hw1 : w.heap.size = ba at *
          replace hw1 := Aside0.mk hw1
          generalize ba + 1 = bb at *
          refine (haw.out wb).mono ?_
          rintro e w1 ⟨rfl, hb1⟩
          obtain ⟨⟨y0, y1, y2, y3⟩, x0, x1, x2, x3⟩ := hcl.out w1 hb1
          replace hb1 := Aside0.mk hb1
          go_wp2_with fail
          refine (hma.out w1).mono ?_
          rintro e w2 ⟨rfl, hb2⟩
          have hb2 := Aside0.mk (hb1.out.trans (hb2.mono hb1.out.size))
          clear y0 y1 y2 y3 x0 x1 x2 x3 hb1
          obtain ⟨⟨y0, y1, y2, y3⟩, x0, x1, x2, x3⟩ := hcl.out w2 hb2.out
          go_wp2_with fail
          refine (hmb.out w2).mono ?_
          rintro e w3 ⟨rfl, hb3⟩
          have hb3 := Aside0.mk (hb2.out.trans (hb3.mono hb2.out.size))
          clear y0 y1 y2 y3 x0 x1 x2 x3 hb2
          obtain ⟨⟨y0, y1, y2, y3⟩, x0, x1, x2, x3⟩ := hcl.out w3 hb3.out
          go_wp2_with fail
          go_ret
          exact ⟨rfl, by rw [hw1.out]; exact hBb.out.trans (hb3.out.mono hsz.out)⟩
        · have f2 : decide (die < 0) = false := by simpa using hd0
          have f3 : decide (die > 1) = true := by rcases hd with q | q; exact absurd q hd0; simpa using q
          replace hn := Aside0.mk hn
          clear hd hd0
          go_enter Try.func7, Try.ntmps7
          go_wp2_with fail
          generalize (w.alloc (.cells (agM a) 30)).alloc (.cells (agM b) 30) = wb at *
          obtain ⟨hBb, hxa, hxb, hxl⟩ := hboxes
          have hcl := Aside0.mk (fun X (hX : Below wb.heap.size wb X) => And.intro (m_cells ((hX.block w.heap.size (by omega)).trans hxa)) (m_cells ((hX.block (w.heap.size + 1) hxl).trans hxb)))
          replace hBb := Aside0.mk hBb
          have hsz : Aside0 (w.heap.size ≤ wb.heap.size) := ⟨by omega⟩
          clear hxa hxb hxl
          generalize hw1 : w.heap.size = ba at *
          replace hw1 := Aside0.mk hw1
          generalize ba + 1 = bb at *
          refine (haw.out wb).mono ?_
          rintro e w1 ⟨rfl, hb1⟩
          obtain ⟨⟨y0, y1, y2, y3⟩, x0, x1, x2, x3⟩ := hcl.out w1 hb1
          replace hb1 := Aside0.mk hb1
          go_wp2_with fail
          refine (hma.out w1).mono ?_
          rintro e w2 ⟨rfl, hb2⟩
          have hb2 := Aside0.mk (hb1.out.trans (hb2.mono hb1.out.size))
          clear y0 y1 y2 y3 x0 x1 x2 x3 hb1
          obtain ⟨⟨y0, y1, y2, y3⟩, x0, x1, x2, x3⟩ := hcl.out w2 hb2.out
          go_wp2_with fail
          refine (hmb.out w2).mono ?_
          rintro e w3 ⟨rfl, hb3⟩
          have hb3 := Aside0.mk (hb2.out.trans (hb3.mono hb2.out.size))
          clear y0 y1 y2 y3 x0 x1 x2 x3 hb2
          obtain ⟨⟨y0, y1, y2, y3⟩, x0, x1, x2, x3⟩ := hcl.out w3 hb3.out
          go_wp2_with fail
          go_ret
          exact ⟨rfl, by rw [hw1.out]; exact hBb.out.trans (hb3.out.mono hsz.out)⟩
      · have f1 : (b.no != a.no + 1) = true := by simpa using hn
        clear h ha hb hn
        go_enter Try.func7, Try.ntmps7
        go_wp2_with fail
        generalize (w.alloc (.cells (agM a) 30)).alloc (.cells (agM b) 30) = wb at *
        obtain ⟨hBb, hxa, hxb, hxl⟩ := hboxes
        have hcl := Aside0.mk (fun X (hX : Below wb.heap.size wb X) => And.intro (m_cells ((hX.block w.heap.size (by omega)).trans hxa)) (m_cells ((hX.block (w.heap.size + 1) hxl).trans hxb)))
        replace hBb := Aside0.mk hBb
        have hsz : Aside0 (w.heap.size ≤ wb.heap.size) := ⟨by omega⟩
        clear hxa hxb hxl
        generalize hw1 : w.heap.size = ba at *
        replace hw1 := Aside0.mk hw1
        generalize ba + 1 = bb at *
        refine (haw.out wb).mono ?_
        rintro e w1 ⟨rfl, hb1⟩
        obtain ⟨⟨y0, y1, y2, y3⟩, x0, x1, x2, x3⟩ := hcl.out w1 hb1
        replace hb1 := Aside0.mk hb1
        go_wp2_with fail
        refine (hma.out w1).mono ?_
        rintro e w2 ⟨rfl, hb2⟩
        have hb2 := Aside0.mk (hb1.out.trans (hb2.mono hb1.out.size))
        clear y0 y1 y2 y3 x0 x1 x2 x3 hb1
        obtain ⟨⟨y0, y1, y2, y3⟩, x0, x1, x2, x3⟩ := hcl.out w2 hb2.out
        go_wp2_with fail
        refine (hmb.out w2).mono ?_
        rintro e w3 ⟨rfl, hb3⟩
        have hb3 := Aside0.mk (hb2.out.trans (hb3.mono hb2.out.size))
        clear y0 y1 y2 y3 x0 x1 x2 x3 hb2
        obtain ⟨⟨y0, y1, y2, y3⟩, x0, x1, x2, x3⟩ := hcl.out w3 hb3.out
        go_wp2_with fail
        go_ret
        exact ⟨rfl, by rw [hw1.out]; exact hBb.out.trans (hb3.out.mono hsz.out)⟩
    · have hmb := Aside0.mk (may_no b hb)
      clear h ha hb
      go_enter Try.func7, Try.ntmps7
      go_wp2_with fail
      generalize (w.alloc (.cells (agM a) 30)).alloc (.cells (agM b) 30) = wb at *
      obtain ⟨hBb, hxa, hxb, hxl⟩ := hboxes
      have hcl := Aside0.mk (fun X (hX : Below wb.heap.size wb X) => And.intro (m_cells ((hX.block w.heap.size (by omega)).trans hxa)) (m_cells ((hX.block (w.heap.size + 1) hxl).trans hxb)))
      replace hBb := Aside0.mk hBb
      have hsz : Aside0 (w.heap.size ≤ wb.heap.size) := ⟨by omega⟩
      clear hxa hxb hxl
      generalize hw1 : w.heap.size = ba at *
      replace hw1 := Aside0.mk hw1
      generalize ba + 1 = bb at *
      refine (haw.out wb).mono ?_
      rintro e w1 ⟨rfl, hb1⟩
      obtain ⟨⟨y0, y1, y2, y3⟩, x0, x1, x2, x3⟩ := hcl.out w1 hb1
      replace hb1 := Aside0.mk hb1
      go_wp2_with fail
      refine (hma.out w1).mono ?_
      rintro e w2 ⟨rfl, hb2⟩
      have hb2 := Aside0.mk (hb1.out.trans (hb2.mono hb1.out.size))
      clear y0 y1 y2 y3 x0 x1 x2 x3 hb1
      obtain ⟨⟨y0, y1, y2, y3⟩, x0, x1, x2, x3⟩ := hcl.out w2 hb2.out
      go_wp2_with fail
      refine (hmb.out w2).mono ?_
      rintro e w3 ⟨rfl, hb3⟩
      have hb3 := Aside0.mk (hb2.out.trans (hb3.mono hb2.out.size))
      clear y0 y1 y2 y3 x0 x1 x2 x3 hb2
      go_wp2_with fail
      go_ret
      exact ⟨rfl, by rw [hw1.out]; exact hBb.out.trans (hb3.out.mono hsz.out)⟩
  · have hma := Aside0.mk (may_no a ha)
    clear h ha
    go_enter Try.func7, Try.ntmps7
    go_wp2_with fail
    generalize (w.alloc (.cells (agM a) 30)).alloc (.cells (agM b) 30) = wb at *
    obtain ⟨hBb, hxa, hxb, hxl⟩ := hboxes
    have hcl := Aside0.mk (fun X (hX : Below wb.heap.size wb X) => And.intro (m_cells ((hX.block w.heap.size (by omega)).trans hxa)) (m_cells ((hX.block (w.heap.size + 1) hxl).trans hxb)))
    replace hBb := Aside0.mk hBb
    have hsz : Aside0 (w.heap.size ≤ wb.heap.size) := ⟨by omega⟩
    clear hxa hxb hxl
    generalize hw1 : w.heap.size = ba at *
    replace hw1 := Aside0.mk hw1
    generalize ba + 1 = bb at *
    refine (haw.out wb).mono ?_
    rintro e w1 ⟨rfl, hb1⟩
    obtain ⟨⟨y0, y1, y2, y3⟩, x0, x1, x2, x3⟩ := hcl.out w1 hb1
    replace hb1 := Aside0.mk hb1
    go_wp2_with fail
    refine (hma.out w1).mono ?_
    rintro e w2 ⟨rfl, hb2⟩
    have hb2 := Aside0.mk (hb1.out.trans (hb2.mono hb1.out.size))
    clear y0 y1 y2 y3 x0 x1 x2 x3 hb1
    go_wp2_with fail
    go_ret
    exact ⟨rfl, by rw [hw1.out]; exact hBb.out.trans (hb2.out.mono hsz.out)⟩
set_option maxHeartbeats 2000000 in
set_option maxRecDepth 100000 in
theorem either_walk (a b : MS) (k die : Int) (ha : a.mayP) (hb : b.mayP) (hn : b.no = a.no + 1) (hd : die = 0 ∨ die = 1) (w : World) :
    Calls Try.prog 7 #[.agg #[.int .i64 a.no, .int .i64 a.ep, .int .i64 a.st, .int .i64 a.ck], .agg #[.int .i64 b.no, .int .i64 b.ep, .int .i64 b.st, .int .i64 b.ck], .int .i64 k, .int .i64 die] w fun e w' => e = .returned (.bool true) ∧ Below w.heap.size w w' := by
  have hboxes := two_boxes a b w
  have haw := Aside0.mk awake_calls
  have hma := Aside0.mk (may_yes a ha)
  have hmb := Aside0.mk (may_yes b hb)
  have f0 : wrap64 (a.no + 1) = a.no + 1 := by
    have := ha.1
    have := ha.2.1
    unfold wrap64
    omega
  have f1 : (b.no != a.no + 1) = false := by simpa using hn
  have f2 : decide (die < 0) = false := by simp; omega
  have f3 : decide (die > 1) = false := by simp; omega
  obtain ⟨E1, S1, E2, hO2, hl2, hO3, hl3, hO4, hl4, hdd4, hby, hmE, hmM⟩ := either_dev a b ha hb hn die k hd
  have hne : sameM b a = false := sameM_ne (fun q => by have := congrArg MS.no q; omega)
  have hqa := fun X => equalM a a X
  rw [sameM_self] at hqa
  have hqb := fun X => equalM b b X
  rw [sameM_self] at hqb
  have hqc := fun X => equalM b a X
  rw [hne] at hqc
  replace hqa : ∀ X, (Op.equalIn 10000 30 (.agg #[.int .i64 a.no, .int .i64 a.ep, .int .i64 a.st, .int .i64 a.ck]) (.agg #[.int .i64 a.no, .int .i64 a.ep, .int .i64 a.st, .int .i64 a.ck])).run Try.prog X = .ok true X := hqa
  replace hqb : ∀ X, (Op.equalIn 10000 30 (.agg #[.int .i64 b.no, .int .i64 b.ep, .int .i64 b.st, .int .i64 b.ck]) (.agg #[.int .i64 b.no, .int .i64 b.ep, .int .i64 b.st, .int .i64 b.ck])).run Try.prog X = .ok true X := hqb
  replace hqc : ∀ X, (Op.equalIn 10000 30 (.agg #[.int .i64 b.no, .int .i64 b.ep, .int .i64 b.st, .int .i64 b.ck]) (.agg #[.int .i64 a.no, .int .i64 a.ep, .int .i64 a.st, .int .i64 a.ck])).run Try.prog X = .ok false X := hqc
  replace hqa := Aside0.mk hqa
  replace hqb := Aside0.mk hqb
  replace hqc := Aside0.mk hqc
  have hw1r := Aside0.mk (fun (wb X : World) (g : Nat) (h1 : Dev wb X g (newD 4)) (h3 : Below wb.heap.size wb X) => mwrite_any h1 h3 (Below.refl _ _) (newD_ok 4 (by decide)) (by decide) a ha (by decide))
  have hw2r := Aside0.mk (fun (wb X : World) (g : Nat) (h1 : Dev wb X g (armF (mwD (newD 4) a) die)) (h3 : Below wb.heap.size wb X) => mwrite_any h1 h3 (Below.refl _ _) hO2 (by decide) b hb (by rw [hl2]; decide))
  have hcr : Aside0 (∀ (wb X : World) (g : Nat), Dev wb X g (mwD (armF (mwD (newD 4) a) die) b) → Below wb.heap.size wb X → Calls Try.prog 18 #[.pointer (some ⟨g, 0, none⟩), .agg #[.slice none 0 0, .int .i64 0, .int .i64 k]] X fun e w' => ∃ g2, e = .returned (.pointer (some ⟨g2, 0, none⟩)) ∧ Dev wb w' g2 (crashD (mwD (armF (mwD (newD 4) a) die) b) (kf (fun _ => false) 0 0 k)) ∧ Below X.heap.size X w') := ⟨fun wb X g hd hB => hd.crash hB hO3 (by decide) (by rw [hl3]; decide) none 0 0 (fun _ => false) 0 k (by decide) (fun j hj => by omega)⟩
  have hrd := Aside0.mk (fun (wb X : World) (g : Nat) (h1 : Dev wb X g (crashD (mwD (armF (mwD (newD 4) a) die) b) (kf (fun _ => false) 0 0 k))) => mread_any h1 hO4 hdd4 (by rw [hl4]; decide) hby)
  replace E1 := Aside0.mk E1
  replace E2 := Aside0.mk E2
  replace hmE := Aside0.mk hmE
  replace hmM := Aside0.mk hmM
  replace hn := Aside0.mk hn
  replace hd := Aside0.mk hd
  clear ha hb S1 hO2 hl2 hO3 hl3 hO4 hl4 hdd4 hby hne
  generalize crashD (mwD (armF (mwD (newD 4) a) die) b) (kf (fun _ => false) 0 0 k) = d4 at *
  go_enter Try.func7, Try.ntmps7
  go_wp2_with fail
  generalize (w.alloc (.cells (agM a) 30)).alloc (.cells (agM b) 30) = wb at *
  obtain ⟨hBb, hxa, hxb, hxl⟩ := hboxes
  have hcl := Aside0.mk (fun X (hX : Below wb.heap.size wb X) => And.intro (m_cells ((hX.block w.heap.size (by omega)).trans hxa)) (m_cells ((hX.block (w.heap.size + 1) hxl).trans hxb)))
  replace hBb := Aside0.mk hBb
  have hsz : Aside0 (w.heap.size ≤ wb.heap.size) := ⟨by omega⟩
  clear hxa hxb hxl
  generalize hw1 : w.heap.size = ba at *
  replace hw1 := Aside0.mk hw1
  generalize ba + 1 = bb at *
  refine (haw.out wb).mono ?_
  rintro e w1 ⟨rfl, hb1⟩
  obtain ⟨⟨y0, y1, y2, y3⟩, x0, x1, x2, x3⟩ := hcl.out w1 hb1
  replace hb1 := Aside0.mk hb1
  go_wp2_with fail
  refine (hma.out w1).mono ?_
  rintro e w2 ⟨rfl, hb2⟩
  have hb2 := Aside0.mk (hb1.out.trans (hb2.mono hb1.out.size))
  clear y0 y1 y2 y3 x0 x1 x2 x3 hb1
  obtain ⟨⟨y0, y1, y2, y3⟩, x0, x1, x2, x3⟩ := hcl.out w2 hb2.out
  go_wp2_with fail
  refine (hmb.out w2).mono ?_
  rintro e w3 ⟨rfl, hb3⟩
  have hb3 := Aside0.mk (hb2.out.trans (hb3.mono hb2.out.size))
  clear y0 y1 y2 y3 x0 x1 x2 x3 hb2
  obtain ⟨⟨y0, y1, y2, y3⟩, x0, x1, x2, x3⟩ := hcl.out w3 hb3.out
  go_wp2_with fail
  refine (Dev.new 4 wb w3 hb3.out (by decide) (by decide)).mono ?_
  rintro e w4 ⟨g, rfl, hd4, hB4⟩
  clear y0 y1 y2 y3 x0 x1 x2 x3 hb3
  obtain ⟨⟨y0, y1, y2, y3⟩, x0, x1, x2, x3⟩ := hcl.out w4 hB4
  replace hd4 := Aside0.mk hd4
  replace hB4 := Aside0.mk hB4
  go_wp2_with fail
  refine (hw1r.out wb w4 g hd4.out hB4.out).mono ?_
  rintro e w5 ⟨rfl, hd5, hB5, _⟩
  rw [E1.out]
  clear y0 y1 y2 y3 x0 x1 x2 x3 hd4 hB4 E1 hw1r
  generalize mwD (newD 4) a = d1 at *
  replace hd5 := Aside0.mk hd5
  replace hB5 := Aside0.mk hB5
  go_wp2_with fail
  refine (hd5.out.arm hB5.out die).mono ?_
  rintro e w6 ⟨rfl, hd6, hB6⟩
  obtain ⟨⟨y0, y1, y2, y3⟩, x0, x1, x2, x3⟩ := hcl.out w6 hB6
  replace hd6 := Aside0.mk hd6
  replace hB6 := Aside0.mk hB6
  clear hd5 hB5
  go_wp2_with fail
  refine (hw2r.out wb w6 g hd6.out hB6.out).mono ?_
  rintro e w7 ⟨rfl, hd7, hB7, _⟩
  rw [E2.out]
  clear y0 y1 y2 y3 x0 x1 x2 x3 hd6 hB6 E2 hw2r
  generalize mwD (armF d1 die) b = d3 at *
  replace hd7 := Aside0.mk hd7
  replace hB7 := Aside0.mk hB7
  go_wp2_with fail
  refine (hcr.out wb w7 g hd7.out hB7.out).mono ?_
  rintro e w8 ⟨g2, rfl, hd8, hb8⟩
  have hB8 := Aside0.mk (hB7.out.trans (hb8.mono hB7.out.size))
  have hr8 := hrd.out wb w8 g2 hd8
  rw [hmE.out] at hr8
  replace hr8 := Aside0.mk hr8
  clear hb8 hd8 hd7 hB7 hcr hrd
  go_wp2_with fail
  generalize mrM d4.L = mm at *
  refine hr8.out.mono ?_
  rintro e w9 ⟨rfl, hb9⟩
  have hB9 := hB8.out.trans (hb9.mono hB8.out.size)
  have hal := below_alloc (Below.refl w9.heap.size w9) (.cells (agM mm) 30)
  have hB10 := Aside0.mk (hB9.trans (hal.mono hB9.size))
  have hm10 := Aside0.mk (heap_alloc_new w9 (.cells (agM mm) 30))
  clear hb9 hB9 hal hr8 hB8
  go_upto_region 9 with fail
  generalize w9.alloc (.cells (agM mm) 30) = w10 at *
  generalize w9.heap.size = bm at *
  obtain ⟨⟨y0, y1, y2, y3⟩, x0, x1, x2, x3⟩ := hcl.out w10 hB10.out
  obtain ⟨z0, z1, z2, z3⟩ := m_cells hm10.out
  have hmc := hmM.out
  clear hmM
  rcases hmc with hmc | ⟨hmc, hdie, hk⟩
  · subst hmc
    have hqa := hqa.out
    go_wp2_with fail
    go_ret
    exact ⟨rfl, by rw [hw1.out]; exact hBb.out.trans (hB10.out.mono hsz.out)⟩
  · subst hmc
    have hqb := hqb.out
    have hqc := hqc.out
    have f5 : (die == (1 : Int)) = true := by simpa using hdie
    have f6 : decide (k > 0) = true := by simpa using hk
    clear hdie hk
    go_wp2_with fail
    go_ret
    exact ⟨rfl, by rw [hw1.out]; exact hBb.out.trans (hB10.out.mono hsz.out)⟩
def bobbinlaw09_MasterEither.f (a0_0 : Int) (a0_1 : Int) (a0_2 : Int) (a0_3 : Int) (a1_0 : Int) (a1_1 : Int) (a1_2 : Int) (a1_3 : Int) (a2 : Int) (a3 : Int) : Option Bool := some true
theorem bobbinlaw09_MasterEither.calls (a0_0 : Int) (a0_1 : Int) (a0_2 : Int) (a0_3 : Int) (a1_0 : Int) (a1_1 : Int) (a1_2 : Int) (a1_3 : Int) (a2 : Int) (a3 : Int) (r : Bool) (w : World) (h : bobbinlaw09_MasterEither.f a0_0 a0_1 a0_2 a0_3 a1_0 a1_1 a1_2 a1_3 a2 a3 = some r) :
    Calls Try.prog 7 #[.agg #[.int .i64 a0_0, .int .i64 a0_1, .int .i64 a0_2, .int .i64 a0_3], .agg #[.int .i64 a1_0, .int .i64 a1_1, .int .i64 a1_2, .int .i64 a1_3], .int .i64 a2, .int .i64 a3] w fun e w' => e = .returned (.bool r) ∧ Below w.heap.size w w' := by
  obtain rfl : true = r := Option.some.inj h
  by_cases hh : (⟨a0_0, a0_1, a0_2, a0_3⟩ : MS).mayP ∧ (⟨a1_0, a1_1, a1_2, a1_3⟩ : MS).mayP ∧ (⟨a1_0, a1_1, a1_2, a1_3⟩ : MS).no = (⟨a0_0, a0_1, a0_2, a0_3⟩ : MS).no + 1 ∧ (a3 = 0 ∨ a3 = 1)
  · exact either_walk ⟨a0_0, a0_1, a0_2, a0_3⟩ ⟨a1_0, a1_1, a1_2, a1_3⟩ a2 a3 hh.1 hh.2.1 hh.2.2.1 hh.2.2.2 w
  · exact either_out ⟨a0_0, a0_1, a0_2, a0_3⟩ ⟨a1_0, a1_1, a1_2, a1_3⟩ a2 a3 w hh
end Go.Proofs.Ytfaflgdhffkaiaa.Print
