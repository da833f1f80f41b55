/- MasterLast: of masters whose No rise by one, the last one is read. -/
import Derived.Test.YtfaflgdhffkaiaaMLaw1
namespace Go.Proofs.Ytfaflgdhffkaiaa.Print
open Go.RowKit Go.Proofs.YtfaflgdhffkaiaaW.PrintWords Go.Proofs.YtfaflgdhffkaiaaW.PrintLast Go.Proofs.YtfaflgdhffkaiaaW.PrintMore
set_option linter.unusedVariables false
set_option linter.unusedSimpArgs false
structure LaI (wb wr : World) (g b8 : Nat) (a : MS) (d : DS) (k : Nat) : Prop where
  dev : DevK wb wr g d (fun j => j = b8)
  st : St d 2
  two : ∃ x y, Two d.L x y ∧ (∀ c, x = some c → c.no < a.no + k) ∧ (∀ c, y = some c → c.no < a.no + k)
  box : ∃ m0 : MS, wr.heap[b8]? = some (.cells (agM m0) 30 (0, 0))
  bel : Below wb.heap.size wb wr
  b8 : wb.heap.size ≤ b8
def nthM (a : MS) (k : Nat) : MS := ⟨a.no + k, a.ep, a.st, a.ck⟩
theorem next_two {L : List (List Int)} {a : MS} {k : Nat} (h : ∃ x y, Two L x y ∧ (∀ c, x = some c → c.no < a.no + k) ∧ (∀ c, y = some c → c.no < a.no + k)) (hm : (nthM a k).mayP) :
    (∃ x y, Two (L.set ((nthM a k).no % 2).toNat (nthM a k).sect) x y ∧ (∀ c, x = some c → c.no < a.no + ((k + 1 : Nat) : Int)) ∧ (∀ c, y = some c → c.no < a.no + ((k + 1 : Nat) : Int))) ∧
    mrM (L.set ((nthM a k).no % 2).toNat (nthM a k).sect) = nthM a k ∧ mrE (L.set ((nthM a k).no % 2).toNat (nthM a k).sect) = 0 := by
  obtain ⟨x, y, h, hx, hy⟩ := h
  refine ⟨⟨_, _, h.put _ hm, ?_, ?_⟩, h.last _ hm hx hy⟩
  · intro c hc
    unfold putX at hc
    split at hc
    · injection hc with hc; subst hc; show a.no + (k : Int) < _; omega
    · have := hx c hc; omega
  · intro c hc
    unfold putY at hc
    split at hc
    · have := hy c hc; omega
    · injection hc with hc; subst hc; show a.no + (k : Int) < _; omega
set_option maxHeartbeats 2000000 in
set_option maxRecDepth 100000 in
theorem last_walk (a : MS) (n : Nat) (hn : n ≤ 20) (ha : a.mayP) (w : World) :
    Calls Try.prog 4 #[.agg #[.int .i64 a.no, .int .i64 a.ep, .int .i64 a.st, .int .i64 a.ck], .int .i64 (n : Int)] w fun e w' => e = .returned (.bool true) ∧ Below w.heap.size w w' := by
  have haw := Aside0.mk awake_calls
  have hma := Aside0.mk (may_yes a ha)
  have hbx := Aside0.mk (below_alloc (Below.refl w.heap.size w) (.cells (agM a) 30))
  have hx := Aside0.mk (heap_alloc_new w (.cells (agM a) 30))
  have hxl : w.heap.size < (w.alloc (.cells (agM a) 30)).heap.size := by rw [World.size_alloc]; omega
  have e1 : decide ((n : Int) < 0) = false := by simp
  have e2 : decide ((n : Int) > 20) = false := by simp; omega
  have hno : 1 ≤ a.no ∧ a.no < 4294967296 := ⟨ha.1, ha.2.1⟩
  clear ha
  go_enter Try.func4, Try.ntmps4
  go_wp2_with fail
  generalize w.alloc (.cells (agM a) 30) = wb at *
  have hcl := Aside0.mk (fun X (hX : Below wb.heap.size wb X) => m_cells ((hX.block w.heap.size hxl).trans hx.out))
  generalize hba : w.heap.size = ba at *
  replace hba := Aside0.mk hba
  clear hx
  refine (haw.out wb).mono ?_
  rintro e w1 ⟨rfl, hb1⟩
  obtain ⟨y0, y1, y2, y3⟩ := hcl.out w1 hb1
  replace hb1 := Aside0.mk hb1
  go_wp2_with fail
  refine (hma.out w1).mono ?_
  rintro e w2 ⟨rfl, hb2⟩
  have hb2 := Aside0.mk (hb1.out.trans (hb2.mono hb1.out.size))
  clear y0 y1 y2 y3 hb1
  go_wp2_with fail
  refine (Dev.new 2 wb w2 hb2.out (by decide) (by decide)).mono ?_
  rintro e w3 ⟨g, rfl, hd3, hB3⟩
  obtain ⟨y0, y1, y2, y3⟩ := hcl.out w3 hB3
  have hal := below_alloc (Below.refl w3.heap.size w3) (.cells (agM a) 30)
  have HI0 : Aside0 (LaI wb (w3.alloc (.cells (agM a) 30)) g w3.heap.size a (newD 2) 0) := ⟨⟨(DevK.of hd3 hal).less (fun k e => ⟨by omega, by rw [World.size_alloc]; omega⟩), St.new 2 (by decide), ⟨none, none, Two.new, fun c e => (by cases e), fun c e => (by cases e)⟩, ⟨a, heap_alloc_new _ _⟩, hB3.trans (hal.mono hB3.size), hB3.size⟩⟩
  clear hal hd3 hB3 hb2
  go_wp2_with fail
  clear y0 y1 y2 y3
  generalize w3.alloc (.cells (agM a) 30) = w4 at *
  generalize w3.heap.size = b8 at *
  generalize newD 2 = d0 at *
  go_loopw [9] (fun v9 wr => ∃ (k : Nat) (d : DS), k ≤ n + 1 ∧ v9 = .int .i64 k ∧ Aside0 (LaI wb wr g b8 a d k)) (fun v9 _ => n + 1 - (intOf v9).toNat)
  case atStart => exact ⟨0, d0, by omega, rfl, HI0⟩
  case round =>
    clear HI0
    obtain ⟨k, d, hk, rfl, HI⟩ := hrel
    by_cases hlk : k ≤ n
    · have f0 : decide ((k : Int) ≤ (n : Int)) = true := by simp; omega
      have f1 : wrap64 (a.no + (k : Int)) = a.no + (k : Int) := by
        unfold wrap64
        omega
      obtain ⟨y0, y1, y2, y3⟩ := hcl.out wr HI.out.bel
      obtain ⟨m0, hm0⟩ := HI.out.box
      obtain ⟨_, _, _, _, g0, g1, g2, g3⟩ := four_cells hm0
      obtain ⟨z0, z1, z2, z3⟩ := m_cells hm0
      have hst := four_store hm0 (.int .i64 (a.no + k)) (.int .i64 a.ep) (.int .i64 a.st) (.int .i64 a.ck)
      have hlt : b8 < wr.heap.size := (Array.getElem?_eq_some_iff.1 hm0).1
      have hdv : Aside0 (DevK wb ((((wr.setCell ⟨b8, 0, none⟩ (.int .i64 (a.no + k))).setCell ⟨b8, 1, none⟩ (.int .i64 a.ep)).setCell ⟨b8, 2, none⟩ (.int .i64 a.st)).setCell ⟨b8, 3, none⟩ (.int .i64 a.ck)) g d (fun j => j = b8) ∧ Below wb.heap.size wb ((((wr.setCell ⟨b8, 0, none⟩ (.int .i64 (a.no + k))).setCell ⟨b8, 1, none⟩ (.int .i64 a.ep)).setCell ⟨b8, 2, none⟩ (.int .i64 a.st)).setCell ⟨b8, 3, none⟩ (.int .i64 a.ck))) := ⟨HI.out.dev.set hst.1, HI.out.bel.trans (Chg.below hst.1 (fun j e => by have := HI.out.b8; omega) HI.out.bel.size)⟩
      have hx8 := Aside0.mk hst.2
      clear hst
      go_upto_region 10 with fail
      clear y0 y1 y2 y3 z0 z1 z2 z3 g0 g1 g2 g3 hm0
      generalize (((wr.setCell ⟨b8, 0, none⟩ (.int .i64 (a.no + k))).setCell ⟨b8, 1, none⟩ (.int .i64 a.ep)).setCell ⟨b8, 2, none⟩ (.int .i64 a.st)).setCell ⟨b8, 3, none⟩ (.int .i64 a.ck) = w5 at *
      obtain ⟨z0, z1, z2, z3⟩ := m_cells hx8.out
      have hq := fun X => equalM (nthM a k) (nthM a k) X
      rw [sameM_self] at hq
      replace hq : ∀ X, (Op.equalIn 10000 30 (.agg #[.int .i64 (a.no + k), .int .i64 a.ep, .int .i64 a.st, .int .i64 a.ck]) (.agg #[.int .i64 (a.no + k), .int .i64 a.ep, .int .i64 a.st, .int .i64 a.ck])).run Try.prog X = .ok true X := hq
      by_cases hm : (nthM a k).mayP
      · have hmy := Aside0.mk (may_yes (nthM a k) hm)
        obtain ⟨E1, S1, L1, _, _⟩ := mw_st HI.out.st (by decide) (nthM a k) hm
        obtain ⟨hnx, R1, R2⟩ := next_two HI.out.two hm
        rw [← L1] at hnx R1 R2
        have hwk := fun X (h1 : DevK wb X g d (fun j => j = b8)) (h2 : Below wb.heap.size wb X) (h3 : b8 < X.heap.size) => mwriteK h1 h2 (fun j e => by omega) HI.out.st.ok (by decide) (nthM a k) hm (by rw [HI.out.st.len]; decide)
        rw [E1] at hwk
        have hby : ∀ j, j < 2 → Bytes ((mwD d (nthM a k)).L.getD j []) := by
          obtain ⟨x, y, hT, _⟩ := hnx
          exact hT.bytes
        replace hwk := Aside0.mk hwk
        replace hnx := Aside0.mk hnx
        replace S1 := Aside0.mk S1
        replace R1 := Aside0.mk R1
        replace R2 := Aside0.mk R2
        replace hby := Aside0.mk hby
        clear hm E1 L1
        generalize mwD d (nthM a k) = d1 at *
        go_wp2_with fail
        refine (hmy.out w5).mono ?_
        rintro e w6 ⟨rfl, hb6⟩
        have hx6 := (hb6.block b8 (Array.getElem?_eq_some_iff.1 hx8.out).1).trans hx8.out
        have hd6 := Aside0.mk (hdv.out.1.below hb6)
        have hB6 := Aside0.mk (hdv.out.2.trans (hb6.mono hdv.out.2.size))
        clear hb6 z0 z1 z2 z3
        obtain ⟨z0, z1, z2, z3⟩ := m_cells hx6
        have hl6 := (Array.getElem?_eq_some_iff.1 hx6).1
        replace hx6 := Aside0.mk hx6
        go_wp2_with fail
        refine (hwk.out w6 hd6.out hB6.out hl6).mono ?_
        rintro e w7 ⟨rfl, hd7, hB7, hk7⟩
        have hx7 := (hk7 b8 rfl).trans hx6.out
        have hr := mread_any hd7.dev S1.out.ok S1.out.dead (by rw [S1.out.len]; decide) hby.out
        rw [R1.out, R2.out] at hr
        replace hr := Aside0.mk hr
        replace hd7 := Aside0.mk hd7
        replace hB7 := Aside0.mk hB7
        clear hk7 z0 z1 z2 z3 hd6 hB6 hx6 hl6
        go_wp2_with fail
        refine hr.out.mono ?_
        rintro e w8 ⟨rfl, hb8⟩
        have hx88 := (hb8.block b8 (Array.getElem?_eq_some_iff.1 hx7).1).trans hx7
        have hd8 := hd7.out.below hb8
        have hB8 := hB7.out.trans (hb8.mono hB7.out.size)
        have hal := below_alloc (Below.refl w8.heap.size w8) (.cells (agM (nthM a k)) 30)
        have hd9 := Aside0.mk (hd8.below hal)
        have hB9 := Aside0.mk (hB8.trans (hal.mono hB8.size))
        have hx9 := (hal.block b8 (Array.getElem?_eq_some_iff.1 hx88).1).trans hx88
        have hn9 := heap_alloc_new w8 (.cells (agM (nthM a k)) 30)
        clear hr hb8 hd7 hB7 hx7 hx88 hd8 hB8 hal
        go_upto_region 14 with fail
        have hex := Aside0.mk hx9
        have hny := Aside0.mk hn9
        clear hx9 hn9
        generalize hw9 : w8.alloc _ = w9
        have hd9 : Aside0 (DevK wb w9 g d1 (fun j => j = b8)) := ⟨by rw [← hw9]; exact hd9.out⟩
        have hB9 : Aside0 (Below wb.heap.size wb w9) := ⟨by rw [← hw9]; exact hB9.out⟩
        have hx9 : w9.heap[b8]? = some (.cells (agM (nthM a k)) 30 (0, 0)) := by rw [← hw9]; exact hex.out
        have hn9 : w9.heap[w8.heap.size]? = some (.cells (agM (nthM a k)) 30 (0, 0)) := by rw [← hw9]; exact hny.out
        clear hw9 hex hny
        generalize w8.heap.size = b11 at *
        have HI2 : Aside0 (LaI wb w9 g b8 a d1 (k + 1)) := ⟨⟨hd9.out, S1.out, hnx.out, ⟨_, hx9⟩, hB9.out, HI.out.b8⟩⟩
        obtain ⟨u0, u1, u2, u3⟩ := m_cells hn9
        obtain ⟨z0, z1, z2, z3⟩ := m_cells hx9
        clear hx9 hn9
        dsimp only [nthM] at u0 u1 u2 u3 z0 z1 z2 z3
        go_wp2_with fail
        go_roundw
        case rel => exact ⟨k + 1, d1, by omega, by go_num, HI2⟩
        case measure => simp only [intOf]; omega
      · have hmy := Aside0.mk (may_no (nthM a k) hm)
        clear hm
        go_wp2_with fail
        refine (hmy.out w5).mono ?_
        rintro e w6 ⟨rfl, hb6⟩
        have hB6 := Aside0.mk (hdv.out.2.trans (hb6.mono hdv.out.2.size))
        clear hb6
        go_wp2_with fail
        go_ret
        exact ⟨rfl, by rw [hba.out]; exact hbx.out.trans (hB6.out.mono (Nat.le_of_lt hxl))⟩
    · have f0 : decide ((k : Int) ≤ (n : Int)) = false := by simp; omega
      have hB := Aside0.mk HI.out.bel
      go_wp2_with fail
      go_ret
      exact ⟨rfl, by rw [hba.out]; exact hbx.out.trans (hB.out.mono (Nat.le_of_lt hxl))⟩
set_option maxHeartbeats 1000000 in
set_option maxRecDepth 100000 in
theorem last_out (a : MS) (n : Int) (w : World) (h : ¬ a.mayP ∨ n < 0 ∨ 20 < n) :
    Calls Try.prog 4 #[.agg #[.int .i64 a.no, .int .i64 a.ep, .int .i64 a.st, .int .i64 a.ck], .int .i64 n] w fun e w' => e = .returned (.bool true) ∧ Below w.heap.size w w' := by
  have haw := Aside0.mk awake_calls
  have hbx := Aside0.mk (below_alloc (Below.refl w.heap.size w) (.cells (agM a) 30))
  have hx := Aside0.mk (heap_alloc_new w (.cells (agM a) 30))
  have hxl : w.heap.size < (w.alloc (.cells (agM a) 30)).heap.size := by rw [World.size_alloc]; omega
  by_cases ha : a.mayP
  · have hma := Aside0.mk (may_yes a ha)
    by_cases h1 : n < 0
    · have e1 : decide (n < 0) = true := by simpa using h1
      clear ha h h1
      go_enter Try.func4, Try.ntmps4
      go_wp2_with fail
      generalize w.alloc (.cells (agM a) 30) = wb at *
      refine (haw.out wb).mono ?_
      rintro e w1 ⟨rfl, hb1⟩
      obtain ⟨y0, y1, y2, y3⟩ := m_cells ((hb1.block w.heap.size hxl).trans hx.out)
      replace hb1 := Aside0.mk hb1
      go_wp2_with fail
      refine (hma.out w1).mono ?_
      rintro e w2 ⟨rfl, hb2⟩
      have hB2 := Aside0.mk (hbx.out.trans ((hb1.out.trans (hb2.mono hb1.out.size)).mono (Nat.le_of_lt hxl)))
      clear y0 y1 y2 y3 hb1 hb2
      go_wp2_with fail
      go_ret
      exact ⟨rfl, hB2.out⟩
    · have e1 : decide (n < 0) = false := by simpa using h1
      have e2 : decide (n > 20) = true := by rcases h with q | q | q; exact absurd ha q; exact absurd q h1; simpa using q
      clear ha h h1
      go_enter Try.func4, Try.ntmps4
      go_wp2_with fail
      generalize w.alloc (.cells (agM a) 30) = wb at *
      refine (haw.out wb).mono ?_
      rintro e w1 ⟨rfl, hb1⟩
      obtain ⟨y0, y1, y2, y3⟩ := m_cells ((hb1.block w.heap.size hxl).trans hx.out)
      replace hb1 := Aside0.mk hb1
      go_wp2_with fail
      refine (hma.out w1).mono ?_
      rintro e w2 ⟨rfl, hb2⟩
      have hB2 := Aside0.mk (hbx.out.trans ((hb1.out.trans (hb2.mono hb1.out.size)).mono (Nat.le_of_lt hxl)))
      clear y0 y1 y2 y3 hb1 hb2
      go_wp2_with fail
      go_ret
      exact ⟨rfl, hB2.out⟩
  · have hma := Aside0.mk (may_no a ha)
    clear ha h
    go_enter Try.func4, Try.ntmps4
    go_wp2_with fail
    generalize w.alloc (.cells (agM a) 30) = wb at *
    refine (haw.out wb).mono ?_
    rintro e w1 ⟨rfl, hb1⟩
    obtain ⟨y0, y1, y2, y3⟩ := m_cells ((hb1.block w.heap.size hxl).trans hx.out)
    replace hb1 := Aside0.mk hb1
    go_wp2_with fail
    refine (hma.out w1).mono ?_
    rintro e w2 ⟨rfl, hb2⟩
    have hB2 := Aside0.mk (hbx.out.trans ((hb1.out.trans (hb2.mono hb1.out.size)).mono (Nat.le_of_lt hxl)))
    clear y0 y1 y2 y3 hb1 hb2
    go_wp2_with fail
    go_ret
    exact ⟨rfl, hB2.out⟩
def bobbinlaw09_MasterLast.f (a0_0 : Int) (a0_1 : Int) (a0_2 : Int) (a0_3 : Int) (a1 : Int) : Option Bool := some true
theorem bobbinlaw09_MasterLast.calls (a0_0 : Int) (a0_1 : Int) (a0_2 : Int) (a0_3 : Int) (a1 : Int) (r : Bool) (w : World) (h : bobbinlaw09_MasterLast.f a0_0 a0_1 a0_2 a0_3 a1 = some r) :
    Calls Try.prog 4 #[.agg #[.int .i64 a0_0, .int .i64 a0_1, .int .i64 a0_2, .int .i64 a0_3], .int .i64 a1] w fun e w' => e = .returned (.bool r) ∧ Below w.heap.size w w' := by
  obtain rfl : true = r := Option.some.inj h
  by_cases hh : ¬ (⟨a0_0, a0_1, a0_2, a0_3⟩ : MS).mayP ∨ a1 < 0 ∨ 20 < a1
  · exact last_out ⟨a0_0, a0_1, a0_2, a0_3⟩ a1 w hh
  · obtain ⟨n, rfl⟩ : ∃ n : Nat, a1 = n := ⟨a1.toNat, by omega⟩
    exact last_walk ⟨a0_0, a0_1, a0_2, a0_3⟩ n (by omega) (Decidable.not_not.1 (fun q => hh (.inl q))) w
end Go.Proofs.Ytfaflgdhffkaiaa.Print
