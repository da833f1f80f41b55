/- MasterWrites: any master is written as the document says, and is durable. -/
import Derived.Test.YtfaflgdhffkaiaaRTell
import Derived.Test.YtfaflgdhffkaiaaMLaw1
namespace Go.Proofs.Ytfaflgdhffkaiaa.Print
open Go.RowKit Go.Proofs.YtfaflgdhffkaiaaW.PrintWords Go.Proofs.YtfaflgdhffkaiaaW.PrintLast Go.Proofs.YtfaflgdhffkaiaaW.PrintMore
set_option linter.unusedVariables false
set_option linter.unusedSimpArgs false
theorem crash_noneL {d : DS} (f : Nat → Int) (h : d.W = []) : (crashD d f).L = d.D := by
  show crL d f (List.range d.W.length) = d.D
  rw [h]
  rfl
theorem rmay_yes (m : MS) (h : m.mayP) (w : World) : Calls Try.prog 19 #[.agg #[.int .i64 m.no, .int .i64 m.ep, .int .i64 m.st, .int .i64 m.ck]] w fun e w' => e = .returned (.bool true) ∧ Below w.heap.size w w' := by
  have := rmay_any m w
  rwa [show m.may = true from decide_eq_true h] at this
theorem rmay_no (m : MS) (h : ¬ m.mayP) (w : World) : Calls Try.prog 19 #[.agg #[.int .i64 m.no, .int .i64 m.ep, .int .i64 m.st, .int .i64 m.ck]] w fun e w' => e = .returned (.bool false) ∧ Below w.heap.size w w' := by
  have := rmay_any m w
  rwa [show m.may = false from decide_eq_false h] at this
set_option maxHeartbeats 2000000 in
set_option maxRecDepth 100000 in
theorem writes_out (n : Int) (m : MS) (w : World) (h : n < 0 ∨ 5 < n) :
    Calls Try.prog 8 #[.int .i64 n, .agg #[.int .i64 m.no, .int .i64 m.ep, .int .i64 m.st, .int .i64 m.ck]] w fun e w' => e = .returned (.bool true) ∧ Below w.heap.size w w' := by
  have haw := Aside0.mk awake_calls
  have hbx := Aside0.mk (below_alloc (Below.refl w.heap.size w) (.cells (agM m) 30))
  have hx := Aside0.mk (heap_alloc_new w (.cells (agM m) 30))
  have hxl : w.heap.size < (w.alloc (.cells (agM m) 30)).heap.size := by rw [World.size_alloc]; omega
  by_cases h1 : n < 0
  · have e1 : decide (n < 0) = true := by simpa using h1
    clear h h1
    go_enter Try.func8, Try.ntmps8
    go_wp2_with fail
    generalize w.alloc (.cells (agM m) 30) = wb at *
    have hcl := Aside0.mk (fun X (hX : Below wb.heap.size wb X) => m_cells ((hX.block w.heap.size hxl).trans hx.out))
    generalize hba : w.heap.size = ba at *
    replace hba := Aside0.mk hba
    clear hx
    refine (haw.out wb).mono ?_
    rintro e w1 ⟨rfl, hb1⟩
    have hB1 := Aside0.mk (hbx.out.trans (hb1.mono (Nat.le_of_lt hxl)))
    clear hb1
    go_wp2_with fail
    go_ret
    exact ⟨rfl, by rw [hba.out]; exact hB1.out⟩
  · have e1 : decide (n < 0) = false := by simpa using h1
    have e2 : decide (n > 5) = true := by rcases h with q | q; exact absurd q h1; simpa using q
    clear h h1
    go_enter Try.func8, Try.ntmps8
    go_wp2_with fail
    generalize w.alloc (.cells (agM m) 30) = wb at *
    have hcl := Aside0.mk (fun X (hX : Below wb.heap.size wb X) => m_cells ((hX.block w.heap.size hxl).trans hx.out))
    generalize hba : w.heap.size = ba at *
    replace hba := Aside0.mk hba
    clear hx
    refine (haw.out wb).mono ?_
    rintro e w1 ⟨rfl, hb1⟩
    have hB1 := Aside0.mk (hbx.out.trans (hb1.mono (Nat.le_of_lt hxl)))
    clear hb1
    go_wp2_with fail
    go_ret
    exact ⟨rfl, by rw [hba.out]; exact hB1.out⟩
set_option maxHeartbeats 2000000 in
set_option maxRecDepth 100000 in
theorem writes_zero (m : MS) (w : World) :
    Calls Try.prog 8 #[.int .i64 0, .agg #[.int .i64 m.no, .int .i64 m.ep, .int .i64 m.st, .int .i64 m.ck]] w fun e w' => e = .returned (.bool true) ∧ Below w.heap.size w w' := by
  have haw := Aside0.mk awake_calls
  have hbx := Aside0.mk (below_alloc (Below.refl w.heap.size w) (.cells (agM m) 30))
  have hx := Aside0.mk (heap_alloc_new w (.cells (agM m) 30))
  have hxl : w.heap.size < (w.alloc (.cells (agM m) 30)).heap.size := by rw [World.size_alloc]; omega
  by_cases hm : m.mayP
  · have hwr := Aside0.mk (fun X => mwrite_short none m 0 X hm (by decide) (fun Y _ => len_nil Y))
    have hr := Aside0.mk (rmay_yes m hm)
    have hy := Aside0.mk (may_yes m hm)
    clear hm
    go_enter Try.func8, Try.ntmps8
    go_wp2_with fail
    generalize w.alloc (.cells (agM m) 30) = wb at *
    have hcl := Aside0.mk (fun X (hX : Below wb.heap.size wb X) => m_cells ((hX.block w.heap.size hxl).trans hx.out))
    generalize hba : w.heap.size = ba at *
    replace hba := Aside0.mk hba
    clear hx
    refine (haw.out wb).mono ?_
    rintro e w1 ⟨rfl, hb1⟩
    obtain ⟨y0, y1, y2, y3⟩ := hcl.out w1 hb1
    replace hb1 := Aside0.mk hb1
    go_wp2_with fail
    refine (hwr.out w1).mono ?_
    rintro e w3 ⟨rfl, hb3⟩
    have hB3 := Aside0.mk (hb1.out.trans (hb3.mono hb1.out.size))
    have hwt : Aside0 (∀ X, Below wb.heap.size wb X → Calls Try.prog 20 #[.pointer none] X fun e w' => e = .returned (.int .i64 0) ∧ w' = X) := ⟨fun X _ => waits_nil X⟩
    clear y0 y1 y2 y3 hb1 hb3
    obtain ⟨y0, y1, y2, y3⟩ := hcl.out w3 hB3.out
    go_wp2_with fail
    refine (hr.out w3).mono ?_
    rintro e w4 ⟨rfl, hb4⟩
    have hB4 := Aside0.mk (hB3.out.trans (hb4.mono hB3.out.size))
    clear y0 y1 y2 y3 hb4
    obtain ⟨y0, y1, y2, y3⟩ := hcl.out w4 hB4.out
    go_wp2_with fail
    refine (hy.out w4).mono ?_
    rintro e w5 ⟨rfl, hb5⟩
    have hB5 := Aside0.mk (hB4.out.trans (hb5.mono hB4.out.size))
    clear y0 y1 y2 y3 hb5
    go_wp2_with fail
    refine (hwt.out w5 hB5.out).mono ?_
    rintro e wz ⟨rfl, hq_⟩
    obtain rfl := hq_.symm
    go_wp2_with fail
    go_ret
    exact ⟨rfl, by rw [hba.out]; exact hbx.out.trans (hB5.out.mono (Nat.le_of_lt hxl))⟩
  · have hwr := Aside0.mk (fun X => mwrite_bad none m X hm)
    have hr := Aside0.mk (rmay_no m hm)
    have hy := Aside0.mk (may_no m hm)
    clear hm
    go_enter Try.func8, Try.ntmps8
    go_wp2_with fail
    generalize w.alloc (.cells (agM m) 30) = wb at *
    have hcl := Aside0.mk (fun X (hX : Below wb.heap.size wb X) => m_cells ((hX.block w.heap.size hxl).trans hx.out))
    generalize hba : w.heap.size = ba at *
    replace hba := Aside0.mk hba
    clear hx
    refine (haw.out wb).mono ?_
    rintro e w1 ⟨rfl, hb1⟩
    obtain ⟨y0, y1, y2, y3⟩ := hcl.out w1 hb1
    replace hb1 := Aside0.mk hb1
    go_wp2_with fail
    refine (hwr.out w1).mono ?_
    rintro e w3 ⟨rfl, hb3⟩
    have hB3 := Aside0.mk (hb1.out.trans (hb3.mono hb1.out.size))
    have hwt : Aside0 (∀ X, Below wb.heap.size wb X → Calls Try.prog 20 #[.pointer none] X fun e w' => e = .returned (.int .i64 0) ∧ w' = X) := ⟨fun X _ => waits_nil X⟩
    clear y0 y1 y2 y3 hb1 hb3
    obtain ⟨y0, y1, y2, y3⟩ := hcl.out w3 hB3.out
    go_wp2_with fail
    refine (hr.out w3).mono ?_
    rintro e w4 ⟨rfl, hb4⟩
    have hB4 := Aside0.mk (hB3.out.trans (hb4.mono hB3.out.size))
    clear y0 y1 y2 y3 hb4
    obtain ⟨y0, y1, y2, y3⟩ := hcl.out w4 hB4.out
    go_wp2_with fail
    refine (hy.out w4).mono ?_
    rintro e w5 ⟨rfl, hb5⟩
    have hB5 := Aside0.mk (hB4.out.trans (hb5.mono hB4.out.size))
    clear y0 y1 y2 y3 hb5
    go_wp2_with fail
    refine (hwt.out w5 hB5.out).mono ?_
    rintro e wz ⟨rfl, hq_⟩
    obtain rfl := hq_.symm
    go_wp2_with fail
    go_ret
    exact ⟨rfl, by rw [hba.out]; exact hbx.out.trans (hB5.out.mono (Nat.le_of_lt hxl))⟩
set_option maxHeartbeats 2000000 in
set_option maxRecDepth 100000 in
theorem writes_short (n : Nat) (h1 : 1 ≤ n) (h5 : n ≤ 5) (m : MS) (hn : m.mayP → n < 2) (w : World) :
    Calls Try.prog 8 #[.int .i64 (n : Int), .agg #[.int .i64 m.no, .int .i64 m.ep, .int .i64 m.st, .int .i64 m.ck]] w fun e w' => e = .returned (.bool true) ∧ Below w.heap.size w w' := by
  have haw := Aside0.mk awake_calls
  have hbx := Aside0.mk (below_alloc (Below.refl w.heap.size w) (.cells (agM m) 30))
  have hx := Aside0.mk (heap_alloc_new w (.cells (agM m) 30))
  have hxl : w.heap.size < (w.alloc (.cells (agM m) 30)).heap.size := by rw [World.size_alloc]; omega
  have e1 : decide ((n : Int) < 0) = false := by simp
  have e2 : decide ((n : Int) > 5) = false := by simp; omega
  have e3 : decide ((n : Int) > 0) = true := by simp; omega
  by_cases hm : m.mayP
  · have hn2 := hn hm
    have hr := Aside0.mk (rmay_yes m hm)
    have hy := Aside0.mk (may_yes m hm)
    have hwr : Aside0 (∀ (wb X : World) (g : Nat), Dev wb X g (newD n) → Calls Try.prog 15 #[.pointer (some ⟨g, 0, none⟩), .agg #[.int .i64 m.no, .int .i64 m.ep, .int .i64 m.st, .int .i64 m.ck]] X fun e w' => e = .returned (.int .i64 1) ∧ Below X.heap.size X w') := ⟨fun wb X g hd => mwrite_short (some ⟨g, 0, none⟩) m n X hm hn2 (fun Y hY => by have := (hd.below hY).lenC; rwa [show (newD n).D.length = n by simp [newD]] at this)⟩
    have f2 : decide ((n : Int) < 2) = true := by simp; omega
    clear hm hn hn2
    go_enter Try.func8, Try.ntmps8
    go_wp2_with fail
    generalize w.alloc (.cells (agM m) 30) = wb at *
    have hcl := Aside0.mk (fun X (hX : Below wb.heap.size wb X) => m_cells ((hX.block w.heap.size hxl).trans hx.out))
    generalize hba : w.heap.size = ba at *
    replace hba := Aside0.mk hba
    clear hx
    refine (haw.out wb).mono ?_
    rintro e w1 ⟨rfl, hb1⟩
    replace hb1 := Aside0.mk hb1
    go_wp2_with fail
    refine (Dev.new n wb w1 hb1.out h1 (by omega)).mono ?_
    rintro e w2 ⟨g, rfl, hd2, hB2⟩
    obtain ⟨y0, y1, y2, y3⟩ := hcl.out w2 hB2
    replace hd2 := Aside0.mk hd2
    replace hB2 := Aside0.mk hB2
    clear hb1
    go_wp2_with fail
    refine (hwr.out wb w2 g hd2.out).mono ?_
    rintro e w3 ⟨rfl, hb3⟩
    have hB3 := Aside0.mk (hB2.out.trans (hb3.mono hB2.out.size))
    have hwt : Aside0 (∀ X, Below w3.heap.size w3 X → Calls Try.prog 20 #[.pointer (some ⟨g, 0, none⟩)] X fun e w' => e = .returned (.int .i64 0) ∧ w' = X) := ⟨fun X hX => ((hd2.out.below hb3).below hX).waits⟩
    have hb3r := Aside0.mk (Below.refl w3.heap.size w3)
    clear y0 y1 y2 y3 hb3 hd2 hB2
    obtain ⟨y0, y1, y2, y3⟩ := hcl.out w3 hB3.out
    go_wp2_with fail
    refine (hr.out w3).mono ?_
    rintro e w4 ⟨rfl, hb4⟩
    have hB4 := Aside0.mk (hB3.out.trans (hb4.mono hB3.out.size))
    replace hb4 := Aside0.mk hb4
    clear y0 y1 y2 y3
    obtain ⟨y0, y1, y2, y3⟩ := hcl.out w4 hB4.out
    go_wp2_with fail
    refine (hy.out w4).mono ?_
    rintro e w5 ⟨rfl, hb5⟩
    have hB5 := Aside0.mk (hB4.out.trans (hb5.mono hB4.out.size))
    have hb5 := Aside0.mk (hb4.out.trans (hb5.mono hb4.out.size))
    clear y0 y1 y2 y3
    go_wp2_with fail
    refine (hwt.out w5 hb5.out).mono ?_
    rintro e wz ⟨rfl, hq_⟩
    obtain rfl := hq_.symm
    go_wp2_with fail
    go_ret
    exact ⟨rfl, by rw [hba.out]; exact hbx.out.trans (hB5.out.mono (Nat.le_of_lt hxl))⟩
  · have hr := Aside0.mk (rmay_no m hm)
    have hy := Aside0.mk (may_no m hm)
    have hwr : Aside0 (∀ (wb X : World) (g : Nat), Dev wb X g (newD n) → Calls Try.prog 15 #[.pointer (some ⟨g, 0, none⟩), .agg #[.int .i64 m.no, .int .i64 m.ep, .int .i64 m.st, .int .i64 m.ck]] X fun e w' => e = .returned (.int .i64 1) ∧ Below X.heap.size X w') := ⟨fun wb X g hd => mwrite_bad (some ⟨g, 0, none⟩) m X hm⟩
    clear hm hn
    go_enter Try.func8, Try.ntmps8
    go_wp2_with fail
    generalize w.alloc (.cells (agM m) 30) = wb at *
    have hcl := Aside0.mk (fun X (hX : Below wb.heap.size wb X) => m_cells ((hX.block w.heap.size hxl).trans hx.out))
    generalize hba : w.heap.size = ba at *
    replace hba := Aside0.mk hba
    clear hx
    refine (haw.out wb).mono ?_
    rintro e w1 ⟨rfl, hb1⟩
    replace hb1 := Aside0.mk hb1
    go_wp2_with fail
    refine (Dev.new n wb w1 hb1.out h1 (by omega)).mono ?_
    rintro e w2 ⟨g, rfl, hd2, hB2⟩
    obtain ⟨y0, y1, y2, y3⟩ := hcl.out w2 hB2
    replace hd2 := Aside0.mk hd2
    replace hB2 := Aside0.mk hB2
    clear hb1
    go_wp2_with fail
    refine (hwr.out wb w2 g hd2.out).mono ?_
    rintro e w3 ⟨rfl, hb3⟩
    have hB3 := Aside0.mk (hB2.out.trans (hb3.mono hB2.out.size))
    have hwt : Aside0 (∀ X, Below w3.heap.size w3 X → Calls Try.prog 20 #[.pointer (some ⟨g, 0, none⟩)] X fun e w' => e = .returned (.int .i64 0) ∧ w' = X) := ⟨fun X hX => ((hd2.out.below hb3).below hX).waits⟩
    have hb3r := Aside0.mk (Below.refl w3.heap.size w3)
    clear y0 y1 y2 y3 hb3 hd2 hB2
    obtain ⟨y0, y1, y2, y3⟩ := hcl.out w3 hB3.out
    go_wp2_with fail
    refine (hr.out w3).mono ?_
    rintro e w4 ⟨rfl, hb4⟩
    have hB4 := Aside0.mk (hB3.out.trans (hb4.mono hB3.out.size))
    replace hb4 := Aside0.mk hb4
    clear y0 y1 y2 y3
    obtain ⟨y0, y1, y2, y3⟩ := hcl.out w4 hB4.out
    go_wp2_with fail
    refine (hy.out w4).mono ?_
    rintro e w5 ⟨rfl, hb5⟩
    have hB5 := Aside0.mk (hB4.out.trans (hb5.mono hB4.out.size))
    have hb5 := Aside0.mk (hb4.out.trans (hb5.mono hb4.out.size))
    clear y0 y1 y2 y3
    go_wp2_with fail
    refine (hwt.out w5 hb5.out).mono ?_
    rintro e wz ⟨rfl, hq_⟩
    obtain rfl := hq_.symm
    go_wp2_with fail
    go_ret
    exact ⟨rfl, by rw [hba.out]; exact hbx.out.trans (hB5.out.mono (Nat.le_of_lt hxl))⟩
set_option maxHeartbeats 2000000 in
set_option maxRecDepth 100000 in
theorem writes_ok (n : Nat) (h2 : 2 ≤ n) (h5 : n ≤ 5) (m : MS) (hm : m.mayP) (w : World) :
    Calls Try.prog 8 #[.int .i64 (n : Int), .agg #[.int .i64 m.no, .int .i64 m.ep, .int .i64 m.st, .int .i64 m.ck]] w fun e w' => e = .returned (.bool true) ∧ Below w.heap.size w w' := by
  have haw := Aside0.mk awake_calls
  have hbx := Aside0.mk (below_alloc (Below.refl w.heap.size w) (.cells (agM m) 30))
  have hx := Aside0.mk (heap_alloc_new w (.cells (agM m) 30))
  have hxl : w.heap.size < (w.alloc (.cells (agM m) 30)).heap.size := by rw [World.size_alloc]; omega
  have e1 : decide ((n : Int) < 0) = false := by simp
  have e2 : decide ((n : Int) > 5) = false := by simp; omega
  have e3 : decide ((n : Int) > 0) = true := by simp; omega
  have e4 : decide ((n : Int) < 2) = false := by simp; omega
  have hr := Aside0.mk (rmay_yes m hm)
  have hy := Aside0.mk (may_yes m hm)
  obtain ⟨E1, S1, L1, W1, D1⟩ := mw_st (St.new n (by omega)) h2 m hm
  have hsec := Aside0.mk (rsector_any m hm)
  have hmod : Aside0 (m.no.tmod 2 = m.no % 2 ∧ 0 ≤ m.no % 2 ∧ m.no % 2 < 2) := ⟨Int.tmod_eq_emod_of_nonneg (by have := hm.1; omega), by omega, by omega⟩
  have hwr := Aside0.mk (fun (wb X : World) (g : Nat) (h1 : Dev wb X g (newD n)) (h3 : Below wb.heap.size wb X) => mwrite_any h1 h3 (Below.refl _ _) (newD_ok n (by omega)) (by decide) m hm (by simp [newD]; omega))
  have hcr : Aside0 (∀ (wb X : World) (g : Nat), Dev wb X g (mwD (newD n) m) → Below wb.heap.size wb X → Calls Try.prog 18 #[.pointer (some ⟨g, 0, none⟩), .agg #[.slice none 0 0, .int .i64 (-1), .int .i64 0]] X fun e w' => ∃ g2, e = .returned (.pointer (some ⟨g2, 0, none⟩)) ∧ Dev wb w' g2 (crashD (mwD (newD n) m) (kf (fun _ => false) 0 (-1) 0)) ∧ Below X.heap.size X w') := ⟨fun wb X g hd hB => hd.crash hB S1.ok (by decide) (by rw [S1.len]; omega) none 0 0 (fun _ => false) (-1) 0 (by decide) (fun j hj => by omega)⟩
  have hok2 := crashD_ok S1.ok (kf (fun _ => false) 0 (-1) 0) (kf_ok _ _ _ _)
  have hln2 := (crashD_len (mwD (newD n) m) (kf (fun _ => false) 0 (-1) 0)).trans S1.len
  have hL2 : (crashD (mwD (newD n) m) (kf (fun _ => false) 0 (-1) 0)).L = (newD n).L.set (m.no % 2).toNat m.sect := by rw [crash_noneL _ W1, D1, L1]
  have hdd2 : (crashD (mwD (newD n) m) (kf (fun _ => false) 0 (-1) 0)).dead = false := rfl
  have hrb : readB (crashD (mwD (newD n) m) (kf (fun _ => false) 0 (-1) 0)) (m.no % 2) = m.sect := by
    have hi := hmod.out
    unfold readB
    rw [if_pos ⟨hdd2, hi.2.1, by rw [hln2]; omega⟩, hL2, List.getD_eq_getElem?_getD, List.getElem?_set_self (by simp [newD]; omega)]
    rfl
  have hrd : Aside0 (∀ (wb X : World) (g : Nat), Dev wb X g (crashD (mwD (newD n) m) (kf (fun _ => false) 0 (-1) 0)) → Calls Try.prog 16 #[.pointer (some ⟨g, 0, none⟩), .int .i64 (m.no.tmod 2)] X fun e w' => ∃ A c, e = .returned (.tuple #[.slice A 256 c, .int .i64 0]) ∧ 256 ≤ c ∧ Kd.C (Kd.int .u8) w' A 256 m.sect ∧ Below X.heap.size X w') := ⟨fun wb X g hd => by
    have hi := hmod.out
    have h0 := hd.read hok2 (m.no % 2)
    rw [readE_live' hdd2 hi.2.1 (by rw [hln2]; omega), hrb] at h0
    rw [hi.1]
    refine h0.mono ?_
    rintro e w' ⟨v, rfl, hR, hb⟩
    obtain ⟨A, c, rfl⟩ := Kd.R_slice hR
    have h3 := Kd.R_reads' hR
    rw [m.sect_len] at h3 ⊢
    exact ⟨A, c, rfl, h3.2.1, h3.2.2, hb⟩⟩
  have hsm : Aside0 (∀ (A B : Option Addr) (c d : Nat) (X : World), Kd.C (Kd.int .u8) X A 256 m.sect → 256 ≤ c → Kd.C (Kd.int .u8) X B 256 m.sect → 256 ≤ d → Calls Try.prog 21 #[.slice A 256 c, .slice B 256 d] X fun e w' => e = .returned (.bool true) ∧ Drawn0 X w') := ⟨fun A B c d X h1 h2 h3 h4 => by
    have := rsame_any A B c d m.sect m.sect X m.sect_len m.sect_len h1 h2 h3 h4
    rwa [decide_eq_true rfl] at this⟩
  replace E1 := Aside0.mk E1
  clear hm S1 L1 W1 D1 hok2 hln2 hL2 hdd2 hrb
  generalize crashD (mwD (newD n) m) (kf (fun _ => false) 0 (-1) 0) = d2 at *
  go_enter Try.func8, Try.ntmps8
  go_wp2_with fail
  generalize w.alloc (.cells (agM m) 30) = wb at *
  have hcl := Aside0.mk (fun X (hX : Below wb.heap.size wb X) => m_cells ((hX.block w.heap.size hxl).trans hx.out))
  generalize hba : w.heap.size = ba at *
  replace hba := Aside0.mk hba
  clear hx
  refine (haw.out wb).mono ?_
  rintro e w1 ⟨rfl, hb1⟩
  replace hb1 := Aside0.mk hb1
  go_wp2_with fail
  refine (Dev.new n wb w1 hb1.out (by omega) (by omega)).mono ?_
  rintro e w2 ⟨g, rfl, hd2, hB2⟩
  obtain ⟨y0, y1, y2, y3⟩ := hcl.out w2 hB2
  replace hd2 := Aside0.mk hd2
  replace hB2 := Aside0.mk hB2
  clear hb1
  go_wp2_with fail
  refine (hwr.out wb w2 g hd2.out hB2.out).mono ?_
  rintro e w3 ⟨rfl, hd3, hB3, _⟩
  rw [E1.out]
  replace hd3 := Aside0.mk hd3
  replace hB3 := Aside0.mk hB3
  clear y0 y1 y2 y3 hd2 hB2 E1 hwr
  generalize mwD (newD n) m = d1 at *
  obtain ⟨y0, y1, y2, y3⟩ := hcl.out w3 hB3.out
  go_wp2_with fail
  refine (hr.out w3).mono ?_
  rintro e w4 ⟨rfl, hb4⟩
  have hB4 := Aside0.mk (hB3.out.trans (hb4.mono hB3.out.size))
  have hd4 := Aside0.mk (hd3.out.below hb4)
  clear y0 y1 y2 y3 hb4 hd3 hB3
  obtain ⟨y0, y1, y2, y3⟩ := hcl.out w4 hB4.out
  go_wp2_with fail
  refine (hy.out w4).mono ?_
  rintro e w5 ⟨rfl, hb5⟩
  have hB5 := Aside0.mk (hB4.out.trans (hb5.mono hB4.out.size))
  have hd5 := Aside0.mk (hd4.out.below hb5)
  clear y0 y1 y2 y3 hb5 hd4 hB4
  obtain ⟨y0, y1, y2, y3⟩ := hcl.out w5 hB5.out
  have hB5d := Aside0.mk (hB5.out.trans ((below_drew (Below.refl w5.heap.size w5)).mono hB5.out.size))
  have hd5d := Aside0.mk (hd5.out.below (below_drew (Below.refl w5.heap.size w5)))
  go_upto_region 13 with fail
  go_region_held3 (fun X => X.cell? ⟨ba, 0, none⟩ = some (.int .i64 m.no))
    (first | exact y0 | exact x0 | exact v0)
    (first
      | (go_at_call 18; refine (hcr.out wb w5.drew g hd5d.out hB5d.out).mono ?_; rintro e w6 ⟨g2, rfl, hd6, hb6⟩; have hB6 := Aside0.mk (hB5d.out.trans (hb6.mono hB5d.out.size)); have x0 := (hcl.out w6 hB6.out).1; replace hd6 := Aside0.mk hd6)
      | (go_at_call 16; refine (hrd.out wb w6 g2 hd6.out).mono ?_; rintro e w7 ⟨A7, c7, rfl, hc7, hC7, hb7⟩; have hB7 := Aside0.mk (hB6.out.trans (hb7.mono hB6.out.size)); have v0 := (hcl.out w7 hB7.out).1; replace hC7 := Aside0.mk hC7))
  clear y0 y1 y2 y3 x0 v0 hd6 hd5d hB5d hB5 hd5 hB6
  obtain ⟨y0, y1, y2, y3⟩ := hcl.out w7 hB7.out
  go_wp2_with fail
  refine (hsec.out w7).mono ?_
  rintro e w8 ⟨A8, c8, rfl, hc8, hC8, hb8⟩
  have hB8 := Aside0.mk (hB7.out.trans (hb8.mono hB7.out.size))
  have hs8 := Aside0.mk (hsm.out A7 A8 c7 c8 w8 (Kd.C_below hC7.out hb8) hc7 hC8 hc8)
  clear y0 y1 y2 y3 hb8 hC8 hC7 hB7
  go_wp2_with fail
  refine hs8.out.mono ?_
  rintro e w9 ⟨rfl, hdr⟩
  obtain ⟨n9, rfl⟩ := hdr
  have hB9 := Aside0.mk (pw_below_drewN hB8.out n9)
  generalize w8.drewN n9 = w9 at *
  clear hs8 hB8
  go_wp2_with fail
  go_ret
  exact ⟨rfl, by rw [hba.out]; exact hbx.out.trans (hB9.out.mono (Nat.le_of_lt hxl))⟩
def bobbinlaw09_MasterWrites.f (a0 : Int) (a1_0 : Int) (a1_1 : Int) (a1_2 : Int) (a1_3 : Int) : Option Bool := some true
theorem bobbinlaw09_MasterWrites.calls (a0 : Int) (a1_0 : Int) (a1_1 : Int) (a1_2 : Int) (a1_3 : Int) (r : Bool) (w : World) (h : bobbinlaw09_MasterWrites.f a0 a1_0 a1_1 a1_2 a1_3 = some r) :
    Calls Try.prog 8 #[.int .i64 a0, .agg #[.int .i64 a1_0, .int .i64 a1_1, .int .i64 a1_2, .int .i64 a1_3]] w fun e w' => e = .returned (.bool r) ∧ Below w.heap.size w w' := by
  obtain rfl : true = r := Option.some.inj h
  by_cases hh : a0 < 0 ∨ 5 < a0
  · exact writes_out a0 ⟨a1_0, a1_1, a1_2, a1_3⟩ w hh
  · obtain ⟨n, rfl⟩ : ∃ n : Nat, a0 = n := ⟨a0.toNat, by omega⟩
    by_cases h0 : n = 0
    · subst h0
      exact writes_zero ⟨a1_0, a1_1, a1_2, a1_3⟩ w
    · by_cases hm : (⟨a1_0, a1_1, a1_2, a1_3⟩ : MS).mayP ∧ 2 ≤ n
      · exact writes_ok n hm.2 (by omega) ⟨a1_0, a1_1, a1_2, a1_3⟩ hm.1 w
      · exact writes_short n (by omega) (by omega) ⟨a1_0, a1_1, a1_2, a1_3⟩ (fun q => Nat.lt_of_not_le (fun c => hm ⟨q, c⟩)) w
end Go.Proofs.Ytfaflgdhffkaiaa.Print
