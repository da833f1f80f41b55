/- ClockTouches. -/
import Derived.Test.YtoklljioloekmaaClockTells
import Derived.Test.YtoklljioloekmaaPureTouch
import Derived.Test.YtoklljioloekmaaPrint1
import Derived.BigQuiet
namespace Go.Proofs.Ytoklljioloekmaa.Print
open Go.RowKit Go.Proofs.YtoklljioloekmaaW.PrintWords Go.Proofs.YtoklljioloekmaaW.PrintLast Go.Proofs.YtoklljioloekmaaW.PrintMore
attribute [local go_sem high] eqA32
set_option linter.unusedVariables false
set_option linter.unusedSimpArgs false
theorem meas16 {n i : Nat} (h : i < n) (hn : n ≤ 1000) : n - (intOf (.int .i64 (wrap64 ((i : Int) + 1)))).toNat < n - (intOf (.int .i64 (i : Int))).toNat := by
  have e1 : wrap64 ((i : Int) + 1) = (i : Int) + 1 := by unfold wrap64; omega
  rw [e1]
  simp only [intOf]
  omega
set_option maxHeartbeats 8000000 in
set_option maxRecDepth 100000 in
theorem touches_walk (h : Int) (A : Option Addr) (c : Nat) (l : List S32) (p : Int) (on : Bool) (w : World) (haw : ∀ w : World, Calls Try.prog 8 #[] w fun e w' => e = .returned (.bool true) ∧ Below w.heap.size w w') (hC : Kd.C k32 w A l.length l) (hc : l.length ≤ c)
    (hli : ∀ (W : World) (g : Nat), BL W g h A c l → Calls Try.prog 9 #[.agg #[.int .i64 h, .slice A l.length c]] W fun e w' => e = .returned (.bool true) ∧ Below W.heap.size W w')
    {k1 k2 k3 k4 k5 k6 kc : Nat} {a x : List S32}
    (hh : clock_Has.f kc h l p = some true)
    (t1 : clock_Touch.f k1 h l p = some (h, a, 0)) (t2 : clock_Touch.f k2 h a p = some (h, a, 0))
    (p1 : clock_Pin.f k3 h l p on = some (h, x, 0)) (p2 : clock_Pin.f k4 h x p on = some (h, x, 0))
    (s1 : bobbinref16_Same.f k5 h a h a = some true) (s2 : bobbinref16_Same.f k6 h x h x = some true)
    (la : a.length = l.length) (lx : x.length = l.length) (h40 : l.length ≤ 40)
    (hown : ∀ j : Nat, j < l.length → (rd_T32 l j).f0 = p → (rd_T32 a j).f1 = true ∧ (rd_T32 x j).f2 = on ∧ (rd_T32 a j).f2 = (rd_T32 l j).f2 ∧ (rd_T32 x j).f1 = (rd_T32 l j).f1)
    (hoth : ∀ j : Nat, j < l.length → (rd_T32 l j).f0 ≠ p → rd_T32 a j = rd_T32 l j ∧ rd_T32 x j = rd_T32 l j) :
    Calls Try.prog 7 #[.agg #[.int .i64 h, .slice A l.length c], .int .i64 p, .bool on] w fun e w' => e = .returned (.bool true) ∧ Below w.heap.size w w' := by
  have K3 : Aside0 (BL (w.alloc (.cells #[.int .i64 h, .slice A l.length c] 24)) w.heap.size h A c l) := ⟨BL.made hc hC⟩
  have HB : Aside0 (Below w.heap.size w (w.alloc (.cells #[.int .i64 h, .slice A l.length c] 24))) := ⟨below_alloc (Below.refl _ _) _⟩
  replace hh := Aside0.mk hh
  replace t1 := Aside0.mk t1
  replace t2 := Aside0.mk t2
  replace p1 := Aside0.mk p1
  replace p2 := Aside0.mk p2
  replace s1 := Aside0.mk s1
  replace s2 := Aside0.mk s2
  replace la := Aside0.mk la
  replace lx := Aside0.mk lx
  replace h40 := Aside0.mk h40
  replace hown := Aside0.mk hown
  replace hoth := Aside0.mk hoth
  replace haw := Aside0.mk haw
  replace hli := Aside0.mk hli
  clear hC hc
  go_enter Try.func7, Try.ntmps7
  go_wp2_with fail
  generalize w.alloc _ = w1 at *
  refine (haw.out w1).mono ?_
  rintro e w2 ⟨rfl, hb⟩
  replace K3 := Aside0.mk (K3.out.below hb)
  replace HB := Aside0.mk (HB.out.trans (hb.mono HB.out.size))
  clear hb
  obtain ⟨y0, y1⟩ := K3.out.cells
  go_wp2_with fail
  refine (hli.out w2 _ K3.out).mono ?_
  rintro e w3 ⟨rfl, hb⟩
  clear y0 y1
  replace K3 := Aside0.mk (K3.out.below hb)
  replace HB := Aside0.mk (HB.out.trans (hb.mono HB.out.size))
  clear hb
  obtain ⟨y0, y1⟩ := K3.out.cells
  go_wp2_with fail
  refine (clock_Has.calls kc h A c l p true w3 K3.out.row K3.out.len hh.out).mono ?_
  rintro e w4 ⟨rfl, hb⟩
  clear y0 y1
  replace K3 := Aside0.mk (K3.out.below hb)
  replace HB := Aside0.mk (HB.out.trans (hb.mono HB.out.size))
  clear hb
  obtain ⟨y0, y1⟩ := K3.out.cells
  go_wp2_with fail
  refine (touch_c t1.out K3.out).mono ?_
  clear y0 y1
  rintro e w5 ⟨B0, d0, rfl, hd, hC, hb⟩
  have hal := hb.trans ((below_alloc (Below.refl w5.heap.size w5) (.cells #[.int .i64 h, .slice B0 a.length d0] 24)).mono hb.size)
  replace K3 := Aside0.mk (K3.out.below hal)
  replace HB := Aside0.mk (HB.out.trans (hal.mono HB.out.size))
  have Ka := Aside0.mk (BL.made (h := h) hd hC)
  clear hal hb hd hC
  obtain ⟨y0, y1⟩ := Ka.out.cells
  go_wp2_with fail
  generalize w5.alloc _ = w5_ at *
  refine (touch_c t2.out Ka.out).mono ?_
  clear y0 y1
  rintro e w6 ⟨B1, d1, rfl, hd, hC, hb⟩
  have hal := hb.trans ((below_alloc (Below.refl w6.heap.size w6) (.cells #[.int .i64 h, .slice B1 a.length d1] 24)).mono hb.size)
  replace K3 := Aside0.mk (K3.out.below hal)
  replace Ka := Aside0.mk (Ka.out.below hal)
  replace HB := Aside0.mk (HB.out.trans (hal.mono HB.out.size))
  have Kb := Aside0.mk (BL.made (h := h) hd hC)
  clear hal hb hd hC
  obtain ⟨y0, y1⟩ := K3.out.cells
  go_wp2_with fail
  generalize w6.alloc _ = w6_ at *
  refine (pin_c p1.out K3.out).mono ?_
  clear y0 y1
  rintro e w7 ⟨B2, d2, rfl, hd, hC, hb⟩
  have hal := hb.trans ((below_alloc (Below.refl w7.heap.size w7) (.cells #[.int .i64 h, .slice B2 x.length d2] 24)).mono hb.size)
  replace K3 := Aside0.mk (K3.out.below hal)
  replace Ka := Aside0.mk (Ka.out.below hal)
  replace Kb := Aside0.mk (Kb.out.below hal)
  replace HB := Aside0.mk (HB.out.trans (hal.mono HB.out.size))
  have Kx := Aside0.mk (BL.made (h := h) hd hC)
  clear hal hb hd hC
  obtain ⟨y0, y1⟩ := Kx.out.cells
  go_wp2_with fail
  generalize w7.alloc _ = w7_ at *
  refine (pin_c p2.out Kx.out).mono ?_
  clear y0 y1
  rintro e w8 ⟨B3, d3, rfl, hd, hC, hb⟩
  have hal := hb.trans ((below_alloc (Below.refl w8.heap.size w8) (.cells #[.int .i64 h, .slice B3 x.length d3] 24)).mono hb.size)
  replace K3 := Aside0.mk (K3.out.below hal)
  replace Ka := Aside0.mk (Ka.out.below hal)
  replace Kb := Aside0.mk (Kb.out.below hal)
  replace Kx := Aside0.mk (Kx.out.below hal)
  replace HB := Aside0.mk (HB.out.trans (hal.mono HB.out.size))
  have Ky := Aside0.mk (BL.made (h := h) hd hC)
  clear hal hb hd hC
  obtain ⟨y0, y1⟩ := Ka.out.cells
  obtain ⟨z0, z1⟩ := Kb.out.cells
  go_wp2_with fail
  generalize w8.alloc _ = w8_ at *
  refine (same_c s1.out Ka.out Kb.out).mono ?_
  clear y0 y1 z0 z1
  rintro e w9 ⟨rfl, hb⟩
  replace K3 := Aside0.mk (K3.out.below hb)
  replace Ka := Aside0.mk (Ka.out.below hb)
  replace Kb := Aside0.mk (Kb.out.below hb)
  replace Kx := Aside0.mk (Kx.out.below hb)
  replace Ky := Aside0.mk (Ky.out.below hb)
  replace HB := Aside0.mk (HB.out.trans (hb.mono HB.out.size))
  clear hb
  obtain ⟨y0, y1⟩ := Kx.out.cells
  obtain ⟨z0, z1⟩ := Ky.out.cells
  go_wp2_with fail
  refine (same_c s2.out Kx.out Ky.out).mono ?_
  clear y0 y1 z0 z1
  rintro e w10 ⟨rfl, hb⟩
  replace K3 := Aside0.mk (K3.out.below hb)
  replace Ka := Aside0.mk (Ka.out.below hb)
  replace Kb := Aside0.mk (Kb.out.below hb)
  replace Kx := Aside0.mk (Kx.out.below hb)
  replace Ky := Aside0.mk (Ky.out.below hb)
  replace HB := Aside0.mk (HB.out.trans (hb.mono HB.out.size))
  clear hb
  obtain ⟨y0, y1⟩ := K3.out.cells
  obtain ⟨z0, z1⟩ := Ka.out.cells
  obtain ⟨v0, v1⟩ := Kx.out.cells
  have b1 : ((a.length : Int) != (l.length : Int)) = false := by simp [la.out]
  have b2 : ((x.length : Int) != (l.length : Int)) = false := by simp [lx.out]
  go_wp2_with fail
  clear b1 b2
  go_loopw [19] (fun v19 wr => ∃ i : Nat, i ≤ l.length ∧ v19 = .int .i64 i ∧ Aside0 (Below w10.heap.size w10 wr)) (fun v19 _ => l.length - (intOf v19).toNat)
  case atStart => exact ⟨0, Nat.zero_le _, rfl, ⟨Below.refl _ _⟩⟩
  case round =>
    obtain ⟨i, hi, rfl, hw⟩ := hrel
    replace K3 := Aside0.mk (K3.out.below hw.out)
    replace Ka := Aside0.mk (Ka.out.below hw.out)
    replace Kx := Aside0.mk (Kx.out.below hw.out)
    replace HB := Aside0.mk (HB.out.trans (hw.out.mono HB.out.size))
    clear y0 y1 z0 z1 v0 v1
    obtain ⟨y0, y1⟩ := K3.out.cells
    obtain ⟨z0, z1⟩ := Ka.out.cells
    obtain ⟨v0, v1⟩ := Kx.out.cells
    by_cases hlt : i < l.length
    · have f1 : decide ((i : Int) < (l.length : Int)) = true := by simp; omega
      have hla : i < a.length := by rw [la.out]; exact hlt
      have hlx : i < x.length := by rw [lx.out]; exact hlt
      have f0 : decide (0 ≤ (i : Int)) = true := by simp
      have fa : decide ((i : Int) < (a.length : Int)) = true := by simp; omega
      have fx : decide ((i : Int) < (x.length : Int)) = true := by simp; omega
      obtain ⟨ad, rfl, c0, c1, c2⟩ := at_T32 K3.out.row (i : Int) (by omega) (by omega)
      obtain ⟨ae, rfl, m0, m1, m2⟩ := at_T32 Ka.out.row (i : Int) (by omega) (by omega)
      obtain ⟨af, rfl, n0, n1, n2⟩ := at_T32 Kx.out.row (i : Int) (by omega) (by omega)
      rw [show ((i : Int)).toNat = i from rfl] at c0 c1 c2 m0 m1 m2 n0 n1 n2
      have ho := hown.out i hlt
      have ht := hoth.out i hlt
      generalize rd_T32 l (i : Int) = cl at *
      generalize rd_T32 a (i : Int) = ca at *
      generalize rd_T32 x (i : Int) = cx at *
      by_cases hp : cl.f0 = p
      · have g1 : (cl.f0 == p) = true := by simpa using hp
        obtain ⟨r1, r2, r3, r4⟩ := ho hp
        rw [r1] at m1
        rw [r3] at m2
        rw [r2] at n2
        rw [r4] at n1
        replace hp := Aside0.mk hp
        clear ho ht r1 r2 r3 r4
        go_wp2_with fail
        simp only [List.append_eq, List.cons_append, List.nil_append]
        go_quiet (fail)
        go_wp2_with fail
        go_roundw
        case rel => exact ⟨i + 1, by omega, by rw [Pure.w64 (by have := h40.out; omega) (by have := h40.out; omega)]; go_num, by first | exact hw | exact ⟨pw_below_drewN hw.out _⟩⟩
        case measure => exact meas16 hlt (Nat.le_trans h40.out (by decide))
      · have g1 : (cl.f0 == p) = false := by simpa using hp
        obtain ⟨rfl, rfl⟩ := ht hp
        replace hp := Aside0.mk hp
        clear ho ht
        go_wp2_with fail
        simp only [List.append_eq, List.cons_append, List.nil_append]
        go_quiet (fail)
        go_wp2_with fail
        go_roundw
        case rel => exact ⟨i + 1, by omega, by rw [Pure.w64 (by have := h40.out; omega) (by have := h40.out; omega)]; go_num, by first | exact hw | exact ⟨pw_below_drewN hw.out _⟩⟩
        case measure => exact meas16 hlt (Nat.le_trans h40.out (by decide))
    · have f1 : decide ((i : Int) < (l.length : Int)) = false := by simp; omega
      go_wp2_with fail
      go_ret
      exact ⟨rfl, HB.out⟩
set_option maxHeartbeats 2000000 in
set_option maxRecDepth 100000 in
theorem touches_out (h : Int) (A : Option Addr) (c : Nat) (l : List S32) (p : Int) (on : Bool) (w : World) (haw : ∀ w : World, Calls Try.prog 8 #[] w fun e w' => e = .returned (.bool true) ∧ Below w.heap.size w w') (hC : Kd.C k32 w A l.length l) (hc : l.length ≤ c)
    (hli : ∀ (W : World) (g : Nat), BL W g h A c l → Calls Try.prog 9 #[.agg #[.int .i64 h, .slice A l.length c]] W fun e w' => e = .returned (.bool false) ∧ Below W.heap.size W w') {kc : Nat}  :
    Calls Try.prog 7 #[.agg #[.int .i64 h, .slice A l.length c], .int .i64 p, .bool on] w fun e w' => e = .returned (.bool true) ∧ Below w.heap.size w w' := by
  have K3 : Aside0 (BL (w.alloc (.cells #[.int .i64 h, .slice A l.length c] 24)) w.heap.size h A c l) := ⟨BL.made hc hC⟩
  have HB : Aside0 (Below w.heap.size w (w.alloc (.cells #[.int .i64 h, .slice A l.length c] 24))) := ⟨below_alloc (Below.refl _ _) _⟩
  replace haw := Aside0.mk haw
  replace hli := Aside0.mk hli
  clear hC hc
  go_enter Try.func7, Try.ntmps7
  go_wp2_with fail
  generalize w.alloc _ = w1 at *
  refine (haw.out w1).mono ?_
  rintro e w2 ⟨rfl, hb⟩
  replace K3 := Aside0.mk (K3.out.below hb)
  replace HB := Aside0.mk (HB.out.trans (hb.mono HB.out.size))
  clear hb
  obtain ⟨y0, y1⟩ := K3.out.cells
  go_wp2_with fail
  refine (hli.out w2 _ K3.out).mono ?_
  rintro e w3 ⟨rfl, hb⟩
  clear y0 y1
  replace K3 := Aside0.mk (K3.out.below hb)
  replace HB := Aside0.mk (HB.out.trans (hb.mono HB.out.size))
  clear hb
  go_wp2_with fail
  go_ret
  exact ⟨rfl, HB.out⟩
set_option maxHeartbeats 2000000 in
set_option maxRecDepth 100000 in
theorem touches_no (h : Int) (A : Option Addr) (c : Nat) (l : List S32) (p : Int) (on : Bool) (w : World) (haw : ∀ w : World, Calls Try.prog 8 #[] w fun e w' => e = .returned (.bool true) ∧ Below w.heap.size w w') (hC : Kd.C k32 w A l.length l) (hc : l.length ≤ c)
    (hli : ∀ (W : World) (g : Nat), BL W g h A c l → Calls Try.prog 9 #[.agg #[.int .i64 h, .slice A l.length c]] W fun e w' => e = .returned (.bool true) ∧ Below W.heap.size W w') {kc : Nat} (hh : clock_Has.f kc h l p = some false) :
    Calls Try.prog 7 #[.agg #[.int .i64 h, .slice A l.length c], .int .i64 p, .bool on] w fun e w' => e = .returned (.bool true) ∧ Below w.heap.size w w' := by
  have K3 : Aside0 (BL (w.alloc (.cells #[.int .i64 h, .slice A l.length c] 24)) w.heap.size h A c l) := ⟨BL.made hc hC⟩
  have HB : Aside0 (Below w.heap.size w (w.alloc (.cells #[.int .i64 h, .slice A l.length c] 24))) := ⟨below_alloc (Below.refl _ _) _⟩
  replace haw := Aside0.mk haw
  replace hli := Aside0.mk hli
  replace hh := Aside0.mk hh
  clear hC hc
  go_enter Try.func7, Try.ntmps7
  go_wp2_with fail
  generalize w.alloc _ = w1 at *
  refine (haw.out w1).mono ?_
  rintro e w2 ⟨rfl, hb⟩
  replace K3 := Aside0.mk (K3.out.below hb)
  replace HB := Aside0.mk (HB.out.trans (hb.mono HB.out.size))
  clear hb
  obtain ⟨y0, y1⟩ := K3.out.cells
  go_wp2_with fail
  refine (hli.out w2 _ K3.out).mono ?_
  rintro e w3 ⟨rfl, hb⟩
  clear y0 y1
  replace K3 := Aside0.mk (K3.out.below hb)
  replace HB := Aside0.mk (HB.out.trans (hb.mono HB.out.size))
  clear hb
  obtain ⟨y0, y1⟩ := K3.out.cells
  go_wp2_with fail
  refine (clock_Has.calls kc h A c l p false w3 K3.out.row K3.out.len hh.out).mono ?_
  rintro e w4 ⟨rfl, hb⟩
  clear y0 y1
  replace K3 := Aside0.mk (K3.out.below hb)
  replace HB := Aside0.mk (HB.out.trans (hb.mono HB.out.size))
  clear hb
  go_wp2_with fail
  go_ret
  exact ⟨rfl, HB.out⟩
def bobbinlaw16_ClockTouches.f (a0_0 : Int) (l0_1 : List S32) (a1 : Int) (a2 : Bool) : Option Bool := some true
theorem bobbinlaw16_ClockTouches.calls (a0_0 : Int) (A0_1 : Option Addr) (c0_1 : Nat) (l0_1 : List (S32)) (a1 : Int) (a2 : Bool) (r : Bool) (w : World) (hr0_1 : Kd.C k32 w A0_1 l0_1.length l0_1) (hc0_1 : l0_1.length ≤ c0_1) (h : bobbinlaw16_ClockTouches.f a0_0 l0_1 a1 a2 = some r) :
    Calls Try.prog 7 #[.agg #[.int .i64 a0_0, .slice A0_1 l0_1.length c0_1], .int .i64 a1, .bool a2] w fun e w' => e = .returned (.bool r) ∧ Below w.heap.size w w' := by
  classical
  obtain rfl : true = r := Option.some.inj h
  obtain ⟨kw, hw⟩ := Ev.rounds Pure.awake16'
  have haw := fun w : World => bobbinlaw16_awake.calls kw true w hw
  by_cases h40 : l0_1.length ≤ 40
  · have hli := fun (W : World) (g : Nat) (b : BL W g a0_0 A0_1 c0_1 l0_1) => bobbinlaw16_light.calls a0_0 A0_1 c0_1 l0_1 true W b.row b.len (by unfold bobbinlaw16_light.f; rw [decide_eq_true (by omega)])
    have no : Ev (fun k => clock_Has.f k a0_0 l0_1 a1) false → Calls Try.prog 7 #[.agg #[.int .i64 a0_0, .slice A0_1 l0_1.length c0_1], .int .i64 a1, .bool a2] w fun e w' => e = .returned (.bool true) ∧ Below w.heap.size w w' := fun e => by
      obtain ⟨kc, hh⟩ := Ev.rounds e
      exact touches_no a0_0 A0_1 c0_1 l0_1 a1 a2 w haw hr0_1 hc0_1 hli hh
    by_cases v : Pure.Valid a0_0 l0_1
    · rcases Pure.idx_cases l0_1 a1 with ⟨e, hn⟩ | ⟨i, e, hi, ei, _⟩
      · exact no (Pure.has_no v hn)
      · obtain ⟨kc, hh⟩ := Ev.rounds (Pure.has_yes v hi)
        rw [ei] at hh
        have vA := Pure.valid_set v hi (y := { Pure.g l0_1 i with f1 := true }) rfl
        have vX := Pure.valid_set v hi (y := { Pure.g l0_1 i with f2 := a2 }) rfl
        have t2 := Pure.touch_val vA (Pure.idx_set e (y := { Pure.g l0_1 i with f1 := true }) rfl)
        have p2 := Pure.pin_val a2 vX (Pure.idx_set e (y := { Pure.g l0_1 i with f2 := a2 }) rfl)
        rw [Pure.g_set_self _ hi, List.set_set] at t2 p2
        obtain ⟨k1, t1⟩ := Ev.rounds (Pure.touch_val v e)
        obtain ⟨k3, p1⟩ := Ev.rounds (Pure.pin_val a2 v e)
        obtain ⟨k2, t2⟩ := Ev.rounds t2
        obtain ⟨k4, p2⟩ := Ev.rounds p2
        obtain ⟨k5, s1⟩ := Ev.rounds (Pure.rsame1 a0_0 (l0_1.set i { Pure.g l0_1 i with f1 := true }) (by rw [List.length_set]; omega))
        obtain ⟨k6, s2⟩ := Ev.rounds (Pure.rsame1 a0_0 (l0_1.set i { Pure.g l0_1 i with f2 := a2 }) (by rw [List.length_set]; omega))
        refine touches_walk a0_0 A0_1 c0_1 l0_1 a1 a2 w haw hr0_1 hc0_1 hli hh t1 t2 p1 p2 s1 s2 (by simp) (by simp) h40 (fun j hj hp => ?_) (fun j hj hp => ?_)
        · rw [Pure.rdT l0_1 j hj] at hp
          have hji : j = i := v.inj hj hi (hp.trans ei.symm)
          subst hji
          rw [Pure.rdT _ j hj, Pure.rdT _ j (by rw [List.length_set]; exact hj), Pure.rdT _ j (by rw [List.length_set]; exact hj), Pure.g_set_self _ hj, Pure.g_set_self _ hj]
          exact ⟨rfl, rfl, rfl, rfl⟩
        · rw [Pure.rdT l0_1 j hj] at hp
          have hji : i ≠ j := fun q => hp (by rw [← q]; exact ei)
          rw [Pure.rdT _ j hj, Pure.rdT _ j (by rw [List.length_set]; exact hj), Pure.rdT _ j (by rw [List.length_set]; exact hj), Pure.g_set_ne _ hi hji, Pure.g_set_ne _ hi hji]
          exact ⟨rfl, rfl⟩
    · refine no ?_
      unfold clock_Has.f
      exact Ev.bind (Pure.may_no v (by omega)) (Pure.Ev.ifn (by decide) (Ev.now _))
  · exact touches_out a0_0 A0_1 c0_1 l0_1 a1 a2 w haw hr0_1 hc0_1 (fun W g b => bobbinlaw16_light.calls a0_0 A0_1 c0_1 l0_1 false W b.row b.len (by unfold bobbinlaw16_light.f; rw [decide_eq_false (by omega)])) (kc := 0)
end Go.Proofs.Ytoklljioloekmaa.Print
