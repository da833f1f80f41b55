/- ClockTells. -/
import Derived.Test.YtoklljioloekmaaPrint10
import Derived.Test.YtoklljioloekmaaPrint2
import Derived.Test.YtoklljioloekmaaPrint3
import Derived.Test.YtoklljioloekmaaPrint6
import Derived.Test.YtoklljioloekmaaPrint7
import Derived.Test.YtoklljioloekmaaPrint8
import Derived.Test.YtoklljioloekmaaPrint9
import Derived.Test.YtoklljioloekmaaClockTell
import Derived.Deep.RegionHeld3
namespace Go.Proofs.Ytoklljioloekmaa.Print
open Go.RowKit Go.Proofs.YtoklljioloekmaaW.PrintWords Go.Proofs.YtoklljioloekmaaW.PrintLast Go.Proofs.YtoklljioloekmaaW.PrintMore
set_option linter.unusedVariables false
set_option linter.unusedSimpArgs false
theorem heap32 : Kd.Heap k32 := Kd.heap_iso _ (Kd.heap_pair (Kd.heap_int _) (Kd.heap_pair Kd.heap_bool Kd.heap_bool))
/-- A box that holds a clock. -/
structure BL (W : World) (g : Nat) (h : Int) (A : Option Addr) (c : Nat) (l : List S32) : Prop where
  box : W.heap[g]? = some (.cells #[.int .i64 h, .slice A l.length c] 24)
  len : l.length ≤ c
  row : Kd.C k32 W A l.length l
theorem BL.below {W W1 : World} {g : Nat} {h : Int} {A : Option Addr} {c : Nat} {l : List S32} (b : BL W g h A c l) (hb : Below W.heap.size W W1) : BL W1 g h A c l :=
  ⟨(hb.block _ (Array.getElem?_eq_some_iff.1 b.box).1).trans b.box, b.len, Kd.C_below b.row hb⟩
theorem BL.made {W : World} {h : Int} {A : Option Addr} {c : Nat} {l : List S32} (hc : l.length ≤ c) (hC : Kd.C k32 W A l.length l) : BL (W.alloc (.cells #[.int .i64 h, .slice A l.length c] 24)) W.heap.size h A c l :=
  ⟨heap_alloc_new _ _, hc, Kd.C_below hC (below_alloc (Below.refl _ _) _)⟩
theorem BL.cells {W : World} {g : Nat} {h : Int} {A : Option Addr} {c : Nat} {l : List S32} (b : BL W g h A c l) : W.cell? ⟨g, 0, none⟩ = some (.int .i64 h) ∧ W.cell? ⟨g, 1, none⟩ = some (.slice A l.length c) :=
  ⟨(blk_cell b.box 0).trans rfl, (blk_cell b.box 1).trans rfl⟩
theorem R_in {W : World} {base : Nat} {ok : Nat → Prop} {v : Value} {l : List S32} (hR : Kd.R k32 32 W base ok v l) : ∃ A c, v = .slice A l.length c ∧ l.length ≤ c ∧ Kd.C k32 W A l.length l := by
  have hV := Kd.R_V (base' := 0) hR
  obtain ⟨A, c, rfl⟩ := Kd.V_slice hV
  exact ⟨A, c, rfl, (Kd.V_at hV).2.1, Kd.F_now (Kd.V_at hV).2.2⟩
section
variable {k : Nat} {h p q : Int} {l : List S32} {W : World} {g : Nat} {A : Option Addr} {c : Nat} {on pin : Bool} {h1 e1 n1 : Int} {l1 : List S32}
/-- What a clock and an error answer. -/
def Ans (W : World) (h1 : Int) (l1 : List S32) (e1 : Int) (e : Ending) (w' : World) : Prop := ∃ B d, e = .returned (.tuple #[.agg #[.int .i64 h1, .slice B l1.length d], .int .i64 e1]) ∧ l1.length ≤ d ∧ Kd.C k32 w' B l1.length l1 ∧ Below W.heap.size W w'
def Ans2 (W : World) (h1 : Int) (l1 : List S32) (n1 e1 : Int) (e : Ending) (w' : World) : Prop := ∃ B d, e = .returned (.tuple #[.agg #[.int .i64 h1, .slice B l1.length d], .int .i64 n1, .int .i64 e1]) ∧ l1.length ≤ d ∧ Kd.C k32 w' B l1.length l1 ∧ Below W.heap.size W w'
theorem touch_c (hf : clock_Touch.f k h l p = some (h1, l1, e1)) (b : BL W g h A c l) : Calls Try.prog 13 #[.agg #[.int .i64 h, .slice A l.length c], .int .i64 p] W (Ans W h1 l1 e1) := by
  refine (clock_Touch.calls k h A c l p h1 l1 e1 W b.row b.len hf).mono ?_
  rintro e w' ⟨v, rfl, hR, hb⟩
  obtain ⟨B, d, rfl, hd, hC⟩ := R_in hR
  exact ⟨B, d, rfl, hd, hC, hb⟩
theorem pin_c (hf : clock_Pin.f k h l p on = some (h1, l1, e1)) (b : BL W g h A c l) : Calls Try.prog 15 #[.agg #[.int .i64 h, .slice A l.length c], .int .i64 p, .bool on] W (Ans W h1 l1 e1) := by
  refine (clock_Pin.calls k h A c l p on h1 l1 e1 W b.row b.len hf).mono ?_
  rintro e w' ⟨v, rfl, hR, hb⟩
  obtain ⟨B, d, rfl, hd, hC⟩ := R_in hR
  exact ⟨B, d, rfl, hd, hC, hb⟩
theorem admit_c (hf : clock_Admit.f k h l q p = some (h1, l1, n1, e1)) (b : BL W g h A c l) : Calls Try.prog 11 #[.agg #[.int .i64 h, .slice A l.length c], .int .i64 q, .int .i64 p] W (Ans2 W h1 l1 n1 e1) := by
  refine (clock_Admit.calls k h A c l q p h1 l1 n1 e1 W b.row b.len hf).mono ?_
  rintro e w' ⟨v, rfl, hR, hb⟩
  obtain ⟨B, d, rfl, hd, hC⟩ := R_in hR
  exact ⟨B, d, rfl, hd, hC, hb⟩
theorem radmit_c (hf : bobbinref16_Admit.f k h l q p = some (h1, l1, n1, e1)) (b : BL W g h A c l) : Calls Try.prog 16 #[.agg #[.int .i64 h, .slice A l.length c], .int .i64 q, .int .i64 p] W (Ans2 W h1 l1 n1 e1) := by
  refine (bobbinref16_Admit.calls k h (fun k_ => k_ < W.heap.size) A c l q p h1 l1 n1 e1 W ⟨A, c, rfl, b.len, Kd.C_F heap32 b.row⟩ hf).mono ?_
  rintro e w' ⟨v, rfl, hR, hb⟩
  obtain ⟨B, d, rfl, hd, hC⟩ := R_in hR
  exact ⟨B, d, rfl, hd, hC, hb⟩
theorem same_c {g2 : Nat} {A2 : Option Addr} {c2 : Nat} (hf : bobbinref16_Same.f k h l h l = some true) (b : BL W g h A c l) (b2 : BL W g2 h A2 c2 l) : Calls Try.prog 17 #[.agg #[.int .i64 h, .slice A l.length c], .agg #[.int .i64 h, .slice A2 l.length c2]] W fun e w' => e = .returned (.bool true) ∧ Below W.heap.size W w' :=
  bobbinref16_Same.calls k h A c l h A2 c2 l true W b.row b.len b2.row b2.len hf
end

/-- The boxes of bobbinref16.Turn. -/
structure TB (w W : World) (h : Int) (A : Option Addr) (c : Nat) (l : List S32) : Prop where
  bel : Below w.heap.size w W
  b4 : BL W w.heap.size h A c l
  b8 : W.heap[w.heap.size + 1]? = some (.cells #[.int .i64 0, .slice none 0 0] 24)
theorem TB.made {w : World} {h : Int} {A : Option Addr} {c : Nat} {l : List S32} (hc : l.length ≤ c) (hC : Kd.C k32 w A l.length l) : TB w ((w.alloc (.cells #[.int .i64 h, .slice A l.length c] 24)).alloc (.cells #[.int .i64 0, .slice none 0 0] 24)) h A c l := by
  have hs1 : (w.alloc (.cells #[.int .i64 h, .slice A l.length c] 24)).heap.size = w.heap.size + 1 := World.size_alloc ..
  refine ⟨below_alloc (below_alloc (Below.refl _ _) _) _, (BL.made hc hC).below (below_alloc (Below.refl _ _) _), ?_⟩
  have := heap_alloc_new (w.alloc (.cells #[.int .i64 h, .slice A l.length c] 24)) (.cells #[.int .i64 0, .slice none 0 0] 24)
  rwa [hs1] at this
theorem TB.below {w W W1 : World} {h : Int} {A : Option Addr} {c : Nat} {l : List S32} (b : TB w W h A c l) (hb : Below W.heap.size W W1) : TB w W1 h A c l :=
  ⟨b.bel.trans (hb.mono b.bel.size), b.b4.below hb, (hb.block _ (Array.getElem?_eq_some_iff.1 b.b8).1).trans b.b8⟩
set_option maxHeartbeats 2000000 in
set_option maxRecDepth 100000 in
theorem turn_bad {k : Nat} {h p : Int} {l : List S32} {w : World} {A : Option Addr} {c : Nat} {on pin : Bool} (mk : bobbinref16_May.f k h l = some false) (hc : l.length ≤ c) (hC : Kd.C k32 w A l.length l) :
    Calls Try.prog 14 #[.agg #[.int .i64 h, .slice A l.length c], .int .i64 p, .bool pin, .bool on] w (Ans w 0 [] 1) := by
  have K : Aside0 (TB w ((w.alloc (.cells #[.int .i64 h, .slice A l.length c] 24)).alloc (.cells #[.int .i64 0, .slice none 0 0] 24)) h A c l) := ⟨TB.made hc hC⟩
  replace mk := Aside0.mk mk
  clear hc hC
  go_enter Try.func14, Try.ntmps14
  go_wp2_with fail
  generalize (w.alloc _).alloc _ = w1 at *
  refine (bobbinref16_May.calls k h A c l false w1 K.out.b4.row K.out.b4.len mk.out).mono ?_
  rintro e w2 ⟨rfl, hb⟩
  replace K := Aside0.mk (K.out.below hb)
  clear hb
  obtain ⟨q0, q1, f0, f1⟩ := two_cells K.out.b8
  go_wp2_with fail
  refine bodyPost_ret (results_ct rfl _ _ (w.heap.size + 1) 24 #[.int .i64 0, .slice none 0 0] (0, 0) _ rfl (bb_set1 (bb_set0 K.out.b8 _) _) Try.underlying24 rfl (by kernel_rfl)) rfl ?_
  exact ⟨none, 0, rfl, Nat.le_refl _, ⟨rfl, by decide, fun hn => absurd hn (by decide)⟩, below_set (below_set K.out.bel (Nat.le_succ _)) (Nat.le_succ _)⟩
set_option maxHeartbeats 2000000 in
set_option maxRecDepth 100000 in
theorem turn_none {k k2 : Nat} {h p : Int} {l : List S32} {w : World} {A : Option Addr} {c : Nat} {on pin : Bool} (mk : bobbinref16_May.f k h l = some true) (fk : bobbinref16_find.f k2 l p = some (-1)) (hc : l.length ≤ c) (hC : Kd.C k32 w A l.length l) :
    Calls Try.prog 14 #[.agg #[.int .i64 h, .slice A l.length c], .int .i64 p, .bool pin, .bool on] w (Ans w 0 [] 3) := by
  have K : Aside0 (TB w ((w.alloc (.cells #[.int .i64 h, .slice A l.length c] 24)).alloc (.cells #[.int .i64 0, .slice none 0 0] 24)) h A c l) := ⟨TB.made hc hC⟩
  replace mk := Aside0.mk mk
  replace fk := Aside0.mk fk
  clear hc hC
  go_enter Try.func14, Try.ntmps14
  go_wp2_with fail
  generalize (w.alloc _).alloc _ = w1 at *
  refine (bobbinref16_May.calls k h A c l true w1 K.out.b4.row K.out.b4.len mk.out).mono ?_
  rintro e w2 ⟨rfl, hb⟩
  replace K := Aside0.mk (K.out.below hb)
  clear hb
  obtain ⟨y0, y1⟩ := K.out.b4.cells
  go_wp2_with fail
  refine (bobbinref16_find.calls k2 A c l p (-1) w2 K.out.b4.row K.out.b4.len fk.out).mono ?_
  rintro e w3 ⟨rfl, nd, hw⟩
  have hb : Below w2.heap.size w2 w3 := by rw [hw]; exact pw_below_drewN (Below.refl _ _) nd
  replace K := Aside0.mk (K.out.below hb)
  clear hb hw y0 y1
  obtain ⟨q0, q1, f0, f1⟩ := two_cells K.out.b8
  go_wp2_with fail
  refine bodyPost_ret (results_ct rfl _ _ (w.heap.size + 1) 24 #[.int .i64 0, .slice none 0 0] (0, 0) _ rfl (bb_set1 (bb_set0 K.out.b8 _) _) Try.underlying24 rfl (by kernel_rfl)) rfl ?_
  exact ⟨none, 0, rfl, Nat.le_refl _, ⟨rfl, by decide, fun hn => absurd hn (by decide)⟩, below_set (below_set K.out.bel (Nat.le_succ _)) (Nat.le_succ _)⟩
set_option maxHeartbeats 4000000 in
set_option maxRecDepth 100000 in
theorem turn_touch {k k2 : Nat} {h p : Int} {l : List S32} {w : World} {A : Option Addr} {c : Nat} {on : Bool} {i : Nat} (hi : i < l.length) (hl : l.length ≤ 1000) (mk : bobbinref16_May.f k h l = some true) (fk : bobbinref16_find.f k2 l p = some (i : Int)) (hc : l.length ≤ c) (hC : Kd.C k32 w A l.length l) :
    Calls Try.prog 14 #[.agg #[.int .i64 h, .slice A l.length c], .int .i64 p, .bool false, .bool on] w (Ans w h (l.set i ⟨(rd_T32 l i).f0, true, (rd_T32 l i).f2⟩) 0) := by
  have K : Aside0 (TB w ((w.alloc (.cells #[.int .i64 h, .slice A l.length c] 24)).alloc (.cells #[.int .i64 0, .slice none 0 0] 24)) h A c l) := ⟨TB.made hc hC⟩
  replace mk := Aside0.mk mk
  replace fk := Aside0.mk fk
  have hp := Aside0.mk (Pure.put_f (h := h) hi hl (rd_T32 l i).f0 true (rd_T32 l i).f2)
  clear hc hC
  go_enter Try.func14, Try.ntmps14
  go_wp2_with fail
  generalize (w.alloc _).alloc _ = w1 at *
  refine (bobbinref16_May.calls k h A c l true w1 K.out.b4.row K.out.b4.len mk.out).mono ?_
  rintro e w2 ⟨rfl, hb⟩
  replace K := Aside0.mk (K.out.below hb)
  clear hb
  obtain ⟨y0, y1⟩ := K.out.b4.cells
  go_wp2_with fail
  refine (bobbinref16_find.calls k2 A c l p (i : Int) w2 K.out.b4.row K.out.b4.len fk.out).mono ?_
  rintro e w3 ⟨rfl, nd, hw⟩
  have hb : Below w2.heap.size w2 w3 := by rw [hw]; exact pw_below_drewN (Below.refl _ _) nd
  replace K := Aside0.mk (K.out.below hb)
  clear hb hw y0 y1
  obtain ⟨y0, y1⟩ := K.out.b4.cells
  have hn0 : decide ((i : Int) < 0) = false := by simp
  have hb0 : decide (0 ≤ (i : Int)) = true := by simp
  have hb1 : decide ((i : Int) < (l.length : Int)) = true := by simp; omega
  obtain ⟨ad, rfl, x0, x1, x2⟩ := at_T32 K.out.b4.row (i : Int) (by omega) (by omega)
  rw [show ((i : Int)).toNat = i from rfl] at x0 x1 x2
  generalize rd_T32 l (i : Int) = x at *
  go_upto_region 11 with fail
  have hal := below_alloc (Below.refl w3.heap.size w3) (.cells #[.int .i64 x.f0, .bool true, .bool x.f2] 32)
  have hfb := Aside0.mk (heap_alloc_new w3 (.cells #[.int .i64 x.f0, .bool true, .bool x.f2] 32))
  have hsz : w.heap.size + 1 < (w3.alloc (.cells #[.int .i64 x.f0, .bool true, .bool x.f2] 32)).heap.size := by have := (Array.getElem?_eq_some_iff.1 K.out.b8).1; rw [World.size_alloc]; omega
  have K4 := Aside0.mk (K.out.below hal)
  clear hal y0 y1 x0 x1 x2 hn0 hb0 hb1
  generalize w3.alloc _ = w4 at *
  obtain ⟨y0, y1⟩ := K4.out.b4.cells
  obtain ⟨x0, x1, x2, _⟩ := three_cells hfb.out
  go_wp2_with fail
  refine (bobbinref16_put.calls h _ c l (i : Int) x.f0 true x.f2 h _ w4 K4.out.b4.row K4.out.b4.len hp.out).mono ?_
  rintro e w5 ⟨v, rfl, hR, hb⟩
  have K5 := Aside0.mk (K4.out.below hb)
  obtain ⟨B, d, rfl⟩ := Kd.R_slice hR
  have hR2 := Aside0.mk (Kd.R_far (p := ⟨w.heap.size + 1, 1, none⟩) (Kd.R_far (p := ⟨w.heap.size + 1, 0, none⟩) (Kd.R_newM (w := w4) (M := fun k => w4.heap.size ≤ k) hR (Nat.le_refl _) (fun _ hk => hk)) (fun k hk => by have : w4.heap.size ≤ k := hk.1; show k ≠ w.heap.size + 1; omega) (.int .i64 h)) (fun k hk => by have : w4.heap.size ≤ k := hk.1; show k ≠ w.heap.size + 1; omega) (.slice B (l.set i (⟨x.f0, true, x.f2⟩ : S32)).length d))
  clear hb hR y0 y1 hsz x0 x1 x2
  obtain ⟨q0, q1, f0, f1⟩ := two_cells K5.out.b8
  go_wp2_with fail
  refine bodyPost_ret (results_ct rfl _ _ (w.heap.size + 1) 24 #[.int .i64 h, .slice B (l.set i (⟨x.f0, true, x.f2⟩ : S32)).length d] (0, 0) _ rfl (by first | exact bb_set1 (bb_set0 K5.out.b8 _) _ | simpa using bb_set1 (bb_set0 K5.out.b8 (.int .i64 h)) (.slice B (l.set i (⟨x.f0, true, x.f2⟩ : S32)).length d)) Try.underlying24 rfl (by kernel_rfl)) rfl ?_
  obtain ⟨B', d', e', hd, hC⟩ := R_in hR2.out
  injection e' with e1 e2 e3
  subst e1 e3
  exact ⟨B, d, by first | rfl | simp, hd, by first | exact hC | simpa using hC, by first | exact below_set (below_set K5.out.bel (Nat.le_succ _)) (Nat.le_succ _) | simpa using below_set (below_set K5.out.bel (Nat.le_succ _)) (Nat.le_succ _)⟩
set_option maxHeartbeats 4000000 in
set_option maxRecDepth 100000 in
theorem turn_pin {k k2 : Nat} {h p : Int} {l : List S32} {w : World} {A : Option Addr} {c : Nat} {on : Bool} {i : Nat} (hi : i < l.length) (hl : l.length ≤ 1000) (mk : bobbinref16_May.f k h l = some true) (fk : bobbinref16_find.f k2 l p = some (i : Int)) (hc : l.length ≤ c) (hC : Kd.C k32 w A l.length l) :
    Calls Try.prog 14 #[.agg #[.int .i64 h, .slice A l.length c], .int .i64 p, .bool true, .bool on] w (Ans w h (l.set i ⟨(rd_T32 l i).f0, (rd_T32 l i).f1, on⟩) 0) := by
  have K : Aside0 (TB w ((w.alloc (.cells #[.int .i64 h, .slice A l.length c] 24)).alloc (.cells #[.int .i64 0, .slice none 0 0] 24)) h A c l) := ⟨TB.made hc hC⟩
  replace mk := Aside0.mk mk
  replace fk := Aside0.mk fk
  have hp := Aside0.mk (Pure.put_f (h := h) hi hl (rd_T32 l i).f0 (rd_T32 l i).f1 on)
  clear hc hC
  go_enter Try.func14, Try.ntmps14
  go_wp2_with fail
  generalize (w.alloc _).alloc _ = w1 at *
  refine (bobbinref16_May.calls k h A c l true w1 K.out.b4.row K.out.b4.len mk.out).mono ?_
  rintro e w2 ⟨rfl, hb⟩
  replace K := Aside0.mk (K.out.below hb)
  clear hb
  obtain ⟨y0, y1⟩ := K.out.b4.cells
  go_wp2_with fail
  refine (bobbinref16_find.calls k2 A c l p (i : Int) w2 K.out.b4.row K.out.b4.len fk.out).mono ?_
  rintro e w3 ⟨rfl, nd, hw⟩
  have hb : Below w2.heap.size w2 w3 := by rw [hw]; exact pw_below_drewN (Below.refl _ _) nd
  replace K := Aside0.mk (K.out.below hb)
  clear hb hw y0 y1
  obtain ⟨y0, y1⟩ := K.out.b4.cells
  have hn0 : decide ((i : Int) < 0) = false := by simp
  have hb0 : decide (0 ≤ (i : Int)) = true := by simp
  have hb1 : decide ((i : Int) < (l.length : Int)) = true := by simp; omega
  obtain ⟨ad, rfl, x0, x1, x2⟩ := at_T32 K.out.b4.row (i : Int) (by omega) (by omega)
  rw [show ((i : Int)).toNat = i from rfl] at x0 x1 x2
  generalize rd_T32 l (i : Int) = x at *
  go_upto_region 11 with fail
  have hal := below_alloc (Below.refl w3.heap.size w3) (.cells #[.int .i64 x.f0, .bool x.f1, .bool on] 32)
  have hfb := Aside0.mk (heap_alloc_new w3 (.cells #[.int .i64 x.f0, .bool x.f1, .bool on] 32))
  have hsz : w.heap.size + 1 < (w3.alloc (.cells #[.int .i64 x.f0, .bool x.f1, .bool on] 32)).heap.size := by have := (Array.getElem?_eq_some_iff.1 K.out.b8).1; rw [World.size_alloc]; omega
  have K4 := Aside0.mk (K.out.below hal)
  clear hal y0 y1 x0 x1 x2 hn0 hb0 hb1
  generalize w3.alloc _ = w4 at *
  obtain ⟨y0, y1⟩ := K4.out.b4.cells
  obtain ⟨x0, x1, x2, _⟩ := three_cells hfb.out
  go_wp2_with fail
  refine (bobbinref16_put.calls h _ c l (i : Int) x.f0 x.f1 on h _ w4 K4.out.b4.row K4.out.b4.len hp.out).mono ?_
  rintro e w5 ⟨v, rfl, hR, hb⟩
  have K5 := Aside0.mk (K4.out.below hb)
  obtain ⟨B, d, rfl⟩ := Kd.R_slice hR
  have hR2 := Aside0.mk (Kd.R_far (p := ⟨w.heap.size + 1, 1, none⟩) (Kd.R_far (p := ⟨w.heap.size + 1, 0, none⟩) (Kd.R_newM (w := w4) (M := fun k => w4.heap.size ≤ k) hR (Nat.le_refl _) (fun _ hk => hk)) (fun k hk => by have : w4.heap.size ≤ k := hk.1; show k ≠ w.heap.size + 1; omega) (.int .i64 h)) (fun k hk => by have : w4.heap.size ≤ k := hk.1; show k ≠ w.heap.size + 1; omega) (.slice B (l.set i (⟨x.f0, x.f1, on⟩ : S32)).length d))
  clear hb hR y0 y1 hsz x0 x1 x2
  obtain ⟨q0, q1, f0, f1⟩ := two_cells K5.out.b8
  go_wp2_with fail
  refine bodyPost_ret (results_ct rfl _ _ (w.heap.size + 1) 24 #[.int .i64 h, .slice B (l.set i (⟨x.f0, x.f1, on⟩ : S32)).length d] (0, 0) _ rfl (by first | exact bb_set1 (bb_set0 K5.out.b8 _) _ | simpa using bb_set1 (bb_set0 K5.out.b8 (.int .i64 h)) (.slice B (l.set i (⟨x.f0, x.f1, on⟩ : S32)).length d)) Try.underlying24 rfl (by kernel_rfl)) rfl ?_
  obtain ⟨B', d', e', hd, hC⟩ := R_in hR2.out
  injection e' with e1 e2 e3
  subst e1 e3
  exact ⟨B, d, by first | rfl | simp, hd, by first | exact hC | simpa using hC, by first | exact below_set (below_set K5.out.bel (Nat.le_succ _)) (Nat.le_succ _) | simpa using below_set (below_set K5.out.bel (Nat.le_succ _)) (Nat.le_succ _)⟩

theorem touch_ans (h : Int) (l : List S32) (hl : l.length ≤ 40) (p : Int) (on : Bool) : ∃ (th : Int) (tl : List S32) (te : Int) (k1 : Nat), clock_Touch.f k1 h l p = some (th, tl, te) ∧ (∀ (W : World) (g : Nat) (A : Option Addr) (c : Nat), BL W g h A c l → Calls Try.prog 14 #[.agg #[.int .i64 h, .slice A l.length c], .int .i64 p, .bool false, .bool on] W (Ans W th tl te)) ∧ tl.length ≤ 40 ∧ (te = 0 ↔ Pure.Valid h l ∧ 0 ≤ Pure.idx l p) := by
  classical
  by_cases v : Pure.Valid h l
  · obtain ⟨km, hm⟩ := Ev.rounds (Pure.rmay_yes v)
    obtain ⟨kf, hf⟩ := Ev.rounds (Pure.rfind l p (by omega))
    rcases Pure.idx_cases l p with ⟨e, _⟩ | ⟨i, e, hi, ei, _⟩
    · obtain ⟨k1, t1⟩ := Ev.rounds (Pure.touch_nn p v e)
      rw [e] at hf
      exact ⟨0, [], 3, k1, t1, fun W g A c b => turn_none hm hf b.len b.row, by simp, by simp [e]⟩
    · obtain ⟨k1, t1⟩ := Ev.rounds (Pure.touch_at v e)
      rw [e] at hf
      have hr : rd_T32 l (i : Int) = Pure.g l i := Pure.rdT l i hi
      refine ⟨h, _, 0, k1, t1, fun W g A c b => ?_, by simp; omega, by simp [e, v]⟩
      have := turn_touch (on := on) hi (by omega) hm hf b.len b.row
      rw [hr] at this
      exact this
  · obtain ⟨km, hm⟩ := Ev.rounds (Pure.rmay_no v (by omega))
    obtain ⟨k1, t1⟩ := Ev.rounds (Pure.touch_no hl p v)
    exact ⟨0, [], 1, k1, t1, fun W g A c b => turn_bad hm b.len b.row, by simp, by simp [v]⟩

theorem pin_ans (h : Int) (l : List S32) (hl : l.length ≤ 40) (p : Int) (on : Bool) : ∃ (th : Int) (tl : List S32) (te : Int) (k1 : Nat), clock_Pin.f k1 h l p on = some (th, tl, te) ∧ (∀ (W : World) (g : Nat) (A : Option Addr) (c : Nat), BL W g h A c l → Calls Try.prog 14 #[.agg #[.int .i64 h, .slice A l.length c], .int .i64 p, .bool true, .bool on] W (Ans W th tl te)) ∧ tl.length ≤ 40 ∧ (te = 0 ↔ Pure.Valid h l ∧ 0 ≤ Pure.idx l p) := by
  classical
  by_cases v : Pure.Valid h l
  · obtain ⟨km, hm⟩ := Ev.rounds (Pure.rmay_yes v)
    obtain ⟨kf, hf⟩ := Ev.rounds (Pure.rfind l p (by omega))
    rcases Pure.idx_cases l p with ⟨e, _⟩ | ⟨i, e, hi, ei, _⟩
    · obtain ⟨k1, t1⟩ := Ev.rounds (Pure.pin_nn on p v e)
      rw [e] at hf
      exact ⟨0, [], 3, k1, t1, fun W g A c b => turn_none hm hf b.len b.row, by simp, by simp [e]⟩
    · obtain ⟨k1, t1⟩ := Ev.rounds (Pure.pin_at on v e)
      rw [e] at hf
      have hr : rd_T32 l (i : Int) = Pure.g l i := Pure.rdT l i hi
      refine ⟨h, _, 0, k1, t1, fun W g A c b => ?_, by simp; omega, by simp [e, v]⟩
      have := turn_pin (on := on) hi (by omega) hm hf b.len b.row
      rw [hr] at this
      exact this
  · obtain ⟨km, hm⟩ := Ev.rounds (Pure.rmay_no v (by omega))
    obtain ⟨k1, t1⟩ := Ev.rounds (Pure.pin_no on hl p v)
    exact ⟨0, [], 1, k1, t1, fun W g A c b => turn_bad hm b.len b.row, by simp, by simp [v]⟩

set_option maxHeartbeats 4000000 in
set_option maxRecDepth 100000 in
theorem tells_walk (h : Int) (A : Option Addr) (c : Nat) (l : List S32) (most p : Int) (on : Bool) (w : World) (haw : ∀ w : World, Calls Try.prog 8 #[] w fun e w' => e = .returned (.bool true) ∧ Below w.heap.size w w') (hC : Kd.C k32 w A l.length l) (hc : l.length ≤ c)
    (hli : ∀ (W : World) (g : Nat), BL W g h A c l → Calls Try.prog 9 #[.agg #[.int .i64 h, .slice A l.length c]] W fun e w' => e = .returned (.bool true) ∧ Below W.heap.size W w')
    {k1 k3 k5 k6 k7 k8 k9 ka kb kc : Nat} {th te ph pe ah an ae : Int} {tl pl al : List S32} {m : Bool}
    (t1 : clock_Touch.f k1 h l p = some (th, tl, te)) (t2 : ∀ (W : World) (g : Nat) (A : Option Addr) (c : Nat), BL W g h A c l → Calls Try.prog 14 #[.agg #[.int .i64 h, .slice A l.length c], .int .i64 p, .bool false, .bool on] W (Ans W th tl te))
    (p1 : clock_Pin.f k3 h l p on = some (ph, pl, pe)) (p2 : ∀ (W : World) (g : Nat) (A : Option Addr) (c : Nat), BL W g h A c l → Calls Try.prog 14 #[.agg #[.int .i64 h, .slice A l.length c], .int .i64 p, .bool true, .bool on] W (Ans W ph pl pe))
    (a1 : clock_Admit.f k5 h l most p = some (ah, al, an, ae)) (a2 : bobbinref16_Admit.f k6 h l most p = some (ah, al, an, ae))
    (s1 : bobbinref16_Same.f k7 th tl th tl = some true) (s2 : bobbinref16_Same.f k8 ph pl ph pl = some true) (s3 : bobbinref16_Same.f k9 ah al ah al = some true)
    (m1 : clock_May.f ka h l = some m) (m2 : bobbinref16_May.f kb h l = some m) (hh : clock_Has.f kc h l p = some (pe == 0)) :
    Calls Try.prog 6 #[.agg #[.int .i64 h, .slice A l.length c], .int .i64 most, .int .i64 p, .bool on] w fun e w' => e = .returned (.bool true) ∧ Below w.heap.size w w' := by
  have K3 : Aside0 (BL (w.alloc (.cells #[.int .i64 h, .slice A l.length c] 24)) w.heap.size h A c l) := ⟨BL.made hc hC⟩
  have HB : Aside0 (Below w.heap.size w (w.alloc (.cells #[.int .i64 h, .slice A l.length c] 24))) := ⟨below_alloc (Below.refl _ _) _⟩
  replace t1 := Aside0.mk t1
  replace t2 := Aside0.mk t2
  replace p1 := Aside0.mk p1
  replace p2 := Aside0.mk p2
  replace a1 := Aside0.mk a1
  replace a2 := Aside0.mk a2
  replace s1 := Aside0.mk s1
  replace s2 := Aside0.mk s2
  replace s3 := Aside0.mk s3
  replace m1 := Aside0.mk m1
  replace m2 := Aside0.mk m2
  replace hh := Aside0.mk hh
  replace haw := Aside0.mk haw
  replace hli := Aside0.mk hli
  clear hC hc
  go_enter Try.func6, Try.ntmps6
  go_wp2_with fail
  generalize w.alloc _ = w1 at *
  refine (haw.out w1).mono ?_
  rintro e w2 ⟨rfl, hb⟩
  replace K3 := Aside0.mk (K3.out.below hb)
  replace HB := Aside0.mk (HB.out.trans (hb.mono HB.out.size))
  clear hb
  obtain ⟨y0, y1⟩ := K3.out.cells
  go_wp2_with fail
  refine (hli.out w2 _ K3.out).mono ?_
  rintro e w3 ⟨rfl, hb⟩
  clear y0 y1
  replace K3 := Aside0.mk (K3.out.below hb)
  replace HB := Aside0.mk (HB.out.trans (hb.mono HB.out.size))
  clear hb
  obtain ⟨y0, y1⟩ := K3.out.cells
  go_wp2_with fail
  refine (touch_c t1.out K3.out).mono ?_
  clear y0 y1
  rintro e w4 ⟨B0, d0, rfl, hd, hC, hb⟩
  have hal := hb.trans ((below_alloc (Below.refl w4.heap.size w4) (.cells #[.int .i64 th, .slice B0 tl.length d0] 24)).mono hb.size)
  replace K3 := Aside0.mk (K3.out.below hal)
  replace HB := Aside0.mk (HB.out.trans (hal.mono HB.out.size))
  have Ka := Aside0.mk (BL.made (h := th) hd hC)
  clear hal hb hd hC
  obtain ⟨y0, y1⟩ := K3.out.cells
  go_wp2_with fail
  generalize w4.alloc _ = w4_ at *
  refine (t2.out _ _ _ _ K3.out).mono ?_
  clear y0 y1
  rintro e w5 ⟨B1, d1, rfl, hd, hC, hb⟩
  have hal := hb.trans ((below_alloc (Below.refl w5.heap.size w5) (.cells #[.int .i64 th, .slice B1 tl.length d1] 24)).mono hb.size)
  replace K3 := Aside0.mk (K3.out.below hal)
  replace Ka := Aside0.mk (Ka.out.below hal)
  replace HB := Aside0.mk (HB.out.trans (hal.mono HB.out.size))
  have Kb := Aside0.mk (BL.made (h := th) hd hC)
  clear hal hb hd hC
  obtain ⟨y0, y1⟩ := K3.out.cells
  go_wp2_with fail
  generalize w5.alloc _ = w5_ at *
  refine (pin_c p1.out K3.out).mono ?_
  clear y0 y1
  rintro e w6 ⟨B2, d2, rfl, hd, hC, hb⟩
  have hal := hb.trans ((below_alloc (Below.refl w6.heap.size w6) (.cells #[.int .i64 ph, .slice B2 pl.length d2] 24)).mono hb.size)
  replace K3 := Aside0.mk (K3.out.below hal)
  replace Ka := Aside0.mk (Ka.out.below hal)
  replace Kb := Aside0.mk (Kb.out.below hal)
  replace HB := Aside0.mk (HB.out.trans (hal.mono HB.out.size))
  have Kx := Aside0.mk (BL.made (h := ph) hd hC)
  clear hal hb hd hC
  obtain ⟨y0, y1⟩ := K3.out.cells
  go_wp2_with fail
  generalize w6.alloc _ = w6_ at *
  refine (p2.out _ _ _ _ K3.out).mono ?_
  clear y0 y1
  rintro e w7 ⟨B3, d3, rfl, hd, hC, hb⟩
  have hal := hb.trans ((below_alloc (Below.refl w7.heap.size w7) (.cells #[.int .i64 ph, .slice B3 pl.length d3] 24)).mono hb.size)
  replace K3 := Aside0.mk (K3.out.below hal)
  replace Ka := Aside0.mk (Ka.out.below hal)
  replace Kb := Aside0.mk (Kb.out.below hal)
  replace Kx := Aside0.mk (Kx.out.below hal)
  replace HB := Aside0.mk (HB.out.trans (hal.mono HB.out.size))
  have Ky := Aside0.mk (BL.made (h := ph) hd hC)
  clear hal hb hd hC
  obtain ⟨y0, y1⟩ := K3.out.cells
  go_wp2_with fail
  generalize w7.alloc _ = w7_ at *
  refine (admit_c a1.out K3.out).mono ?_
  clear y0 y1
  rintro e w8 ⟨B4, d4, rfl, hd, hC, hb⟩
  have hal := hb.trans ((below_alloc (Below.refl w8.heap.size w8) (.cells #[.int .i64 ah, .slice B4 al.length d4] 24)).mono hb.size)
  replace K3 := Aside0.mk (K3.out.below hal)
  replace Ka := Aside0.mk (Ka.out.below hal)
  replace Kb := Aside0.mk (Kb.out.below hal)
  replace Kx := Aside0.mk (Kx.out.below hal)
  replace Ky := Aside0.mk (Ky.out.below hal)
  replace HB := Aside0.mk (HB.out.trans (hal.mono HB.out.size))
  have Kp := Aside0.mk (BL.made (h := ah) hd hC)
  clear hal hb hd hC
  obtain ⟨y0, y1⟩ := K3.out.cells
  go_wp2_with fail
  generalize w8.alloc _ = w8_ at *
  refine (radmit_c a2.out K3.out).mono ?_
  clear y0 y1
  rintro e w9 ⟨B5, d5, rfl, hd, hC, hb⟩
  have hal := hb.trans ((below_alloc (Below.refl w9.heap.size w9) (.cells #[.int .i64 ah, .slice B5 al.length d5] 24)).mono hb.size)
  replace K3 := Aside0.mk (K3.out.below hal)
  replace Ka := Aside0.mk (Ka.out.below hal)
  replace Kb := Aside0.mk (Kb.out.below hal)
  replace Kx := Aside0.mk (Kx.out.below hal)
  replace Ky := Aside0.mk (Ky.out.below hal)
  replace Kp := Aside0.mk (Kp.out.below hal)
  replace HB := Aside0.mk (HB.out.trans (hal.mono HB.out.size))
  have Kq := Aside0.mk (BL.made (h := ah) hd hC)
  clear hal hb hd hC
  obtain ⟨y0, y1⟩ := Ka.out.cells
  obtain ⟨z0, z1⟩ := Kb.out.cells
  go_wp2_with fail
  generalize w9.alloc _ = w9_ at *
  refine (same_c s1.out Ka.out Kb.out).mono ?_
  clear y0 y1 z0 z1
  rintro e w10 ⟨rfl, hb⟩
  replace K3 := Aside0.mk (K3.out.below hb)
  replace Ka := Aside0.mk (Ka.out.below hb)
  replace Kb := Aside0.mk (Kb.out.below hb)
  replace Kx := Aside0.mk (Kx.out.below hb)
  replace Ky := Aside0.mk (Ky.out.below hb)
  replace Kp := Aside0.mk (Kp.out.below hb)
  replace Kq := Aside0.mk (Kq.out.below hb)
  replace HB := Aside0.mk (HB.out.trans (hb.mono HB.out.size))
  clear hb
  obtain ⟨y0, y1⟩ := Kx.out.cells
  obtain ⟨z0, z1⟩ := Ky.out.cells
  go_wp2_with fail
  refine (same_c s2.out Kx.out Ky.out).mono ?_
  clear y0 y1 z0 z1
  rintro e w11 ⟨rfl, hb⟩
  replace K3 := Aside0.mk (K3.out.below hb)
  replace Ka := Aside0.mk (Ka.out.below hb)
  replace Kb := Aside0.mk (Kb.out.below hb)
  replace Kx := Aside0.mk (Kx.out.below hb)
  replace Ky := Aside0.mk (Ky.out.below hb)
  replace Kp := Aside0.mk (Kp.out.below hb)
  replace Kq := Aside0.mk (Kq.out.below hb)
  replace HB := Aside0.mk (HB.out.trans (hb.mono HB.out.size))
  clear hb
  obtain ⟨y0, y1⟩ := Kp.out.cells
  obtain ⟨z0, z1⟩ := Kq.out.cells
  go_wp2_with fail
  refine (same_c s3.out Kp.out Kq.out).mono ?_
  clear y0 y1 z0 z1
  rintro e w12 ⟨rfl, hb⟩
  replace K3 := Aside0.mk (K3.out.below hb)
  replace Ka := Aside0.mk (Ka.out.below hb)
  replace Kb := Aside0.mk (Kb.out.below hb)
  replace Kx := Aside0.mk (Kx.out.below hb)
  replace Ky := Aside0.mk (Ky.out.below hb)
  replace Kp := Aside0.mk (Kp.out.below hb)
  replace Kq := Aside0.mk (Kq.out.below hb)
  replace HB := Aside0.mk (HB.out.trans (hb.mono HB.out.size))
  clear hb
  obtain ⟨y0, y1⟩ := K3.out.cells
  go_wp2_with fail
  have HK := Aside0.mk (fun X (hX : Below w12.heap.size w12 X) => K3.out.below hX)
  have HBl := Aside0.mk (fun X (hX : Below w12.heap.size w12 X) => HB.out.trans (hX.mono HB.out.size))
  have hc := Aside0.mk K3.out.len
  clear K3 Ka Kb Kx Ky Kp Kq HB
  go_region_held3 (fun X => X.cell? ⟨w.heap.size, 0, none⟩ = some (.int .i64 h) ∧ X.cell? ⟨w.heap.size, 1, none⟩ = some (.slice A l.length c))
    (first | exact ⟨y0, y1⟩ | exact ⟨z0, z1⟩ | exact ⟨o0, o1⟩ | exact ⟨v0, v1⟩)
    (first
      | (go_at_call 10; refine (clock_May.calls ka h A c l m _ (HK.out _ (by first | exact below_drew (Below.refl _ _) | exact hbr.out)).row hc.out m1.out).mono ?_; rintro e wm ⟨rfl, hb⟩; have hbm : Aside0 (Below w12.heap.size w12 wm) := ⟨by first | exact (below_drew (Below.refl _ _)).trans hb | exact hbr.out.trans (hb.mono hbr.out.size)⟩; obtain ⟨z0, z1⟩ := (HK.out wm hbm.out).cells; clear hb)
      | (go_at_call 18; refine (bobbinref16_May.calls kb h A c l m _ (HK.out _ (by first | exact below_drew (Below.refl _ _) | exact hbm.out)).row hc.out m2.out).mono ?_; rintro e wr ⟨rfl, hb⟩; have hbr : Aside0 (Below w12.heap.size w12 wr) := ⟨by first | exact (below_drew (Below.refl _ _)).trans hb | exact hbm.out.trans (hb.mono hbm.out.size)⟩; obtain ⟨o0, o1⟩ := (HK.out wr hbr.out).cells; clear hb)
      | (go_at_call 12; refine (clock_Has.calls kc h A c l p (pe == 0) _ (HK.out _ (by first | exact hbr.out | exact hbm.out)).row hc.out hh.out).mono ?_; rintro e wh ⟨rfl, hb⟩; have hbh : Aside0 (Below w12.heap.size w12 wh) := ⟨by first | exact hbr.out.trans (hb.mono hbr.out.size) | exact hbm.out.trans (hb.mono hbm.out.size)⟩; obtain ⟨v0, v1⟩ := (HK.out wh hbh.out).cells; clear hb))
  all_goals
    go_wp2_with fail
    go_ret
    exact ⟨rfl, HBl.out _ (by first | exact hbh.out | exact below_drew hbh.out)⟩
set_option maxHeartbeats 2000000 in
set_option maxRecDepth 100000 in
/-- More than forty frames: nothing is asked. -/
theorem tells_out (h : Int) (A : Option Addr) (c : Nat) (l : List S32) (most p : Int) (on : Bool) (w : World) (haw : ∀ w : World, Calls Try.prog 8 #[] w fun e w' => e = .returned (.bool true) ∧ Below w.heap.size w w') (hC : Kd.C k32 w A l.length l) (hc : l.length ≤ c)
    (hli : ∀ (W : World) (g : Nat), BL W g h A c l → Calls Try.prog 9 #[.agg #[.int .i64 h, .slice A l.length c]] W fun e w' => e = .returned (.bool false) ∧ Below W.heap.size W w') :
    Calls Try.prog 6 #[.agg #[.int .i64 h, .slice A l.length c], .int .i64 most, .int .i64 p, .bool on] w fun e w' => e = .returned (.bool true) ∧ Below w.heap.size w w' := by
  have K3 : Aside0 (BL (w.alloc (.cells #[.int .i64 h, .slice A l.length c] 24)) w.heap.size h A c l) := ⟨BL.made hc hC⟩
  have HB : Aside0 (Below w.heap.size w (w.alloc (.cells #[.int .i64 h, .slice A l.length c] 24))) := ⟨below_alloc (Below.refl _ _) _⟩
  replace haw := Aside0.mk haw
  replace hli := Aside0.mk hli
  clear hC hc
  go_enter Try.func6, Try.ntmps6
  go_wp2_with fail
  generalize w.alloc _ = w1 at *
  refine (haw.out w1).mono ?_
  rintro e w2 ⟨rfl, hb⟩
  replace K3 := Aside0.mk (K3.out.below hb)
  replace HB := Aside0.mk (HB.out.trans (hb.mono HB.out.size))
  clear hb
  obtain ⟨y0, y1⟩ := K3.out.cells
  go_wp2_with fail
  refine (hli.out w2 _ K3.out).mono ?_
  rintro e w3 ⟨rfl, hb⟩
  clear y0 y1
  replace K3 := Aside0.mk (K3.out.below hb)
  replace HB := Aside0.mk (HB.out.trans (hb.mono HB.out.size))
  clear hb
  go_wp2_with fail
  go_ret
  exact ⟨rfl, HB.out⟩
def bobbinlaw16_ClockTells.f (a0_0 : Int) (l0_1 : List S32) (a1 a2 : Int) (a3 : Bool) : Option Bool := some true
theorem bobbinlaw16_ClockTells.calls (a0_0 : Int) (A0_1 : Option Addr) (c0_1 : Nat) (l0_1 : List (S32)) (a1 : Int) (a2 : Int) (a3 : Bool) (r : Bool) (w : World) (hr0_1 : Kd.C k32 w A0_1 l0_1.length l0_1) (hc0_1 : l0_1.length ≤ c0_1) (h : bobbinlaw16_ClockTells.f a0_0 l0_1 a1 a2 a3 = some r) :
    Calls Try.prog 6 #[.agg #[.int .i64 a0_0, .slice A0_1 l0_1.length c0_1], .int .i64 a1, .int .i64 a2, .bool a3] w fun e w' => e = .returned (.bool r) ∧ Below w.heap.size w w' := by
  obtain rfl : true = r := Option.some.inj h
  obtain ⟨kw, hw⟩ := Ev.rounds Pure.awake16'
  have haw := fun w : World => bobbinlaw16_awake.calls kw true w hw
  by_cases h40 : l0_1.length ≤ 40
  · obtain ⟨th, tl, te, k1, t1, t2, t3, t4⟩ := touch_ans a0_0 l0_1 h40 a2 a3
    obtain ⟨ph, pl, pe, k3, p1, p2, p3, p4⟩ := pin_ans a0_0 l0_1 h40 a2 a3
    obtain ⟨⟨ah, al, an, ae⟩, q1, q2, q3⟩ := Pure.admit_both a0_0 l0_1 h40 a1 a2
    obtain ⟨k5, q1⟩ := Ev.rounds q1
    obtain ⟨k6, q2⟩ := Ev.rounds q2
    obtain ⟨k7, s1⟩ := Ev.rounds (Pure.rsame th tl (by have : tl.length ≤ 40 := t3; omega))
    obtain ⟨k8, s2⟩ := Ev.rounds (Pure.rsame ph pl (by have : pl.length ≤ 40 := p3; omega))
    obtain ⟨k9, s3⟩ := Ev.rounds (Pure.rsame ah al (by have : al.length ≤ 40 := q3; omega))
    obtain ⟨m, ka, kb, m1, m2⟩ := Pure.may_both a0_0 l0_1 (by omega)
    obtain ⟨kc, hh⟩ := Ev.rounds (Pure.has_both a0_0 l0_1 (by omega) a2 pe p4)
    exact tells_walk a0_0 A0_1 c0_1 l0_1 a1 a2 a3 w haw hr0_1 hc0_1 (fun W g b => bobbinlaw16_light.calls a0_0 A0_1 c0_1 l0_1 true W b.row b.len (by unfold bobbinlaw16_light.f; rw [decide_eq_true (by omega)])) t1 t2 p1 p2 q1 q2 s1 s2 s3 m1 m2 hh
  · exact tells_out a0_0 A0_1 c0_1 l0_1 a1 a2 a3 w haw hr0_1 hc0_1 (fun W g b => bobbinlaw16_light.calls a0_0 A0_1 c0_1 l0_1 false W b.row b.len (by unfold bobbinlaw16_light.f; rw [decide_eq_false (by omega)]))
end Go.Proofs.Ytoklljioloekmaa.Print
