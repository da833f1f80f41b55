/- TxnKept. -/
import Derived.Test.YtdbbibndjknafaaTxKept
import Derived.Test.YtdbbibndjknafaaTxnTells
namespace Go.Proofs.Ytdbbibndjknafaa.Print
open Go.RowKit Go.Proofs.YtdbbibndjknafaaW.PrintWords Go.Proofs.YtdbbibndjknafaaW.PrintLast Go.Proofs.YtdbbibndjknafaaW.PrintMore
set_option linter.unusedVariables false
set_option linter.unusedSimpArgs false
theorem size_any (v : S28) (h : v.f1.length ≤ 100) (A : Option Addr) (c : Nat) (w : World) (hc : v.f1.length ≤ c) (hC : Kd.C (Kd.int .u8) w A v.f1.length v.f1) : Calls Try.prog 27 #[.agg #[.bool v.f0, .slice A v.f1.length c]] w fun e w' => e = .returned (.int .i64 (sizeT v)) ∧ Below w.heap.size w w' :=
  txn_Size.calls _ A c _ _ w hC hc (size_f v h)
theorem rsize_any (v : S28) (h : v.f1.length ≤ 100) (A : Option Addr) (c : Nat) (w : World) (hc : v.f1.length ≤ c) (hC : Kd.C (Kd.int .u8) w A v.f1.length v.f1) : Calls Try.prog 28 #[.agg #[.bool v.f0, .slice A v.f1.length c]] w fun e w' => e = .returned (.int .i64 (sizeT v)) ∧ Below w.heap.size w w' :=
  bobbinref14_Size.calls _ A c _ _ w hC hc (rsize_f v h)
theorem at_TX {w : World} {A : Option Addr} {n : Nat} {xs : List S25} (h : Kd.C k25 w A n xs) (i : Nat) (hi : i < n) : ∃ ad A4 c4 A5 c5, A = some ad ∧ w.cell? (ad.add (i * 6)) = some (.int .i64 (rd_T25 xs i).f0) ∧ w.cell? ⟨(ad.add (i * 6)).block, (ad.add (i * 6)).off + 1, none⟩ = some (.int .i64 (rd_T25 xs i).f1) ∧ w.cell? ⟨(ad.add (i * 6)).block, (ad.add (i * 6)).off + 2, none⟩ = some (.int .i64 (rd_T25 xs i).f2) ∧ w.cell? ⟨(ad.add (i * 6)).block, (ad.add (i * 6)).off + 3, none⟩ = some (.int .i64 (rd_T25 xs i).f3) ∧ w.cell? ⟨(ad.add (i * 6)).block, (ad.add (i * 6)).off + 4, none⟩ = some (.slice A4 (rd_T25 xs i).f4.length c4) ∧ w.cell? ⟨(ad.add (i * 6)).block, (ad.add (i * 6)).off + 5, none⟩ = some (.slice A5 (rd_T25 xs i).f5.length c5) ∧ TF w (fun k => k < w.heap.size) (rd_T25 xs i) A4 c4 A5 c5 := by
  obtain ⟨ad, A4, c4, A5, c5, e, z0, z1, z2, z3, z4, z5, l4, g4, l5, g5⟩ := at_T25 h (i : Int) (by omega) (by omega)
  rw [show ((i : Int)).toNat = i by omega] at z0 z1 z2 z3 z4 z5
  exact ⟨ad, A4, c4, A5, c5, e, z0, z1, z2, z3, z4, z5, TF.came l4 g4 l5 g5⟩
set_option maxHeartbeats 2000000 in
set_option maxRecDepth 100000 in
theorem kept_walk (A0 : Option Addr) (c0 : Nat) (l : List S25) (p : Int) (v : S28) (Av : Option Addr) (cv : Nat) (w : World) (haw : ∀ w : World, Calls Try.prog 10 #[] w fun e w' => e = .returned (.bool true) ∧ Below w.heap.size w w') (h : Kd.C k25 w A0 l.length l) (hc0 : l.length ≤ c0) (hv : Kd.C (Kd.int .u8) w Av v.f1.length v.f1) (hcv : v.f1.length ≤ cv) (hl20 : l.length ≤ 20) (hv100 : v.f1.length ≤ 100) :
    Calls Try.prog 4 #[.slice A0 l.length c0, .int .i64 p, .agg #[.bool v.f0, .slice Av v.f1.length cv]] w fun e w' => e = .returned (.bool true) ∧ Below w.heap.size w w' := by
  have HL := Aside0.mk (fun X (hb : Below w.heap.size w X) => Kd.C_below h hb)
  have HV := Aside0.mk (fun X (hb : Below w.heap.size w X) => Kd.C_below hv hb)
  have f1 : decide ((l.length : Int) > 20) = false := by simp; omega
  have f2 : decide ((v.f1.length : Int) > 100) = false := by simp; omega
  have hm1 : l.length ≤ 9223372036854775807 := by omega
  have HB : Aside0 (Below w.heap.size w (w.alloc (.cells #[.bool v.f0, .slice Av v.f1.length cv] 28))) := ⟨below_alloc (Below.refl _ _) _⟩
  have hbox := Aside0.mk (heap_alloc_new w (.cells #[.bool v.f0, .slice Av v.f1.length cv] 28))
  have hbl : Aside0 (w.heap.size < (w.alloc (.cells #[.bool v.f0, .slice Av v.f1.length cv] 28)).heap.size) := ⟨by rw [World.size_alloc]; omega⟩
  replace haw := Aside0.mk haw
  clear h hv
  go_enter Try.func4, Try.ntmps4
  go_wp2_with fail
  generalize w.alloc (.cells #[.bool v.f0, .slice Av v.f1.length cv] 28) = w1 at *
  refine (haw.out w1).mono ?_
  rintro e w2 ⟨rfl, hb⟩
  replace hbox := Aside0.mk ((hb.block _ hbl.out).trans hbox.out)
  replace HB := Aside0.mk (HB.out.trans (hb.mono HB.out.size))
  replace hbl := Aside0.mk (Nat.lt_of_lt_of_le hbl.out hb.size)
  clear hb
  have v1 : w2.cell? ⟨w.heap.size, 1, none⟩ = some (.slice Av v.f1.length cv) := (blk_cell hbox.out 1).trans rfl
  have HI0 : Aside0 (Below w2.heap.size w2 w2 ∧ ∀ t ∈ l.take 0, LightP t) := ⟨Below.refl _ _, fun t ht => by simp at ht⟩
  go_wp2_with fail
  go_loopw [8] (fun v8 wr => ∃ i : Nat, i ≤ l.length ∧ v8 = .int .i64 i ∧ Aside0 (Below w2.heap.size w2 wr ∧ ∀ t ∈ l.take i, LightP t)) (fun v8 _ => l.length - (intOf v8).toNat)
  case atStart => exact ⟨0, Nat.zero_le _, rfl, HI0⟩
  case round =>
    obtain ⟨i, hi, rfl, HI⟩ := hrel
    have HBr := Aside0.mk (HB.out.trans (HI.out.1.mono HB.out.size))
    by_cases hli : i < l.length
    · obtain ⟨ad, A4, c4, A5, c5, rfl, z0, z1, z2, z3, z4, z5, hT⟩ := at_TX (HL.out wr HBr.out) i hli
      have htk : l.take (i + 1) = l.take i ++ [rd_T25 l i] := by
        unfold rd_T25
        rw [show ((i : Int)).toNat = i by omega, List.take_succ_eq_append_getElem hli, List.getD_eq_getElem?_getD, List.getElem?_eq_getElem hli]
        rfl
      replace htk := Aside0.mk htk
      generalize rd_T25 l i = t at *
      replace hT := Aside0.mk hT
      go_wp2_with fail
      refine (rlight_any t A4 c4 A5 c5 hT.out).mono ?_
      rintro e w3 ⟨rfl, hb⟩
      have HB3 := Aside0.mk (HI.out.1.trans (hb.mono HI.out.1.size))
      clear hb z0 z1 z2 z3 z4 z5
      cases hlt : lightT t
      · go_wp2_with fail
        go_ret
        exact ⟨rfl, HB.out.trans (HB3.out.mono HB.out.size)⟩
      · have HI2 : Aside0 (Below w2.heap.size w2 w3 ∧ ∀ t ∈ l.take (i + 1), LightP t) := ⟨HB3.out, fun x hx => by
          rw [htk.out] at hx
          rcases List.mem_append.1 hx with e | e
          · exact HI.out.2 x e
          · simp at e
            rw [e]
            exact lightT_true.1 hlt⟩
        go_wp2_with fail
        go_roundw
        case rel => exact ⟨i + 1, by omega, by go_num, HI2⟩
        case measure => simp only [intOf]; omega
    · obtain rfl : i = l.length := by omega
      have hL := HI.out.2
      rw [List.take_length] at hL
      have HK := Aside0.mk (fun X (hX : Below wr.heap.size wr X) => txn_Kept.calls 1000 A0 c0 l p _ X (Kd.C_below (HL.out wr HBr.out) hX) hc0 (kept_f p l hL (by omega)))
      have HR := Aside0.mk (fun X (hX : Below wr.heap.size wr X) => bobbinref14_Kept.calls 1000 A0 c0 l p _ X (Kd.C_below (HL.out wr HBr.out) hX) hc0 (rkept_f p l hL (by omega)))
      have HS := Aside0.mk (fun X (hX : Below wr.heap.size wr X) => size_any v hv100 Av cv X hcv (Kd.C_below (HV.out wr HBr.out) hX))
      have HS2 := Aside0.mk (fun X (hX : Below wr.heap.size wr X) => rsize_any v hv100 Av cv X hcv (Kd.C_below (HV.out wr HBr.out) hX))
      have hbr := (HI.out.1.block _ hbl.out).trans hbox.out
      have HX := Aside0.mk (fun X (hX : Below wr.heap.size wr X) => show World.cell? X ⟨w.heap.size, 0, none⟩ = some (.bool v.f0) ∧ World.cell? X ⟨w.heap.size, 1, none⟩ = some (.slice Av v.f1.length cv) from ⟨pw_cell_below hX ((blk_cell hbr 0).trans rfl), pw_cell_below hX ((blk_cell hbr 1).trans rfl)⟩)
      obtain ⟨y0, y1⟩ := HX.out wr (Below.refl _ _)
      generalize keptT p l = kt at *
      generalize sizeT v = sv at *
      replace hbr := Aside0.mk hbr
      replace hL := Aside0.mk hL
      clear v1 HL HV HI hbox hbl
      go_wp2_with fail
      go_region_held3 (fun X => X.cell? ⟨w.heap.size, 0, none⟩ = some (.bool v.f0) ∧ X.cell? ⟨w.heap.size, 1, none⟩ = some (.slice Av v.f1.length cv))
        (first | exact ⟨y0, y1⟩ | exact ⟨a0, a1⟩ | exact ⟨b0, b1⟩ | exact ⟨d0, d1⟩ | exact ⟨e0, e1⟩)
        (first
          | (go_at_call 25; refine (HK.out _ (by first | exact below_drew (Below.refl _ _) | exact hbb.out)).mono ?_; rintro e wa ⟨rfl, hb⟩; have hba : Aside0 (Below wr.heap.size wr wa) := ⟨by first | exact (below_drew (Below.refl _ _)).trans hb | exact hbb.out.trans (hb.mono hbb.out.size)⟩; obtain ⟨a0, a1⟩ := HX.out wa hba.out; clear hb)
          | (go_at_call 26; refine (HR.out _ (by first | exact below_drew (Below.refl _ _) | exact hba.out)).mono ?_; rintro e wb ⟨rfl, hb⟩; have hbb : Aside0 (Below wr.heap.size wr wb) := ⟨by first | exact (below_drew (Below.refl _ _)).trans hb | exact hba.out.trans (hb.mono hba.out.size)⟩; obtain ⟨b0, b1⟩ := HX.out wb hbb.out; clear hb)
          | (go_at_call 27; refine (HS.out _ (by first | exact hbd.out | exact hbb.out | exact hba.out)).mono ?_; rintro e wc ⟨rfl, hb⟩; have hbc : Aside0 (Below wr.heap.size wr wc) := ⟨by first | exact hbd.out.trans (hb.mono hbd.out.size) | exact hbb.out.trans (hb.mono hbb.out.size) | exact hba.out.trans (hb.mono hba.out.size)⟩; obtain ⟨d0, d1⟩ := HX.out wc hbc.out; clear hb)
          | (go_at_call 28; refine (HS2.out _ (by first | exact hbc.out | exact hbb.out | exact hba.out)).mono ?_; rintro e wd ⟨rfl, hb⟩; have hbd : Aside0 (Below wr.heap.size wr wd) := ⟨by first | exact hbc.out.trans (hb.mono hbc.out.size) | exact hbb.out.trans (hb.mono hbb.out.size) | exact hba.out.trans (hb.mono hba.out.size)⟩; obtain ⟨e0, e1⟩ := HX.out wd hbd.out; clear hb))
      all_goals
        go_wp2_with fail
        go_ret
        exact ⟨rfl, HBr.out.trans ((show Below wr.heap.size wr _ from by first | exact hbd.out | exact hbc.out).mono HBr.out.size)⟩
set_option maxHeartbeats 1000000 in
set_option maxRecDepth 100000 in
theorem kept_out (A0 : Option Addr) (c0 n : Nat) (p : Int) (vb : Bool) (Av : Option Addr) (nv cv : Nat) (w : World) (haw : ∀ w : World, Calls Try.prog 10 #[] w fun e w' => e = .returned (.bool true) ∧ Below w.heap.size w w') (hm : n ≤ 9223372036854775807) (hm2 : nv ≤ 9223372036854775807) (h : 20 < n ∨ 100 < nv) :
    Calls Try.prog 4 #[.slice A0 n c0, .int .i64 p, .agg #[.bool vb, .slice Av nv cv]] w fun e w' => e = .returned (.bool true) ∧ Below w.heap.size w w' := by
  have HB : Aside0 (Below w.heap.size w (w.alloc (.cells #[.bool vb, .slice Av nv cv] 28))) := ⟨below_alloc (Below.refl _ _) _⟩
  have hbox := Aside0.mk (heap_alloc_new w (.cells #[.bool vb, .slice Av nv cv] 28))
  have hbl : Aside0 (w.heap.size < (w.alloc (.cells #[.bool vb, .slice Av nv cv] 28)).heap.size) := ⟨by rw [World.size_alloc]; omega⟩
  replace haw := Aside0.mk haw
  by_cases h1 : 20 < n
  · have f1 : decide ((n : Int) > 20) = true := by simp; omega
    clear h h1
    go_enter Try.func4, Try.ntmps4
    go_wp2_with fail
    generalize w.alloc (.cells #[.bool vb, .slice Av nv cv] 28) = w1 at *
    refine (haw.out w1).mono ?_
    rintro e w2 ⟨rfl, hb⟩
    replace HB := Aside0.mk (HB.out.trans (hb.mono HB.out.size))
    clear hb
    go_wp2_with fail
    go_ret
    exact ⟨rfl, HB.out⟩
  · have f1 : decide ((n : Int) > 20) = false := by simp; omega
    have f2 : decide ((nv : Int) > 100) = true := by simp; omega
    clear h h1
    go_enter Try.func4, Try.ntmps4
    go_wp2_with fail
    generalize w.alloc (.cells #[.bool vb, .slice Av nv cv] 28) = w1 at *
    refine (haw.out w1).mono ?_
    rintro e w2 ⟨rfl, hb⟩
    replace hbox := Aside0.mk ((hb.block _ hbl.out).trans hbox.out)
    replace HB := Aside0.mk (HB.out.trans (hb.mono HB.out.size))
    clear hb
    have v1 : w2.cell? ⟨w.heap.size, 1, none⟩ = some (.slice Av nv cv) := (blk_cell hbox.out 1).trans rfl
    go_wp2_with fail
    go_ret
    exact ⟨rfl, HB.out⟩
def bobbinlaw14_TxnKept.f (l0 : List S25) (a1 : Int) (a2_0 : Bool) (l2_1 : List Int) : Option Bool := some true
theorem bobbinlaw14_TxnKept.calls (A0 : Option Addr) (c0 : Nat) (l0 : List (S25)) (a1 : Int) (a2_0 : Bool) (A2_1 : Option Addr) (c2_1 : Nat) (l2_1 : List Int) (r : Bool) (w : World) (hr0 : Kd.C k25 w A0 l0.length l0) (hc0 : l0.length ≤ c0) (hr2_1 : Kd.C (Kd.int .u8) w A2_1 l2_1.length l2_1) (hc2_1 : l2_1.length ≤ c2_1) (h : bobbinlaw14_TxnKept.f l0 a1 a2_0 l2_1 = some r) :
    Calls Try.prog 4 #[.slice A0 l0.length c0, .int .i64 a1, .agg #[.bool a2_0, .slice A2_1 l2_1.length c2_1]] w fun e w' => e = .returned (.bool r) ∧ Below w.heap.size w w' := by
  obtain rfl : true = r := Option.some.inj h
  by_cases hh : 20 < l0.length ∨ 100 < l2_1.length
  · exact kept_out A0 c0 _ a1 a2_0 A2_1 _ c2_1 w awake_any hr0.2.1 hr2_1.2.1 hh
  · exact kept_walk A0 c0 l0 a1 ⟨a2_0, l2_1⟩ A2_1 c2_1 w awake_any hr0 hc0 hr2_1 hc2_1 (by omega) (by show l2_1.length ≤ 100; omega)
end Go.Proofs.Ytdbbibndjknafaa.Print
