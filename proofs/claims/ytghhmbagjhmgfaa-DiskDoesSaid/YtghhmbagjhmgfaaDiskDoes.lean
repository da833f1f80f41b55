/- DiskDoes: any calls of any device answer, and leave on it, what the document says. -/
import Derived.Test.YtghhmbagjhmgfaaDoes0
import Derived.Deep.CutRange
import Derived.Deep.RegionHeld3
namespace Go.Proofs.Ytghhmbagjhmgfaa.Print
open Go.RowKit Go.Proofs.YtghhmbagjhmgfaaW.PrintWords Go.Proofs.YtghhmbagjhmgfaaW.PrintLast Go.Proofs.YtghhmbagjhmgfaaW.PrintMore
set_option linter.unusedVariables false
set_option linter.unusedSimpArgs false
theorem five_cellsF {W : World} {g : Nat} {a b c d e : Value} {t : TypeId} (h : W.heap[g]? = some (.cells #[a, b, c, d, e] t (0, 0))) :
    W.cell? ⟨g, 0, none⟩ = some a ∧ W.cell? ⟨g, 1, none⟩ = some b ∧ W.cell? ⟨g, 2, none⟩ = some c ∧ W.cell? ⟨g, 3, none⟩ = some d ∧ W.cell? ⟨g, 4, none⟩ = some e ∧
    W.frozen? ⟨g, 0, none⟩ = false ∧ W.frozen? ⟨g, 1, none⟩ = false ∧ W.frozen? ⟨g, 2, none⟩ = false ∧ W.frozen? ⟨g, 3, none⟩ = false ∧ W.frozen? ⟨g, 4, none⟩ = false :=
  ⟨(blk_cell h 0).trans rfl, (blk_cell h 1).trans rfl, (blk_cell h 2).trans rfl, (blk_cell h 3).trans rfl, (blk_cell h 4).trans rfl, blk_frozen h _, blk_frozen h _, blk_frozen h _, blk_frozen h _, blk_frozen h _⟩
set_option maxHeartbeats 4000000 in
set_option maxRecDepth 100000 in
theorem does_walk (n : Nat) (A1 : Option Addr) (c1 : Nat) (l1 : List S35) (w : World) (hr1 : Kd.C k35 w A1 l1.length l1) (hc1 : l1.length ≤ c1) (hn1 : 1 ≤ n) (hn : n ≤ 20) (hl : l1.length ≤ 60) :
    Calls Try.prog 6 #[.int .i64 (n : Int), .slice A1 l1.length c1] w fun e w' => e = .returned (.bool true) ∧ Below w.heap.size w w' := by
  have HO := Aside0.mk (fun i hi => ops_at2 hr1 i hi)
  have HF := Aside0.mk (fun i hi => ops_few hr1 i hi)
  clear hr1
  have haw := Aside0.mk awake_calls
  have e1 : decide ((n : Int) > 20) = false := by simp; omega
  have e3 : decide ((l1.length : Int) > 60) = false := by simp; omega
  generalize hbx0 : w.heap.size = bx at *
  replace hbx0 := Aside0.mk hbx0
  go_enter Try.func6, Try.ntmps6
  go_wp2_with fail
  refine (haw.out w).mono ?_
  rintro e w1 ⟨rfl, hb1⟩
  replace hb1 := Aside0.mk hb1
  go_wp2_with fail
  refine (new_ok n w1 hn1 (by omega)).mono ?_
  rintro e w2 ⟨g, Rs, Sec, rfl, hk2, hrs, hsc, hb2⟩
  have hB2 := Aside0.mk (hb1.out.trans (hb2.mono hb1.out.size))
  replace hrs := Aside0.mk (fun k a => Nat.le_trans hb1.out.size (hrs k a))
  replace hsc := Aside0.mk (fun k a => Nat.le_trans hb1.out.size (hsc k a))
  replace hk2 := Aside0.mk hk2
  clear hb2
  go_wp2_with fail
  refine (bobbinref03_New.calls _ (n : Int) _ _ _ _ _ _ w2 (new_pd n hn1 (by omega))).mono ?_
  rintro e w3 ⟨v0, v1, rfl, k0, k1, hb3⟩
  obtain ⟨A0', c0', rfl⟩ := Kd.R_slice (Kd.S_R k0)
  obtain ⟨A1', c1', rfl⟩ := Kd.R_slice (Kd.S_R k1)
  have hp := PrAt.first (r := ⟨List.replicate n (sect 0), [], false, false, 0⟩) (w0 := w) hk2.out hrs.out hsc.out hB2.out.size hb3 k0 k1
  have HI0 : Aside0 (DoI w _ n g w3.heap.size (newD n) ⟨List.replicate n (sect 0), [], false, false, 0⟩ 0) := ⟨⟨⟨_, _, _, _, _, _, _, hp⟩, newD_ok n (by omega), by simp [newD], Alk.new n, (hB2.out.trans (hb3.mono hB2.out.size)).trans (below_alloc (Below.refl _ _) _ |>.mono (by have := hb3.size; have := hB2.out.size; omega))⟩⟩
  have hlen : agR ⟨List.replicate n (sect 0), [], false, false, 0⟩ A0' A1' c0' c1' = #[.slice A0' n c0', .slice A1' 0 c1', .bool false, .bool false, .int .i64 0] := by simp [agR]
  rw [hlen] at HI0
  clear hp k0 k1 hk2 hrs hsc hb3 hb1 hB2 hlen
  go_wp2_with fail
  generalize w3.heap.size = rb at *
  generalize w3.alloc _ = w4 at *
  generalize newD n = d0 at *
  generalize (⟨List.replicate n (sect 0), [], false, false, 0⟩ : PD) = r0 at *
  go_loopw [6, 10] (fun v6 v10 wr => ∃ (k g : Nat) (d : DS) (r : PD), k ≤ l1.length ∧ v10 = .int .i64 k ∧ v6 = .pointer (some ⟨g, 0, none⟩) ∧ Aside0 (DoI w wr n g rb d r k)) (fun _ v10 _ => l1.length - (intOf v10).toNat)
  case atStart => exact ⟨0, g, d0, r0, Nat.zero_le _, rfl, rfl, HI0⟩
  case round =>
    clear HI0
    obtain ⟨k, g, d, r, hk, rfl, rfl, HI⟩ := hrel
    by_cases hlk : k < l1.length
    · have h63 := HF.out k hlk
      obtain ⟨ad, Ak, ck, rfl, ho, hlc, hkc⟩ := HO.out k hlk
      generalize rd_T35 l1 k = x at *
      obtain ⟨q0, q1, q2, q3, q4, q5, q6, q7, _⟩ := ho.below HI.out.bel
      replace hkc := Aside0.mk (Kd.C_below hkc HI.out.bel)
      have hkb := Aside0.mk (fun j (hj : j < x.f5.f0.length) => bools_at hkc.out j hj)
      clear ho
      have hbz : Aside0 (Below wr.heap.size wr (wr.alloc (.cells #[.int .i64 x.f0, .int .i64 x.f1, .int .i64 x.f2, .int .u8 x.f3, .bool x.f4, .slice Ak x.f5.f0.length ck, .int .i64 x.f5.f1, .int .i64 x.f5.f2] 35))) := ⟨below_alloc (Below.refl _ _) _⟩
      have hzz : Aside0 ((wr.alloc (.cells #[.int .i64 x.f0, .int .i64 x.f1, .int .i64 x.f2, .int .u8 x.f3, .bool x.f4, .slice Ak x.f5.f0.length ck, .int .i64 x.f5.f1, .int .i64 x.f5.f2] 35)).heap[wr.heap.size]? = some (.cells #[.int .i64 x.f0, .int .i64 x.f1, .int .i64 x.f2, .int .u8 x.f3, .bool x.f4, .slice Ak x.f5.f0.length ck, .int .i64 x.f5.f1, .int .i64 x.f5.f2] 35)) := ⟨World.alloc_heap_new wr _⟩
      have hzl : wr.heap.size < (wr.alloc (.cells #[.int .i64 x.f0, .int .i64 x.f1, .int .i64 x.f2, .int .u8 x.f3, .bool x.f4, .slice Ak x.f5.f0.length ck, .int .i64 x.f5.f1, .int .i64 x.f5.f2] 35)).heap.size := by rw [World.size_alloc]; omega
      go_upto_region 12 with fail
      generalize hwz : wr.alloc (.cells #[.int .i64 x.f0, .int .i64 x.f1, .int .i64 x.f2, .int .u8 x.f3, .bool x.f4, .slice Ak x.f5.f0.length ck, .int .i64 x.f5.f1, .int .i64 x.f5.f2] 35) = wz at *
      clear hwz q0 q1 q2 q3 q4 q5 q6 q7
      have z3 := (blk_cell hzz.out 3).trans rfl
      go_wp2_with fail
      refine (sector_own x.f3 wz).mono ?_
      rintro e w5 ⟨q, c5, rfl, hR5, hb5, hq1, hq2, hc5⟩
      have hzl5 : wr.heap.size < w5.heap.size := Nat.lt_of_lt_of_le hzl hb5.size
      have hzz5 := Aside0.mk ((hb5.block wr.heap.size hzl).trans hzz.out)
      have hbz5 := Aside0.mk (hbz.out.trans (hb5.mono hbz.out.size))
      have hS := Aside0.mk (sect_F hR5 (Nat.le_of_lt hzl))
      have z4 := (blk_cell hzz5.out 4).trans rfl
      clear hR5 hb5 hzz hbz z3
      go_upto_if 67 with fail
      go_cut [12] from 66 to 69 (fun v12 wc => ∃ (A : Option Addr) (nn cc : Nat) (s : List Int), v12 = .slice A nn cc ∧ wc = w5 ∧ Aside0 (nn = s.length ∧ s.length ≤ 256 ∧ s.length ≤ cc ∧ Kd.F (Kd.int .u8) w5 (fun k => wr.heap.size ≤ k) A s.length s))
      case first =>
        have hl6 := Aside0.mk (sect_len x.f3)
        go_wp2_with fail
        · go_meet
          case rel => exact ⟨_, 255, c5 - 1, (sect x.f3).drop 1, rfl, rfl, ⟨(sect_F1 hl6.out hc5 hS.out.2.2).1, by rw [← (sect_F1 hl6.out hc5 hS.out.2.2).1]; decide, (sect_F1 hl6.out hc5 hS.out.2.2).2.1, (sect_F1 hl6.out hc5 hS.out.2.2).2.2⟩⟩
        · go_meet
          case rel => exact ⟨_, 256, c5, sect x.f3, rfl, rfl, ⟨hS.out.1, Nat.le_of_eq hl6.out, hS.out.2.1, hS.out.2.2⟩⟩
      case rest =>
        obtain ⟨A, nn, cc, s, rfl, rfl, hS2⟩ := hcut
        clear hS z4
        have z1 := (blk_cell hzz5.out 1).trans rfl
        have z2 := (blk_cell hzz5.out 2).trans rfl
        have z5 := (blk_cell hzz5.out 5).trans rfl
        have z6 := (blk_cell hzz5.out 6).trans rfl
        have z7 := (blk_cell hzz5.out 7).trans rfl
        have z0 := (blk_cell hzz5.out 0).trans rfl
        obtain ⟨Rs, Sec, P, B0, B1, b0, b1, HP⟩ := HI.out.pr
        have hbl := hbz5.out
        have hfw := (HI.out.alk.few HI.out.ok)
        obtain ⟨y0, y1, y2, y3, y4, _⟩ := five_cellsF ((HP.below hbl).blk)
        replace HP := Aside0.mk HP
        replace hfw := Aside0.mk hfw
        clear hbl
        by_cases h0 : x.f0 = 0
        · have t0 : (x.f0 == 0) = true := by simpa using h0
          have t1 : (x.f0 == 1) = false := by simp; omega
          have t2 : (x.f0 == 2) = false := by simp; omega
          have t3 : (x.f0 == 3) = false := by simp; omega
          clear h0
          go_wp2_with fail
          refine (HP.out.write HI.out.bel hbz5.out HI.out.ok (by omega) x.f1 hS2.out.1 hS2.out.2.2.2 hS2.out.2.2.1).mono ?_
          rintro e w6 ⟨rfl, ⟨Rs6, Sec6, H6⟩, hB6, hkeep⟩
          have hk6 := (hkeep wr.heap.size (Nat.le_refl _) hzl5).trans hzz5.out
          clear z0 z1 z2 z5 z6 z7
          have z1 := (blk_cell hk6 1).trans rfl
          have z2 := (blk_cell hk6 2).trans rfl
          have z5 := (blk_cell hk6 5).trans rfl
          have z6 := (blk_cell hk6 6).trans rfl
          have z7 := (blk_cell hk6 7).trans rfl
          clear hk6 y0 y1 y2 y3 y4
          obtain ⟨y0, y1, y2, y3, y4, _⟩ := five_cellsF H6.blk
          have hC6 := Kd.F_now (Kd.F_step hS2.out.2.2.2 (fun j hj hlt => hkeep j hj hlt))
          rw [(HI.out.alk.write x.f1 s).2]
          clear hkeep
          replace H6 := Aside0.mk H6
          replace hB6 := Aside0.mk hB6
          replace hC6 := Aside0.mk hC6
          go_wp2_with fail
          have H6 := H6.out
          have hB6 := hB6.out
          refine (H6.rwrite (by have := hfw.out.1; omega) hfw.out.2.1 x.f1 hS2.out.1 hS2.out.2.1 hC6.out hS2.out.2.2.1).mono ?_
          rintro e w7 ⟨D0, D1, f0, f1, rfl, hA7⟩
          obtain ⟨y0, y1, y2, y3, y4, y5, y6, y7, y8, y9⟩ := five_cellsF ((hA7.1.block rb H6.lt).trans H6.blk)
          have hst := fun a b c d e => five_store ((hA7.1.block rb H6.lt).trans H6.blk) a b c d e
          have hput := Aside0.mk (RAns.put H6 hA7 hB6)
          replace hst := Aside0.mk hst
          clear hA7
          go_upto_region 30 with fail
          have HI2 : Aside0 (DoI w _ n g rb (writeD d x.f1 s) (r.write x.f1 s) (k + 1)) := ⟨⟨(hput.out _ (hst.out _ _ _ _ _).1 (hst.out _ _ _ _ _).2).1, writeD_ok HI.out.ok _ _, (writeD_len _ _ _).trans HI.out.len, (HI.out.alk.write x.f1 s).1, (hput.out _ (hst.out _ _ _ _ _).1 (hst.out _ _ _ _ _).2).2⟩⟩
          clear hput hst y0 y1 y2 y3 y4 y5 y6 y7 y8 y9
          generalize World.setCell _ _ _ = w8 at *
          generalize r.writeE x.f1 s = ee at *
          have eee : (ee != ee) = false := by simp
          obtain ⟨Rs9, Sec9, P9, E0, E1, e0, e1', HQ⟩ := HI2.out.pr
          obtain ⟨y0, y1, y2, y3, y4, _⟩ := five_cellsF HQ.blk
          replace HQ := Aside0.mk HQ
          go_wp2_with fail
          refine (HQ.out.same HI2.out.ok (by omega) HI2.out.alk).mono ?_
          rintro e w9 ⟨rfl, hb9⟩
          have HI3 := Aside0.mk (HI2.out.below hb9)
          clear hb9 HQ y0 y1 y2 y3 y4
          go_wp2_with fail
          go_roundw
          case rel => exact ⟨k + 1, g, _, _, by omega, by go_num, rfl, HI3⟩
          case measure => simp only [intOf]; omega
        · have t0 : (x.f0 == 0) = false := by simpa using h0
          by_cases h1 : x.f0 = 1
          · have t1 : (x.f0 == 1) = true := by simpa using h1
            have t2 : (x.f0 == 2) = false := by simp; omega
            have t3 : (x.f0 == 3) = false := by simp; omega
            clear h0 h1
            go_wp2_with fail
            refine (HP.out.sync HI.out.bel hbz5.out HI.out.ok).mono ?_
            rintro e w6 ⟨rfl, ⟨Rs6, Sec6, H6⟩, hB6, hkeep⟩
            have hk6 := (hkeep wr.heap.size (Nat.le_refl _) hzl5).trans hzz5.out
            clear z0 z1 z2 z5 z6 z7
            have z1 := (blk_cell hk6 1).trans rfl
            have z2 := (blk_cell hk6 2).trans rfl
            have z5 := (blk_cell hk6 5).trans rfl
            have z6 := (blk_cell hk6 6).trans rfl
            have z7 := (blk_cell hk6 7).trans rfl
            clear hk6 y0 y1 y2 y3 y4
            obtain ⟨y0, y1, y2, y3, y4, _⟩ := five_cellsF H6.blk
            rw [HI.out.alk.sync.2]
            clear hkeep
            replace H6 := Aside0.mk H6
            replace hB6 := Aside0.mk hB6
            go_wp2_with fail
            have H6 := H6.out
            have hB6 := hB6.out
            refine (H6.rsync (by have := hfw.out.1; omega) hfw.out.2.1 hfw.out.2.2).mono ?_
            rintro e w7 ⟨D0, D1, f0, f1, rfl, hA7⟩
            obtain ⟨y0, y1, y2, y3, y4, y5, y6, y7, y8, y9⟩ := five_cellsF ((hA7.1.block rb H6.lt).trans H6.blk)
            have hst := fun a b c d e => five_store ((hA7.1.block rb H6.lt).trans H6.blk) a b c d e
            have hput := Aside0.mk (RAns.put H6 hA7 hB6)
            replace hst := Aside0.mk hst
            clear hA7
            go_upto_region 30 with fail
            have HI2 : Aside0 (DoI w _ n g rb (syncD d) r.sync (k + 1)) := ⟨⟨(hput.out _ (hst.out _ _ _ _ _).1 (hst.out _ _ _ _ _).2).1, (syncD_ok HI.out.ok).more (by omega), (syncD_len HI.out.ok).trans HI.out.len, HI.out.alk.sync.1, (hput.out _ (hst.out _ _ _ _ _).1 (hst.out _ _ _ _ _).2).2⟩⟩
            clear hput hst y0 y1 y2 y3 y4 y5 y6 y7 y8 y9
            generalize World.setCell _ _ _ = w8 at *
            generalize r.syncE = ee at *
            have eee : (ee != ee) = false := by simp
            obtain ⟨Rs9, Sec9, P9, E0, E1, e0, e1', HQ⟩ := HI2.out.pr
            obtain ⟨y0, y1, y2, y3, y4, _⟩ := five_cellsF HQ.blk
            replace HQ := Aside0.mk HQ
            go_wp2_with fail
            refine (HQ.out.same HI2.out.ok (by omega) HI2.out.alk).mono ?_
            rintro e w9 ⟨rfl, hb9⟩
            have HI3 := Aside0.mk (HI2.out.below hb9)
            clear hb9 HQ y0 y1 y2 y3 y4
            go_wp2_with fail
            go_roundw
            case rel => exact ⟨k + 1, g, _, _, by omega, by go_num, rfl, HI3⟩
            case measure => simp only [intOf]; omega
          · have t1 : (x.f0 == 1) = false := by simpa using h1
            by_cases h2 : x.f0 = 2
            · have t2 : (x.f0 == 2) = true := by simpa using h2
              have t3 : (x.f0 == 3) = false := by simp; omega
              clear h0 h1 h2
              go_wp2_with fail
              refine (HP.out.arm HI.out.bel hbz5.out x.f2).mono ?_
              rintro e w6 ⟨rfl, ⟨Rs6, Sec6, H6⟩, hB6, hkeep⟩
              have hk6 := (hkeep wr.heap.size (Nat.le_refl _) hzl5).trans hzz5.out
              clear z0 z1 z2 z5 z6 z7
              have z1 := (blk_cell hk6 1).trans rfl
              have z2 := (blk_cell hk6 2).trans rfl
              have z5 := (blk_cell hk6 5).trans rfl
              have z6 := (blk_cell hk6 6).trans rfl
              have z7 := (blk_cell hk6 7).trans rfl
              clear hk6 y0 y1 y2 y3 y4
              obtain ⟨y0, y1, y2, y3, y4, _⟩ := five_cellsF H6.blk
              clear hkeep
              replace H6 := Aside0.mk H6
              replace hB6 := Aside0.mk hB6
              go_wp2_with fail
              have H6 := H6.out
              have hB6 := hB6.out
              refine (H6.rarm x.f2).mono ?_
              rintro e w7 ⟨D0, D1, f0, f1, rfl, hA7⟩
              obtain ⟨y0, y1, y2, y3, y4, y5, y6, y7, y8, y9⟩ := five_cellsF ((hA7.1.block rb H6.lt).trans H6.blk)
              have hst := fun a b c d e => five_store ((hA7.1.block rb H6.lt).trans H6.blk) a b c d e
              have hput := Aside0.mk (RAns.put H6 hA7 hB6)
              replace hst := Aside0.mk hst
              clear hA7
              go_upto_region 30 with fail
              have HI2 : Aside0 (DoI w _ n g rb (armF d x.f2) (r.arm x.f2) (k + 1)) := ⟨⟨(hput.out _ (hst.out _ _ _ _ _).1 (hst.out _ _ _ _ _).2).1, (armF_ok HI.out.ok x.f2).more (by omega), HI.out.len, HI.out.alk.arm x.f2, (hput.out _ (hst.out _ _ _ _ _).1 (hst.out _ _ _ _ _).2).2⟩⟩
              clear hput hst y0 y1 y2 y3 y4 y5 y6 y7 y8 y9
              generalize World.setCell _ _ _ = w8 at *
              have eee : ((0 : Int) != 0) = false := by decide
              obtain ⟨Rs9, Sec9, P9, E0, E1, e0, e1', HQ⟩ := HI2.out.pr
              obtain ⟨y0, y1, y2, y3, y4, _⟩ := five_cellsF HQ.blk
              replace HQ := Aside0.mk HQ
              go_wp2_with fail
              refine (HQ.out.same HI2.out.ok (by omega) HI2.out.alk).mono ?_
              rintro e w9 ⟨rfl, hb9⟩
              have HI3 := Aside0.mk (HI2.out.below hb9)
              clear hb9 HQ y0 y1 y2 y3 y4
              go_wp2_with fail
              go_roundw
              case rel => exact ⟨k + 1, g, _, _, by omega, by go_num, rfl, HI3⟩
              case measure => simp only [intOf]; omega
            · have t2 : (x.f0 == 2) = false := by simpa using h2
              by_cases h3 : x.f0 = 3
              · have t3 : (x.f0 == 3) = true := by simpa using h3
                clear h0 h1 h2 h3
                go_wp2_with fail
                refine ((HP.out.below hbz5.out).crash (HI.out.bel.trans (hbz5.out.mono HI.out.bel.size)) HI.out.ok (by omega) (by rw [HI.out.len]; omega) Ak x.f5.f0.length ck (fun j => x.f5.f0.getD j false) x.f5.f1 x.f5.f2 h63 (fun j hj => by
                  obtain ⟨ak, h1, h2⟩ := hkb.out j hj
                  exact ⟨ak, h1, pw_cell_below hbz5.out h2⟩)).mono ?_
                rintro e w6 ⟨g6, rfl, ⟨Rs6, Sec6, H6⟩, hb6⟩
                have hk6 := (hb6.block wr.heap.size hzl5).trans hzz5.out
                have hB6 := (HI.out.bel.trans (hbz5.out.mono HI.out.bel.size)).trans (hb6.mono (Nat.le_trans HI.out.bel.size hbz5.out.size))
                have hkc6 := Kd.C_below (Kd.C_below hkc.out hbz5.out) hb6
                clear z0 z1 z2 z5 z6 z7
                have z5 := (blk_cell hk6 5).trans rfl
                have z6 := (blk_cell hk6 6).trans rfl
                have z7 := (blk_cell hk6 7).trans rfl
                clear hk6 hb6 y0 y1 y2 y3 y4
                obtain ⟨y0, y1, y2, y3, y4, _⟩ := five_cellsF H6.blk
                replace H6 := Aside0.mk H6
                replace hB6 := Aside0.mk hB6
                replace hkc6 := Aside0.mk hkc6
                go_wp2_with fail
                have H6 := H6.out
                have hB6 := hB6.out
                refine (H6.rcrash HI.out.ok HI.out.alk (by have := hfw.out.1; omega) rfl x.f5.f1 x.f5.f2 hkc6.out hlc).mono ?_
                rintro e w7 ⟨D0, D1, f0, f1, rfl, hA7⟩
                have hok2 : Aside0 ((crashD d (kf (fun j => x.f5.f0.getD j false) x.f5.f0.length x.f5.f1 x.f5.f2)).Ok (k + 1)) := ⟨(crashD_ok HI.out.ok _ (kf_ok _ _ _ _)).more (by omega)⟩
                have hln2 : Aside0 ((crashD d (kf (fun j => x.f5.f0.getD j false) x.f5.f0.length x.f5.f1 x.f5.f2)).D.length = n) := ⟨(crashD_len _ _).trans HI.out.len⟩
                have hal2 : Aside0 (Alk (crashD d (kf (fun j => x.f5.f0.getD j false) x.f5.f0.length x.f5.f1 x.f5.f2)) (PD.crash d (kf (fun j => x.f5.f0.getD j false) x.f5.f0.length x.f5.f1 x.f5.f2))) := ⟨Alk.crash d _⟩
                generalize PD.crash d (kf (fun j => x.f5.f0.getD j false) x.f5.f0.length x.f5.f1 x.f5.f2) = r2 at *
                generalize crashD d (kf (fun j => x.f5.f0.getD j false) x.f5.f0.length x.f5.f1 x.f5.f2) = d2 at *
                obtain ⟨y0, y1, y2, y3, y4, y5, y6, y7, y8, y9⟩ := five_cellsF ((hA7.1.block rb H6.lt).trans H6.blk)
                have hst := fun a b c d e => five_store ((hA7.1.block rb H6.lt).trans H6.blk) a b c d e
                have hput := Aside0.mk (RAns.put H6 hA7 hB6)
                replace hst := Aside0.mk hst
                clear hA7
                go_upto_region 30 with fail
                have HI2 : Aside0 (DoI w _ n g6 rb d2 r2 (k + 1)) := ⟨⟨(hput.out _ (hst.out _ _ _ _ _).1 (hst.out _ _ _ _ _).2).1, hok2.out, hln2.out, hal2.out, (hput.out _ (hst.out _ _ _ _ _).1 (hst.out _ _ _ _ _).2).2⟩⟩
                clear hput hst y0 y1 y2 y3 y4 y5 y6 y7 y8 y9
                generalize World.setCell _ _ _ = w8 at *
                have eee : ((0 : Int) != 0) = false := by decide
                obtain ⟨Rs9, Sec9, P9, E0, E1, e0, e1', HQ⟩ := HI2.out.pr
                obtain ⟨y0, y1, y2, y3, y4, _⟩ := five_cellsF HQ.blk
                replace HQ := Aside0.mk HQ
                go_wp2_with fail
                refine (HQ.out.same HI2.out.ok (by omega) HI2.out.alk).mono ?_
                rintro e w9 ⟨rfl, hb9⟩
                have HI3 := Aside0.mk (HI2.out.below hb9)
                clear hb9 HQ y0 y1 y2 y3 y4
                go_wp2_with fail
                go_roundw
                case rel => exact ⟨k + 1, g6, _, _, by omega, by go_num, rfl, HI3⟩
                case measure => simp only [intOf]; omega
              · have t3 : (x.f0 == 3) = false := by simpa using h3
                clear h0 h1 h2 h3
                have HI2 : Aside0 (DoI w _ n g rb d r (k + 1)) := ⟨⟨⟨_, _, _, _, _, _, _, HP.out.below hbz5.out⟩, HI.out.ok.more (by omega), HI.out.len, HI.out.alk, HI.out.bel.trans (hbz5.out.mono HI.out.bel.size)⟩⟩
                clear y0 y1 y2 y3 y4
                have eee : ((0 : Int) != 0) = false := by decide
                obtain ⟨Rs9, Sec9, P9, E0, E1, e0, e1', HQ⟩ := HI2.out.pr
                obtain ⟨y0, y1, y2, y3, y4, _⟩ := five_cellsF HQ.blk
                replace HQ := Aside0.mk HQ
                go_wp2_with fail
                refine (HQ.out.same HI2.out.ok (by omega) HI2.out.alk).mono ?_
                rintro e w9 ⟨rfl, hb9⟩
                have HI3 := Aside0.mk (HI2.out.below hb9)
                clear hb9 HQ y0 y1 y2 y3 y4
                go_wp2_with fail
                go_roundw
                case rel => exact ⟨k + 1, g, _, _, by omega, by go_num, rfl, HI3⟩
                case measure => simp only [intOf]; omega
    · have ht : decide ((k : Int) < (l1.length : Int)) = false := by simp; omega
      have hB := Aside0.mk HI.out.bel
      clear HI HO HF
      go_wp2_with fail
      go_ret
      exact ⟨rfl, by rw [← hbx0.out]; exact hB.out⟩
end Go.Proofs.Ytghhmbagjhmgfaa.Print
namespace Go.Proofs.Ytghhmbagjhmgfaa.Print
open Go.RowKit Go.Proofs.YtghhmbagjhmgfaaW.PrintWords Go.Proofs.YtghhmbagjhmgfaaW.PrintLast Go.Proofs.YtghhmbagjhmgfaaW.PrintMore
set_option linter.unusedVariables false
set_option linter.unusedSimpArgs false
set_option maxHeartbeats 1000000 in
set_option maxRecDepth 100000 in
theorem does_out (n : Int) (A0 : Option Addr) (len c0 : Nat) (w : World) (hm : len ≤ 9223372036854775807) (h : 20 < n ∨ 60 < len) :
    Calls Try.prog 6 #[.int .i64 n, .slice A0 len c0] w fun e w' => e = .returned (.bool true) ∧ Below w.heap.size w w' := by
  have haw := Aside0.mk awake_calls
  by_cases h2 : 20 < n
  · have e2 : decide (n > 20) = true := by simpa using h2
    clear h h2
    go_enter Try.func6, Try.ntmps6
    go_wp2_with (go_at_call 9; refine (haw.out _).mono ?_; rintro e w1 ⟨rfl, hb1⟩; replace hb1 := Aside0.mk hb1)
    go_ret
    exact ⟨rfl, hb1.out⟩
  · have e2 : decide (n > 20) = false := by simp; omega
    have e3 : decide ((len : Int) > 60) = true := by simp; omega
    clear h h2
    go_enter Try.func6, Try.ntmps6
    go_wp2_with (go_at_call 9; refine (haw.out _).mono ?_; rintro e w1 ⟨rfl, hb1⟩; replace hb1 := Aside0.mk hb1)
    go_ret
    exact ⟨rfl, hb1.out⟩
theorem rnew_bad (n : Int) (h : n < 1) : bobbinref03_New.f 1 n = some ([], [], false, false, 0, 1) := by
  unfold bobbinref03_New.f
  rw [if_pos h, bobbinref03_New.j0_eq, if_pos rfl]
set_option maxHeartbeats 1000000 in
set_option maxRecDepth 100000 in
theorem does_nil (n : Int) (A0 : Option Addr) (len c0 : Nat) (w : World) (hm : len ≤ 60) (h : n < 1) :
    Calls Try.prog 6 #[.int .i64 n, .slice A0 len c0] w fun e w' => e = .returned (.bool true) ∧ Below w.heap.size w w' := by
  have haw := Aside0.mk awake_calls
  have e2 : decide (n > 20) = false := by simp; omega
  have e3 : decide ((len : Int) > 60) = false := by simp; omega
  have hrn := Aside0.mk (rnew_bad n h)
  replace h := Aside0.mk h
  go_enter Try.func6, Try.ntmps6
  go_wp2_with (go_at_call 9; refine (haw.out _).mono ?_; rintro e w1 ⟨rfl, hb1⟩; replace hb1 := Aside0.mk hb1)
  refine (new_bad n w1 (.inl h.out)).mono ?_
  rintro e wz ⟨rfl, hq_⟩
  obtain rfl := hq_.symm
  go_wp2_with fail
  refine (bobbinref03_New.calls 1 n _ _ _ _ _ _ w1 hrn.out).mono ?_
  rintro e w3 ⟨v0, v1, rfl, k0, k1, hb3⟩
  obtain ⟨A0', c0', rfl⟩ := Kd.R_slice (Kd.S_R k0)
  obtain ⟨A1', c1', rfl⟩ := Kd.R_slice (Kd.S_R k1)
  have hB3 := Aside0.mk (hb1.out.trans (hb3.mono hb1.out.size))
  clear k0 k1 hb3
  have hB4 := Aside0.mk (fun o => hB3.out.trans ((below_alloc (Below.refl w3.heap.size w3) o).mono hB3.out.size))
  go_wp2_with fail
  go_loopw [6, 10] (fun v6 v10 wr => v6 = .pointer none ∧ v10 = .int .i64 0 ∧ Aside0 (Below w.heap.size w wr)) (fun _ _ _ => 0)
  case atStart => exact ⟨rfl, rfl, ⟨hB4.out _⟩⟩
  case round =>
    obtain ⟨rfl, rfl, HI⟩ := hrel
    by_cases h0 : 0 < len
    · have f0 : decide ((0 : Int) < (len : Int)) = true := by simp; omega
      go_wp2_with fail
      go_ret
      exact ⟨rfl, HI.out⟩
    · have f0 : decide ((0 : Int) < (len : Int)) = false := by simp; omega
      go_wp2_with fail
      go_ret
      exact ⟨rfl, HI.out⟩
def bobbinlaw03_DiskDoes.f (a0 : Int) (l1 : List S35) : Option Bool := some true
theorem bobbinlaw03_DiskDoes.calls (a0 : Int) (A1 : Option Addr) (c1 : Nat) (l1 : List S35) (r : Bool) (w : World) (hr1 : Kd.C k35 w A1 l1.length l1) (hc1 : l1.length ≤ c1) (h : bobbinlaw03_DiskDoes.f a0 l1 = some r) :
    Calls Try.prog 6 #[.int .i64 a0, .slice A1 l1.length c1] w fun e w' => e = .returned (.bool r) ∧ Below w.heap.size w w' := by
  obtain rfl : true = r := Option.some.inj h
  by_cases hh : 20 < a0 ∨ 60 < l1.length
  · exact does_out a0 A1 _ c1 w hr1.2.1 hh
  · by_cases h1 : a0 < 1
    · exact does_nil a0 A1 _ c1 w (by omega) h1
    · obtain ⟨n, rfl⟩ : ∃ n : Nat, a0 = n := ⟨a0.toNat, by omega⟩
      exact does_walk n A1 c1 l1 w hr1 hc1 (by omega) (by omega) (by omega)
end Go.Proofs.Ytghhmbagjhmgfaa.Print
