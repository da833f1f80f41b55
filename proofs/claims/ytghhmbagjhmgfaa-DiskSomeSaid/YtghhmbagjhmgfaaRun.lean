/- law03's run: a device behind calls. -/
import Derived.Test.YtghhmbagjhmgfaaDiskKeeps
namespace Go.Proofs.Ytghhmbagjhmgfaa.Print
open Go.RowKit Go.Proofs.YtghhmbagjhmgfaaW.PrintWords Go.Proofs.YtghhmbagjhmgfaaW.PrintLast Go.Proofs.YtghhmbagjhmgfaaW.PrintMore
set_option linter.unusedVariables false
set_option linter.unusedSimpArgs false
def runS (d : DS) (x : S35) : DS := if x.f0 = 0 then writeD d x.f1 (sect x.f3) else if x.f0 = 1 then syncD d else d
def runD (l : List S35) : DS := l.foldl runS (newD 20)
theorem runD_take (l : List S35) (k : Nat) (h : k < l.length) : runD (l.take (k + 1)) = runS (runD (l.take k)) (rd_T35 l k) := by
  unfold runD rd_T35
  rw [List.take_succ_eq_append_getElem h, List.foldl_append, List.getD_eq_getElem?_getD, List.getElem?_eq_getElem h]
  rfl
/-- Behind k calls. -/
structure RnI (w : World) (l : List S35) (g : Nat) (k : Nat) (wr : World) : Prop where
  dev : Dev w wr g (runD (l.take k))
  ok : (runD (l.take k)).Ok k
  len : (runD (l.take k)).D.length = 20
  bel : Below w.heap.size w wr
set_option maxHeartbeats 2000000 in
set_option maxRecDepth 100000 in
theorem run_any (A0 : Option Addr) (c0 : Nat) (l0 : List S35) (w : World) (hr0 : Kd.C k35 w A0 l0.length l0) (hc0 : l0.length ≤ c0) (hl : l0.length ≤ 60) :
    Calls Try.prog 10 #[.int .i64 20, .slice A0 l0.length c0] w fun e w' => ∃ g, e = .returned (.pointer (some ⟨g, 0, none⟩)) ∧ Dev w w' g (runD l0) ∧ (runD l0).Ok 60 ∧ (runD l0).D.length = 20 ∧ Below w.heap.size w w' := by
  have HO := Aside0.mk (fun i hi => ops_at hr0 i hi)
  clear hr0
  go_enter Try.func10, Try.ntmps10
  go_wp2_with fail
  refine (Dev.new 20 w w (Below.refl _ _) (by decide) (by decide)).mono ?_
  rintro e w2 ⟨g, rfl, hd2, hB2⟩
  have HI0 : Aside0 (RnI w l0 g 0 w2) := ⟨⟨hd2, newD_ok 20 (by decide), rfl, hB2⟩⟩
  clear hd2 hB2
  go_wp2_with fail
  go_loopw [7] (fun v7 wr => ∃ k : Nat, k ≤ l0.length ∧ v7 = .int .i64 k ∧ Aside0 (RnI w l0 g k wr)) (fun v7 _ => l0.length - (intOf v7).toNat)
  case atStart => exact ⟨0, Nat.zero_le _, rfl, HI0⟩
  case round =>
    obtain ⟨k, hk, rfl, HI⟩ := hrel
    by_cases hlk : k < l0.length
    · obtain ⟨ad, A1, c1, rfl, ho⟩ := HO.out k hlk
      have hstep := Aside0.mk (runD_take l0 k hlk)
      generalize rd_T35 l0 k = x at *
      have hS := Aside0.mk (fun X (hb : Below w.heap.size w X) => OpAt.below ho hb)
      obtain ⟨q0, q1, _, q3, _, _, _, _, _⟩ := ho.below HI.out.bel
      replace ho := Aside0.mk ho
      by_cases h0 : x.f0 = 0
      · have t0 : (x.f0 == 0) = true := by simpa using h0
        have hst : Aside0 (runD (l0.take (k + 1)) = writeD (runD (l0.take k)) x.f1 (sect x.f3)) := ⟨by rw [hstep.out]; unfold runS; rw [if_pos h0]⟩
        have hSr := Aside0.mk HI.out.bel
        clear h0
        go_wp2_with fail
        go_region_held3 (fun X => X.cell? ⟨(ad.add (k * 8)).block, (ad.add (k * 8)).off + 1, none⟩ = some (.int .i64 x.f1) ∧ X.cell? ⟨(ad.add (k * 8)).block, (ad.add (k * 8)).off + 3, none⟩ = some (.int .u8 x.f3))
          (first | exact ⟨q1, q3⟩ | exact ⟨pw_cell_below hb5.out q1, pw_cell_below hb5.out q3⟩ | exact ⟨(hS.out _ hB1.out).c1, (hS.out _ hB1.out).c3⟩)
          (first
            | (go_at_call 14; refine (sector_any x.f3 wr.drew).mono ?_; rintro e w5 ⟨A5, c5, rfl, hR5, hb5⟩; replace hR5 := Aside0.mk hR5; replace hb5 := Aside0.mk hb5)
            | (go_at_call 18; refine ((HI.out.dev.below (below_drew (Below.refl _ _))).write (hSr.out.trans (below_drew (Below.refl _ _))) hb5.out HI.out.ok (by omega) x.f1 hR5.out).mono ?_; rintro e w4 ⟨rfl, hd1, hB1⟩; replace hd1 := Aside0.mk hd1; replace hB1 := Aside0.mk hB1))
        have HI2 : Aside0 (RnI w l0 g (k + 1) w4) := ⟨⟨by rw [hst.out]; exact hd1.out, by rw [hst.out]; exact writeD_ok HI.out.ok _ _, by rw [hst.out]; exact (writeD_len _ _ _).trans HI.out.len, hB1.out⟩⟩
        clear hd1 hB1 hR5 hb5
        generalize writeE (runD (l0.take k)) x.f1 (sect x.f3) = ee at *
        go_wp2_with fail
        go_roundw
        case rel => exact ⟨k + 1, by omega, by go_num, HI2⟩
        case measure => simp only [intOf]; omega
      · have t0 : (x.f0 == 0) = false := by simpa using h0
        by_cases h1 : x.f0 = 1
        · have t1 : (x.f0 == 1) = true := by simpa using h1
          have hst : Aside0 (runD (l0.take (k + 1)) = syncD (runD (l0.take k))) := ⟨by rw [hstep.out]; unfold runS; rw [if_neg h0, if_pos h1]⟩
          clear h0 h1
          go_wp2_with fail
          refine (HI.out.dev.sync HI.out.bel HI.out.ok).mono ?_
          rintro e w4 ⟨rfl, hd1, hB1⟩
          have HI2 : Aside0 (RnI w l0 g (k + 1) w4) := ⟨⟨by rw [hst.out]; exact hd1, by rw [hst.out]; exact (syncD_ok HI.out.ok).more (by omega), by rw [hst.out]; exact (syncD_len HI.out.ok).trans HI.out.len, hB1⟩⟩
          clear hd1 hB1
          generalize syncE (runD (l0.take k)) = ee at *
          go_wp2_with fail
          go_roundw
          case rel => exact ⟨k + 1, by omega, by go_num, HI2⟩
          case measure => simp only [intOf]; omega
        · have t1 : (x.f0 == 1) = false := by simpa using h1
          have hst : Aside0 (runD (l0.take (k + 1)) = runD (l0.take k)) := ⟨by rw [hstep.out]; unfold runS; rw [if_neg h0, if_neg h1]⟩
          clear h0 h1
          have HI2 : Aside0 (RnI w l0 g (k + 1) wr) := ⟨⟨by rw [hst.out]; exact HI.out.dev, by rw [hst.out]; exact HI.out.ok.more (by omega), by rw [hst.out]; exact HI.out.len, HI.out.bel⟩⟩
          go_wp2_with fail
          go_roundw
          case rel => exact ⟨k + 1, by omega, by go_num, HI2⟩
          case measure => simp only [intOf]; omega
    · obtain rfl : k = l0.length := by omega
      have ht : l0.take l0.length = l0 := List.take_length
      have h1 := HI.out.dev
      have h2 := HI.out.ok
      have h3 := HI.out.len
      have h4 := HI.out.bel
      rw [ht] at h1 h2 h3
      replace h1 := Aside0.mk h1
      replace h2 := Aside0.mk h2
      replace h3 := Aside0.mk h3
      replace h4 := Aside0.mk h4
      clear HI ht
      go_wp2_with fail
      go_ret
      exact ⟨g, rfl, h1.out, h2.out.more hl, h3.out, h4.out⟩
end Go.Proofs.Ytghhmbagjhmgfaa.Print
