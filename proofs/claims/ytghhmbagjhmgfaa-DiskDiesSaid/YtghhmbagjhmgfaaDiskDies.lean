/- DiskDies: an armed device does as many writes and syncs as it was told, and then nothing more. -/
import Derived.Test.YtghhmbagjhmgfaaOps
import Derived.Deep.RegionHeld3
namespace Go.Proofs.Ytghhmbagjhmgfaa.Print
open Go.RowKit Go.Proofs.YtghhmbagjhmgfaaW.PrintWords Go.Proofs.YtghhmbagjhmgfaaW.PrintLast Go.Proofs.YtghhmbagjhmgfaaW.PrintMore
set_option linter.unusedVariables false
set_option linter.unusedSimpArgs false
def DInv (n : Int) (d : DS) (dn : Int) : Prop := d.armed = true ∧ 0 ≤ dn ∧ ((d.dead = false ∧ d.left = n - dn ∧ dn ≤ n) ∨ (d.dead = true ∧ dn = n))
def DOut (n : Int) (d : DS) (dn e : Int) : Prop := (e = 0 ∧ d.dead = false ∧ DInv n d (dn + 1) ∧ dn + 1 ≤ n) ∨ (e = 3 ∧ d.dead = false ∧ DInv n d dn ∧ dn ≤ n) ∨ (e = 30 ∧ d.dead = true ∧ DInv n d dn ∧ dn = n)
theorem lives_out {n : Int} {d : DS} {dn : Int} (h : DInv n d dn) (h0 : 0 ≤ n) (h1 : n ≤ 100) (hd : d.dead = false) :
    ((livesF d).dead = true ∧ DInv n (livesF d) dn ∧ dn = n) ∨ ((livesF d).dead = false ∧ DInv n (livesF d) (dn + 1) ∧ dn + 1 ≤ n) := by
  obtain ⟨ha, hz, ⟨_, hl, hle⟩ | ⟨x, _⟩⟩ := h
  · by_cases he : d.left = 0
    · left
      have : (livesF d).dead = true := by simp [livesF, ha, he]
      exact ⟨this, ⟨ha, hz, .inr ⟨this, by omega⟩⟩, by omega⟩
    · right
      have : (livesF d).dead = false := by simp [livesF, ha, he, hd]
      refine ⟨this, ⟨ha, by omega, .inl ⟨this, ?_, by omega⟩⟩, by omega⟩
      show wrap64 (d.left - 1) = n - (dn + 1)
      unfold wrap64
      omega
  · rw [hd] at x
    cases x
theorem sync_out {n : Int} {d : DS} {dn : Int} (h : DInv n d dn) (h0 : 0 ≤ n) (h1 : n ≤ 100) : DOut n (syncD d) dn (syncE d) := by
  unfold syncD syncE
  by_cases hd : d.dead = true
  · rw [if_pos hd, if_pos hd]
    obtain ⟨ha, hz, ⟨x, _⟩ | ⟨_, hle⟩⟩ := id h
    · rw [hd] at x
      cases x
    · exact .inr (.inr ⟨rfl, hd, h, hle⟩)
  · rw [if_neg hd, if_neg hd]
    rcases lives_out h h0 h1 (by simpa using hd) with ⟨a, b, c⟩ | ⟨a, b, c⟩
    · rw [if_pos a, if_pos a]
      exact .inr (.inr ⟨rfl, a, b, c⟩)
    · rw [if_neg (by simp [a]), if_neg (by simp [a])]
      exact .inl ⟨rfl, a, b, c⟩
theorem write_out2 {n : Int} {d : DS} {dn i : Int} {s : List Int} (hs : s.length = 256) (h : DInv n d dn) (h0 : 0 ≤ n) (h1 : n ≤ 100) : DOut n (writeD d i s) dn (writeE d i s) := by
  unfold writeD writeE
  by_cases hd : d.dead = true
  · rw [if_pos (.inl hd), if_pos hd]
    obtain ⟨ha, hz, ⟨x, _⟩ | ⟨_, hle⟩⟩ := id h
    · rw [hd] at x
      cases x
    · exact .inr (.inr ⟨rfl, hd, h, hle⟩)
  · rw [if_neg hd]
    by_cases hi : 0 ≤ i ∧ i < d.D.length
    · have k1 : ∀ (p q r : DS), (if d.dead = true ∨ ¬ (0 ≤ i ∧ i < d.D.length) ∨ s.length ≠ 256 then p else q) = q := fun p q r => if_neg (fun x => x.elim hd (fun y => y.elim (fun z => z hi) (fun z => z hs)))
      have k2 : ∀ (p q : Int), (if ¬ (0 ≤ i ∧ i < d.D.length) then p else q) = q := fun p q => if_neg (fun x => x hi)
      have k3 : ∀ (p q : Int), (if s.length ≠ 256 then p else q) = q := fun p q => if_neg (fun x => x hs)
      rw [k1 _ _ d, k2, k3]
      rcases lives_out h h0 h1 (by simpa using hd) with ⟨a, b, c⟩ | ⟨a, b, c⟩
      · rw [if_pos a, if_pos a]
        exact .inr (.inr ⟨rfl, a, b, c⟩)
      · rw [if_neg (by simp [a]), if_neg (by simp [a])]
        exact .inl ⟨rfl, a, b, c⟩
    · rw [if_pos (.inr (.inl hi)), if_pos hi]
      obtain ⟨ha, hz, ⟨x, _, hle⟩ | ⟨x, _⟩⟩ := id h
      · exact .inr (.inl ⟨rfl, x, h, hle⟩)
      · exact absurd x hd
theorem readE_dead {d : DS} (i : Int) (h : d.dead = true) : readE d i = 30 := by unfold readE; rw [if_pos h]
theorem readE_live {d : DS} {i : Int} (h : d.dead = false) (h0 : 0 ≤ i) (h1 : i < d.D.length) : readE d i = 0 := by unfold readE; rw [if_neg (by simp [h]), if_pos ⟨h0, h1⟩]
/-- Behind k calls. -/
structure DiI (w : World) (n : Int) (g : Nat) (d : DS) (k : Nat) (dn : Int) (wr : World) : Prop where
  dev : Dev w wr g d
  ok : d.Ok k
  len : d.D.length = 20
  inv : DInv n d dn
  bel : Below w.heap.size w wr
  few : dn ≤ k
set_option maxHeartbeats 4000000 in
set_option maxRecDepth 100000 in
theorem dies_walk (n : Int) (A0 : Option Addr) (c0 : Nat) (l0 : List S35) (w : World) (hr0 : Kd.C k35 w A0 l0.length l0) (hc0 : l0.length ≤ c0) (hn0 : 0 ≤ n) (hn1 : n ≤ 100) (hl : l0.length ≤ 60) :
    Calls Try.prog 4 #[.int .i64 n, .slice A0 l0.length c0] w fun e w' => e = .returned (.bool true) ∧ Below w.heap.size w w' := by
  have HO := Aside0.mk (fun i hi => ops_at hr0 i hi)
  clear hr0
  have haw := Aside0.mk awake_calls
  have e1 : decide (n < 0) = false := by simp; omega
  have e2 : decide (n > 100) = false := by simp; omega
  have e3 : decide ((l0.length : Int) > 60) = false := by simp; omega
  go_enter Try.func4, Try.ntmps4
  go_wp2_with (go_at_call 9; refine (haw.out _).mono ?_; rintro e w1 ⟨rfl, hb1⟩; replace hb1 := Aside0.mk hb1)
  refine (Dev.new 20 w w1 hb1.out (by decide) (by decide)).mono ?_
  rintro e w2 ⟨g, rfl, hd2, hB2⟩
  replace hd2 := Aside0.mk hd2
  replace hB2 := Aside0.mk hB2
  go_wp2_with fail
  refine (hd2.out.arm hB2.out n).mono ?_
  rintro e w3 ⟨rfl, hd3, hB3⟩
  have HI0 : Aside0 (DiI w n g (armF (newD 20) n) 0 0 w3) := ⟨⟨hd3, armF_ok (newD_ok 20 (by decide)) n, rfl, ⟨by simp [armF]; exact hn0, by decide, .inl ⟨rfl, by simp [armF], hn0⟩⟩, hB3, by decide⟩⟩
  clear hd2 hB2 hd3 hB3 hb1
  go_wp2_with fail
  go_loopw [8, 9] (fun v8 v9 wr => ∃ (k : Nat) (dn : Int) (d : DS), k ≤ l0.length ∧ v9 = .int .i64 k ∧ v8 = .int .i64 dn ∧ Aside0 (DiI w n g d k dn wr)) (fun _ v9 _ => l0.length - (intOf v9).toNat)
  case atStart => exact ⟨0, 0, _, Nat.zero_le _, rfl, rfl, HI0⟩
  case round =>
    obtain ⟨k, dn, d, hk, rfl, rfl, HI⟩ := hrel
    by_cases hlk : k < l0.length
    · obtain ⟨ad, A1, c1, rfl, ho⟩ := HO.out k hlk
      generalize rd_T35 l0 k = x at *
      have hS := Aside0.mk (fun X (hb : Below w.heap.size w X) => OpAt.below ho hb)
      obtain ⟨q0, q1, _, q3, _, _, _, _, _⟩ := ho.below HI.out.bel
      have hdn : dn ≤ 60 := by have := HI.out.few; omega
      have hdn0 : 0 ≤ dn := HI.out.inv.2.1
      by_cases h1 : x.f0 = 1
      · have t1 : (x.f0 == 1) = true := by simpa using h1
        go_wp2_with fail
        refine (HI.out.dev.sync HI.out.bel HI.out.ok).mono ?_
        rintro e w4 ⟨rfl, hd1, hB1⟩
        have hok1 := (syncD_ok HI.out.ok).more (Nat.le_succ k)
        have hln := (syncD_len HI.out.ok).trans HI.out.len
        have hout := sync_out HI.out.inv hn0 hn1
        have hfew := HI.out.few
        generalize syncD d = d1 at *
        generalize syncE d = e at *
        replace hd1 := Aside0.mk hd1
        replace hB1 := Aside0.mk hB1
        clear q0 q1 q3 ho HI
        rcases hout with ⟨rfl, hdd, hi, hle⟩ | ⟨rfl, hdd, hi, hle⟩ | ⟨rfl, hdd, hi, hle⟩
        · have f1 : decide (dn + 1 > n) = false := by simp; omega
          have hr := hd1.out.read hok1 0
          rw [readE_live hdd (by decide) (by rw [hln]; decide)] at hr
          replace hr := Aside0.mk hr
          go_wp2_with fail
          refine hr.out.mono ?_
          rintro e w6 ⟨v, rfl, hR, hb6⟩
          obtain ⟨A6, c6, rfl⟩ := Kd.R_slice hR
          have hdead := (hd1.out.below hb6).dead
          rw [hdd] at hdead
          replace hdead := Aside0.mk hdead
          have HI2 : Aside0 (DiI w n g d1 (k + 1) (dn + 1) w6) := ⟨⟨hd1.out.below hb6, hok1, hln, hi, hB1.out.trans (hb6.mono hB1.out.size), by have := hfew; omega⟩⟩
          clear hR hb6 hr
          go_wp2_with (go_at_call 19; refine hdead.out.mono ?_; rintro e w7 ⟨rfl, hq_⟩; obtain rfl := hq_.symm)
          go_roundw
          case rel => exact ⟨k + 1, dn + 1, d1, by omega, by go_num, rfl, HI2⟩
          case measure => simp only [intOf]; omega
        · have f1 : decide (dn > n) = false := by simp; omega
          have hr := hd1.out.read hok1 0
          rw [readE_live hdd (by decide) (by rw [hln]; decide)] at hr
          replace hr := Aside0.mk hr
          go_wp2_with fail
          refine hr.out.mono ?_
          rintro e w6 ⟨v, rfl, hR, hb6⟩
          obtain ⟨A6, c6, rfl⟩ := Kd.R_slice hR
          have hdead := (hd1.out.below hb6).dead
          rw [hdd] at hdead
          replace hdead := Aside0.mk hdead
          have HI2 : Aside0 (DiI w n g d1 (k + 1) dn w6) := ⟨⟨hd1.out.below hb6, hok1, hln, hi, hB1.out.trans (hb6.mono hB1.out.size), by have := hfew; omega⟩⟩
          clear hR hb6 hr
          go_wp2_with (go_at_call 19; refine hdead.out.mono ?_; rintro e w7 ⟨rfl, hq_⟩; obtain rfl := hq_.symm)
          go_roundw
          case rel => exact ⟨k + 1, dn, d1, by omega, by go_num, rfl, HI2⟩
          case measure => simp only [intOf]; omega
        · have f1 : decide (dn > n) = false := by simp; omega
          have f2 : (dn != n) = false := by simp; omega
          have f3 : (dn == n) = true := by simp; omega
          have hr := hd1.out.read hok1 0
          rw [readE_dead 0 hdd] at hr
          replace hr := Aside0.mk hr
          replace hle := Aside0.mk hle
          go_wp2_with fail
          refine hr.out.mono ?_
          rintro e w6 ⟨v, rfl, hR, hb6⟩
          obtain ⟨A6, c6, rfl⟩ := Kd.R_slice hR
          have hdead := (hd1.out.below hb6).dead
          rw [hdd] at hdead
          replace hdead := Aside0.mk hdead
          have HI2 : Aside0 (DiI w n g d1 (k + 1) dn w6) := ⟨⟨hd1.out.below hb6, hok1, hln, hi, hB1.out.trans (hb6.mono hB1.out.size), by have := hfew; omega⟩⟩
          clear hR hb6 hr
          go_wp2_with (go_at_call 19; refine hdead.out.mono ?_; rintro e w7 ⟨rfl, hq_⟩; obtain rfl := hq_.symm)
          go_roundw
          case rel => exact ⟨k + 1, dn, d1, by omega, by go_num, rfl, HI2⟩
          case measure => simp only [intOf]; omega
      · have t1 : (x.f0 == 1) = false := by simpa using h1
        have hBr := HI.out.bel
        have hSr := Aside0.mk hBr
        go_wp2_with fail
        go_region_held3 (fun X => X.cell? ⟨(ad.add (k * 8)).block, (ad.add (k * 8)).off + 1, none⟩ = some (.int .i64 x.f1) ∧ X.cell? ⟨(ad.add (k * 8)).block, (ad.add (k * 8)).off + 3, none⟩ = some (.int .u8 x.f3))
          (first | exact ⟨q1, q3⟩ | exact ⟨pw_cell_below hb5.out q1, pw_cell_below hb5.out q3⟩ | exact ⟨(hS.out _ hB1.out).c1, (hS.out _ hB1.out).c3⟩)
          (first
            | (go_at_call 14; refine (sector_any x.f3 wr.drew).mono ?_; rintro e w5 ⟨A5, c5, rfl, hR5, hb5⟩; replace hR5 := Aside0.mk hR5; replace hb5 := Aside0.mk hb5)
            | (go_at_call 18; refine ((HI.out.dev.below (below_drew (Below.refl _ _))).write (hSr.out.trans (below_drew (Below.refl _ _))) hb5.out HI.out.ok (by omega) x.f1 hR5.out).mono ?_; rintro e w4 ⟨rfl, hd1, hB1⟩; replace hd1 := Aside0.mk hd1; replace hB1 := Aside0.mk hB1))
        have hok1 := writeD_ok HI.out.ok x.f1 (sect x.f3)
        have hln := (writeD_len d x.f1 (sect x.f3)).trans HI.out.len
        have hout := write_out2 (i := x.f1) (sect_len x.f3) HI.out.inv hn0 hn1
        have hfew := HI.out.few
        generalize writeD d x.f1 (sect x.f3) = d1 at *
        generalize writeE d x.f1 (sect x.f3) = e at *
        clear q0 q1 q3 ho HI hR5 hb5 hBr hSr
        rcases hout with ⟨rfl, hdd, hi, hle⟩ | ⟨rfl, hdd, hi, hle⟩ | ⟨rfl, hdd, hi, hle⟩
        · have f1 : decide (dn + 1 > n) = false := by simp; omega
          have hr := hd1.out.read hok1 0
          rw [readE_live hdd (by decide) (by rw [hln]; decide)] at hr
          replace hr := Aside0.mk hr
          go_wp2_with fail
          refine hr.out.mono ?_
          rintro e w6 ⟨v, rfl, hR, hb6⟩
          obtain ⟨A6, c6, rfl⟩ := Kd.R_slice hR
          have hdead := (hd1.out.below hb6).dead
          rw [hdd] at hdead
          replace hdead := Aside0.mk hdead
          have HI2 : Aside0 (DiI w n g d1 (k + 1) (dn + 1) w6) := ⟨⟨hd1.out.below hb6, hok1, hln, hi, hB1.out.trans (hb6.mono hB1.out.size), by have := hfew; omega⟩⟩
          clear hR hb6 hr
          go_wp2_with (go_at_call 19; refine hdead.out.mono ?_; rintro e w7 ⟨rfl, hq_⟩; obtain rfl := hq_.symm)
          go_roundw
          case rel => exact ⟨k + 1, dn + 1, d1, by omega, by go_num, rfl, HI2⟩
          case measure => simp only [intOf]; omega
        · have f1 : decide (dn > n) = false := by simp; omega
          have hr := hd1.out.read hok1 0
          rw [readE_live hdd (by decide) (by rw [hln]; decide)] at hr
          replace hr := Aside0.mk hr
          go_wp2_with fail
          refine hr.out.mono ?_
          rintro e w6 ⟨v, rfl, hR, hb6⟩
          obtain ⟨A6, c6, rfl⟩ := Kd.R_slice hR
          have hdead := (hd1.out.below hb6).dead
          rw [hdd] at hdead
          replace hdead := Aside0.mk hdead
          have HI2 : Aside0 (DiI w n g d1 (k + 1) dn w6) := ⟨⟨hd1.out.below hb6, hok1, hln, hi, hB1.out.trans (hb6.mono hB1.out.size), by have := hfew; omega⟩⟩
          clear hR hb6 hr
          go_wp2_with (go_at_call 19; refine hdead.out.mono ?_; rintro e w7 ⟨rfl, hq_⟩; obtain rfl := hq_.symm)
          go_roundw
          case rel => exact ⟨k + 1, dn, d1, by omega, by go_num, rfl, HI2⟩
          case measure => simp only [intOf]; omega
        · have f1 : decide (dn > n) = false := by simp; omega
          have f2 : (dn != n) = false := by simp; omega
          have f3 : (dn == n) = true := by simp; omega
          have hr := hd1.out.read hok1 0
          rw [readE_dead 0 hdd] at hr
          replace hr := Aside0.mk hr
          replace hle := Aside0.mk hle
          go_wp2_with fail
          refine hr.out.mono ?_
          rintro e w6 ⟨v, rfl, hR, hb6⟩
          obtain ⟨A6, c6, rfl⟩ := Kd.R_slice hR
          have hdead := (hd1.out.below hb6).dead
          rw [hdd] at hdead
          replace hdead := Aside0.mk hdead
          have HI2 : Aside0 (DiI w n g d1 (k + 1) dn w6) := ⟨⟨hd1.out.below hb6, hok1, hln, hi, hB1.out.trans (hb6.mono hB1.out.size), by have := hfew; omega⟩⟩
          clear hR hb6 hr
          go_wp2_with (go_at_call 19; refine hdead.out.mono ?_; rintro e w7 ⟨rfl, hq_⟩; obtain rfl := hq_.symm)
          go_roundw
          case rel => exact ⟨k + 1, dn, d1, by omega, by go_num, rfl, HI2⟩
          case measure => simp only [intOf]; omega
    · obtain rfl : k = l0.length := by omega
      go_wp2_with fail
      go_ret
      exact ⟨rfl, HI.out.bel⟩
set_option maxHeartbeats 1000000 in
set_option maxRecDepth 100000 in
theorem dies_out (n : Int) (A0 : Option Addr) (len c0 : Nat) (w : World) (hm : len ≤ 9223372036854775807) (h : n < 0 ∨ 100 < n ∨ 60 < len) :
    Calls Try.prog 4 #[.int .i64 n, .slice A0 len c0] w fun e w' => e = .returned (.bool true) ∧ Below w.heap.size w w' := by
  have haw := Aside0.mk awake_calls
  by_cases h1 : n < 0
  · have e1 : decide (n < 0) = true := by simpa using h1
    clear h h1
    go_enter Try.func4, Try.ntmps4
    go_wp2_with (go_at_call 9; refine (haw.out _).mono ?_; rintro e w1 ⟨rfl, hb1⟩; replace hb1 := Aside0.mk hb1)
    go_ret
    exact ⟨rfl, hb1.out⟩
  · have e1 : decide (n < 0) = false := by simpa using h1
    by_cases h2 : 100 < n
    · have e2 : decide (n > 100) = true := by simpa using h2
      clear h h1 h2
      go_enter Try.func4, Try.ntmps4
      go_wp2_with (go_at_call 9; refine (haw.out _).mono ?_; rintro e w1 ⟨rfl, hb1⟩; replace hb1 := Aside0.mk hb1)
      go_ret
      exact ⟨rfl, hb1.out⟩
    · have e2 : decide (n > 100) = false := by simp; omega
      have e3 : decide ((len : Int) > 60) = true := by simp; omega
      clear h h1 h2
      go_enter Try.func4, Try.ntmps4
      go_wp2_with (go_at_call 9; refine (haw.out _).mono ?_; rintro e w1 ⟨rfl, hb1⟩; replace hb1 := Aside0.mk hb1)
      go_ret
      exact ⟨rfl, hb1.out⟩
def bobbinlaw03_DiskDies.f (a0 : Int) (l1 : List S35) : Option Bool := some true
theorem bobbinlaw03_DiskDies.calls (a0 : Int) (A1 : Option Addr) (c1 : Nat) (l1 : List S35) (r : Bool) (w : World) (hr1 : Kd.C k35 w A1 l1.length l1) (hc1 : l1.length ≤ c1) (h : bobbinlaw03_DiskDies.f a0 l1 = some r) :
    Calls Try.prog 4 #[.int .i64 a0, .slice A1 l1.length c1] w fun e w' => e = .returned (.bool r) ∧ Below w.heap.size w w' := by
  obtain rfl : true = r := Option.some.inj h
  by_cases hh : a0 < 0 ∨ 100 < a0 ∨ 60 < l1.length
  · exact dies_out a0 A1 _ c1 w hr1.2.1 hh
  · exact dies_walk a0 A1 c1 l1 w hr1 hc1 (by omega) (by omega) (by omega)
end Go.Proofs.Ytghhmbagjhmgfaa.Print
