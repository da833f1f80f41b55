/- DiskEnds: the walk. -/
import Derived.Test.YtghhmbagjhmgfaaEnds0
namespace Go.Proofs.Ytghhmbagjhmgfaa.Print
open Go.RowKit Go.Proofs.YtghhmbagjhmgfaaW.PrintWords Go.Proofs.YtghhmbagjhmgfaaW.PrintLast Go.Proofs.YtghhmbagjhmgfaaW.PrintMore
set_option linter.unusedVariables false
set_option linter.unusedSimpArgs false
theorem Dev.base {w0 w1 W : World} {g : Nat} {d : DS} (h : Dev w1 W g d) (hs : w0.heap.size ≤ w1.heap.size) : Dev w0 W g d := by
  obtain ⟨Rs, Sec, hk, h1, h2⟩ := h
  exact ⟨Rs, Sec, hk, fun k a => Nat.le_trans hs (h1 k a), fun k a => Nat.le_trans hs (h2 k a)⟩
theorem sync_calm {d : DS} (h : Calm d) : (syncD d).W = [] ∧ (syncD d).L = (syncD d).D := by
  unfold syncD
  rw [if_neg (by rw [h.dead]; decide), if_neg (by rw [h.lives]; decide)]
  exact ⟨rfl, rfl⟩
set_option maxHeartbeats 1000000 in
set_option maxRecDepth 100000 in
theorem ends_walk (A0 : Option Addr) (c0 : Nat) (l0 : List S35) (Ak : Option Addr) (ck : Nat) (lk : List Bool) (torn kk : Int) (w : World) (hr0 : Kd.C k35 w A0 l0.length l0) (hc0 : l0.length ≤ c0) (hk0 : Kd.bool.C w Ak lk.length lk) (hck : lk.length ≤ ck) (hl : l0.length ≤ 60) :
    Calls Try.prog 5 #[.slice A0 l0.length c0, .agg #[.slice Ak lk.length ck, .int .i64 torn, .int .i64 kk]] w fun e w' => e = .returned (.bool true) ∧ Below w.heap.size w w' := by
  have HR := Aside0.mk (fun X (hb : Below w.heap.size w X) => Kd.C_below hr0 hb)
  have HK := Aside0.mk (fun j hj => bools_at hk0 j hj)
  have hlkm : lk.length ≤ 9223372036854775807 := hk0.2.1
  have h63 : l0.length ≤ 9223372036854775807 := hr0.2.1
  clear hr0 hk0
  have haw := Aside0.mk awake_calls
  have e3 : decide ((l0.length : Int) > 60) = false := by simp; omega
  have hbx : Aside0 (Below w.heap.size w (w.alloc (.cells #[.slice Ak lk.length ck, .int .i64 torn, .int .i64 kk] 29))) := ⟨below_alloc (Below.refl _ _) _⟩
  have hx := Aside0.mk (World.alloc_heap_new w (.cells #[.slice Ak lk.length ck, .int .i64 torn, .int .i64 kk] 29))
  go_enter Try.func5, Try.ntmps5
  go_wp2_with fail
  have HKb := Aside0.mk (fun j hj => show ∃ ak, Ak = some ak ∧ World.cell? _ (ak.add j) = some (.bool (lk.getD j false)) from by
    obtain ⟨ak, h1, h2⟩ := HK.out j hj
    exact ⟨ak, h1, pw_cell_below hbx.out h2⟩)
  clear HK
  have hxl : w.heap.size < (w.alloc (.cells #[.slice Ak lk.length ck, .int .i64 torn, .int .i64 kk] 29)).heap.size := by rw [World.size_alloc]; omega
  generalize w.alloc (.cells #[.slice Ak lk.length ck, .int .i64 torn, .int .i64 kk] 29) = wb at *
  generalize hbx0 : w.heap.size = bx at *
  replace hbx0 := Aside0.mk hbx0
  refine (haw.out wb).mono ?_
  rintro e w1 ⟨rfl, hb1⟩
  replace hb1 := Aside0.mk hb1
  go_wp2_with fail
  have hc1 := HR.out w1 (hbx.out.trans (hb1.out.mono (Nat.le_of_lt hxl)))
  refine (run_any A0 c0 l0 w1 hc1 hc0 hl).mono ?_
  rintro e w2 ⟨g, rfl, hd2, hok2, hln2, hb2⟩
  have hca := Aside0.mk (run_calm l0)
  have hB2 := Aside0.mk (hb1.out.trans (hb2.mono hb1.out.size))
  replace hd2 := Aside0.mk (hd2.base hb1.out.size)
  replace hok2 := Aside0.mk hok2
  replace hln2 := Aside0.mk hln2
  clear hc1 hb2 hb1
  generalize runD l0 = d at *
  go_wp2_with fail
  have hal := below_alloc (Below.refl w2.heap.size w2) (.cells #[.bool true] 4)
  have hsz : w2.heap.size ≤ (w2.alloc (.cells #[.bool true] 4)).heap.size := by rw [World.size_alloc]; omega
  have hBa := hB2.out.trans (hal.mono hB2.out.size)
  refine ((hd2.out.below hal).crash hBa hok2.out (by decide) (by rw [hln2.out]; decide) (some ⟨w2.heap.size, 0, none⟩) 1 1 (fun j => [true].getD j false) (-1) 0 (by decide) (fun j hj => by
    obtain rfl : j = 0 := by omega
    exact ⟨_, rfl, (blk_cell (World.alloc_heap_new w2 _) 0).trans rfl⟩)).mono ?_
  rintro e w3 ⟨g3, rfl, hd3, hb3⟩
  have hd3b := Aside0.mk ((hd2.out.below hal).below hb3)
  have hB3 := Aside0.mk (hBa.trans (hb3.mono hBa.size))
  have hL3 := Aside0.mk (crash_all (kf (fun j => [true].getD j false) 1 (-1) 0) kf_all hok2.out hca.out)
  have hok3 := Aside0.mk (crashD_ok hok2.out (kf (fun j => [true].getD j false) 1 (-1) 0) (kf_ok _ _ _ _))
  have hln3 := Aside0.mk ((crashD_len d (kf (fun j => [true].getD j false) 1 (-1) 0)).trans hln2.out)
  have hdd3 : Aside0 ((crashD d (kf (fun j => [true].getD j false) 1 (-1) 0)).dead = false) := ⟨rfl⟩
  replace hd3 := Aside0.mk hd3
  clear hal hsz hBa hb3 hd2 hB2
  generalize crashD d (kf (fun j => [true].getD j false) 1 (-1) 0) = d3 at *
  go_wp2_with fail
  refine (alike_any hd3.out hd3b.out hok3.out hok2.out hdd3.out hca.out.dead hln3.out hln2.out (by decide) hL3.out).mono ?_
  rintro e w4 ⟨rfl, hb4⟩
  have hd4 := Aside0.mk (hd3b.out.below hb4)
  have hB4 := Aside0.mk (hB3.out.trans (hb4.mono hB3.out.size))
  clear hb4 hd3 hd3b hB3 hL3 hok3 hln3 hdd3
  clear d3
  have hk4 := (hB4.out.block bx hxl).trans hx.out
  have z0 := (blk_cell hk4 0).trans rfl
  have z1 := (blk_cell hk4 1).trans rfl
  have z2 := (blk_cell hk4 2).trans rfl
  clear hk4
  go_wp2_with fail
  have hKX := Aside0.mk (fun X (hX : Below wb.heap.size wb X) j hj => show ∃ ak, Ak = some ak ∧ World.cell? X (ak.add j) = some (.bool (lk.getD j false)) from by
    obtain ⟨ak, h1, h2⟩ := HKb.out j hj
    exact ⟨ak, h1, pw_cell_below hX h2⟩)
  clear HKb
  refine (hd4.out.crash hB4.out hok2.out (by decide) (by rw [hln2.out]; decide) Ak lk.length ck (fun j => lk.getD j false) torn kk hlkm (hKX.out w4 hB4.out)).mono ?_
  rintro e w5 ⟨g5, rfl, hd5, hb5⟩
  have hd5b := Aside0.mk (hd4.out.below hb5)
  have hB5 := Aside0.mk (hB4.out.trans (hb5.mono hB4.out.size))
  have hok5 := Aside0.mk (crashD_ok hok2.out (kf (fun j => lk.getD j false) lk.length torn kk) (kf_ok _ _ _ _))
  have hln5 := Aside0.mk ((crashD_len d (kf (fun j => lk.getD j false) lk.length torn kk)).trans hln2.out)
  have hdd5 : Aside0 ((crashD d (kf (fun j => lk.getD j false) lk.length torn kk)).dead = false) := ⟨rfl⟩
  have hW5 : Aside0 ((crashD d (kf (fun j => lk.getD j false) lk.length torn kk)).W = []) := ⟨rfl⟩
  have hL5 : Aside0 ((crashD d (kf (fun j => lk.getD j false) lk.length torn kk)).L = (crashD d (kf (fun j => lk.getD j false) lk.length torn kk)).D) := ⟨rfl⟩
  replace hd5 := Aside0.mk hd5
  clear hb5 hd4 hB4 z0 z1 z2
  generalize crashD d (kf (fun j => lk.getD j false) lk.length torn kk) = d5 at *
  have hk5 := (hB5.out.block bx hxl).trans hx.out
  have z0 := (blk_cell hk5 0).trans rfl
  have z1 := (blk_cell hk5 1).trans rfl
  have z2 := (blk_cell hk5 2).trans rfl
  clear hk5
  go_wp2_with fail
  refine (hd5.out.crash hB5.out hok5.out (by decide) (by rw [hln5.out]; decide) Ak lk.length ck (fun j => lk.getD j false) torn kk hlkm (hKX.out w5 hB5.out)).mono ?_
  rintro e w6 ⟨g6, rfl, hd6, hb6⟩
  have hd6a := Aside0.mk (hd5b.out.below hb6)
  have hd6b := Aside0.mk (hd5.out.below hb6)
  have hB6 := Aside0.mk (hB5.out.trans (hb6.mono hB5.out.size))
  have hok6 := Aside0.mk (crashD_ok hok5.out (kf (fun j => lk.getD j false) lk.length torn kk) (kf_ok _ _ _ _))
  have hln6 := Aside0.mk ((crashD_len d5 (kf (fun j => lk.getD j false) lk.length torn kk)).trans hln5.out)
  have hdd6 : Aside0 ((crashD d5 (kf (fun j => lk.getD j false) lk.length torn kk)).dead = false) := ⟨rfl⟩
  have hL6 := Aside0.mk ((crash_none (kf (fun j => lk.getD j false) lk.length torn kk) hW5.out).trans hL5.out.symm)
  replace hd6 := Aside0.mk hd6
  clear hb6 hd5 hd5b hB5 z0 z1 z2 hW5 hL5
  generalize crashD d5 (kf (fun j => lk.getD j false) lk.length torn kk) = d6 at *
  go_wp2_with fail
  refine (alike_any hd6.out hd6b.out hok6.out hok5.out hdd6.out hdd5.out hln6.out hln5.out (by decide) hL6.out).mono ?_
  rintro e w7 ⟨rfl, hb7⟩
  have hd7 := Aside0.mk (hd6a.out.below hb7)
  have hB7 := Aside0.mk (hB6.out.trans (hb7.mono hB6.out.size))
  clear hb7 hd6 hd6a hd6b hB6 hL6 hok6 hln6 hdd6 hok5 hln5 hdd5
  clear d6 d5
  go_wp2_with fail
  refine (hd7.out.sync hB7.out hok2.out).mono ?_
  rintro e w8 ⟨rfl, hd8, hB8⟩
  have hs8 := sync_calm hca.out
  have hca8 := Aside0.mk hca.out.sync
  have hok8 := Aside0.mk (syncD_ok hok2.out)
  have hln8 := Aside0.mk ((syncD_len hok2.out).trans hln2.out)
  have hW8 := Aside0.mk hs8.1
  have hL8 := Aside0.mk hs8.2
  replace hd8 := Aside0.mk hd8
  replace hB8 := Aside0.mk hB8
  clear hs8 hd7 hB7 hok2 hln2 hca
  generalize syncE d = ee at *
  generalize syncD d = d8 at *
  have hk8 := (hB8.out.block bx hxl).trans hx.out
  have z0 := (blk_cell hk8 0).trans rfl
  have z1 := (blk_cell hk8 1).trans rfl
  have z2 := (blk_cell hk8 2).trans rfl
  clear hk8
  go_wp2_with fail
  refine (hd8.out.crash hB8.out hok8.out (by decide) (by rw [hln8.out]; decide) Ak lk.length ck (fun j => lk.getD j false) torn kk hlkm (hKX.out w8 hB8.out)).mono ?_
  rintro e w9 ⟨g9, rfl, hd9, hb9⟩
  have hd9b := Aside0.mk (hd8.out.below hb9)
  have hB9 := Aside0.mk (hB8.out.trans (hb9.mono hB8.out.size))
  have hok9 := Aside0.mk (crashD_ok hok8.out (kf (fun j => lk.getD j false) lk.length torn kk) (kf_ok _ _ _ _))
  have hln9 := Aside0.mk ((crashD_len d8 (kf (fun j => lk.getD j false) lk.length torn kk)).trans hln8.out)
  have hdd9 : Aside0 ((crashD d8 (kf (fun j => lk.getD j false) lk.length torn kk)).dead = false) := ⟨rfl⟩
  have hL9 := Aside0.mk ((crash_none (kf (fun j => lk.getD j false) lk.length torn kk) hW8.out).trans hL8.out.symm)
  replace hd9 := Aside0.mk hd9
  clear hb9 hd8 hB8 z0 z1 z2
  generalize crashD d8 (kf (fun j => lk.getD j false) lk.length torn kk) = d9 at *
  go_wp2_with fail
  refine (alike_any hd9.out hd9b.out hok9.out hok8.out hdd9.out hca8.out.dead hln9.out hln8.out (by decide) hL9.out).mono ?_
  rintro e w10 ⟨rfl, hb10⟩
  have hwait := (hd9b.out.below hb10).waits
  have hB10 := Aside0.mk (hB9.out.trans (hb10.mono hB9.out.size))
  rw [hW8.out] at hwait
  replace hwait := Aside0.mk hwait
  clear hb10 hd9 hd9b hB9 hL9 hok9 hln9 hdd9 hok8 hln8 hca8 hW8 hL8
  go_wp2_with fail
  refine hwait.out.mono ?_
  rintro e wz ⟨rfl, hq_⟩
  obtain rfl := hq_.symm
  go_wp2_with fail
  go_ret
  exact ⟨rfl, by rw [hbx0.out]; exact hbx.out.trans (hB10.out.mono (Nat.le_of_lt hxl))⟩
set_option maxHeartbeats 1000000 in
set_option maxRecDepth 100000 in
theorem ends_out (A0 : Option Addr) (len c0 : Nat) (Ak : Option Addr) (nk ck : Nat) (torn kk : Int) (w : World) (hm : len ≤ 9223372036854775807) (h : 60 < len) :
    Calls Try.prog 5 #[.slice A0 len c0, .agg #[.slice Ak nk ck, .int .i64 torn, .int .i64 kk]] w fun e w' => e = .returned (.bool true) ∧ Below w.heap.size w w' := by
  have haw := Aside0.mk awake_calls
  have hba : Aside0 (∀ o, Below w.heap.size w (w.alloc o)) := ⟨fun o => below_alloc (Below.refl _ _) o⟩
  have hsz : Aside0 (∀ o, w.heap.size ≤ (w.alloc o).heap.size) := ⟨fun o => by rw [World.size_alloc]; omega⟩
  have e3 : decide ((len : Int) > 60) = true := by simp; omega
  clear h
  go_enter Try.func5, Try.ntmps5
  go_wp2_with (go_at_call 9; refine (haw.out _).mono ?_; rintro e w1 ⟨rfl, hb1⟩; replace hb1 := Aside0.mk ((hba.out _).trans (hb1.mono (hsz.out _))))
  go_ret
  exact ⟨rfl, hb1.out⟩
def bobbinlaw03_DiskEnds.f (l0 : List S35) (l1 : List Bool) (a1 a2 : Int) : Option Bool := some true
theorem bobbinlaw03_DiskEnds.calls (A0 : Option Addr) (c0 : Nat) (l0 : List S35) (A1_0 : Option Addr) (c1_0 : Nat) (l1_0 : List Bool) (a1_1 : Int) (a1_2 : Int) (r : Bool) (w : World) (hr0 : Kd.C k35 w A0 l0.length l0) (hc0 : l0.length ≤ c0) (hr1_0 : Kd.bool.C w A1_0 l1_0.length l1_0) (hc1_0 : l1_0.length ≤ c1_0) (h : bobbinlaw03_DiskEnds.f l0 l1_0 a1_1 a1_2 = some r) :
    Calls Try.prog 5 #[.slice A0 l0.length c0, .agg #[.slice A1_0 l1_0.length c1_0, .int .i64 a1_1, .int .i64 a1_2]] w fun e w' => e = .returned (.bool r) ∧ Below w.heap.size w w' := by
  obtain rfl : true = r := Option.some.inj h
  by_cases hh : 60 < l0.length
  · exact ends_out A0 _ c0 A1_0 _ c1_0 a1_1 a1_2 w hr0.2.1 hh
  · exact ends_walk A0 c0 l0 A1_0 c1_0 l1_0 a1_1 a1_2 w hr0 hc0 hr1_0 hc1_0 (by omega)
end Go.Proofs.Ytghhmbagjhmgfaa.Print
