/- DiskKeeps: what was synced is there behind every crash, if nothing was written over it since. -/
import Derived.Test.YtghhmbagjhmgfaaDiskNone
import Derived.Deep.RegionHeld3
namespace Go.Proofs.Ytghhmbagjhmgfaa.Print
open Go.RowKit Go.Proofs.YtghhmbagjhmgfaaW.PrintWords Go.Proofs.YtghhmbagjhmgfaaW.PrintLast Go.Proofs.YtghhmbagjhmgfaaW.PrintMore
set_option linter.unusedVariables false
set_option linter.unusedSimpArgs false
/-! #### a call behind which what is younger than the device stands as it did -/
theorem Dev.write3 {w0 W W1 : World} {g : Nat} {d : DS} {m : Nat} (h : Dev w0 W g d) (hB : Below w0.heap.size w0 W) (hb : Below W.heap.size W W1) (hO : d.Ok m) (hm : m ≤ 100000) (i : Int) {base : Nat} (hbase : W.heap.size ≤ base) {A : Option Addr} {n c : Nat} {s : List Int} (hR : Kd.R (Kd.int .u8) 5 W1 base (fun _ => True) (.slice A n c) s) :
    Calls Try.prog 18 #[.pointer (some ⟨g, 0, none⟩), .int .i64 i, .slice A n c] W1 fun e w' => e = .returned (.int .i64 (writeE d i s)) ∧ Dev w0 w' g (writeD d i s) ∧ Below w0.heap.size w0 w' ∧ ∀ k, W.heap.size ≤ k → k < W1.heap.size → w'.heap[k]? = W1.heap[k]? := by
  obtain ⟨Rs, Sec, hk, h1, h2⟩ := h.bound
  have hlow := Kd.R_base hR
  have hF := Kd.R_tight rfl hR
  obtain ⟨A', c', e, hc, _⟩ := Kd.R_reads hR
  injection e with e1 e2 e3
  subst e1 e2 e3
  have hF := Kd.R_F hF
  have hs := hB.size
  refine (write_any g Rs Sec d i m _ _ s W1 (hk.below hb) hO hm (fun X hX => Kd.F_now (Kd.F_step hF (fun k hk hlt => hX.block k hlt (fun e => by have := (h1 k e).2; have := hlow k hk.symm; omega)))) hc).mono ?_
  rintro e w' ⟨rfl, hp⟩
  obtain ⟨hd, hB1⟩ := Dev.of_post (hB.trans (hb.mono hs)) (fun k a => (h1 k a).1) (fun k a => (h2 k a).1) hp
  obtain ⟨Rs', Sec', k1, k2, k3, k4⟩ := hp
  exact ⟨rfl, hd, hB1, fun k a b => k4.block k b (fun e => by have := (h1 k e).2; omega)⟩
theorem Dev.sync3 {w0 W W1 : World} {g : Nat} {d : DS} {m : Nat} (h : Dev w0 W g d) (hB : Below w0.heap.size w0 W) (hb : Below W.heap.size W W1) (hO : d.Ok m) :
    Calls Try.prog 17 #[.pointer (some ⟨g, 0, none⟩)] W1 fun e w' => e = .returned (.int .i64 (syncE d)) ∧ Dev w0 w' g (syncD d) ∧ Below w0.heap.size w0 w' ∧ ∀ k, W.heap.size ≤ k → k < W1.heap.size → w'.heap[k]? = W1.heap[k]? := by
  obtain ⟨Rs, Sec, hk, h1, h2⟩ := h.bound
  refine (sync_any g Rs Sec d m W1 (hk.below hb) hO).mono ?_
  rintro e w' ⟨rfl, hp⟩
  obtain ⟨hd, hB1⟩ := Dev.of_post (hB.trans (hb.mono hB.size)) (fun k a => (h1 k a).1) (fun k a => (h2 k a).1) hp
  obtain ⟨Rs', Sec', k1, k2, k3, k4⟩ := hp
  exact ⟨rfl, hd, hB1, fun k a b => k4.block k b (fun e => by have := (h1 k e).2; omega)⟩
theorem Dev.arm3 {w0 W W1 : World} {g : Nat} {d : DS} (h : Dev w0 W g d) (hB : Below w0.heap.size w0 W) (hb : Below W.heap.size W W1) (n : Int) :
    Calls Try.prog 16 #[.pointer (some ⟨g, 0, none⟩), .int .i64 n] W1 fun e w' => e = .returned (.tuple #[]) ∧ Dev w0 w' g (armF d n) ∧ Below w0.heap.size w0 w' ∧ ∀ k, W.heap.size ≤ k → k < W1.heap.size → w'.heap[k]? = W1.heap[k]? := by
  obtain ⟨Rs, Sec, hk, h1, h2⟩ := h.bound
  refine (arm_any g Rs Sec d n W1 (hk.below hb)).mono ?_
  rintro e w' ⟨rfl, hp⟩
  obtain ⟨hd, hB1⟩ := Dev.of_post (hB.trans (hb.mono hB.size)) (fun k a => (h1 k a).1) (fun k a => (h2 k a).1) hp
  obtain ⟨Rs', Sec', k1, k2, k3, k4⟩ := hp
  exact ⟨rfl, hd, hB1, fun k a b => k4.block k b (fun e => by have := (h1 k e).2; omega)⟩
theorem Dev.waits {w0 W : World} {g : Nat} {d : DS} (h : Dev w0 W g d) : Calls Try.prog 21 #[.pointer (some ⟨g, 0, none⟩)] W fun e w' => e = .returned (.int .i64 d.W.length) ∧ w' = W := by
  obtain ⟨Rs, Sec, hk, k1, k2⟩ := h
  exact waits_any g Rs Sec d W hk
/-! #### what is kept -/
def KInv (at_ : Nat) (b : Int) (d : DS) : Prop := d.D.getD at_ [] = sect b ∧ d.L.getD at_ [] = sect b ∧ ∀ x ∈ d.W, x.1 ≠ at_
theorem getD_set_ne {α : Type} (l : List α) (i j : Nat) (x z : α) (h : i ≠ j) : (l.set i x).getD j z = l.getD j z := by
  rw [List.getD_eq_getElem?_getD, List.getD_eq_getElem?_getD, List.getElem?_set_ne h]
theorem KInv.write {at_ : Nat} {b : Int} {d : DS} (h : KInv at_ b d) (i : Int) (s : List Int) (hi : i ≠ at_) : KInv at_ b (writeD d i s) := by
  unfold writeD
  split
  · exact h
  · rename_i hc
    split
    · exact h
    · have h0 : (0 ≤ i ∧ i < d.D.length) := Decidable.not_not.1 (fun x => hc (.inr (.inl x)))
      refine ⟨h.1, ?_, ?_⟩
      · show (d.L.set i.toNat s).getD at_ [] = sect b
        rw [getD_set_ne _ _ _ _ _ (by omega)]
        exact h.2.1
      · intro x hx
        rcases List.mem_append.1 hx with e | e
        · exact h.2.2 x e
        · simp at e
          subst e
          exact hi
theorem KInv.sync {at_ : Nat} {b : Int} {d : DS} (h : KInv at_ b d) : KInv at_ b (syncD d) := by
  unfold syncD
  split
  · exact h
  · split
    · exact h
    · exact ⟨h.2.1, h.2.1, fun x hx => by cases hx⟩
theorem KInv.crash {at_ : Nat} {b : Int} {d : DS} {m : Nat} (h : KInv at_ b d) (hO : d.Ok m) (f : Nat → Int) : KInv at_ b (crashD d f) := by
  have hh : (crL d f (List.range d.W.length)).getD at_ [] = sect b := by
    by_cases hW : 0 < d.W.length
    · refine fold_keeps (fun D => D.getD at_ [] = sect b) (crStep d f) (fun D x hD => ?_) _ _ h.1
      unfold crStep
      have hw := w_ok hO hW x
      have hl : min x (d.W.length - 1) < d.W.length := by omega
      have hm := h.2.2 (d.W.getD (min x (d.W.length - 1)) (0, [])) (by rw [List.getD_eq_getElem?_getD, List.getElem?_eq_getElem hl]; exact List.getElem_mem hl)
      rw [← hw.2.2] at hm
      rw [getD_set_ne _ _ _ _ _ (fun e => hm (by rw [e]))]
      exact hD
    · rw [show d.W.length = 0 by omega]
      exact h.1
  exact ⟨hh, hh, fun x hx => by cases hx⟩
theorem keeps_start (at_ : Nat) (b : Int) (h : at_ < 20) : writeE (newD 20) at_ (sect b) = 0 ∧ syncE (writeD (newD 20) at_ (sect b)) = 0 ∧ KInv at_ b (syncD (writeD (newD 20) at_ (sect b))) := by
  have hl := sect_len b
  have hD : (newD 20).D.length = 20 := rfl
  have e1 : writeD (newD 20) at_ (sect b) = writeF (livesF (newD 20)) at_ (sect b) := by
    unfold writeD
    rw [if_neg (show ¬ ((newD 20).dead = true ∨ ¬ (0 ≤ ((at_ : Nat) : Int) ∧ ((at_ : Nat) : Int) < (newD 20).D.length) ∨ (sect b).length ≠ 256) from ?_), if_neg (show ¬ (livesF (newD 20)).dead = true from by decide)]
    rintro (x | x | x)
    · cases x
    · rw [hD] at x; omega
    · exact x hl
  have e2 : writeE (newD 20) at_ (sect b) = 0 := by
    unfold writeE
    have k2 : ∀ (p q : Int), (if ¬ (0 ≤ ((at_ : Nat) : Int) ∧ ((at_ : Nat) : Int) < (newD 20).D.length) then p else q) = q := fun p q => if_neg (fun x => x (by rw [hD]; omega))
    have k3 : ∀ (p q : Int), (if (sect b).length ≠ 256 then p else q) = q := fun p q => if_neg (fun x => x hl)
    rw [if_neg (show ¬ (newD 20).dead = true from by decide), k2, k3, if_neg (show ¬ (livesF (newD 20)).dead = true from by decide)]
  have hL : ((newD 20).L.set at_ (sect b)).getD at_ [] = sect b := by
    rw [List.getD_eq_getElem?_getD, List.getElem?_set_self (by exact h)]
    rfl
  refine ⟨e2, ?_, ?_⟩
  · rw [e1]
    rfl
  · rw [e1]
    exact ⟨hL, hL, fun x hx => by cases hx⟩
theorem ops_few {w : World} {A : Option Addr} {n : Nat} {xs : List S35} (h : Kd.C k35 w A n xs) (i : Nat) (hi : i < n) : (rd_T35 xs i).f5.f0.length ≤ 9223372036854775807 := by
  obtain ⟨ad, c, e, _, hK, hc0⟩ := Kd.C_get h z35 (i : Int) (by omega) (by omega)
  rw [show ((i : Int)).toNat = i by omega] at hK
  obtain ⟨A1, c1, rfl, l1, g1⟩ := kO_open hK
  exact g1.2.1
theorem readE_live' {d : DS} {i : Int} (h : d.dead = false) (h0 : 0 ≤ i) (h1 : i < d.D.length) : readE d i = 0 := by unfold readE; rw [if_neg (by simp [h]), if_pos ⟨h0, h1⟩]
/-- Behind k calls. -/
structure KpI (w : World) (at_ : Nat) (b : Int) (g : Nat) (d : DS) (k : Nat) (wr : World) : Prop where
  dev : Dev w wr g d
  ok : d.Ok (k + 1)
  len : d.D.length = 20
  inv : KInv at_ b d
  bel : Below w.heap.size w wr
set_option maxHeartbeats 4000000 in
set_option maxRecDepth 100000 in
theorem keeps_walk (at_ : Nat) (b : Int) (A2 : Option Addr) (c2 : Nat) (l2 : List S35) (Ak : Option Addr) (ck : Nat) (lk : List Bool) (torn kk : Int) (w : World) (hr2 : Kd.C k35 w A2 l2.length l2) (hc2 : l2.length ≤ c2) (hk0 : Kd.bool.C w Ak lk.length lk) (hck : lk.length ≤ ck) (ha : at_ < 20) (hl : l2.length ≤ 60) :
    Calls Try.prog 7 #[.int .i64 (at_ : Int), .int .u8 b, .slice A2 l2.length c2, .agg #[.slice Ak lk.length ck, .int .i64 torn, .int .i64 kk]] w fun e w' => e = .returned (.bool true) ∧ Below w.heap.size w w' := by
  have HO := Aside0.mk (fun i hi => ops_at hr2 i hi)
  have HK := Aside0.mk (fun j hj => bools_at hk0 j hj)
  have HF := Aside0.mk (fun i hi => ops_few hr2 i hi)
  have hlkm : lk.length ≤ 9223372036854775807 := hk0.2.1
  clear hr2 hk0
  obtain ⟨E1, E2, hinv⟩ := keeps_start at_ b ha
  have hok1 := writeD_ok (newD_ok 20 (by decide)) at_ (sect b)
  have hln1 : (syncD (writeD (newD 20) at_ (sect b))).D.length = 20 := (syncD_len hok1).trans ((writeD_len _ _ _).trans rfl)
  replace hinv := Aside0.mk hinv
  replace hln1 := Aside0.mk hln1
  replace hok1 := Aside0.mk hok1
  replace E1 := Aside0.mk E1
  replace E2 := Aside0.mk E2
  have haw := Aside0.mk awake_calls
  have e0 : decide ((at_ : Int) < 0) = false := by simp
  have e1 : decide ((at_ : Int) > 19) = false := by simp; omega
  have e3 : decide ((l2.length : Int) > 60) = false := by simp; omega
  have hbx : Aside0 (Below w.heap.size w (w.alloc (.cells #[.slice Ak lk.length ck, .int .i64 torn, .int .i64 kk] 29))) := ⟨below_alloc (Below.refl _ _) _⟩
  have hx := Aside0.mk (World.alloc_heap_new w (.cells #[.slice Ak lk.length ck, .int .i64 torn, .int .i64 kk] 29))
  go_enter Try.func7, Try.ntmps7
  go_wp2_with fail
  have HOb := Aside0.mk (fun i hi => show ∃ ad A1 c1, A2 = some ad ∧ OpAt ad i (rd_T35 l2 i) A1 c1 _ from by
    obtain ⟨ad, A1, c1, h1, h2⟩ := HO.out i hi
    exact ⟨ad, A1, c1, h1, h2.below hbx.out⟩)
  have HKb := Aside0.mk (fun j hj => show ∃ ak, Ak = some ak ∧ World.cell? _ (ak.add j) = some (.bool (lk.getD j false)) from by
    obtain ⟨ak, h1, h2⟩ := HK.out j hj
    exact ⟨ak, h1, pw_cell_below hbx.out h2⟩)
  clear HO HK
  have hxl : w.heap.size < (w.alloc (.cells #[.slice Ak lk.length ck, .int .i64 torn, .int .i64 kk] 29)).heap.size := by rw [World.size_alloc]; omega
  generalize w.alloc (.cells #[.slice Ak lk.length ck, .int .i64 torn, .int .i64 kk] 29) = wb at *
  generalize hbx0 : w.heap.size = bx at *
  replace hbx0 := Aside0.mk hbx0
  refine (haw.out wb).mono ?_
  rintro e w1 ⟨rfl, hb1⟩
  replace hb1 := Aside0.mk hb1
  go_wp2_with fail
  refine (Dev.new 20 wb w1 hb1.out (by decide) (by decide)).mono ?_
  rintro e w2 ⟨g, rfl, hd2, hB2⟩
  replace hd2 := Aside0.mk hd2
  replace hB2 := Aside0.mk hB2
  go_wp2_with fail
  refine (sector_any b w2).mono ?_
  rintro e w3 ⟨A, c, rfl, hR, hb⟩
  replace hR := Aside0.mk hR
  replace hb := Aside0.mk hb
  go_wp2_with fail
  refine (hd2.out.write hB2.out hb.out (newD_ok 20 (by decide)) (by decide) at_ hR.out).mono ?_
  rintro e w4 ⟨rfl, hd4, hB4⟩
  rw [E1.out]
  replace hd4 := Aside0.mk hd4
  replace hB4 := Aside0.mk hB4
  clear hd2 hB2 hR hb hb1
  go_wp2_with fail
  refine (hd4.out.sync hB4.out hok1.out).mono ?_
  rintro e w5 ⟨rfl, hd5, hB5⟩
  rw [E2.out]
  have HI0 : Aside0 (KpI wb at_ b g (syncD (writeD (newD 20) at_ (sect b))) 0 w5) := ⟨⟨hd5, syncD_ok hok1.out, hln1.out, hinv.out, hB5⟩⟩
  clear hd5 hB5 hd4 hB4 hok1 hln1 hinv E1 E2
  generalize syncD (writeD (newD 20) at_ (sect b)) = d0 at *
  go_wp2_with fail
  go_loopw [10, 14] (fun v10 v14 wr => ∃ (k g : Nat) (d : DS), k ≤ l2.length ∧ v14 = .int .i64 k ∧ v10 = .pointer (some ⟨g, 0, none⟩) ∧ Aside0 (KpI wb at_ b g d k wr)) (fun _ v14 _ => l2.length - (intOf v14).toNat)
  case atStart => exact ⟨0, g, d0, Nat.zero_le _, rfl, rfl, HI0⟩
  case round =>
    obtain ⟨k, g, d, hk, rfl, rfl, HI⟩ := hrel
    by_cases hlk : k < l2.length
    · have h63 := HF.out k hlk
      obtain ⟨ad, A1, c1, rfl, ho⟩ := HOb.out k hlk
      generalize rd_T35 l2 k = x at *
      obtain ⟨q0, q1, q2, q3, q4, q5, q6, q7, _⟩ := ho.below HI.out.bel
      replace ho := Aside0.mk ho
      have hbz : Aside0 (Below wr.heap.size wr (wr.alloc (.cells #[.int .i64 x.f0, .int .i64 x.f1, .int .i64 x.f2, .int .u8 x.f3, .bool x.f4, .slice A1 x.f5.f0.length c1, .int .i64 x.f5.f1, .int .i64 x.f5.f2] 35))) := ⟨below_alloc (Below.refl _ _) _⟩
      have hzz : Aside0 ((wr.alloc (.cells #[.int .i64 x.f0, .int .i64 x.f1, .int .i64 x.f2, .int .u8 x.f3, .bool x.f4, .slice A1 x.f5.f0.length c1, .int .i64 x.f5.f1, .int .i64 x.f5.f2] 35)).heap[wr.heap.size]? = some (.cells #[.int .i64 x.f0, .int .i64 x.f1, .int .i64 x.f2, .int .u8 x.f3, .bool x.f4, .slice A1 x.f5.f0.length c1, .int .i64 x.f5.f1, .int .i64 x.f5.f2] 35)) := ⟨World.alloc_heap_new wr _⟩
      have hzl : wr.heap.size < (wr.alloc (.cells #[.int .i64 x.f0, .int .i64 x.f1, .int .i64 x.f2, .int .u8 x.f3, .bool x.f4, .slice A1 x.f5.f0.length c1, .int .i64 x.f5.f1, .int .i64 x.f5.f2] 35)).heap.size := by rw [World.size_alloc]; omega
      have hwl := HI.out.bel.size
      have hsame : ∀ X, Below wr.heap.size wr X → KpI wb at_ b g d (k + 1) X := fun X hX => ⟨HI.out.dev.below hX, HI.out.ok.more (by omega), HI.out.len, HI.out.inv, HI.out.bel.trans (hX.mono hwl)⟩
      replace hsame := Aside0.mk hsame
      by_cases h0 : x.f0 = 0
      · have t0 : (x.f0 == 0) = true := by simpa using h0
        have t1 : (x.f0 == 1) = false := by simp; omega
        have t2 : (x.f0 == 2) = false := by simp; omega
        have t3 : (x.f0 == 3) = false := by simp; omega
        by_cases ha : x.f1 = at_
        · have t4 : (x.f1 != at_) = false := by simpa using ha
          clear h0
          replace ha := Aside0.mk ha
          go_wp2_with fail
          go_roundw
          case rel => exact ⟨k + 1, g, d, by omega, by go_num, rfl, ⟨hsame.out _ hbz.out⟩⟩
          case measure => simp only [intOf]; omega
        · have t4 : (x.f1 != at_) = true := by simpa using ha
          clear h0
          replace ha := Aside0.mk ha
          go_wp2_with fail
          have hzc := hzz.out
          have a1 : (wr.alloc (.cells #[.int .i64 x.f0, .int .i64 x.f1, .int .i64 x.f2, .int .u8 x.f3, .bool x.f4, .slice A1 x.f5.f0.length c1, .int .i64 x.f5.f1, .int .i64 x.f5.f2] 35)).cell? ⟨wr.heap.size, 1, none⟩ = some (.int .i64 x.f1) := (blk_cell hzc 1).trans rfl
          have a3 : (wr.alloc (.cells #[.int .i64 x.f0, .int .i64 x.f1, .int .i64 x.f2, .int .u8 x.f3, .bool x.f4, .slice A1 x.f5.f0.length c1, .int .i64 x.f5.f1, .int .i64 x.f5.f2] 35)).cell? ⟨wr.heap.size, 3, none⟩ = some (.int .u8 x.f3) := (blk_cell hzc 3).trans rfl
          clear hzc
          have hwa : Aside0 (wr.heap.size ≤ (wr.alloc (.cells #[.int .i64 x.f0, .int .i64 x.f1, .int .i64 x.f2, .int .u8 x.f3, .bool x.f4, .slice A1 x.f5.f0.length c1, .int .i64 x.f5.f1, .int .i64 x.f5.f2] 35)).heap.size) := ⟨Nat.le_of_lt hzl⟩
          generalize hwz : (wr.alloc (.cells #[.int .i64 x.f0, .int .i64 x.f1, .int .i64 x.f2, .int .u8 x.f3, .bool x.f4, .slice A1 x.f5.f0.length c1, .int .i64 x.f5.f1, .int .i64 x.f5.f2] 35)) = wz at *
          clear hwz
          go_region_held3 (fun X => X.cell? ⟨wr.heap.size, 1, none⟩ = some (.int .i64 x.f1) ∧ X.cell? ⟨wr.heap.size, 3, none⟩ = some (.int .u8 x.f3))
            (first | exact ⟨a1, a3⟩ | exact ⟨b1, b3⟩ | exact ⟨z1, z3⟩)
            (first
              | (go_at_call 14; refine (sector_any x.f3 wz.drew).mono ?_; rintro e w5 ⟨A5, c5, rfl, hR5, hb5⟩; have b1 := pw_cell_below hb5 a1; have b3 := pw_cell_below hb5 a3; have hk5 := (hb5.block wr.heap.size hzl).trans hzz.out; have hl5 := hb5.size; replace hk5 := Aside0.mk hk5; replace hR5 := Aside0.mk hR5; replace hb5 := Aside0.mk hb5)
              | (go_at_call 18; refine (HI.out.dev.write3 HI.out.bel (hbz.out.trans (((below_drew (Below.refl _ _)).trans hb5.out).mono hwa.out)) HI.out.ok (by omega) x.f1 hwa.out hR5.out).mono ?_; rintro e w6 ⟨rfl, hd6, hB6, hkeep⟩; have hk6 := (hkeep wr.heap.size (Nat.le_refl _) (Nat.lt_of_lt_of_le hzl hl5)).trans hk5.out; have z0 := (blk_cell hk6 0).trans rfl; have z1 := (blk_cell hk6 1).trans rfl; have z2 := (blk_cell hk6 2).trans rfl; have z3 := (blk_cell hk6 3).trans rfl; replace hkeep := Aside0.mk hkeep; replace hd6 := Aside0.mk hd6; replace hB6 := Aside0.mk hB6; replace hk6 := Aside0.mk hk6))
          have HI2 : Aside0 (KpI wb at_ b g (writeD d x.f1 (sect x.f3)) (k + 1) w6) := ⟨⟨hd6.out, writeD_ok HI.out.ok _ _, (writeD_len _ _ _).trans HI.out.len, HI.out.inv.write _ _ ha.out, hB6.out⟩⟩
          clear hkeep hk6 hd6 hB6 hR5 hb5 hk5
          generalize writeE d x.f1 (sect x.f3) = ee at *
          go_wp2_with fail
          go_roundw
          case rel => exact ⟨k + 1, g, _, by omega, by go_num, rfl, HI2⟩
          case measure => simp only [intOf]; omega
      · have t0 : (x.f0 == 0) = false := by simpa using h0
        by_cases h1 : x.f0 = 1
        · have t1 : (x.f0 == 1) = true := by simpa using h1
          have t2 : (x.f0 == 2) = false := by simp; omega
          have t3 : (x.f0 == 3) = false := by simp; omega
          clear h0 h1
          go_wp2_with fail
          refine (HI.out.dev.sync3 HI.out.bel hbz.out HI.out.ok).mono ?_
          rintro e w6 ⟨rfl, hd6, hB6, hkeep⟩
          have hk6 := (hkeep wr.heap.size (Nat.le_refl _) hzl).trans hzz.out
          have z0 := (blk_cell hk6 0).trans rfl
          have z1 := (blk_cell hk6 1).trans rfl
          have z2 := (blk_cell hk6 2).trans rfl
          have z3 := (blk_cell hk6 3).trans rfl
          have HI2 : Aside0 (KpI wb at_ b g (syncD d) (k + 1) w6) := ⟨⟨hd6, (syncD_ok HI.out.ok).more (by omega), (syncD_len HI.out.ok).trans HI.out.len, HI.out.inv.sync, hB6⟩⟩
          clear hkeep hk6 hd6 hB6
          generalize syncE d = ee at *
          go_wp2_with fail
          go_roundw
          case rel => exact ⟨k + 1, g, _, by omega, by go_num, rfl, HI2⟩
          case measure => simp only [intOf]; omega
        · have t1 : (x.f0 == 1) = false := by simpa using h1
          by_cases h2 : x.f0 = 2
          · have t2 : (x.f0 == 2) = true := by simpa using h2
            have t3 : (x.f0 == 3) = false := by simp; omega
            clear h0 h1 h2
            go_wp2_with fail
            refine (HI.out.dev.arm3 HI.out.bel hbz.out x.f2).mono ?_
            rintro e w6 ⟨rfl, hd6, hB6, hkeep⟩
            have hk6 := (hkeep wr.heap.size (Nat.le_refl _) hzl).trans hzz.out
            have z0 := (blk_cell hk6 0).trans rfl
            have z1 := (blk_cell hk6 1).trans rfl
            have z2 := (blk_cell hk6 2).trans rfl
            have z3 := (blk_cell hk6 3).trans rfl
            have HI2 : Aside0 (KpI wb at_ b g (armF d x.f2) (k + 1) w6) := ⟨⟨hd6, (armF_ok HI.out.ok x.f2).more (by omega), HI.out.len, HI.out.inv, hB6⟩⟩
            clear hkeep hk6 hd6 hB6
            go_wp2_with fail
            go_roundw
            case rel => exact ⟨k + 1, g, _, by omega, by go_num, rfl, HI2⟩
            case measure => simp only [intOf]; omega
          · have t2 : (x.f0 == 2) = false := by simpa using h2
            by_cases h3 : x.f0 = 3
            · have t3 : (x.f0 == 3) = true := by simpa using h3
              clear h0 h1 h2 h3
              go_wp2_with fail
              refine ((HI.out.dev.below hbz.out).crash (HI.out.bel.trans (hbz.out.mono hwl)) HI.out.ok (by omega) (by rw [HI.out.len]; decide) A1 x.f5.f0.length c1 (fun j => x.f5.f0.getD j false) x.f5.f1 x.f5.f2 h63 (fun j hj => ((ho.out.below HI.out.bel).below hbz.out).keep j hj)).mono ?_
              rintro e w6 ⟨g6, rfl, hd6, hb6⟩
              have HI2 : Aside0 (KpI wb at_ b g6 (crashD d (kf (fun j => x.f5.f0.getD j false) x.f5.f0.length x.f5.f1 x.f5.f2)) (k + 1) w6) := ⟨⟨hd6, (crashD_ok HI.out.ok _ (kf_ok _ _ _ _)).more (by omega), (crashD_len _ _).trans HI.out.len, HI.out.inv.crash HI.out.ok _, (HI.out.bel.trans (hbz.out.mono hwl)).trans (hb6.mono (Nat.le_trans hwl (Nat.le_of_lt hzl)))⟩⟩
              clear hd6 hb6
              go_wp2_with fail
              go_roundw
              case rel => exact ⟨k + 1, g6, _, by omega, by go_num, rfl, HI2⟩
              case measure => simp only [intOf]; omega
            · have t3 : (x.f0 == 3) = false := by simpa using h3
              clear h0 h1 h2 h3
              go_wp2_with fail
              go_roundw
              case rel => exact ⟨k + 1, g, d, by omega, by go_num, rfl, ⟨hsame.out _ hbz.out⟩⟩
              case measure => simp only [intOf]; omega
    · obtain rfl : k = l2.length := by omega
      have hk6 := (HI.out.bel.block bx hxl).trans hx.out
      have z0 := (blk_cell hk6 0).trans rfl
      have z1 := (blk_cell hk6 1).trans rfl
      have z2 := (blk_cell hk6 2).trans rfl
      clear hk6
      go_wp2_with fail
      refine (HI.out.dev.crash HI.out.bel HI.out.ok (by omega) (by rw [HI.out.len]; decide) Ak lk.length ck (fun j => lk.getD j false) torn kk hlkm (fun j hj => by
        obtain ⟨ak, h1, h2⟩ := HKb.out j hj
        exact ⟨ak, h1, pw_cell_below HI.out.bel h2⟩)).mono ?_
      rintro e w6 ⟨g6, rfl, hd6, hb6⟩
      have hinv := HI.out.inv.crash HI.out.ok (kf (fun j => lk.getD j false) lk.length torn kk)
      have hok6 := crashD_ok HI.out.ok (kf (fun j => lk.getD j false) lk.length torn kk) (kf_ok _ _ _ _)
      have hln6 := (crashD_len d (kf (fun j => lk.getD j false) lk.length torn kk)).trans HI.out.len
      have hdd : (crashD d (kf (fun j => lk.getD j false) lk.length torn kk)).dead = false := rfl
      have hww : (crashD d (kf (fun j => lk.getD j false) lk.length torn kk)).W.length = 0 := rfl
      have hB6 := Aside0.mk (HI.out.bel.trans (hb6.mono HI.out.bel.size))
      generalize crashD d (kf (fun j => lk.getD j false) lk.length torn kk) = d6 at *
      have hre : readE d6 at_ = 0 := readE_live' hdd (by omega) (by rw [hln6]; omega)
      have hrb : readB d6 at_ = sect b := by
        unfold readB
        rw [if_pos ⟨hdd, by omega, by rw [hln6]; omega⟩]
        exact hinv.2.1
      replace hd6 := Aside0.mk hd6
      replace hok6 := Aside0.mk hok6
      replace hre := Aside0.mk hre
      replace hrb := Aside0.mk hrb
      replace hdd := Aside0.mk hdd
      replace hww := Aside0.mk hww
      clear hb6 hinv HI HOb HF
      go_wp2_with fail
      refine (hd6.out.read hok6.out at_).mono ?_
      rintro e w7 ⟨v, rfl, hR7, hb7⟩
      rw [hrb.out] at hR7
      rw [hre.out]
      obtain ⟨q7, c7, rfl, _, _, hc7, _⟩ := own_form hR7 (sect_len b)
      have hC7 := Aside0.mk (Kd.R_reads' hR7).2.2
      have hd7 := Aside0.mk (hd6.out.below hb7)
      have hB7 := Aside0.mk (hB6.out.trans (hb7.mono hB6.out.size))
      clear hR7 hb7 hd6 hB6
      go_wp2_with fail
      refine (sector_own b w7).mono ?_
      rintro e w8 ⟨q8, c8, rfl, hR8, hb8, _, _, hc8⟩
      have hC8 := Aside0.mk (Kd.R_reads' hR8).2.2
      have hd8 := Aside0.mk (hd7.out.below hb8)
      have hB8 := Aside0.mk (hB7.out.trans (hb8.mono hB7.out.size))
      have hC7 := Aside0.mk (Kd.C_below hC7.out hb8)
      clear hR8 hb8 hd7 hB7
      go_wp2_with fail
      refine (same_any _ _ 256 256 c7 c8 (sect b) w8 (sect_len b) (sect_len b) hC7.out hc7 hC8.out hc8 (by rw [sect_len]; decide)).mono ?_
      rintro e w9 ⟨rfl, hdr⟩
      obtain ⟨m9, rfl⟩ := hdr
      have hB9 := Aside0.mk (pw_below_drewN hB8.out m9)
      have hd9 := hd8.out.below (pw_below_drewN (Below.refl _ _) m9)
      have hdead := hd9.dead
      have hwait := hd9.waits
      rw [hdd.out] at hdead
      rw [hww.out] at hwait
      replace hdead := Aside0.mk hdead
      replace hwait := Aside0.mk hwait
      clear hC7 hC8 hB8 hd8 hd9 hdd hww
      generalize w8.drewN m9 = w10 at *
      go_wp2_with (first | (go_at_call 19; refine hdead.out.mono ?_; rintro e wz ⟨rfl, hq_⟩; obtain rfl := hq_.symm) | (go_at_call 21; refine hwait.out.mono ?_; rintro e wz ⟨rfl, hq_⟩; obtain rfl := hq_.symm))
      go_ret
      exact ⟨rfl, by rw [hbx0.out]; exact hbx.out.trans (hB9.out.mono (Nat.le_of_lt hxl))⟩
end Go.Proofs.Ytghhmbagjhmgfaa.Print
