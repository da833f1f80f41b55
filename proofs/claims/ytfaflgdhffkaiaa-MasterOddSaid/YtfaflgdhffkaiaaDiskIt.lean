/- disk.Disk's kept: the closure hands on each write that waits, with how much of it survives. -/
import Derived.Test.YtfaflgdhffkaiaaDisk5
import Derived.RangeFuncNested
import Derived.RangeFuncBound
import Derived.RangeFuncCalls
import Derived.RangeFuncLeaves
import Derived.Shelf.Abstract
import Derived.Shelf.RegionOpen
import Derived.WalkKit
import Derived.OwnWalkIn
import Derived.TacticsInMore
import Derived.LoopNIn
import Derived.LoopIn
import Derived.Sort.QuietIn
namespace Go.Proofs.Ytfaflgdhffkaiaa.Print
open BigFrame Go.RowKit Go.Shelf Go.Proofs.YtfaflgdhffkaiaaW.PrintWords Go.Proofs.YtfaflgdhffkaiaaW.PrintLast Go.Proofs.YtfaflgdhffkaiaaW.PrintMore
attribute [local go_sem] Oper.semAt_some
set_option linter.unusedVariables false
set_option linter.unusedSimpArgs false
/-- What a round may turn: block q, and what is new since the loop began. -/
def Kq (q B0 : Nat) (A B : World) : Prop := Chg (fun k => k = q ∨ B0 ≤ k) A B
theorem Kq.trans {q B0 : Nat} {A B C : World} (h : Kq q B0 A B) (k : Kq q B0 B C) : Kq q B0 A C := Chg.trans h k (fun _ h => .inl h)
theorem Kq.put {q B0 : Nat} (W : World) (l : Nat) (o o' : Obj) (hl : B0 ≤ l) (h : W.heap[l]? = some o) (_ : o.isCells = false) (_ : o.isWalk = false) : Kq q B0 W (W.putObj l o') :=
  Chg.of_grown (grownBy_putObj' W l o') (fun k e => by cases e; exact .inr hl)
/-- How much of a write survives. -/
def kf (kb : Nat → Bool) (nk : Nat) (torn kk : Int) (i : Nat) : Int := if (i : Int) = torn then mn (mx kk 0) 256 else if 0 < nk ∧ kb (i % nk) = true then 256 else 0
/-- What the closure reads. -/
structure ItF (bd g bc nw cw nk ck : Nat) (Aw Ak : Option Addr) (at_ : Nat → Int) (va : Nat → Option Addr) (ln vc : Nat → Nat) (kb : Nat → Bool) (torn kk : Int) (X : World) : Prop where
  d : X.cell? ⟨bd, 0, none⟩ = some (.pointer (some ⟨g, 0, none⟩))
  s : X.cell? ⟨g, 2, none⟩ = some (.slice Aw nw cw)
  el : ∀ i, i < nw → ∃ qw, Aw = some ⟨qw, 0, none⟩ ∧ X.cell? ⟨qw, i * 2, none⟩ = some (.int .i64 (at_ i)) ∧ X.cell? ⟨qw, i * 2 + 1, none⟩ = some (.slice (va i) (ln i) (vc i))
  k0 : X.cell? ⟨bc, 0, none⟩ = some (.slice Ak nk ck)
  k1 : X.cell? ⟨bc, 1, none⟩ = some (.int .i64 torn)
  k2 : X.cell? ⟨bc, 2, none⟩ = some (.int .i64 kk)
  kp : ∀ j, j < nk → ∃ ak, Ak = some ak ∧ X.cell? (ak.add j) = some (.bool (kb j))
theorem rng_succ (k : Nat) : List.range (k + 1) = List.range k ++ [k] := List.range_succ
set_option maxRecDepth 100000 in
set_option maxHeartbeats 1000000 in
theorem kept_it (F : Fence) (n : Nat) (hf : F.fn 48) (hro : F.round = none) (hn : 1 ≤ n) (q B0 bd g bc nw cw nk ck : Nat) (Aw Ak : Option Addr) (at_ : Nat → Int) (va : Nat → Option Addr) (ln vc : Nat → Nat) (kb : Nat → Bool) (torn kk : Int)
    (l : Nat) (J Jx : List Nat → World → Prop) (W : World) (hJ : ∀ s A o, J s A → J s (A.alloc o)) (hJd : ∀ s A n, J s A → J s (A.drewN n)) (hB0 : B0 ≤ W.heap.size) (hnw : nw ≤ 1000000) (hnk : nk ≤ 9223372036854775807) (hF : ∀ X, Kq q B0 W X → ItF bd g bc nw cw nk ck Aw Ak at_ va ln vc kb torn kk X)
    (hY : ∀ pre x W1, J pre W1 → pre.length < nw → YieldAt F (n - 1) Try.prog l #[.agg #[.int .i64 (at_ x), .slice (va x) (ln x) (vc x)], .int .i64 (kf kb nk torn kk x)] W1 fun e W' =>
      (e = .returned (.bool true) ∧ J (pre ++ [x]) W' ∧ Kq q B0 W1 W') ∨ (e = .returned (.bool false) ∧ Jx (pre ++ [x]) W'))
    (h0 : J [] W) :
    CallsIn F n Try.prog 48 #[.func (.yield l) #[] #[], .pointer (some ⟨bd, 0, none⟩), .pointer (some ⟨bc, 0, none⟩)] W fun e W' => (∃ v, e = .returned v) ∧ ((∃ xs, xs = List.range nw ∧ J xs W') ∨ (∃ pre, True ∧ Jx pre W')) := by
  obtain ⟨f0, f1, _, _, _, _, _⟩ := hF W (Chg.refl _ _)
  refine callsIn_of_wp Try.func48 rfl hf ?_ hro
  simp only [Try.ntmps48, List.size_toArray, List.length_cons, List.length_nil, Nat.reduceAdd, Nat.reduceSub, Array.replicate_succ, Array.replicate_zero, List.push_toArray, List.append_toArray, List.nil_append, List.cons_append]
  gi_wp2
  gi_loopw [12] (fun i wr => ∃ k : Nat, k ≤ nw ∧ i = .int .i64 k ∧ J (List.range k) wr ∧ Aside0 (Kq q B0 W wr)) (fun i _ => nw - (intOf i).toNat)
  case atStart => exact ⟨0, Nat.zero_le _, rfl, h0, ⟨Chg.refl _ _⟩⟩
  case round =>
    obtain ⟨k, hk, rfl, hJs, hnx⟩ := hrel
    by_cases hlt : k < nw
    · obtain ⟨_, _, hel, g0, g1, g2, gp⟩ := hF wr hnx.out
      obtain ⟨qw, rfl, c0, c1⟩ := hel k hlt
      have hY1 := hY (List.range k) k
      obtain ⟨wa, hwa⟩ : ∃ wa, wa = wr.alloc (.cells #[.int .i64 (at_ k), .slice (va k) (ln k) (vc k)] 59) := ⟨_, rfl⟩
      have al : ∀ {a : Addr} {v : Value}, wr.cell? a = some v → (wr.alloc (.cells #[.int .i64 (at_ k), .slice (va k) (ln k) (vc k)] 59)).cell? a = some v := fun h => cell_kept h (World.grownBy_alloc wr _ none) (fun r e => by cases e)
      have m0 := al g0
      have m1 := al g1
      have m2 := al g2
      have hkq : ∀ {X : World}, Kq q B0 (wr.alloc (.cells #[.int .i64 (at_ k), .slice (va k) (ln k) (vc k)] 59)) X → Kq q B0 W X := fun h => (hnx.out.trans (Chg.of_new (below_alloc (Below.refl _ _) _) _)).trans h
      replace hkq := Aside0.mk @hkq
      have hJa := hJ _ _ (.cells #[.int .i64 (at_ k), .slice (va k) (ln k) (vc k)] 59) hJs
      replace al := Aside0.mk @al
      have hlen : (List.range k).length < nw := by rw [List.length_range]; exact hlt
      clear hel hY hwa hF
      by_cases ht : (k : Int) = torn
      · have hkf : kf kb nk torn kk k = mn (mx kk 0) 256 := by unfold kf; rw [if_pos ht]
        have e1 : ((k : Int) == torn) = true := by simpa using ht
        obtain ⟨fn, tmps, assign, body, hy, hR⟩ := hY1 _ hJa hlen
        rw [hkf] at hy
        clear hY1 gp hJ hJd h0
        replace ht := Aside0.mk ht
        replace hkf := Aside0.mk hkf
        have h3 : kk < 0 ∨ (0 ≤ kk ∧ kk ≤ 256) ∨ 256 < kk := by omega
        rcases h3 with h3 | ⟨h3, h4⟩ | h3
        · rw [show mn (mx kk 0) 256 = 0 by unfold mn mx; rw [if_pos h3]; rfl] at hy
          gi_wp2
          refine hR.mono ?_
          rintro e W3 (⟨rfl, hJ3, hk3⟩ | ⟨rfl, hJx3⟩)
          · gi_wp2
            go_roundw
            case rel => exact ⟨k + 1, by omega, by go_num, by rw [rng_succ]; exact hJ3, ⟨hkq.out hk3⟩⟩
            case measure => simp only [intOf]; omega
          · gi_wp2
            refine bodyPost_ret (results_none rfl _ _ _) rfl ?_
            exact ⟨⟨_, rfl⟩, .inr ⟨_, trivial, hJx3⟩⟩
        · rw [show mn (mx kk 0) 256 = kk by unfold mn mx; simp only [if_neg (show ¬ kk < 0 by omega), if_neg (show ¬ 256 < kk by omega)]] at hy
          gi_wp2
          refine hR.mono ?_
          rintro e W3 (⟨rfl, hJ3, hk3⟩ | ⟨rfl, hJx3⟩)
          · gi_wp2
            go_roundw
            case rel => exact ⟨k + 1, by omega, by go_num, by rw [rng_succ]; exact hJ3, ⟨hkq.out hk3⟩⟩
            case measure => simp only [intOf]; omega
          · gi_wp2
            refine bodyPost_ret (results_none rfl _ _ _) rfl ?_
            exact ⟨⟨_, rfl⟩, .inr ⟨_, trivial, hJx3⟩⟩
        · rw [show mn (mx kk 0) 256 = 256 by unfold mn mx; simp only [if_neg (show ¬ kk < 0 by omega), if_pos h3]] at hy
          gi_wp2
          refine hR.mono ?_
          rintro e W3 (⟨rfl, hJ3, hk3⟩ | ⟨rfl, hJx3⟩)
          · gi_wp2
            go_roundw
            case rel => exact ⟨k + 1, by omega, by go_num, by rw [rng_succ]; exact hJ3, ⟨hkq.out hk3⟩⟩
            case measure => simp only [intOf]; omega
          · gi_wp2
            refine bodyPost_ret (results_none rfl _ _ _) rfl ?_
            exact ⟨⟨_, rfl⟩, .inr ⟨_, trivial, hJx3⟩⟩
      · have hkf : kf kb nk torn kk k = if 0 < nk ∧ kb (k % nk) = true then 256 else 0 := by unfold kf; rw [if_neg ht]
        have e1 : ((k : Int) == torn) = false := by simpa using ht
        replace ht := Aside0.mk ht
        clear h0
        by_cases hz : nk = 0
        · subst hz
          rw [show (if 0 < 0 ∧ kb (k % 0) = true then (256 : Int) else 0) = 0 from if_neg (fun h => absurd h.1 (Nat.lt_irrefl _))] at hkf
          clear gp
          replace hY1 := Aside0.mk hY1
          have hd : decide (((0 : Nat) : Int) > 0) = false := rfl
          gi_wp2
          refine wpIn_region_quiet_lit (by assumption) (by kernel_rfl) (by kernel_rfl) ?_
          repeat (gi_big_quiet_step (fail))
          refine wpQuietIn_nil ?_
          intro _ hw'
          obtain ⟨nq, hw''⟩ := hw'
          subst hw''
          obtain ⟨fn, tmps, assign, body, hy, hR⟩ := hY1.out _ (hJd _ _ nq hJa) hlen
          rw [hkf] at hy
          gi_wp2
          refine hR.mono ?_
          rintro e W3 (⟨rfl, hJ3, hk3⟩ | ⟨rfl, hJx3⟩)
          · gi_wp2
            go_roundw
            case rel => exact ⟨k + 1, by omega, by go_num, by rw [rng_succ]; exact hJ3, ⟨hkq.out (Kq.trans (Chg.of_new (pw_below_drewN (Below.refl _ _) nq) _) hk3)⟩⟩
            case measure => simp only [intOf]; omega
          · gi_wp2
            refine bodyPost_ret (results_none rfl _ _ _) rfl ?_
            exact ⟨⟨_, rfl⟩, .inr ⟨_, trivial, hJx3⟩⟩
        · obtain ⟨ak, rfl, hkc⟩ := gp (k % nk) (Nat.mod_lt _ (by omega))
          obtain ⟨ix, hix⟩ : ∃ ix, ix = k % nk := ⟨_, rfl⟩
          have hix0 : ix < nk := hix ▸ Nat.mod_lt _ (by omega)
          have hmod : ((k : Int)).tmod (nk : Int) = ((ix : Nat) : Int) := by rw [hix]; rfl
          rw [← hix] at hkc hkf
          have m3 := al.out hkc
          clear gp hkc
          have hpos : 0 < nk := by omega
          have hd : decide (0 < nk) = true := decide_eq_true hpos
          replace hix := Aside0.mk hix
          cases hb : kb ix with
          | true =>
            rw [hb] at m3 hkf
            rw [if_pos ⟨by omega, rfl⟩] at hkf
            replace hY1 := Aside0.mk hY1
            replace hkf := Aside0.mk hkf
            gi_wp2
            refine wpIn_region_quiet_lit (by assumption) (by kernel_rfl) (by kernel_rfl) ?_
            repeat (gi_big_quiet_step (fail))
            refine wpQuietIn_nil ?_
            intro _ hw'
            obtain ⟨nq, hw''⟩ := hw'
            subst hw''
            obtain ⟨fn, tmps, assign, body, hy, hR⟩ := hY1.out _ (hJd _ _ nq hJa) hlen
            rw [hkf.out] at hy
            gi_wp2
            refine hR.mono ?_
            rintro e W3 (⟨rfl, hJ3, hk3⟩ | ⟨rfl, hJx3⟩)
            · gi_wp2
              go_roundw
              case rel => exact ⟨k + 1, by omega, by go_num, by rw [rng_succ]; exact hJ3, ⟨hkq.out (Kq.trans (Chg.of_new (pw_below_drewN (Below.refl _ _) nq) _) hk3)⟩⟩
              case measure => simp only [intOf]; omega
            · gi_wp2
              refine bodyPost_ret (results_none rfl _ _ _) rfl ?_
              exact ⟨⟨_, rfl⟩, .inr ⟨_, trivial, hJx3⟩⟩

          | false =>
            rw [hb] at m3 hkf
            rw [if_neg (fun h => by cases h.2)] at hkf
            replace hY1 := Aside0.mk hY1
            replace hkf := Aside0.mk hkf
            gi_wp2
            refine wpIn_region_quiet_lit (by assumption) (by kernel_rfl) (by kernel_rfl) ?_
            repeat (gi_big_quiet_step (fail))
            refine wpQuietIn_nil ?_
            intro _ hw'
            obtain ⟨nq, hw''⟩ := hw'
            subst hw''
            obtain ⟨fn, tmps, assign, body, hy, hR⟩ := hY1.out _ (hJd _ _ nq hJa) hlen
            rw [hkf.out] at hy
            gi_wp2
            refine hR.mono ?_
            rintro e W3 (⟨rfl, hJ3, hk3⟩ | ⟨rfl, hJx3⟩)
            · gi_wp2
              go_roundw
              case rel => exact ⟨k + 1, by omega, by go_num, by rw [rng_succ]; exact hJ3, ⟨hkq.out (Kq.trans (Chg.of_new (pw_below_drewN (Below.refl _ _) nq) _) hk3)⟩⟩
              case measure => simp only [intOf]; omega
            · gi_wp2
              refine bodyPost_ret (results_none rfl _ _ _) rfl ?_
              exact ⟨⟨_, rfl⟩, .inr ⟨_, trivial, hJx3⟩⟩

    · obtain rfl : k = nw := by omega
      clear hF hY
      gi_wp2
      go_end0
      exact ⟨⟨_, rfl⟩, .inl ⟨_, rfl, hJs⟩⟩
end Go.Proofs.Ytfaflgdhffkaiaa.Print
