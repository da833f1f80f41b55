/- The bytes of calls: what 'wrote' hands back. -/
import Derived.Test.YtkniklgecmdeoaaBytWrites
import Derived.StillTailTactics
namespace Go.Proofs.Ytkniklgecmdeoaa.Print
open Go.RowKit Go.Proofs.YtkniklgecmdeoaaW.PrintWords Go.Proofs.YtkniklgecmdeoaaW.PrintLast Go.Proofs.YtkniklgecmdeoaaW.PrintMore Go.Proofs.Ytkniklgecmdeoaa.Pure
set_option linter.unusedVariables false
set_option linter.unusedSimpArgs false
/-- What a call adds. -/
def opB (x : S30) : List Int := if x.f0 = true then layB x.f3 else putB x.f1 x.f2
def opE (x : S30) : Int := if x.f0 = true then layE x.f3 else putE x.f1 x.f2
theorem opB_len (x : S30) : (opB x).length ≤ 700 := by unfold opB; split; exact layB_len _; exact putB_len _ _
def opsB (l : List S30) : List Int := l.flatMap opB
theorem opsB_len : ∀ l : List S30, (opsB l).length ≤ 700 * l.length
  | [] => by simp [opsB]
  | x :: l => by
    have := opsB_len l
    have := opB_len x
    have e : (opsB (x :: l)).length = (opB x).length + (opsB l).length := by simp [opsB]
    rw [e, List.length_cons]
    omega
theorem opsB_take (l : List S30) (k : Nat) (h : k < l.length) : opsB (l.take (k + 1)) = opsB (l.take k) ++ opB (rd_T30 l (k : Int)) := by
  have : rd_T30 l (k : Int) = l[k] := by simp [rd_T30, List.getD_eq_getElem?_getD, List.getElem?_eq_getElem h]
  rw [this, List.take_succ_eq_append_getElem h]
  unfold opsB
  rw [List.flatMap_append]
  simp only [List.flatMap_cons, List.flatMap_nil, List.append_nil]
/-- Behind so many calls: the Writer holds their bytes. -/
def VI (w : World) (g : Nat) (L : List Int) (wr : World) : Prop := ∃ r, Wr wr g r L ∧ (∀ k, r = some k → w.heap.size ≤ k) ∧ w.heap.size ≤ g ∧ Below w.heap.size w wr
theorem VI.next {w wr w2 : World} {g : Nat} {r : Option Nat} {M : List Int} (hr : ∀ k, r = some k → w.heap.size ≤ k) (hg : w.heap.size ≤ g) (hb : Below w.heap.size w wr) (hp : WrPost g r M wr w2) : VI w g M w2 := by
  obtain ⟨r1, h1, h3, h4⟩ := hp
  refine ⟨r1, h1, fun k hk => ?_, hg, Chg.then_ hb h4 (fun k hk => by rcases hk with rfl | e; exact hg; exact hr k e.symm) hb.size⟩
  rcases h3 with rfl | ⟨b, rfl, hbl⟩
  · exact hr k hk
  · obtain rfl := Option.some.inj hk
    exact Nat.le_trans hb.size hbl
set_option maxHeartbeats 4000000 in
set_option maxRecDepth 100000 in
theorem wrote_calls (A0 : Option Addr) (c0 : Nat) (l0 : List S30) (w : World) (hr0 : Kd.C k30 w A0 l0.length l0) (hc0 : l0.length ≤ c0) (hlen : l0.length ≤ 1000) (hsm : ∀ i, i < l0.length → (go_ l0 i).f3.length ≤ 600) :
    Calls Try.prog 17 #[.slice A0 l0.length c0] w fun e w' => ∃ v0, e = .returned v0 ∧ Kd.R (Kd.int .u8) 5 w' w.heap.size (fun _ => True) v0 (opsB l0) ∧ Below w.heap.size w w' := by
  have HR : ∀ {X : World}, Below w.heap.size w X → Kd.C k30 X A0 l0.length l0 := fun hb => Kd.C_below hr0 hb
  replace HR := Aside0.mk @HR
  clear hr0
  replace hsm := Aside0.mk hsm
  go_enter Try.func17, Try.ntmps17
  go_wp2_with fail
  go_loopw [4] (fun v4 wr => ∃ k : Nat, k ≤ l0.length ∧ v4 = .int .i64 k ∧ Aside0 (VI w w.heap.size (opsB (l0.take k)) wr)) (fun v4 _ => l0.length - (intOf v4).toNat)
  case atStart => exact ⟨0, Nat.zero_le _, rfl, ⟨none, wr_new w, (fun k e => by cases e), Nat.le_refl _, below_alloc (Below.refl _ _) _⟩⟩
  case round =>
    obtain ⟨k, hk, rfl, HI⟩ := hrel
    obtain ⟨r, hW, hr, hg, hB⟩ := HI.out
    have hL := opsB_len (l0.take k)
    rw [List.length_take] at hL
    clear HI
    by_cases hlk : k < l0.length
    · obtain ⟨ad, A3, c3, rfl, h0, h1, h2, h3, hl3, hC3⟩ := at_T30 (HR.out (Below.refl _ _)) (k : Int) (by omega) (by omega)
      have hx3 : (rd_T30 l0 (k : Int)).f3.length ≤ 600 := hsm.out k hlk
      have hnx := opsB_take l0 k hlk
      generalize rd_T30 l0 (k : Int) = x at *
      replace h0 := pw_cell_below hB h0
      replace h1 := pw_cell_below hB h1
      replace h2 := pw_cell_below hB h2
      replace h3 := pw_cell_below hB h3
      rw [show ((k : Int)).toNat = k by omega] at h0 h1 h2 h3
      have hXC : ∀ {X : World}, Below w.heap.size w X → Kd.C (Kd.int .u8) X A3 x.f3.length x.f3 := fun hb => Kd.C_below hC3 hb
      generalize opsB (l0.take k) = L at *
      replace hnx := Aside0.mk hnx
      replace hXC := Aside0.mk @hXC
      have hWa : Aside0 (∀ m, Wr (wr.drewN m) w.heap.size r L) := ⟨fun m => hW.below (pw_below_drewN (Below.refl _ _) m)⟩
      have hBa : Aside0 (∀ m, Below w.heap.size w (wr.drewN m)) := ⟨fun m => pw_below_drewN hB m⟩
      replace hr := Aside0.mk hr
      replace hg := Aside0.mk hg
      replace hL := Aside0.mk hL
      replace hx3 := Aside0.mk hx3
      obtain ⟨y0, y1, y2, y3⟩ := x
      clear hC3
      replace hB := Aside0.mk hB
      replace hW := Aside0.mk hW
      cases y0 with
      | true =>
        go_wp2_with fail
        refine (lay_any w.heap.size r L A3 c3 y3 _ hW.out (fun W1 hc => reads_of_C (hXC.out (Chg.then_ hB.out hc (fun k hk => by rcases hk with rfl | e; exact hg.out; exact hr.out k e.symm) hB.out.size))) (by have := hL.out; omega) (by have := hx3.out; omega)).mono ?_
        rintro e w5 ⟨rfl, hq5⟩
        have HN := Aside0.mk (VI.next hr.out hg.out hB.out hq5)
        clear hq5
        go_wp2_with fail
        go_roundw
        case rel => exact ⟨k + 1, by omega, by go_num, ⟨by rw [hnx.out]; exact HN.out⟩⟩
        case measure => simp [intOf]; omega
      | false =>
        go_wp2_with fail
        go_still_tail 11, (by kernel_rfl)
        go_wp2_with fail
        refine (put_any w.heap.size r L y1 y2 wr.drew (hW.out.below (below_drew (Below.refl _ _))) (by have := hL.out; omega)).mono ?_
        rintro e w5 ⟨rfl, hq5⟩
        have HN := Aside0.mk (VI.next hr.out hg.out (below_drew hB.out) hq5)
        clear hq5
        go_wp2_with fail
        go_roundw
        case rel => exact ⟨k + 1, by omega, by go_num, ⟨by rw [hnx.out]; exact HN.out⟩⟩
        case measure => simp [intOf]; omega
    · obtain rfl : k = l0.length := by omega
      rw [List.take_length] at hW hL
      go_wp2_with fail
      refine (bytes_any w.heap.size r (opsB l0) _ hW (by omega)).mono ?_
      rintro e w5 ⟨v0, rfl, hR5, hd5⟩
      have hR := Aside0.mk (Kd.R_lower hR5 hB.size)
      have hb := Aside0.mk (below_then hB hB.size hd5)
      obtain ⟨A7, c7, rfl⟩ := Kd.R_slice hR5
      clear hR5 hd5 hW hr hg hL
      generalize hq : (opsB l0).length = q at hR
      replace hq := Aside0.mk hq
      go_wp2_with fail
      go_ret
      exact ⟨_, rfl, hR.out, hb.out⟩
end Go.Proofs.Ytkniklgecmdeoaa.Print
