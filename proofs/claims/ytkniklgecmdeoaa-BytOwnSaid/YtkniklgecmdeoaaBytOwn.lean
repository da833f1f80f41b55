/- The walk of BytOwn: a Writer's bytes, and a Reader's, are its own. -/
import Derived.Test.YtkniklgecmdeoaaBytBack
namespace Go.Proofs.Ytkniklgecmdeoaa.Print
open Go.RowKit Go.Proofs.YtkniklgecmdeoaaW.PrintWords Go.Proofs.YtkniklgecmdeoaaW.PrintLast Go.Proofs.YtkniklgecmdeoaaW.PrintMore Go.Proofs.Ytkniklgecmdeoaa.Pure
set_option linter.unusedVariables false
set_option linter.unusedSimpArgs false
set_option maxHeartbeats 1000000 in
theorem put_nil (n m : Int) (w : World) : Calls Try.prog 13 #[.pointer none, .int .i64 n, .int .i64 m] w fun e w' => e = .returned (.int .i64 1) ∧ w' = w := by
  go_enter Try.func13, Try.ntmps13
  go_wp2_with fail
  go_ret
  exact ⟨rfl, rfl⟩
set_option maxHeartbeats 1000000 in
theorem bytes_nil (w : World) : Calls Try.prog 16 #[.pointer none] w fun e w' => e = .returned (.slice none 0 0) ∧ w' = w := by
  go_enter Try.func16, Try.ntmps16
  go_wp2_with fail
  go_ret
  exact ⟨rfl, rfl⟩
/-- Some bytes of a row of the call's own were turned, and nothing else. -/
def Spun (w0 : World) (v : Value) (n : Nat) (wr : World) : Prop := ∃ zs : List Int, zs.length = n ∧ wr.ownsRow 0 5 1 v n (nums .u8 zs) ∧ Chg (fun k => v.ownBlock = some k) w0 wr
theorem Spun.of {w0 : World} {v : Value} {l : List Int} (h : w0.ownsRow 0 5 1 v l.length (nums .u8 l)) : Spun w0 v l.length w0 := ⟨l, rfl, h, .refl _ _⟩
theorem Spun.next {w0 wr : World} {q n c : Nat} (h : Spun w0 (.slice (some ⟨q, 0, none⟩) n c) n wr) (k : Nat) (x : Int) : Spun w0 (.slice (some ⟨q, 0, none⟩) n c) n (wr.setCell ⟨q, k, none⟩ (.int .u8 x)) := by
  obtain ⟨zs, hz, ho, hc⟩ := h
  have := own_store ho (k : Int) x
  rw [show ((k : Int)).toNat = k by omega] at this
  exact ⟨zs.set k x, by rw [List.length_set]; exact hz, this.1, hc.set (p := ⟨q, k, none⟩) (.inl rfl) _⟩
theorem Spun.at_ {w0 wr : World} {q n c : Nat} (h : Spun w0 (.slice (some ⟨q, 0, none⟩) n c) n wr) (k : Nat) (hk : k < n) : ∃ x, wr.cell? ⟨q, k, none⟩ = some (.int .u8 x) ∧ wr.frozen? ⟨q, k, none⟩ = false := by
  obtain ⟨zs, hz, ho, hc⟩ := h
  have := own_at ho (k : Int) (by omega) (by omega)
  rw [show ((k : Int)).toNat = k by omega] at this
  exact ⟨_, this⟩
theorem Spun.head {w0 wr : World} {A : Option Addr} {n c : Nat} (h : Spun w0 (.slice A n c) n wr) (hn : 0 < n) : ∃ q, A = some ⟨q, 0, none⟩ := by
  obtain ⟨zs, hz, ho, hc⟩ := h
  obtain ⟨g, cap, e, _⟩ := ho.form hn
  injection e with e1 _ _
  exact ⟨g, e1⟩
theorem own_of_R {w : World} {base : Nat} {ok : Nat → Prop} {v : Value} {xs : List Int} (h : Kd.R (Kd.int .u8) 5 w base ok v xs) : w.ownsRow 0 5 1 v xs.length (nums .u8 xs) := by
  obtain ⟨_, inner, ho, hr⟩ := h
  have hl : inner = nums .u8 xs := by
    have h1 : (Kd.int .u8).sz = 1 := rfl
    apply List.ext_getElem?
    intro j
    by_cases hj : j < xs.length
    · have h2 := hr.2 j _ (List.getElem?_eq_getElem hj)
      have h3 : (inner.drop (j * 1)).take 1 = [.int .u8 xs[j]] := h2
      rw [Nat.mul_one] at h3
      have h4 := congrArg (fun l => l[0]?) h3
      simp at h4
      rw [h4]
      simp [nums, List.getElem?_eq_getElem hj]
    · have h2 := hr.1
      rw [h1] at h2
      rw [List.getElem?_eq_none (by omega), List.getElem?_eq_none (by rw [nums_length]; omega)]
  rw [hl] at ho
  refine ⟨ho.1, ?_⟩
  rcases ho.2 with h2 | ⟨g, cap, cur, e, _, h3⟩
  · exact .inl h2
  · exact .inr ⟨g, cap, cur, e, Nat.zero_le _, h3⟩
set_option maxHeartbeats 4000000 in
set_option maxRecDepth 100000 in
theorem bobbinlaw01_BytOwn.walk (A0 : Option Addr) (c0 : Nat) (l0 : List Int) (w : World) (hr0 : Kd.C (Kd.int .u8) w A0 l0.length l0) (hc0 : l0.length ≤ c0) (hB0 : Bytes l0) :
    Calls Try.prog 8 #[.slice A0 l0.length c0] w fun e w' => e = .returned (.bool true) ∧ Below w.heap.size w w' := by
  have HR : ∀ {X : World}, Below w.heap.size w X → Kd.C (Kd.int .u8) X A0 l0.length l0 := fun hb => Kd.C_below hr0 hb
  replace HR := Aside0.mk @HR
  have h63 := hr0.2.1
  have haw := Aside0.mk awake_calls
  replace hB0 := Aside0.mk hB0
  clear hr0
  go_enter Try.func8, Try.ntmps8
  go_wp2_with fail
  refine (haw.out _).mono ?_
  rintro e w1 ⟨rfl, hb1⟩
  replace hb1 := Aside0.mk hb1
  by_cases hn : l0.length ≤ 255
  case neg =>
    have e1 : decide (255 < l0.length) = true := by simp; omega
    have e2 : decide ((255 : Int) < (l0.length : Int)) = true := by simp; omega
    clear hn
    go_wp2_with fail
    go_ret
    exact ⟨rfl, hb1.out⟩
  have e1 : decide (255 < l0.length) = false := by simp; omega
  have e2 : decide ((255 : Int) < (l0.length : Int)) = false := by simp; omega
  have hlay : layB l0 = (l0.length : Int) :: l0 := by unfold layB; rw [if_pos hn]
  have hlayE : layE l0 = 0 := by unfold layE; rw [if_pos hn]
  have hlb : (layB l0).length ≤ 256 := by rw [hlay]; simp; omega
  have hlbB : Bytes (layB l0) := by
    rw [hlay]
    intro y hy
    rcases List.mem_cons.1 hy with rfl | hy
    · omega
    · exact hB0.out y hy
  have htk := take_lay l0 [] hn
  rw [List.append_nil, ← hlay] at htk
  have htk := Aside0.mk htk
  replace hlay := Aside0.mk hlay
  replace hlayE := Aside0.mk hlayE
  replace hlbB := Aside0.mk hlbB
  go_wp2_with ((with_reducible refine gate_builtin (b := .append) (xs := #[.const (.slice none 0 0), .tmp 32]) rfl ?_); at_builtin; refine Kd.R_append_rows (Kd.int .u8) (w0 := w1) w1.heap.size rfl (.const (.slice none 0 0)) (.tmp 32) 26 5 (.int .u8 0) 1 rfl Try.underlying26 info5 rfl (by decide) (by decide) (.slice none 0 0) [] l0 A0 l0.length c0 (fun _ => True) (fun _ => False) rfl rfl (Kd.R_nil _ _ _ _ _) (HR.out hb1.out) (fun _ _ h => h) (fun _ h => h.elim) (fun _ _ => trivial) (Below.refl _ _) (Nat.le_refl _) (by simp; omega) ?_; intro v4 w2 hR4 hd2 _ _; rw [List.nil_append] at hR4; have hb2 := Aside0.mk (below_then hb1.out hb1.out.size hd2); have ho4 := Aside0.mk (own_of_R hR4); have hlow4 := Aside0.mk (fun k hk => Nat.le_trans hb1.out.size (Kd.R_base hR4 k hk)); obtain ⟨A4, c4, rfl, hl4, hC4⟩ := Kd.R_reads hR4; replace hC4 := Aside0.mk hC4; clear hR4 hd2)
  have hlt4 := Aside0.mk (fun k hk => own_lt ho4.out k hk)
  have hne4 := Aside0.mk (fun k (hk : (Value.slice A4 l0.length c4).ownBlock = some k) => own_typed ho4.out hk)
  refine (lay_any w2.heap.size none [] A4 c4 l0 _ (wr_new w2) (fun W1 hc => reads_of_C ?_) (by decide) h63).mono ?_
  · have hown : W1.ownsRow 0 5 1 (.slice A4 l0.length c4) l0.length (nums .u8 l0) := own_step (own_step ho4.out (Chg.of_new (below_alloc (Below.refl _ _) _) (fun _ => False)) (fun _ _ x => x)) hc (fun k hk e => by
      have := hlt4.out k hk
      rcases e with e | e
      · omega
      · cases e)
    obtain ⟨A', c', e, hrd⟩ := own_reads hown
    obtain rfl : A4 = A' := by injection e
    exact C_of_reads_ hrd
  rintro e w3 ⟨rfl, hp3⟩
  rw [List.nil_append] at hp3
  obtain ⟨r3, hW3, hr3, hc3⟩ := hp3
  have hr3' := Aside0.mk (fun k (hk : r3 = some k) => show w2.heap.size < k by rcases hr3 with rfl | ⟨b, rfl, hb⟩; cases hk; obtain rfl := Option.some.inj hk; simp at hb; omega)
  have hd3 : Below w2.heap.size w2 w3 := Chg.then_ (below_alloc (Below.refl _ w2) _) hc3 (fun k hk => by rcases hk with rfl | e; exact Nat.le_refl _; cases e) (by simp)
  have hb3 := Aside0.mk (below_then hb2.out hb2.out.size hd3)
  have ho43 := Aside0.mk (own_step ho4.out (Chg.of_new hd3 (fun _ => False)) (fun _ _ x => x))
  have hs3 : w2.heap.size < w3.heap.size := by have := hW3.lt.1; omega
  have hW3 := Aside0.mk hW3
  rw [hlayE.out]
  clear hc3 hr3
  go_wp2_with fail
  refine (ref_lay A0 c0 l0 _ (HR.out hb3.out) hc0 (by omega)).mono ?_
  rintro e w4 ⟨v6, rfl, hR6, hd4⟩
  rw [hlayE.out]
  have hb4 := Aside0.mk (below_then hb3.out hb3.out.size hd4)
  have ho6 := Aside0.mk (own_of_R hR6)
  have hlow6 := Aside0.mk (fun k hk => Kd.R_base hR6 k hk)
  have hlt6 := Aside0.mk (fun k hk => own_lt ho6.out k hk)
  obtain ⟨A6, c6, rfl, hl6, hC6⟩ := Kd.R_reads hR6
  have hW4 := Aside0.mk (hW3.out.below hd4)
  have ho44 := Aside0.mk (own_step ho43.out (Chg.of_new hd4 (fun _ => False)) (fun _ _ x => x))
  have hs4 := hd4.size
  replace hC6 := Aside0.mk hC6
  clear hR6 hd4
  go_wp2_with fail
  refine (newReader_any A6 c6 (layB l0) _ hC6.out hl6 (by omega)).mono ?_
  rintro e w5 ⟨gr, rfl, hgr, hR5, hd5⟩
  have hb5 := Aside0.mk (below_then hb4.out hb4.out.size hd5)
  have hW5 := Aside0.mk (hW4.out.below hd5)
  have ho45 := Aside0.mk (Spun.of (own_step ho44.out (Chg.of_new hd5 (fun _ => False)) (fun _ _ x => x)))
  have ho65 := Aside0.mk (own_step ho6.out (Chg.of_new hd5 (fun _ => False)) (fun _ _ x => x))
  have hs5 := hd5.size
  replace hR5 := Aside0.mk hR5
  clear hd5
  go_wp2_with fail
  go_loopw [9] (fun vi wr => ∃ k : Nat, k ≤ l0.length ∧ vi = .int .i64 k ∧ Aside0 (Spun w5 (.slice A4 l0.length c4) l0.length wr)) (fun vi _ => l0.length - (intOf vi).toNat)
  case atStart => exact ⟨0, Nat.zero_le _, rfl, ho45⟩
  case round =>
    obtain ⟨k, hk, rfl, HJ⟩ := hrel
    by_cases hlk : k < l0.length
    · obtain ⟨q, hq⟩ := Spun.head HJ.out (by omega)
      have HJ1 := HJ.out
      have hnx : Aside0 (∀ x, Spun w5 (.slice A4 l0.length c4) l0.length (wr.setCell ⟨q, k, none⟩ (.int .u8 x))) := ⟨fun x => by
        have := HJ.out
        rw [hq] at this ⊢
        exact this.next k x⟩
      rw [hq] at HJ1
      obtain ⟨x, hx1, hx2⟩ := HJ1.at_ k hlk
      clear HJ1 HJ
      subst hq
      go_wp2_with fail
      go_roundw
      case rel => exact ⟨k + 1, by omega, by go_num, ⟨hnx.out _⟩⟩
      case measure => simp [intOf]; omega
    · obtain rfl : k = l0.length := by omega
      obtain ⟨w6, rfl⟩ : ∃ w6 : World, w6 = wr := ⟨_, rfl⟩
      obtain ⟨_, _, _, hc6⟩ := HJ.out
      have hb6 := Aside0.mk (Chg.then_ hb5.out hc6 (fun k hk => hlow4.out k hk) hb5.out.size)
      have hW6 := Aside0.mk (hW5.out.step hc6 (fun e => by have := hlt4.out _ e; omega) (fun k hk e => by have := hlt4.out _ e; have := hr3'.out k hk; omega))
      have hR6 := Aside0.mk (hR5.out.step hc6 (fun e => by have := hlt4.out _ e; omega) (fun k hk e => by have := hlt4.out _ e; omega))
      have ho66 := Aside0.mk (Spun.of (own_step ho65.out hc6 (fun k hk e => by have := hlt4.out _ e; have := hlow6.out _ hk; omega)))
      have hs6 := hc6.size
      clear hc6 HJ
      go_wp2_with fail
      go_loopw [10] (fun vi wr => ∃ k : Nat, k ≤ (layB l0).length ∧ vi = .int .i64 k ∧ Aside0 (Spun w6 (.slice A6 (layB l0).length c6) (layB l0).length wr)) (fun vi _ => (layB l0).length - (intOf vi).toNat)
      case atStart => exact ⟨0, Nat.zero_le _, rfl, ho66⟩
      case round =>
        obtain ⟨k, hk, rfl, HJ⟩ := hrel
        by_cases hlk : k < (layB l0).length
        · obtain ⟨q, hq⟩ := Spun.head HJ.out (by omega)
          have HJ1 := HJ.out
          have hnx : Aside0 (∀ x, Spun w6 (.slice A6 (layB l0).length c6) (layB l0).length (wr.setCell ⟨q, k, none⟩ (.int .u8 x))) := ⟨fun x => by
            have := HJ.out
            rw [hq] at this ⊢
            exact this.next k x⟩
          rw [hq] at HJ1
          obtain ⟨x, hx1, hx2⟩ := HJ1.at_ k hlk
          clear HJ1 HJ
          subst hq
          go_wp2_with fail
          go_roundw
          case rel => exact ⟨k + 1, by omega, by go_num, ⟨hnx.out _⟩⟩
          case measure => simp [intOf]; omega
        · obtain rfl : k = (layB l0).length := by omega
          obtain ⟨w7, rfl⟩ : ∃ w7 : World, w7 = wr := ⟨_, rfl⟩
          obtain ⟨_, _, _, hc7⟩ := HJ.out
          have hb7 := Aside0.mk (Chg.then_ hb6.out hc7 (fun k hk => by have := hlow6.out k hk; have := hb3.out.size; omega) hb6.out.size)
          have hW7 := Aside0.mk (hW6.out.step hc7 (fun e => by have := hlow6.out _ e; omega) (fun k hk e => by have := hlow6.out _ e; have := hW3.out.lt.2 k hk; omega))
          have hR7 := Aside0.mk (hR6.out.step hc7 (fun e => by have := hlt6.out _ e; omega) (fun k hk e => by have := hlt6.out _ e; omega))
          have hs7 := hc7.size
          clear hc7 HJ
          go_wp2_with fail
          refine (bytes_any w2.heap.size r3 (layB l0) _ hW7.out (by omega)).mono ?_
          rintro e w8 ⟨v11, rfl, hR11, hd8⟩
          have hb8 := Aside0.mk (below_then hb7.out hb7.out.size hd8)
          have hW8 := Aside0.mk (hW7.out.below hd8)
          have hR8 := Aside0.mk (hR7.out.below hd8)
          have hlow11 := Aside0.mk (fun k hk => Kd.R_base hR11 k hk)
          have ho11 := Aside0.mk (Spun.of (own_of_R hR11))
          obtain ⟨A11, c11, rfl⟩ := Kd.R_slice hR11
          have hs8 := hd8.size
          clear hR11 hd8
          go_wp2_with fail
          go_loopw [12] (fun vi wr => ∃ k : Nat, k ≤ (layB l0).length ∧ vi = .int .i64 k ∧ Aside0 (Spun w8 (.slice A11 (layB l0).length c11) (layB l0).length wr)) (fun vi _ => (layB l0).length - (intOf vi).toNat)
          case atStart => exact ⟨0, Nat.zero_le _, rfl, ho11⟩
          case round =>
            obtain ⟨k, hk, rfl, HJ⟩ := hrel
            by_cases hlk : k < (layB l0).length
            · obtain ⟨q, hq⟩ := Spun.head HJ.out (by omega)
              have HJ1 := HJ.out
              have hnx : Aside0 (∀ x, Spun w8 (.slice A11 (layB l0).length c11) (layB l0).length (wr.setCell ⟨q, k, none⟩ (.int .u8 x))) := ⟨fun x => by
                have := HJ.out
                rw [hq] at this ⊢
                exact this.next k x⟩
              rw [hq] at HJ1
              obtain ⟨x, hx1, hx2⟩ := HJ1.at_ k hlk
              clear HJ1 HJ
              subst hq
              go_wp2_with fail
              go_roundw
              case rel => exact ⟨k + 1, by omega, by go_num, ⟨hnx.out _⟩⟩
              case measure => simp [intOf]; omega
            · obtain rfl : k = (layB l0).length := by omega
              obtain ⟨w9, rfl⟩ : ∃ w9 : World, w9 = wr := ⟨_, rfl⟩
              obtain ⟨_, _, _, hc9⟩ := HJ.out
              have hb9 := Aside0.mk (Chg.then_ hb8.out hc9 (fun k hk => by have := hlow11.out k hk; have := hb7.out.size; omega) hb8.out.size)
              have hW9 := Aside0.mk (hW8.out.step hc9 (fun e => by have := hlow11.out _ e; omega) (fun k hk e => by have := hlow11.out _ e; have := hW3.out.lt.2 k hk; omega))
              have hR9 := Aside0.mk (hR8.out.step hc9 (fun e => by have := hlow11.out _ e; have := hR5.out.lt; omega) (fun k hk e => by have := hlow11.out _ e; have := hR5.out.lt; omega))
              clear hc9 HJ
              go_wp2_with fail
              refine (ref_lay A0 c0 l0 _ (HR.out hb9.out) hc0 (by omega)).mono ?_
              rintro e w10 ⟨v13, rfl, hR13, hd10⟩
              rw [hlayE.out]
              have hb10 := Aside0.mk (below_then hb9.out hb9.out.size hd10)
              have hW10 := Aside0.mk (hW9.out.below hd10)
              have hR10 := Aside0.mk (hR9.out.below hd10)
              obtain ⟨A13, c13, rfl, hl13, hC13⟩ := Kd.R_reads hR13
              replace hC13 := Aside0.mk hC13
              clear hR13 hd10
              go_wp2_with fail
              refine (bytes_any w2.heap.size r3 (layB l0) _ hW10.out (by omega)).mono ?_
              rintro e w11 ⟨v14, rfl, hR14, hd11⟩
              have hb11 := Aside0.mk (below_then hb10.out hb10.out.size hd11)
              have hR11 := Aside0.mk (hR10.out.below hd11)
              have hC13' := Aside0.mk (Kd.C_below hC13.out hd11)
              obtain ⟨A14, c14, rfl, hl14, hC14⟩ := Kd.R_reads hR14
              replace hC14 := Aside0.mk hC14
              clear hR14 hd11
              go_wp2_with fail
              refine (ref_same A14 A13 c14 c13 (layB l0) (layB l0) _ hC14.out hl14 hC13'.out hl13 (by omega) true (by simp)).mono ?_
              rintro e w12 ⟨rfl, hd12⟩
              have hb12 := Aside0.mk (below_then hb11.out hb11.out.size hd12.below)
              have hR12 := Aside0.mk (hR11.out.below hd12.below)
              clear hd12
              have htake := take_any gr _ (layB l0) _ hR12.out hlbB.out
              rw [htk.out.1, htk.out.2.1, htk.out.2.2] at htake
              replace htake := Aside0.mk htake
              go_wp2_with fail
              refine htake.out.mono ?_
              rintro e w13 ⟨v16, rfl, hR16, hp13⟩
              have hb13 := Aside0.mk (Chg.then_ hb12.out hp13.2 (fun k hk => by rw [hk]; have := hb4.out.size; omega) hb12.out.size)
              obtain ⟨A16, c16, rfl, hl16, hC16⟩ := Kd.R_reads hR16
              replace hC16 := Aside0.mk hC16
              clear hR16 hp13 htake
              go_wp2_with fail
              refine (ref_same A16 A0 c16 c0 l0 l0 _ hC16.out hl16 (HR.out hb13.out) hc0 (by omega) true (by simp)).mono ?_
              rintro e w14 ⟨rfl, hd14⟩
              have hb14 := Aside0.mk (below_then hb13.out hb13.out.size hd14.below)
              clear hd14
              go_wp2_with fail
              refine (get_nil 1 _ (by decide)).mono ?_
              rintro e w15 ⟨rfl, hd15⟩
              have hb15 := Aside0.mk (below_then hb14.out hb14.out.size hd15)
              clear hd15
              go_wp2_with fail
              refine (put_nil 1 1 _).mono ?_
              rintro e w16 ⟨rfl, rfl⟩
              go_wp2_with fail
              refine (bytes_nil _).mono ?_
              rintro e w17 ⟨rfl, rfl⟩
              go_wp2_with fail
              refine (left_nil _).mono ?_
              rintro e w18 ⟨rfl, rfl⟩
              go_wp2_with fail
              go_ret
              exact ⟨rfl, hb15.out⟩
def bobbinlaw01_BytOwn.f (l0 : List Int) : Option Bool := if ∀ x ∈ l0, 0 ≤ x ∧ x ≤ 255 then some true else none
theorem bobbinlaw01_BytOwn.calls (A0 : Option Addr) (c0 : Nat) (l0 : List Int) (r : Bool) (w : World) (hr0 : Kd.C (Kd.int .u8) w A0 l0.length l0) (hc0 : l0.length ≤ c0) (h : bobbinlaw01_BytOwn.f l0 = some r) :
    Calls Try.prog 8 #[.slice A0 l0.length c0] w fun e w' => e = .returned (.bool r) ∧ Below w.heap.size w w' := by
  unfold bobbinlaw01_BytOwn.f at h
  split at h
  · rename_i hn
    obtain rfl := Option.some.inj h
    exact bobbinlaw01_BytOwn.walk A0 c0 l0 w hr0 hc0 hn
  · cases h
end Go.Proofs.Ytkniklgecmdeoaa.Print
