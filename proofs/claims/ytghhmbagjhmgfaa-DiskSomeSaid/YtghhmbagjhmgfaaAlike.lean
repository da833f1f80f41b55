/- law03's alike: of two devices that read the same. -/
import Derived.Test.YtghhmbagjhmgfaaRun
namespace Go.Proofs.Ytghhmbagjhmgfaa.Print
open Go.RowKit Go.Proofs.YtghhmbagjhmgfaaW.PrintWords Go.Proofs.YtghhmbagjhmgfaaW.PrintLast Go.Proofs.YtghhmbagjhmgfaaW.PrintMore
set_option linter.unusedVariables false
set_option linter.unusedSimpArgs false
theorem Dev.lenC {w0 W : World} {g : Nat} {d : DS} (h : Dev w0 W g d) : Calls Try.prog 28 #[.pointer (some ⟨g, 0, none⟩)] W fun e w' => e = .returned (.int .i64 d.D.length) ∧ w' = W := by
  obtain ⟨Rs, Sec, hk, k1, k2⟩ := h
  exact len_any g Rs Sec d W hk
theorem readB_live {d : DS} {i : Nat} (h : d.dead = false) (h1 : i < d.D.length) : readB d i = d.L.getD i [] := by
  unfold readB
  rw [if_pos ⟨h, by omega, by omega⟩]
  simp
theorem last_256 {d : DS} {m i : Nat} (hO : d.Ok m) (h1 : i < d.D.length) : (d.L.getD i []).length = 256 := by
  have hl : i < d.L.length := by rw [hO.len]; exact h1
  rw [List.getD_eq_getElem?_getD, List.getElem?_eq_getElem hl]
  exact hO.last _ (List.getElem_mem hl)
set_option maxHeartbeats 300000 in
set_option maxRecDepth 100000 in
theorem alike_any {w0 W : World} {ga gb n ma mb : Nat} {da db : DS} (hA : Dev w0 W ga da) (hB : Dev w0 W gb db) (hOa : da.Ok ma) (hOb : db.Ok mb) (hda : da.dead = false) (hdb : db.dead = false) (hna : da.D.length = n) (hnb : db.D.length = n) (hn : n ≤ 4096) (hL : da.L = db.L) :
    Calls Try.prog 20 #[.pointer (some ⟨ga, 0, none⟩), .pointer (some ⟨gb, 0, none⟩)] W fun e w' => e = .returned (.bool true) ∧ Below W.heap.size W w' := by
  have hla := Aside0.mk (fun X (hX : Below W.heap.size W X) => hna ▸ (hA.below hX).lenC)
  have hlb := Aside0.mk (fun X (hX : Below W.heap.size W X) => hnb ▸ (hB.below hX).lenC)
  have hB0 := Aside0.mk (Below.refl W.heap.size W)
  have hra : Aside0 (∀ X i, Below W.heap.size W X → i < n → Calls Try.prog 12 #[.pointer (some ⟨ga, 0, none⟩), .int .i64 ((i : Nat) : Int)] X fun e w' => ∃ v0, e = .returned (.tuple #[v0, .int .i64 0]) ∧ Kd.R (Kd.int .u8) 5 w' X.heap.size (fun _ => True) v0 (da.L.getD i []) ∧ Below X.heap.size X w') := ⟨fun X i hX hi => by
    have := (hA.below hX).read hOa (i : Int)
    rwa [readE_live' hda (by omega) (by omega), readB_live hda (by omega)] at this⟩
  have hrb : Aside0 (∀ X i, Below W.heap.size W X → i < n → Calls Try.prog 12 #[.pointer (some ⟨gb, 0, none⟩), .int .i64 ((i : Nat) : Int)] X fun e w' => ∃ v0, e = .returned (.tuple #[v0, .int .i64 0]) ∧ Kd.R (Kd.int .u8) 5 w' X.heap.size (fun _ => True) v0 (da.L.getD i []) ∧ Below X.heap.size X w') := ⟨fun X i hX hi => by
    have := (hB.below hX).read hOb (i : Int)
    rwa [readE_live' hdb (by omega) (by omega), readB_live hdb (by omega), ← hL] at this⟩
  have h6 : Aside0 (∀ i, i < n → (da.L.getD i []).length = 256) := ⟨fun i hi => last_256 hOa (by omega)⟩
  have enn : ((n : Int) != (n : Int)) = false := by simp
  clear hA hB hOa hOb hL hna hnb
  go_enter Try.func20, Try.ntmps20
  go_wp2_with fail
  refine (hla.out W hB0.out).mono ?_
  rintro e wz ⟨rfl, hq_⟩
  obtain rfl := hq_.symm
  go_wp2_with fail
  refine (hlb.out W hB0.out).mono ?_
  rintro e wz ⟨rfl, hq_⟩
  obtain rfl := hq_.symm
  go_wp2_with fail
  go_loopw [5] (fun v5 wr => ∃ k : Nat, k ≤ n ∧ v5 = .int .i64 k ∧ Aside0 (Below W.heap.size W wr)) (fun v5 _ => n - (intOf v5).toNat)
  case atStart => exact ⟨0, Nat.zero_le _, rfl, hB0⟩
  case round =>
    obtain ⟨k, hk, rfl, HB⟩ := hrel
    by_cases hlk : k < n
    · have hl6 := h6.out k hlk
      have hr1 := fun X hX => hra.out X k hX hlk
      have hr2 := fun X hX => hrb.out X k hX hlk
      generalize da.L.getD k [] = s at *
      replace hl6 := Aside0.mk hl6
      replace hr1 := Aside0.mk hr1
      replace hr2 := Aside0.mk hr2
      go_wp2_with (go_at_call 28; refine (hla.out wr HB.out).mono ?_; rintro e wz ⟨rfl, hq_⟩; obtain rfl := hq_.symm)
      refine (hr1.out wr HB.out).mono ?_
      rintro e w1 ⟨v, rfl, hR1, hb1⟩
      obtain ⟨q1, c1, rfl, _, _, hc1, _⟩ := own_form hR1 hl6.out
      have hC1 := Aside0.mk (Kd.R_reads' hR1).2.2
      have HB1 := Aside0.mk (HB.out.trans (hb1.mono HB.out.size))
      clear hR1 hb1
      go_wp2_with fail
      refine (hr2.out w1 HB1.out).mono ?_
      rintro e w2 ⟨v, rfl, hR2, hb2⟩
      obtain ⟨q2, c2, rfl, _, _, hc2, _⟩ := own_form hR2 hl6.out
      have hC2 := Aside0.mk (Kd.R_reads' hR2).2.2
      have hC1 := Aside0.mk (Kd.C_below hC1.out hb2)
      have HB2 := Aside0.mk (HB1.out.trans (hb2.mono HB1.out.size))
      clear hR2 hb2
      go_wp2_with fail
      refine (same_any _ _ 256 256 c1 c2 s w2 hl6.out hl6.out (by have := hC1.out; rwa [hl6.out] at this) hc1 (by have := hC2.out; rwa [hl6.out] at this) hc2 (by rw [hl6.out]; decide)).mono ?_
      rintro e w3 ⟨rfl, hdr⟩
      obtain ⟨m3, rfl⟩ := hdr
      have HB3 := Aside0.mk (pw_below_drewN HB2.out m3)
      clear hC1 hC2 HB2 HB1
      generalize w2.drewN m3 = w4 at *
      go_wp2_with fail
      go_roundw
      case rel => exact ⟨k + 1, by omega, by go_num, HB3⟩
      case measure => simp only [intOf]; omega
    · obtain rfl : k = n := by omega
      go_wp2_with (go_at_call 28; refine (hla.out wr HB.out).mono ?_; rintro e wz ⟨rfl, hq_⟩; obtain rfl := hq_.symm)
      go_ret
      exact ⟨rfl, HB.out⟩
end Go.Proofs.Ytghhmbagjhmgfaa.Print
