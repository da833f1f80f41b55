/- The walk of BytKeeps: with an error nothing is gone through; a get goes through as many bytes as it says. -/
import Derived.Test.YtkniklgecmdeoaaByt1
namespace Go.Proofs.Ytkniklgecmdeoaa.Print
open Go.RowKit Go.Proofs.YtkniklgecmdeoaaW.PrintWords Go.Proofs.YtkniklgecmdeoaaW.PrintLast Go.Proofs.YtkniklgecmdeoaaW.PrintMore Go.Proofs.Ytkniklgecmdeoaa.Pure
set_option linter.unusedVariables false
set_option linter.unusedSimpArgs false
/-- Behind k gets that went through. -/
def KI (w : World) (g k : Nat) (wr : World) : Prop := ∃ ok L, Rd wr g ok L ∧ Bytes L ∧ L.length + k ≤ 600 ∧ w.heap.size ≤ g ∧ Below w.heap.size w wr
theorem KI.next {w wr w1 : World} {g k : Nat} {ok : Nat → Prop} {L : List Int} {m : Nat} (hp : RdPost g ok (L.drop m) wr w1) (hB : Bytes L) (hm : 1 ≤ m) (hml : m ≤ L.length) (hl : L.length + k ≤ 600) (hg : w.heap.size ≤ g) (hb : Below w.heap.size w wr) : KI w g (k + 1) w1 :=
  ⟨ok, L.drop m, hp.1, fun x hx => hB x (List.mem_of_mem_drop hx), by rw [List.length_drop]; omega, hg, Chg.then_ hb hp.2 (fun k hk => by rw [hk]; exact hg) hb.size⟩
theorem getE_arg {L : List Int} {m : Int} (h : ¬ okWide m) : getE L m = 1 ∧ getL L m = L := by
  unfold getE getL
  rw [if_neg h, if_neg (fun c => h c.1)]
  exact ⟨rfl, rfl⟩
theorem getE_short {L : List Int} {m : Int} (h : okWide m) (hl : ¬ m ≤ L.length) : getE L m = 6 ∧ getL L m = L := by
  unfold getE getL
  rw [if_pos h, if_neg hl, if_neg (fun c => hl c.2)]
  exact ⟨rfl, rfl⟩
set_option maxHeartbeats 2000000 in
set_option maxRecDepth 100000 in
theorem bobbinlaw01_BytKeeps.walk (A0 : Option Addr) (c0 : Nat) (l0 : List Int) (a1 : Int) (w : World) (hr0 : Kd.C (Kd.int .u8) w A0 l0.length l0) (hc0 : l0.length ≤ c0) (hl0 : l0.length ≤ 140737488351232) (hB0 : Bytes l0) :
    Calls Try.prog 5 #[.slice A0 l0.length c0, .int .i64 a1] w fun e w' => e = .returned (.bool true) ∧ Below w.heap.size w w' := by
  have HR : ∀ {X : World}, Below w.heap.size w X → Kd.C (Kd.int .u8) X A0 l0.length l0 := fun hb => Kd.C_below hr0 hb
  replace HR := Aside0.mk @HR
  have haw := Aside0.mk awake_calls
  replace hB0 := Aside0.mk hB0
  clear hr0
  go_enter Try.func5, Try.ntmps5
  go_wp2_with fail
  refine (haw.out _).mono ?_
  rintro e w1 ⟨rfl, hb1⟩
  replace hb1 := Aside0.mk hb1
  go_wp2_with fail
  refine (newReader_any A0 c0 l0 _ (HR.out hb1.out) hc0 hl0).mono ?_
  rintro e w2 ⟨g, rfl, hg1, hR2, hd2⟩
  have hg : w.heap.size ≤ g := by have := hb1.out.size; omega
  have hb2 := Aside0.mk (below_then hb1.out hb1.out.size hd2)
  replace hR2 := Aside0.mk hR2
  replace hg := Aside0.mk hg
  clear hd2 hg1
  by_cases hn : l0.length ≤ 600
  case neg =>
    have e1 : decide (600 < l0.length) = true := by simp; omega
    have e2 : decide ((600 : Int) < (l0.length : Int)) = true := by simp; omega
    clear hn
    go_wp2_with fail
    go_ret
    exact ⟨rfl, hb2.out⟩
  have e1 : decide (600 < l0.length) = false := by simp; omega
  have e2 : decide ((600 : Int) < (l0.length : Int)) = false := by simp; omega
  have HI := Aside0.mk (show KI w g 0 w2 from ⟨_, l0, hR2.out, hB0.out, by omega, hg.out, hb2.out⟩)
  go_wp2_with fail
  go_loopw [7] (fun v7 wr => ∃ k : Nat, v7 = .int .i64 k ∧ Aside0 (KI w g k wr)) (fun v7 _ => 700 - (intOf v7).toNat)
  case atStart => exact ⟨0, rfl, HI⟩
  case round =>
    obtain ⟨k, rfl, HJ⟩ := hrel
    obtain ⟨ok, L, hRd, hBy, hLn, _, hB⟩ := HJ.out
    clear HJ HI hR2
    have hk : k < 700 := by omega
    replace hRd := Aside0.mk hRd
    replace hBy := Aside0.mk hBy
    replace hB := Aside0.mk hB
    go_wp2_with fail
    refine (left_any g ok L _ hRd.out).mono ?_
    rintro e w10 ⟨rfl, rfl⟩
    by_cases hW : okWide a1
    · by_cases hl : a1 ≤ L.length
      · obtain ⟨m, rfl⟩ : ∃ m : Nat, a1 = m := ⟨a1.toNat, by rcases hW with rfl | rfl | rfl <;> rfl⟩
        have hm1 : 1 ≤ m := by rcases hW with e | e | e <;> omega
        have hm4 : m ≤ 4 := by rcases hW with e | e | e <;> omega
        have hml : m ≤ L.length := by omega
        go_wp2_with fail
        refine (get_ok g ok L m _ hRd.out hW hml hBy.out).mono ?_
        rintro e w5 ⟨rfl, hp5⟩
        have HN := Aside0.mk (KI.next hp5 hBy.out hm1 hml hLn hg.out hB.out)
        have hp6 := Aside0.mk hp5.1
        have hq : (L.drop m).length = L.length - m := List.length_drop
        generalize L.drop m = M at *
        have e5 : ((M.length : Int) == (L.length : Int) - (m : Int)) = true := by simp; omega
        have e6 : ((M.length : Int) != (L.length : Int) - (m : Int)) = false := by simp; omega
        replace hq := Aside0.mk hq
        replace hW := Aside0.mk hW
        clear hp5 hl hml
        go_wp2_with fail
        refine (left_any g ok M _ hp6.out).mono ?_
        rintro e w7 ⟨rfl, rfl⟩
        go_wp2_with fail
        go_roundw
        case rel => exact ⟨k + 1, by go_num, HN⟩
        case measure => simp [intOf]; omega
      · have hs := getE_short (L := L) hW hl
        have hget : ∀ X, Rd X g ok L → Calls Try.prog 20 #[.pointer (some ⟨g, 0, none⟩), .int .i64 a1] X fun e w' => e = .returned (.tuple #[.int .i64 (getV L a1), .int .i64 6]) ∧ RdPost g ok L X w' := fun X h => by
          have := get_any g ok L a1 X h hBy.out
          rwa [hs.1, hs.2] at this
        replace hget := Aside0.mk hget
        generalize getV L a1 = V at hget
        clear hs
        rcases hW with rfl | rfl | rfl
        all_goals
          go_wp2_with fail
          refine (hget.out _ hRd.out).mono ?_
          rintro e w5 ⟨rfl, hp5⟩
          have hB5 := Aside0.mk (Chg.then_ hB.out hp5.2 (fun k hk => by rw [hk]; exact hg.out) hB.out.size)
          have hR5 := Aside0.mk hp5.1
          clear hp5
          go_wp2_with fail
          refine (hget.out _ hR5.out).mono ?_
          rintro e w6 ⟨rfl, hp6⟩
          have hB6 := Aside0.mk (Chg.then_ hB5.out hp6.2 (fun k hk => by rw [hk]; exact hg.out) hB5.out.size)
          have hR6 := Aside0.mk hp6.1
          clear hp6
          go_wp2_with fail
          refine (left_any g ok L _ hR6.out).mono ?_
          rintro e w7 ⟨rfl, rfl⟩
          go_wp2_with fail
          go_ret
          exact ⟨rfl, hB6.out⟩
    · have hs := getE_arg (L := L) hW
      have hget : ∀ X, Rd X g ok L → Calls Try.prog 20 #[.pointer (some ⟨g, 0, none⟩), .int .i64 a1] X fun e w' => e = .returned (.tuple #[.int .i64 (getV L a1), .int .i64 1]) ∧ RdPost g ok L X w' := fun X h => by
        have := get_any g ok L a1 X h hBy.out
        rwa [hs.1, hs.2] at this
      replace hget := Aside0.mk hget
      generalize getV L a1 = V at hget
      clear hs
      have f1 : (a1 == 1) = false := by simpa using fun e => hW (.inl e)
      have f2 : (a1 == 2) = false := by simpa using fun e => hW (.inr (.inl e))
      have f4 : (a1 == 4) = false := by simpa using fun e => hW (.inr (.inr e))
      have g1 : (a1 != 1) = true := by simpa using fun e => hW (.inl e)
      have g2 : (a1 != 2) = true := by simpa using fun e => hW (.inr (.inl e))
      have g4 : (a1 != 4) = true := by simpa using fun e => hW (.inr (.inr e))
      clear hW
      go_wp2_with fail
      refine (hget.out _ hRd.out).mono ?_
      rintro e w5 ⟨rfl, hp5⟩
      have hB5 := Aside0.mk (Chg.then_ hB.out hp5.2 (fun k hk => by rw [hk]; exact hg.out) hB.out.size)
      have hR5 := Aside0.mk hp5.1
      clear hp5
      go_wp2_with fail
      refine (hget.out _ hR5.out).mono ?_
      rintro e w6 ⟨rfl, hp6⟩
      have hB6 := Aside0.mk (Chg.then_ hB5.out hp6.2 (fun k hk => by rw [hk]; exact hg.out) hB5.out.size)
      have hR6 := Aside0.mk hp6.1
      clear hp6
      go_wp2_with fail
      refine (left_any g ok L _ hR6.out).mono ?_
      rintro e w7 ⟨rfl, rfl⟩
      go_wp2_with fail
      go_ret
      exact ⟨rfl, hB6.out⟩
def bobbinlaw01_BytKeeps.f (l0 : List Int) (a1 : Int) : Option Bool := if l0.length ≤ 140737488351232 ∧ ∀ x ∈ l0, 0 ≤ x ∧ x ≤ 255 then some true else none
theorem bobbinlaw01_BytKeeps.calls (A0 : Option Addr) (c0 : Nat) (l0 : List Int) (a1 : Int) (r : Bool) (w : World) (hr0 : Kd.C (Kd.int .u8) w A0 l0.length l0) (hc0 : l0.length ≤ c0) (h : bobbinlaw01_BytKeeps.f l0 a1 = some r) :
    Calls Try.prog 5 #[.slice A0 l0.length c0, .int .i64 a1] w fun e w' => e = .returned (.bool r) ∧ Below w.heap.size w w' := by
  unfold bobbinlaw01_BytKeeps.f at h
  split at h
  · rename_i hn
    obtain rfl := Option.some.inj h
    exact bobbinlaw01_BytKeeps.walk A0 c0 l0 a1 w hr0 hc0 hn.1 hn.2
  · cases h
end Go.Proofs.Ytkniklgecmdeoaa.Print
