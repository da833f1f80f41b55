/- DiskKeeps: what its guards keep out. -/
import Derived.Test.YtghhmbagjhmgfaaDiskKeeps
namespace Go.Proofs.Ytghhmbagjhmgfaa.Print
open Go.RowKit Go.Proofs.YtghhmbagjhmgfaaW.PrintWords Go.Proofs.YtghhmbagjhmgfaaW.PrintLast Go.Proofs.YtghhmbagjhmgfaaW.PrintMore
set_option linter.unusedVariables false
set_option linter.unusedSimpArgs false
set_option maxHeartbeats 1000000 in
set_option maxRecDepth 100000 in
theorem keeps_out (n b : Int) (A0 : Option Addr) (len c0 : Nat) (Ak : Option Addr) (nk ck : Nat) (torn kk : Int) (w : World) (hm : len ≤ 9223372036854775807) (h : n < 0 ∨ 19 < n ∨ 60 < len) :
    Calls Try.prog 7 #[.int .i64 n, .int .u8 b, .slice A0 len c0, .agg #[.slice Ak nk ck, .int .i64 torn, .int .i64 kk]] w fun e w' => e = .returned (.bool true) ∧ Below w.heap.size w w' := by
  have haw := Aside0.mk awake_calls
  have hba : Aside0 (∀ o, Below w.heap.size w (w.alloc o)) := ⟨fun o => below_alloc (Below.refl _ _) o⟩
  have hsz : Aside0 (∀ o, w.heap.size ≤ (w.alloc o).heap.size) := ⟨fun o => by rw [World.size_alloc]; omega⟩
  by_cases h1 : n < 0
  · have e1 : decide (n < 0) = true := by simpa using h1
    clear h h1
    go_enter Try.func7, Try.ntmps7
    go_wp2_with (go_at_call 9; refine (haw.out _).mono ?_; rintro e w1 ⟨rfl, hb1⟩; replace hb1 := Aside0.mk ((hba.out _).trans (hb1.mono (hsz.out _))))
    go_ret
    exact ⟨rfl, hb1.out⟩
  · have e1 : decide (n < 0) = false := by simpa using h1
    by_cases h2 : 19 < n
    · have e2 : decide (n > 19) = true := by simpa using h2
      clear h h1 h2
      go_enter Try.func7, Try.ntmps7
      go_wp2_with (go_at_call 9; refine (haw.out _).mono ?_; rintro e w1 ⟨rfl, hb1⟩; replace hb1 := Aside0.mk ((hba.out _).trans (hb1.mono (hsz.out _))))
      go_ret
      exact ⟨rfl, hb1.out⟩
    · have e2 : decide (n > 19) = false := by simp; omega
      have e3 : decide ((len : Int) > 60) = true := by simp; omega
      clear h h1 h2
      go_enter Try.func7, Try.ntmps7
      go_wp2_with (go_at_call 9; refine (haw.out _).mono ?_; rintro e w1 ⟨rfl, hb1⟩; replace hb1 := Aside0.mk ((hba.out _).trans (hb1.mono (hsz.out _))))
      go_ret
      exact ⟨rfl, hb1.out⟩
def bobbinlaw03_DiskKeeps.f (a0 a1 : Int) (l2 : List S35) (l3 : List Bool) (a3 a4 : Int) : Option Bool := some true
theorem bobbinlaw03_DiskKeeps.calls (a0 : Int) (a1 : Int) (A2 : Option Addr) (c2 : Nat) (l2 : List S35) (A3_0 : Option Addr) (c3_0 : Nat) (l3_0 : List Bool) (a3_1 : Int) (a3_2 : Int) (r : Bool) (w : World) (hr2 : Kd.C k35 w A2 l2.length l2) (hc2 : l2.length ≤ c2) (hr3_0 : Kd.bool.C w A3_0 l3_0.length l3_0) (hc3_0 : l3_0.length ≤ c3_0) (h : bobbinlaw03_DiskKeeps.f a0 a1 l2 l3_0 a3_1 a3_2 = some r) :
    Calls Try.prog 7 #[.int .i64 a0, .int .u8 a1, .slice A2 l2.length c2, .agg #[.slice A3_0 l3_0.length c3_0, .int .i64 a3_1, .int .i64 a3_2]] w fun e w' => e = .returned (.bool r) ∧ Below w.heap.size w w' := by
  obtain rfl : true = r := Option.some.inj h
  by_cases hh : a0 < 0 ∨ 19 < a0 ∨ 60 < l2.length
  · exact keeps_out a0 a1 A2 _ c2 A3_0 _ c3_0 a3_1 a3_2 w hr2.2.1 hh
  · obtain ⟨n, rfl⟩ : ∃ n : Nat, a0 = n := ⟨a0.toNat, by omega⟩
    exact keeps_walk n a1 A2 c2 l2 A3_0 c3_0 l3_0 a3_1 a3_2 w hr2 hc2 hr3_0 hc3_0 (by omega) (by omega)
end Go.Proofs.Ytghhmbagjhmgfaa.Print
