/- law03's Sector. -/
import Derived.Test.YtghhmbagjhmgfaaDev0
import Derived.Test.YtghhmbagjhmgfaaPrint1
namespace Go.Proofs.Ytghhmbagjhmgfaa.Print
open Go.RowKit Go.Proofs.YtghhmbagjhmgfaaW.PrintWords Go.Proofs.YtghhmbagjhmgfaaW.PrintLast Go.Proofs.YtghhmbagjhmgfaaW.PrintMore
set_option linter.unusedVariables false
set_option linter.unusedSimpArgs false
theorem sector_l0 (b : Int) : ∀ (j i : Nat), i + j = 256 → bobbinlaw03_Sector.l0 (j + 1) b (List.replicate i b ++ List.replicate j 0) i = some (sect b)
  | 0, i, h => by
    obtain rfl : i = 256 := by omega
    rw [bobbinlaw03_Sector.l0_eq, if_neg (by rw [List.length_append, List.length_replicate, List.length_replicate]; omega), List.replicate_zero, List.append_nil]
    unfold sect
    rfl
  | j + 1, i, h => by
    rw [bobbinlaw03_Sector.l0_eq, if_pos (by rw [List.length_append, List.length_replicate, List.length_replicate]; omega), if_pos (by omega)]
    have e1 : wrap64 ((i : Int) + 1) = ((i + 1 : Nat) : Int) := by unfold wrap64; omega
    have e2 : (List.replicate i b ++ List.replicate (j + 1) 0).set ((i : Int)).toNat b = List.replicate (i + 1) b ++ List.replicate j 0 := by
      rw [show ((i : Int)).toNat = i by omega, List.set_append_right _ _ (by simp), List.length_replicate, Nat.sub_self, List.replicate_succ, List.set_cons_zero, List.replicate_succ', List.append_assoc]
      rfl
    rw [e1, e2]
    exact sector_l0 b j (i + 1) (by omega)
theorem sector_f (b : Int) : bobbinlaw03_Sector.f 257 b = some (sect b) := by
  unfold bobbinlaw03_Sector.f
  rw [if_pos (by decide)]
  exact sector_l0 b 256 0 rfl
theorem sector_any (b : Int) (w : World) :
    Calls Try.prog 14 #[.int .u8 b] w fun e w' => ∃ A c, e = .returned (.slice A 256 c) ∧ Kd.R (Kd.int .u8) 5 w' w.heap.size (fun _ => True) (.slice A 256 c) (sect b) ∧ Below w.heap.size w w' := by
  refine (bobbinlaw03_Sector.calls 257 b _ w (sector_f b)).mono ?_
  rintro e w' ⟨v, rfl, hR, hb⟩
  obtain ⟨A, c, rfl, _, _⟩ := Kd.R_reads hR
  rw [sect_len] at hR ⊢
  exact ⟨A, c, rfl, hR, hb⟩
end Go.Proofs.Ytghhmbagjhmgfaa.Print
