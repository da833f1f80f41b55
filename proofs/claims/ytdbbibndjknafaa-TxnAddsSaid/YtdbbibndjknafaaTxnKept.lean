/- TxnKept. -/
import Derived.Test.YtdbbibndjknafaaTxKept
import Derived.Test.YtdbbibndjknafaaTxnTells
namespace Go.Proofs.Ytdbbibndjknafaa.Print
open Go.RowKit Go.Proofs.YtdbbibndjknafaaW.PrintWords Go.Proofs.YtdbbibndjknafaaW.PrintLast Go.Proofs.YtdbbibndjknafaaW.PrintMore
set_option linter.unusedVariables false
set_option linter.unusedSimpArgs false
theorem at_TX {w : World} {A : Option Addr} {n : Nat} {xs : List S25} (h : Kd.C k25 w A n xs) (i : Nat) (hi : i < n) : ∃ ad A4 c4 A5 c5, A = some ad ∧ w.cell? (ad.add (i * 6)) = some (.int .i64 (rd_T25 xs i).f0) ∧ w.cell? ⟨(ad.add (i * 6)).block, (ad.add (i * 6)).off + 1, none⟩ = some (.int .i64 (rd_T25 xs i).f1) ∧ w.cell? ⟨(ad.add (i * 6)).block, (ad.add (i * 6)).off + 2, none⟩ = some (.int .i64 (rd_T25 xs i).f2) ∧ w.cell? ⟨(ad.add (i * 6)).block, (ad.add (i * 6)).off + 3, none⟩ = some (.int .i64 (rd_T25 xs i).f3) ∧ w.cell? ⟨(ad.add (i * 6)).block, (ad.add (i * 6)).off + 4, none⟩ = some (.slice A4 (rd_T25 xs i).f4.length c4) ∧ w.cell? ⟨(ad.add (i * 6)).block, (ad.add (i * 6)).off + 5, none⟩ = some (.slice A5 (rd_T25 xs i).f5.length c5) ∧ TF w (fun k => k < w.heap.size) (rd_T25 xs i) A4 c4 A5 c5 := by
  obtain ⟨ad, A4, c4, A5, c5, e, z0, z1, z2, z3, z4, z5, l4, g4, l5, g5⟩ := at_T25 h (i : Int) (by omega) (by omega)
  rw [show ((i : Int)).toNat = i by omega] at z0 z1 z2 z3 z4 z5
  exact ⟨ad, A4, c4, A5, c5, e, z0, z1, z2, z3, z4, z5, TF.came l4 g4 l5 g5⟩
end Go.Proofs.Ytdbbibndjknafaa.Print
