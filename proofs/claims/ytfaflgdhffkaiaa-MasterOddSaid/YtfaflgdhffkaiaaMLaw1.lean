/- law09: what two writings leave; boxes. -/
import Derived.Test.YtfaflgdhffkaiaaMAwake
namespace Go.Proofs.Ytfaflgdhffkaiaa.Print
open Go.RowKit Go.Proofs.YtfaflgdhffkaiaaW.PrintWords Go.Proofs.YtfaflgdhffkaiaaW.PrintLast Go.Proofs.YtfaflgdhffkaiaaW.PrintMore
set_option linter.unusedVariables false
set_option linter.unusedSimpArgs false
theorem greater_best {L : List (List Int)} (h : Two L none none) (a b : MS) (ha : a.mayP) (hb : b.mayP) :
    mrE ((L.set (a.no % 2).toNat a.sect).set (b.no % 2).toNat b.sect) = 0 ∧ mrM ((L.set (a.no % 2).toNat a.sect).set (b.no % 2).toNat b.sect) = if a.no % 2 ≠ b.no % 2 ∧ b.no < a.no then a else b := by
  have h1 := ha.1
  have h2 := hb.1
  have hbest : bestL ((L.set (a.no % 2).toNat a.sect).set (b.no % 2).toNat b.sect) 2 = if a.no % 2 ≠ b.no % 2 ∧ b.no < a.no then a else b := by
    rw [((h.put a ha).put b hb).best]
    have ea : betterO mz (some a) = a := if_pos (show mz.no < a.no from by show (0 : Int) < a.no; omega)
    have eb : betterO mz (some b) = b := if_pos (show mz.no < b.no from by show (0 : Int) < b.no; omega)
    unfold putX putY
    by_cases pa : a.no % 2 = 0 <;> by_cases pb : b.no % 2 = 0
    · rw [if_pos pa, if_pos pa, if_pos pb, if_pos pb, eb, if_neg (fun q => q.1 (by omega))]
      rfl
    · rw [if_pos pa, if_pos pa, if_neg pb, if_neg pb, ea]
      show (if a.no < b.no then b else a) = _
      by_cases c : b.no < a.no
      · rw [if_neg (by omega), if_pos ⟨by omega, c⟩]
      · rw [if_pos (by omega), if_neg (fun q => c q.2)]
    · rw [if_neg pa, if_neg pa, if_pos pb, if_pos pb, eb]
      show (if b.no < a.no then a else b) = _
      by_cases c : b.no < a.no
      · rw [if_pos c, if_pos ⟨by omega, c⟩]
      · rw [if_neg c, if_neg (fun q => c q.2)]
    · rw [if_neg pa, if_neg pa, if_neg pb, if_neg pb, if_neg (fun q => q.1 (by omega))]
      exact eb
  have hn : (if a.no % 2 ≠ b.no % 2 ∧ b.no < a.no then a else b).no ≠ 0 := by split <;> omega
  unfold mrM mrE
  rw [hbest, if_neg hn, if_neg hn]
  exact ⟨rfl, rfl⟩
/-- Two boxes of the law's own. -/
theorem two_boxes (a b : MS) (w : World) : Below w.heap.size w ((w.alloc (.cells (agM a) 30)).alloc (.cells (agM b) 30)) ∧ ((w.alloc (.cells (agM a) 30)).alloc (.cells (agM b) 30)).heap[w.heap.size]? = some (.cells (agM a) 30 (0, 0)) ∧ ((w.alloc (.cells (agM a) 30)).alloc (.cells (agM b) 30)).heap[w.heap.size + 1]? = some (.cells (agM b) 30 (0, 0)) ∧ w.heap.size + 1 < ((w.alloc (.cells (agM a) 30)).alloc (.cells (agM b) 30)).heap.size := by
  have hb1 := below_alloc (Below.refl w.heap.size w) (.cells (agM a) 30)
  have hb2 := below_alloc (Below.refl (w.alloc (.cells (agM a) 30)).heap.size (w.alloc (.cells (agM a) 30))) (.cells (agM b) 30)
  have hs : (w.alloc (.cells (agM a) 30)).heap.size = w.heap.size + 1 := by rw [World.size_alloc]
  have hn := heap_alloc_new (w.alloc (.cells (agM a) 30)) (.cells (agM b) 30)
  rw [hs] at hn
  exact ⟨hb1.trans (hb2.mono (by omega)), (hb2.block _ (by omega)).trans (heap_alloc_new w _), hn, by rw [World.size_alloc, hs]; omega⟩
theorem may_yes (m : MS) (h : m.mayP) (w : World) : Calls Try.prog 14 #[.agg #[.int .i64 m.no, .int .i64 m.ep, .int .i64 m.st, .int .i64 m.ck]] w fun e w' => e = .returned (.bool true) ∧ Below w.heap.size w w' := by
  have := may_any m w
  rwa [show m.may = true from decide_eq_true h] at this
theorem may_no (m : MS) (h : ¬ m.mayP) (w : World) : Calls Try.prog 14 #[.agg #[.int .i64 m.no, .int .i64 m.ep, .int .i64 m.st, .int .i64 m.ck]] w fun e w' => e = .returned (.bool false) ∧ Below w.heap.size w w' := by
  have := may_any m w
  rwa [show m.may = false from decide_eq_false h] at this
end Go.Proofs.Ytfaflgdhffkaiaa.Print
