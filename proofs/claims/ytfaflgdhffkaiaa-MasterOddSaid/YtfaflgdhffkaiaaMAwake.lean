/- law09's awake: the chapter's examples. -/
import Derived.Test.YtfaflgdhffkaiaaMLaw0
import Derived.Test.YtfaflgdhffkaiaaPrint1
namespace Go.Proofs.Ytfaflgdhffkaiaa.Print
open Go.RowKit Go.Proofs.YtfaflgdhffkaiaaW.PrintWords Go.Proofs.YtfaflgdhffkaiaaW.PrintLast Go.Proofs.YtfaflgdhffkaiaaW.PrintMore
set_option linter.unusedVariables false
set_option linter.unusedSimpArgs false
def m1 : MS := ⟨1, 1, 2, 3⟩
def m2 : MS := ⟨2, 1, 2, 3⟩
theorem m1_may : m1.mayP := by unfold MS.mayP m1; decide
theorem m2_may : m2.mayP := by unfold MS.mayP m2; decide
theorem one_any (n : Int) (w : World) : Calls Try.prog 23 #[.int .i64 n] w fun e w' => e = .returned (.agg #[.int .i64 n, .int .i64 1, .int .i64 2, .int .i64 3]) ∧ Below w.heap.size w w' := bobbinlaw09_one.calls n n 1 2 3 w rfl
theorem read_new : mrM (newD 2).L = mz ∧ mrE (newD 2).L = 3 := by
  unfold mrM mrE
  rw [Two.new.best]
  exact ⟨rfl, rfl⟩
set_option maxHeartbeats 2000000 in
set_option maxRecDepth 100000 in
theorem awake_calls (w : World) : Calls Try.prog 9 #[] w fun e w' => e = .returned (.bool true) ∧ Below w.heap.size w w' := by
  obtain ⟨E1, S1, L1, _, _⟩ := mw_st (St.new 2 (by decide)) (by decide) m1 m1_may
  obtain ⟨E2, S2, L2, _, _⟩ := mw_st S1 (by decide) m2 m2_may
  have T1 := Two.new.put m1 m1_may
  rw [← L1] at T1
  have T2 := T1.put m2 m2_may
  rw [← L2] at T2
  have R2 := T1.last m2 m2_may (fun a e => by (have e' : (none : Option MS) = some a := e; cases e')) (fun a e => by (have e' : some m1 = some a := e; injection e' with e'; subst e'; decide))
  rw [← L2] at R2
  have hq := fun X => equalM m2 m2 X
  rw [sameM_self] at hq
  replace hq : ∀ X, (Op.equalIn 10000 30 (.agg #[.int .i64 2, .int .i64 1, .int .i64 2, .int .i64 3]) (.agg #[.int .i64 2, .int .i64 1, .int .i64 2, .int .i64 3])).run Try.prog X = .ok true X := hq
  replace R2 := Aside0.mk R2
  replace T1 := Aside0.mk T1
  replace T2 := Aside0.mk T2
  replace E1 := Aside0.mk E1
  replace E2 := Aside0.mk E2
  replace S1 := Aside0.mk S1
  replace S2 := Aside0.mk S2
  clear L1 L2
  go_enter Try.func9, Try.ntmps9
  go_wp2_with fail
  refine (Dev.new 2 w w (Below.refl _ _) (by decide) (by decide)).mono ?_
  rintro e w1 ⟨g, rfl, hd1, hB1⟩
  have hr := Aside0.mk (mread_any hd1 (newD_ok 2 (by decide)) rfl (by decide) Two.new.bytes)
  rw [read_new.1, read_new.2] at hr
  replace hd1 := Aside0.mk hd1
  replace hB1 := Aside0.mk hB1
  go_wp2_with fail
  refine hr.out.mono ?_
  rintro e w2 ⟨rfl, hb2⟩
  have hba := Aside0.mk (fun o => hb2.trans ((below_alloc (Below.refl w2.heap.size w2) o).mono hb2.size))
  clear hr hb2
  go_wp2_with fail
  generalize hw3 : w2.alloc _ = w3
  have hb3 : Aside0 (Below w1.heap.size w1 w3) := ⟨by rw [← hw3]; exact hba.out _⟩
  clear hw3 hba
  refine (one_any 1 w3).mono ?_
  rintro e w4 ⟨rfl, hb4⟩
  have hb4 := Aside0.mk (hb3.out.trans (hb4.mono hb3.out.size))
  clear hb3
  go_wp2_with fail
  refine (mwrite_any hd1.out hB1.out hb4.out (newD_ok 2 (by decide)) (by decide) m1 m1_may (by decide)).mono ?_
  rintro e w5 ⟨rfl, hd5, hB5, _⟩
  rw [E1.out]
  replace hd5 := Aside0.mk hd5
  replace hB5 := Aside0.mk hB5
  clear hb4 hd1 hB1 E1
  generalize mwD (newD 2) m1 = d1 at *
  go_wp2_with fail
  refine (one_any 2 w5).mono ?_
  rintro e w6 ⟨rfl, hb6⟩
  replace hb6 := Aside0.mk hb6
  go_wp2_with fail
  refine (mwrite_any hd5.out hB5.out hb6.out S1.out.ok (by decide) m2 m2_may (by rw [S1.out.len]; decide)).mono ?_
  rintro e w7 ⟨rfl, hd7, hB7, _⟩
  rw [E2.out]
  have hr := Aside0.mk (mread_any hd7 S2.out.ok S2.out.dead (by rw [S2.out.len]; decide) T2.out.bytes)
  rw [R2.out.1, R2.out.2] at hr
  replace hr : Aside0 (Calls Try.prog 12 #[.pointer (some ⟨g, 0, none⟩)] w7 fun e w' => e = .returned (.tuple #[.agg #[.int .i64 2, .int .i64 1, .int .i64 2, .int .i64 3], .int .i64 0]) ∧ Below w7.heap.size w7 w') := hr
  replace hB7 := Aside0.mk hB7
  clear hb6 hd5 hB5 E2 hd7 S1 S2 T1 T2 R2
  go_wp2_with fail
  refine hr.out.mono ?_
  rintro e w8 ⟨rfl, hb8⟩
  have hB8 := Aside0.mk (hB7.out.trans (hb8.mono hB7.out.size))
  have hB9 := Aside0.mk (fun o => hB8.out.trans ((below_alloc (Below.refl w8.heap.size w8) o).mono hB8.out.size))
  have hx := heap_alloc_new w8 (.cells #[.int .i64 2, .int .i64 1, .int .i64 2, .int .i64 3] 30)
  clear hr hb8 hB7
  go_upto_region 6 with fail
  obtain ⟨z0, z1, z2, z3⟩ := m_cells hx
  clear hx
  have hB9 := Aside0.mk (hB9.out (.cells #[.int .i64 2, .int .i64 1, .int .i64 2, .int .i64 3] 30))
  generalize w8.alloc (.cells #[.int .i64 2, .int .i64 1, .int .i64 2, .int .i64 3] 30) = w9 at *
  generalize w8.heap.size = bm at *
  refine wp_region_held_drew (S := (fun X => X.cell? ⟨bm, 0, none⟩ = some (.int .i64 2) ∧ X.cell? ⟨bm, 1, none⟩ = some (.int .i64 1) ∧ X.cell? ⟨bm, 2, none⟩ = some (.int .i64 2) ∧ X.cell? ⟨bm, 3, none⟩ = some (.int .i64 3))) (by kernel_rfl) ⟨z0, z1, z2, z3⟩ (fun hHeld => ?_)
  refine wpAnyH_take (i := 0) (v := ?_) rfl (by kernel_rfl) (by kernel_rfl) (by kernel_rfl) (fun _ _ _ h => h) (Or.inl ⟨by kernel_rfl, ?_⟩) (by assumption) ?_
  rotate_left
  · intro w hSw
    (try dsimp only at hSw)
    go_simp
    try with_reducible rfl
  try simp only [Act.put, List.setIfInBounds_toArray, List.set_cons_zero, List.set_cons_succ]
  refine wpAnyH_take (i := 1) (v := ?_) rfl (by kernel_rfl) (by kernel_rfl) (by kernel_rfl) (fun _ _ _ h => h) (Or.inl ⟨by kernel_rfl, ?_⟩) (by assumption) ?_
  rotate_left
  · intro w hSw
    (try dsimp only at hSw)
    go_simp
    try with_reducible rfl
  try simp only [Act.put, List.setIfInBounds_toArray, List.set_cons_zero, List.set_cons_succ]
  refine wpAnyH_take (i := 2) (v := ?_) rfl (by kernel_rfl) (by kernel_rfl) (by kernel_rfl) (fun _ _ _ h => h) (Or.inl ⟨by kernel_rfl, ?_⟩) (by assumption) ?_
  rotate_left
  · intro w hSw
    (try dsimp only at hSw)
    go_simp
    try with_reducible rfl
  try simp only [Act.put, List.setIfInBounds_toArray, List.set_cons_zero, List.set_cons_succ]
  refine wpAnyH_take (i := 3) (v := ?_) rfl (by kernel_rfl) (by kernel_rfl) (by kernel_rfl) (fun _ _ _ h => h) (Or.inl ⟨by kernel_rfl, ?_⟩) (by assumption) ?_
  rotate_left
  · intro w hSw
    (try dsimp only at hSw)
    go_simp
    try with_reducible rfl
  try simp only [Act.put, List.setIfInBounds_toArray, List.set_cons_zero, List.set_cons_succ]
  refine wpAnyH_take (i := 4) (v := ?_) rfl (by kernel_rfl) (by kernel_rfl) (by kernel_rfl) (fun _ _ _ h => h) (Or.inl ⟨by kernel_rfl, ?_⟩) (by assumption) ?_
  rotate_left
  · intro w hSw
    (try dsimp only at hSw)
    go_simp
    try with_reducible rfl
  try simp only [Act.put, List.setIfInBounds_toArray, List.set_cons_zero, List.set_cons_succ]
  refine wpAnyH_take (i := 5) (v := ?_) rfl (by kernel_rfl) (by kernel_rfl) (by kernel_rfl) (fun _ _ _ h => h) (Or.inl ⟨by kernel_rfl, ?_⟩) (by assumption) ?_
  rotate_left
  · intro w hSw
    (try dsimp only at hSw)
    go_simp
    try with_reducible rfl
  try simp only [Act.put, List.setIfInBounds_toArray, List.set_cons_zero, List.set_cons_succ]
  refine wpAnyH_take (i := 6) (v := ?_) rfl (by kernel_rfl) (by kernel_rfl) (by kernel_rfl) (fun _ _ _ h => h) (Or.inl ⟨by kernel_rfl, ?_⟩) (by assumption) ?_
  rotate_left
  · intro w hSw
    (try dsimp only at hSw)
    go_simp
    try with_reducible rfl
  try simp only [Act.put, List.setIfInBounds_toArray, List.set_cons_zero, List.set_cons_succ]
  refine wpAnyH_take (i := 7) (v := ?_) rfl (by kernel_rfl) (by kernel_rfl) (by kernel_rfl) (fun _ _ _ h => h) (Or.inl ⟨by kernel_rfl, ?_⟩) (by assumption) ?_
  rotate_left
  · intro w hSw
    (try dsimp only at hSw)
    go_simp
    try with_reducible rfl
  try simp only [Act.put, List.setIfInBounds_toArray, List.set_cons_zero, List.set_cons_succ]
  refine wpAnyH_take (i := 8) (v := ?_) rfl (by kernel_rfl) (by kernel_rfl) (by kernel_rfl) (fun _ _ _ h => h) (Or.inl ⟨by kernel_rfl, ?_⟩) (by assumption) ?_
  rotate_left
  · intro w hSw
    (try dsimp only at hSw)
    go_simp
    try with_reducible rfl
  try simp only [Act.put, List.setIfInBounds_toArray, List.set_cons_zero, List.set_cons_succ]
  refine wpAnyH_take (i := 9) (v := ?_) rfl (by kernel_rfl) (by kernel_rfl) (by kernel_rfl) (fun _ _ _ h => h) (Or.inl ⟨by kernel_rfl, ?_⟩) (by assumption) ?_
  rotate_left
  · intro w hSw
    (try dsimp only at hSw)
    go_simp
    try with_reducible rfl
  try simp only [Act.put, List.setIfInBounds_toArray, List.set_cons_zero, List.set_cons_succ]
  refine wpAnyH_take (i := 10) (v := ?_) rfl (by kernel_rfl) (by kernel_rfl) (by kernel_rfl) (fun _ _ _ h => h) (Or.inl ⟨by kernel_rfl, ?_⟩) (by assumption) ?_
  rotate_left
  · intro w hSw
    (try dsimp only at hSw)
    go_simp
    try with_reducible rfl
  try simp only [Act.put, List.setIfInBounds_toArray, List.set_cons_zero, List.set_cons_succ]
  refine wpAnyH_take (i := 11) (v := ?_) rfl (by kernel_rfl) (by kernel_rfl) (by kernel_rfl) (fun _ _ _ h => h) (Or.inl ⟨by kernel_rfl, ?_⟩) (by assumption) ?_
  rotate_left
  · intro w hSw
    (try dsimp only at hSw)
    go_simp
    try with_reducible rfl
  try simp only [Act.put, List.setIfInBounds_toArray, List.set_cons_zero, List.set_cons_succ]
  refine wpAnyH_take (i := 12) (v := ?_) rfl (by kernel_rfl) (by kernel_rfl) (by kernel_rfl) (fun _ _ _ h => h) (Or.inl ⟨by kernel_rfl, ?_⟩) (by assumption) ?_
  rotate_left
  · intro w hSw
    (try dsimp only at hSw)
    go_simp
    try with_reducible rfl
  try simp only [Act.put, List.setIfInBounds_toArray, List.set_cons_zero, List.set_cons_succ]
  refine wpAnyH_take (i := 13) (v := ?_) rfl (by kernel_rfl) (by kernel_rfl) (by kernel_rfl) (fun _ _ _ h => h) (Or.inl ⟨by kernel_rfl, ?_⟩) (by assumption) ?_
  rotate_left
  · intro w hSw
    (try dsimp only at hSw)
    go_simp
    try with_reducible rfl
  try simp only [Act.put, List.setIfInBounds_toArray, List.set_cons_zero, List.set_cons_succ]
  refine wpAnyH_take (i := 14) (v := ?_) rfl (by kernel_rfl) (by kernel_rfl) (by kernel_rfl) (fun _ _ _ h => h) (Or.inl ⟨by kernel_rfl, ?_⟩) (by assumption) ?_
  rotate_left
  · intro w hSw
    (try dsimp only at hSw)
    go_simp
    try with_reducible rfl
  try simp only [Act.put, List.setIfInBounds_toArray, List.set_cons_zero, List.set_cons_succ]
  refine wpAnyH_take (i := 15) (v := ?_) rfl (by kernel_rfl) (by kernel_rfl) (by kernel_rfl) (fun _ _ _ h => h) (Or.inl ⟨by kernel_rfl, ?_⟩) (by assumption) ?_
  rotate_left
  · intro w hSw
    (try dsimp only at hSw)
    go_simp
    try with_reducible rfl
  try simp only [Act.put, List.setIfInBounds_toArray, List.set_cons_zero, List.set_cons_succ]
  refine wpAnyH_ready (rs := [16]) (by kernel_rfl) (by simp) (AllReadyH.cons rfl (fun K hK => ?_) AllReadyH.nil)
  go_simp
  go_at_call 23
  refine (one_any 2 w9.drew).mono ?_
  rintro e w10 ⟨rfl, hb10⟩
  have hb10 := (below_drew (Below.refl w9.heap.size w9)).trans hb10
  have b0 := pw_cell_below hb10 z0
  have b1 := pw_cell_below hb10 z1
  have b2 := pw_cell_below hb10 z2
  have b3 := pw_cell_below hb10 z3
  have hB10 := Aside0.mk (hB9.out.trans (hb10.mono hB9.out.size))
  clear hb10
  go_wp2_with fail
  refine hK.out _ _ ⟨b0, b1, b2, b3⟩ (fun hHeld => ?_)
  clear hK K
  try simp only [Act.put, List.setIfInBounds_toArray, List.set_cons_zero, List.set_cons_succ]
  refine wpAnyH_take (i := 17) (v := ?_) rfl (by kernel_rfl) (by kernel_rfl) (by kernel_rfl) (fun _ _ _ h => h) (Or.inl ⟨by kernel_rfl, ?_⟩) (by assumption) ?_
  rotate_left
  · intro w hSw
    (try dsimp only at hSw)
    go_simp
    try with_reducible rfl
  change wpAnyH _ _ _ _ _ _ _ (Act.put _ (some 46) _) _
  try simp only [Act.put, List.setIfInBounds_toArray, List.set_cons_zero, List.set_cons_succ]
  refine wpAnyH_take (i := 18) (v := ?_) rfl (by kernel_rfl) (by kernel_rfl) (by kernel_rfl) (fun _ _ _ h => h) (Or.inl ⟨by kernel_rfl, ?_⟩) (by assumption) ?_
  rotate_left
  · intro w hSw
    (try dsimp only at hSw)
    go_simp
    try with_reducible rfl
  change wpAnyH _ _ _ _ _ _ _ (Act.put _ (some 47) _) _
  try simp only [Act.put, List.setIfInBounds_toArray, List.set_cons_zero, List.set_cons_succ]
  refine wpAnyH_take (i := 19) (v := ?_) rfl (by kernel_rfl) (by kernel_rfl) (by kernel_rfl) (fun _ _ _ h => h) (Or.inl ⟨by kernel_rfl, ?_⟩) (by assumption) ?_
  rotate_left
  · intro w hSw
    (try dsimp only at hSw)
    go_simp
    try with_reducible rfl
  change wpAnyH _ _ _ _ _ _ _ (Act.put _ (some 0) _) _
  try simp only [Act.put, List.setIfInBounds_toArray, List.set_cons_zero, List.set_cons_succ]
  refine wpAnyH_done (by kernel_rfl) ?_ _
  go_wp2_with fail
  go_ret
  exact ⟨rfl, hB10.out⟩
end Go.Proofs.Ytfaflgdhffkaiaa.Print
