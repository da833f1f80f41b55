/- law03's awake. -/
import Derived.Test.YtghhmbagjhmgfaaDev
namespace Go.Proofs.Ytghhmbagjhmgfaa.Print
open Go.RowKit Go.Proofs.YtghhmbagjhmgfaaW.PrintWords Go.Proofs.YtghhmbagjhmgfaaW.PrintLast Go.Proofs.YtghhmbagjhmgfaaW.PrintMore
set_option linter.unusedVariables false
set_option linter.unusedSimpArgs false
def aw1 : DS := writeD (newD 2) 0 (sect 1)
def aw2 : DS := syncD aw1
def aw3 : DS := writeD aw2 0 (sect 2)
def aw4 : DS := writeD aw3 1 (sect 2)
def awX : DS := crashD aw4 (kf (fun _ => false) 0 (-1) 0)
def awY : DS := crashD aw4 (kf (fun _ => true) 1 (-1) 0)
set_option maxRecDepth 100000 in
theorem aw_codes : writeE (newD 2) 0 (sect 1) = 0 ∧ syncE aw1 = 0 ∧ writeE aw2 0 (sect 2) = 0 ∧ writeE aw3 1 (sect 2) = 0 := by
  refine ⟨?_, ?_, ?_, ?_⟩ <;> kernel_rfl
set_option maxRecDepth 100000 in
theorem aw_reads : readE awX 0 = 0 ∧ readE awX 1 = 0 ∧ readE awY 0 = 0 ∧ readE awY 1 = 0 ∧ readB awX 0 = sect 1 ∧ readB awX 1 = sect 0 ∧ readB awY 0 = sect 2 ∧ readB awY 1 = sect 2 := by
  refine ⟨?_, ?_, ?_, ?_, ?_, ?_, ?_, ?_⟩ <;> kernel_rfl
theorem aw_ok1 : aw1.Ok 1 := writeD_ok (newD_ok 2 (by decide)) 0 (sect 1)
theorem aw_ok2 : aw2.Ok 1 := syncD_ok aw_ok1
theorem aw_ok3 : aw3.Ok 2 := writeD_ok aw_ok2 0 (sect 2)
theorem aw_ok4 : aw4.Ok 3 := writeD_ok aw_ok3 1 (sect 2)
theorem aw_okX : awX.Ok 0 := crashD_ok aw_ok4 _ (kf_ok _ _ _ _)
theorem aw_okY : awY.Ok 0 := crashD_ok aw_ok4 _ (kf_ok _ _ _ _)
theorem aw_len : 0 < aw4.D.length := by
  unfold aw4
  rw [writeD_len]
  unfold aw3
  rw [writeD_len]
  unfold aw2
  rw [syncD_len aw_ok1]
  unfold aw1
  rw [writeD_len]
  decide
theorem sect_getD (b : Int) (j : Nat) (h : j < 256) : (sect b).getD j 0 = b := by
  unfold sect
  rw [List.getD_eq_getElem?_getD, List.getElem?_replicate, if_pos h]
  rfl
theorem read_own {W : World} {base : Nat} {ok : Nat → Prop} {v : Value} {b : Int} (h : Kd.R (Kd.int .u8) 5 W base ok v (sect b)) : ∃ q c, v = .slice (some ⟨q, 0, none⟩) 256 c ∧ W.cell? ⟨q, 0, none⟩ = some (.int .u8 b) ∧ W.cell? ⟨q, 255, none⟩ = some (.int .u8 b) := by
  obtain ⟨q, c, rfl, _, hc⟩ := own_cells h (sect_len b)
  have h0 := hc 0 (by decide)
  have h1 := hc 255 (by decide)
  rw [sect_getD b _ (by decide)] at h0 h1
  exact ⟨q, c, rfl, h0, h1⟩
set_option maxHeartbeats 1000000 in
set_option maxRecDepth 100000 in
theorem awake_calls (w : World) : Calls Try.prog 9 #[] w fun e w' => e = .returned (.bool true) ∧ Below w.heap.size w w' := by
  obtain ⟨E1, E2, E3, E4⟩ := aw_codes
  obtain ⟨r1, r2, r3, r4, R1, R2, R3, R4⟩ := aw_reads
  have hB0 := Below.refl w.heap.size w
  replace hB0 := Aside0.mk hB0
  go_enter Try.func9, Try.ntmps9
  go_wp2_with fail
  refine (Dev.new 2 w w hB0.out (by decide) (by decide)).mono ?_
  rintro e w1 ⟨g, rfl, hd1, hB1⟩
  replace hd1 := Aside0.mk hd1
  replace hB1 := Aside0.mk hB1
  go_wp2_with fail
  refine (sector_any 1 w1).mono ?_
  rintro e w2 ⟨A, c, rfl, hR, hb⟩
  replace hR := Aside0.mk hR
  replace hb := Aside0.mk hb
  go_wp2_with fail
  refine (hd1.out.write hB1.out hb.out (newD_ok 2 (by decide)) (by decide) 0 hR.out).mono ?_
  rintro e w3 ⟨rfl, hd2, hB2⟩
  rw [E1]
  clear hR hb hd1 hB1
  replace hd2 := Aside0.mk (show Dev w w3 g aw1 from hd2)
  replace hB2 := Aside0.mk hB2
  go_wp2_with fail
  refine (hd2.out.sync hB2.out aw_ok1).mono ?_
  rintro e w4 ⟨rfl, hd3, hB3⟩
  rw [E2]
  clear hd2 hB2
  replace hd3 := Aside0.mk (show Dev w w4 g aw2 from hd3)
  replace hB3 := Aside0.mk hB3
  go_wp2_with fail
  refine (sector_any 2 w4).mono ?_
  rintro e w5 ⟨A, c, rfl, hR, hb⟩
  replace hR := Aside0.mk hR
  replace hb := Aside0.mk hb
  go_wp2_with fail
  refine (hd3.out.write hB3.out hb.out aw_ok2 (by decide) 0 hR.out).mono ?_
  rintro e w6 ⟨rfl, hd4, hB4⟩
  rw [E3]
  clear hR hb hd3 hB3
  replace hd4 := Aside0.mk (show Dev w w6 g aw3 from hd4)
  replace hB4 := Aside0.mk hB4
  go_wp2_with fail
  refine (sector_any 2 w6).mono ?_
  rintro e w7 ⟨A, c, rfl, hR, hb⟩
  replace hR := Aside0.mk hR
  replace hb := Aside0.mk hb
  go_wp2_with fail
  refine (hd4.out.write hB4.out hb.out aw_ok3 (by decide) 1 hR.out).mono ?_
  rintro e w8 ⟨rfl, hd5, hB5⟩
  rw [E4]
  clear hR hb hd4 hB4
  replace hd5 := Aside0.mk (show Dev w w8 g aw4 from hd5)
  replace hB5 := Aside0.mk hB5
  go_wp2_with fail
  refine (hd5.out.crash hB5.out aw_ok4 (by decide) aw_len none 0 0 (fun _ => false) (-1) 0 (by decide) (fun j h => by omega)).mono ?_
  rintro e w9 ⟨gx, rfl, hx, hb9⟩
  have hd6 := Aside0.mk (hd5.out.below hb9)
  have hB6 := Aside0.mk (hB5.out.trans (hb9.mono hB5.out.size))
  replace hx := Aside0.mk (show Dev w w9 gx awX from hx)
  clear hd5 hB5 hb9
  go_wp2_with fail
  have hcell : ((w9.alloc (.cells #[.bool true] 4)).cell? ⟨w9.heap.size, 0, none⟩) = some (.bool true) := (one_cell (World.alloc_heap_new w9 _)).1
  have hba : Below w9.heap.size w9 (w9.alloc (.cells #[.bool true] 4)) := below_alloc (Below.refl _ _) _
  have hd7 := Aside0.mk (hd6.out.below hba)
  have hx := Aside0.mk (hx.out.below hba)
  have hB7 := Aside0.mk (hB6.out.trans (hba.mono hB6.out.size))
  clear hba hd6 hB6
  generalize w9.alloc (.cells #[.bool true] 4) = w10 at *
  generalize w9.heap.size = n9 at *
  have hk1 : ∀ j, j < 1 → ∃ ak, (some (⟨n9, 0, none⟩ : Addr)) = some ak ∧ w10.cell? (ak.add j) = some (.bool true) := by
    intro j h
    have : j = 0 := by omega
    subst this
    exact ⟨_, rfl, hcell⟩
  refine (hd7.out.crash hB7.out aw_ok4 (by decide) aw_len (some ⟨n9, 0, none⟩) 1 1 (fun _ => true) (-1) 0 (by decide) hk1).mono ?_
  rintro e wz ⟨gy, rfl, hy, hb⟩
  have hx := Aside0.mk (hx.out.below hb)
  have hBz := Aside0.mk (hB7.out.trans (hb.mono hB7.out.size))
  replace hy := Aside0.mk (show Dev w wz gy awY from hy)
  clear hd7 hB7 hb hcell
  go_wp2_with fail
  refine (hx.out.read aw_okX 0).mono ?_
  rintro e wz ⟨v, rfl, hR, hb⟩
  rw [R1] at hR
  rw [r1]
  obtain ⟨qa, ca, rfl, a0, a1⟩ := read_own hR
  have hx := Aside0.mk (hx.out.below hb)
  have hy := Aside0.mk (hy.out.below hb)
  have hBz := Aside0.mk (hBz.out.trans (hb.mono hBz.out.size))
  clear hR hb
  go_wp2_with fail
  refine (hx.out.read aw_okX 1).mono ?_
  rintro e wz ⟨v, rfl, hR, hb⟩
  rw [R2] at hR
  rw [r2]
  obtain ⟨qb, cb, rfl, b0, b1⟩ := read_own hR
  have hx := Aside0.mk (hx.out.below hb)
  have hy := Aside0.mk (hy.out.below hb)
  have hBz := Aside0.mk (hBz.out.trans (hb.mono hBz.out.size))
  have a0 := pw_cell_below hb a0
  have a1 := pw_cell_below hb a1
  clear hR hb
  go_wp2_with fail
  refine (hy.out.read aw_okY 0).mono ?_
  rintro e wz ⟨v, rfl, hR, hb⟩
  rw [R3] at hR
  rw [r3]
  obtain ⟨qc, cc, rfl, c0, c1⟩ := read_own hR
  have hx := Aside0.mk (hx.out.below hb)
  have hy := Aside0.mk (hy.out.below hb)
  have hBz := Aside0.mk (hBz.out.trans (hb.mono hBz.out.size))
  have a0 := pw_cell_below hb a0
  have a1 := pw_cell_below hb a1
  have b0 := pw_cell_below hb b0
  have b1 := pw_cell_below hb b1
  clear hR hb
  go_wp2_with fail
  refine (hy.out.read aw_okY 1).mono ?_
  rintro e wz ⟨v, rfl, hR, hb⟩
  rw [R4] at hR
  rw [r4]
  obtain ⟨qd, cd, rfl, d0, d1⟩ := read_own hR
  have hx := Aside0.mk (hx.out.below hb)
  have hy := Aside0.mk (hy.out.below hb)
  have hBz := Aside0.mk (hBz.out.trans (hb.mono hBz.out.size))
  have a0 := pw_cell_below hb a0
  have a1 := pw_cell_below hb a1
  have b0 := pw_cell_below hb b0
  have b1 := pw_cell_below hb b1
  have c0 := pw_cell_below hb c0
  have c1 := pw_cell_below hb c1
  clear hR hb
  go_wp2_with fail
  go_ret
  exact ⟨rfl, hBz.out⟩
end Go.Proofs.Ytghhmbagjhmgfaa.Print
