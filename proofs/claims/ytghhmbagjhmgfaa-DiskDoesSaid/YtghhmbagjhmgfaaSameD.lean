/- law03's same: the program's device and the document's, alike. -/
import Derived.Deep.QuietTactic
import Derived.BigQuiet
import Derived.Test.YtghhmbagjhmgfaaPlain
import Derived.Test.YtghhmbagjhmgfaaPrint1
import Derived.Test.YtghhmbagjhmgfaaPrint5
namespace Go.Proofs.Ytghhmbagjhmgfaa.Print
open Go.RowKit Go.Proofs.YtghhmbagjhmgfaaW.PrintWords Go.Proofs.YtghhmbagjhmgfaaW.PrintLast Go.Proofs.YtghhmbagjhmgfaaW.PrintMore
set_option linter.unusedVariables false
set_option linter.unusedSimpArgs false
theorem readB_few {d : DS} {m : Nat} (hO : d.Ok m) (i : Int) : (readB d i).length ≤ 256 := by
  unfold readB
  split
  · rename_i h
    have hl : i.toNat < d.L.length := by rw [hO.len]; have := h.2.1; have := h.2.2; omega
    rw [List.getD_eq_getElem?_getD, List.getElem?_eq_getElem hl]
    exact Nat.le_of_eq (hO.last _ (List.getElem_mem hl))
  · exact Nat.zero_le _
theorem five_cells {W : World} {g : Nat} {a b c d e : Value} {t : TypeId} (h : W.heap[g]? = some (.cells #[a, b, c, d, e] t (0, 0))) :
    W.cell? ⟨g, 0, none⟩ = some a ∧ W.cell? ⟨g, 1, none⟩ = some b ∧ W.cell? ⟨g, 2, none⟩ = some c ∧ W.cell? ⟨g, 3, none⟩ = some d ∧ W.cell? ⟨g, 4, none⟩ = some e :=
  ⟨(blk_cell h 0).trans rfl, (blk_cell h 1).trans rfl, (blk_cell h 2).trans rfl, (blk_cell h 3).trans rfl, (blk_cell h 4).trans rfl⟩
set_option maxHeartbeats 600000 in
set_option maxRecDepth 100000 in
theorem same_dev {w0 W : World} {g m : Nat} {d : DS} {r : PD} {P0 P1 : Nat → Prop} {A0 A1 : Option Addr} {c0 c1 : Nat} (hA : Dev w0 W g d) (hO : d.Ok m) (hm : m ≤ 100000) (hK : Alk d r) (hD : Kd.V (Kd.slice 5 (Kd.int .u8)) 30 W W.heap.size P0 (.slice A0 r.D.length c0) r.D) (hW : Kd.V k75 75 W W.heap.size P1 (.slice A1 r.W.length c1) r.W) :
    Calls Try.prog 27 #[.pointer (some ⟨g, 0, none⟩), .agg #[.slice A0 r.D.length c0, .slice A1 r.W.length c1, .bool r.armed, .bool r.dead, .int .i64 r.left]] W fun e w' => e = .returned (.bool true) ∧ Below W.heap.size W w' := by
  have hn : d.D.length = r.D.length := by rw [hK.D]
  have hnw : d.W.length = r.W.length := by rw [← hK.W, List.length_map]
  have hmax : r.D.length ≤ 4096 := by rw [← hn]; exact hO.max
  have hmaw : r.W.length ≤ 100000 := by rw [← hnw]; have := hO.many; omega
  have hla : Aside0 (∀ X, Below W.heap.size W X → Calls Try.prog 28 #[.pointer (some ⟨g, 0, none⟩)] X fun e w' => e = .returned (.int .i64 (r.D.length : Int)) ∧ w' = X) := ⟨fun X hX => by rw [← hn]; exact (hA.below hX).lenC⟩
  have hwa : Aside0 (∀ X, Below W.heap.size W X → Calls Try.prog 21 #[.pointer (some ⟨g, 0, none⟩)] X fun e w' => e = .returned (.int .i64 (r.W.length : Int)) ∧ w' = X) := ⟨fun X hX => by rw [← hnw]; exact (hA.below hX).waits⟩
  have hde : Aside0 (∀ X, Below W.heap.size W X → Calls Try.prog 19 #[.pointer (some ⟨g, 0, none⟩)] X fun e w' => e = .returned (.bool r.dead) ∧ w' = X) := ⟨fun X hX => by rw [hK.dead]; exact (hA.below hX).dead⟩
  have hr1 : Aside0 (∀ X i, Below W.heap.size W X → Calls Try.prog 12 #[.pointer (some ⟨g, 0, none⟩), .int .i64 i] X fun e w' => ∃ A c, e = .returned (.tuple #[.slice A (readB d i).length c, .int .i64 (readE d i)]) ∧ Kd.C (Kd.int .u8) w' A (readB d i).length (readB d i) ∧ (readB d i).length ≤ c ∧ Below X.heap.size X w') := ⟨fun X i hX => by
    refine ((hA.below hX).read hO i).mono ?_
    rintro e w' ⟨v, rfl, hR, hb⟩
    obtain ⟨A, c, rfl⟩ := Kd.R_slice hR
    exact ⟨A, c, rfl, (Kd.R_reads' hR).2.2, (Kd.R_reads' hR).2.1, hb⟩⟩
  have hr2 : Aside0 (∀ X i, Below W.heap.size W X → Calls Try.prog 36 #[.agg #[.slice A0 r.D.length c0, .slice A1 r.W.length c1, .bool r.armed, .bool r.dead, .int .i64 r.left], .int .i64 i] X fun e w' => ∃ A c, e = .returned (.tuple #[.slice A (readB d i).length c, .int .i64 (readE d i)]) ∧ Kd.C (Kd.int .u8) w' A (readB d i).length (readB d i) ∧ (readB d i).length ≤ c ∧ Below X.heap.size X w') := ⟨fun X i hX => by
    obtain ⟨e1, e2⟩ := hK.read hO i
    rw [e1, e2]
    refine (bobbinref03_Read.calls _ P0 A0 c0 r.D P1 A1 c1 r.W r.armed r.dead r.left i _ _ X (Kd.V_below hD hX) (Kd.V_below hW hX) (read_pd r i hmaw)).mono ?_
    rintro e w' ⟨v, rfl, hR, hb⟩
    obtain ⟨A, c, rfl⟩ := Kd.V_slice hR
    exact ⟨A, c, rfl, (Kd.V_reads' hR).2.2, (Kd.V_reads' hR).2.1, hb⟩⟩
  have h6 : Aside0 (∀ i, (readB d i).length ≤ 256) := ⟨readB_few hO⟩
  have hn63 := (Kd.V_at hD).2.1
  clear hA hD hW hn hnw hK hO
  generalize readB d = rb at *
  generalize readE d = re at *
  generalize r.D.length = n at *
  generalize r.W.length = nw at *
  generalize r.dead = dd at *
  generalize r.armed = ar at *
  generalize r.left = lf at *
  have enn : ((n : Int) != (n : Int)) = false := by simp
  have eww : ((nw : Int) != (nw : Int)) = false := by simp
  have edd : (dd != dd) = false := by simp
  have hbx : Aside0 (Below W.heap.size W (W.alloc (.cells #[.slice A0 n c0, .slice A1 nw c1, .bool ar, .bool dd, .int .i64 lf] 51))) := ⟨below_alloc (Below.refl _ _) _⟩
  have hx := Aside0.mk (World.alloc_heap_new W (.cells #[.slice A0 n c0, .slice A1 nw c1, .bool ar, .bool dd, .int .i64 lf] 51))
  have hxl : W.heap.size < (W.alloc (.cells #[.slice A0 n c0, .slice A1 nw c1, .bool ar, .bool dd, .int .i64 lf] 51)).heap.size := by rw [World.size_alloc]; omega
  go_enter Try.func27, Try.ntmps27
  go_wp2_with fail
  generalize W.alloc (.cells #[.slice A0 n c0, .slice A1 nw c1, .bool ar, .bool dd, .int .i64 lf] 51) = wb at *
  have hB0 := Aside0.mk (Below.refl wb.heap.size wb)
  obtain ⟨z0, z1, z2, z3, z4⟩ := five_cells hx.out
  go_quiet (first
    | (go_at_call 28; exact Calls.quiet_of_same (hla.out _ (by first | exact hbx.out | exact pw_below_drewN hbx.out _ | exact below_drew hbx.out)))
    | (go_at_call 19; exact Calls.quiet_of_same (hde.out _ (by first | exact hbx.out | exact pw_below_drewN hbx.out _ | exact below_drew hbx.out)))
    | (go_at_call 21; exact Calls.quiet_of_same (hwa.out _ (by first | exact hbx.out | exact pw_below_drewN hbx.out _ | exact below_drew hbx.out))))
  go_wp2_with fail
  clear z0 z1 z2 z3 z4
  go_loopw [5] (fun v5 wr => ∃ k : Int, -1 ≤ k ∧ k ≤ n + 1 ∧ v5 = .int .i64 k ∧ Aside0 (Below wb.heap.size wb wr)) (fun v5 _ => (n + 2 - intOf v5).toNat)
  case atStart => exact ⟨-1, by omega, by omega, rfl, ⟨pw_below_drewN hB0.out _⟩⟩
  case round =>
    obtain ⟨k, hk0, hk1, rfl, HB⟩ := hrel
    have hk := (HB.out.block W.heap.size hxl).trans hx.out
    obtain ⟨z0, z1, z2, z3, z4⟩ := five_cells hk
    clear hk
    have HW := Aside0.mk (hbx.out.trans (HB.out.mono (Nat.le_of_lt hxl)))
    by_cases hlk : k ≤ n
    · have ht : decide (k ≤ (n : Int)) = true := by simpa using hlk
      have hl6 := h6.out k
      have hs1 := fun X hX => hr1.out X k hX
      have hs2 := fun X hX => hr2.out X k hX
      generalize rb k = s at *
      generalize re k = ee at *
      generalize hns : s.length = ns at *
      have eee : (ee != ee) = false := by simp
      replace hns := Aside0.mk hns
      replace hs1 := Aside0.mk hs1
      replace hs2 := Aside0.mk hs2
      go_wp2_with fail
      refine (hs1.out wr HW.out).mono ?_
      rintro e w1 ⟨Aa, ca, rfl, hC1, hc1, hb1⟩
      have HW1 := Aside0.mk (HW.out.trans (hb1.mono HW.out.size))
      have HB1 := Aside0.mk (HB.out.trans (hb1.mono HB.out.size))
      replace hC1 := Aside0.mk hC1
      have z0 := pw_cell_below hb1 z0
      have z1 := pw_cell_below hb1 z1
      have z2 := pw_cell_below hb1 z2
      have z3 := pw_cell_below hb1 z3
      have z4 := pw_cell_below hb1 z4
      clear hb1
      go_wp2_with fail
      refine (hs2.out w1 HW1.out).mono ?_
      rintro e w2 ⟨Ab, cb, rfl, hC2, hc2, hb2⟩
      have HB2 := Aside0.mk (HB1.out.trans (hb2.mono HB1.out.size))
      have hC1 := Aside0.mk (Kd.C_below hC1.out hb2)
      replace hC2 := Aside0.mk hC2
      have z0 := pw_cell_below hb2 z0
      have z1 := pw_cell_below hb2 z1
      have z2 := pw_cell_below hb2 z2
      have z3 := pw_cell_below hb2 z3
      have z4 := pw_cell_below hb2 z4
      clear hb2
      go_wp2_with fail
      refine (same_any _ _ ns ns ca cb s w2 hns.out hns.out hC1.out hc1 hC2.out hc2 (by rw [hns.out]; omega)).mono ?_
      rintro e w3 ⟨rfl, hdr⟩
      obtain ⟨m3, rfl⟩ := hdr
      have HB3 := Aside0.mk (pw_below_drewN HB2.out m3)
      clear hC1 hC2 HB2 HB1 z0 z1 z2 z3 z4
      generalize w2.drewN m3 = w4 at *
      go_wp2_with fail
      go_roundw
      case rel => exact ⟨k + 1, by omega, by omega, by go_num, HB3⟩
      case measure => simp only [intOf]; omega
    · have ht : decide (k ≤ (n : Int)) = false := by simpa using hlk
      go_wp2_with fail
      go_ret
      exact ⟨rfl, HW.out⟩
end Go.Proofs.Ytghhmbagjhmgfaa.Print
