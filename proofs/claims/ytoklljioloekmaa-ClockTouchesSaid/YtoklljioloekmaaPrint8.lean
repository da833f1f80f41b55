-- Written by a program of this session (myprint.py over the kit's print.py) out of the translation. Not trusted: Lean checks it.
import Derived.Test.YtoklljioloekmaaPrint0
import Derived.Test.YtoklljioloekmaaPrint2
import Derived.Test.YtoklljioloekmaaPrint6
import Derived.Test.YtoklljioloekmaaPrint7
namespace Go.Proofs.Ytoklljioloekmaa.Print
open Go.RowKit Go.Proofs.YtoklljioloekmaaW.PrintWords Go.Proofs.YtoklljioloekmaaW.PrintLast Go.Proofs.YtoklljioloekmaaW.PrintMore
attribute [local go_sem] max2_int min2_int max_two min_two max_three min_three max_four min_four   -- for this text's walks alone
set_option linter.unusedVariables false
set_option linter.unusedSimpArgs false

/-! ### bobbinref16_put: function 27 -/
def bobbinref16_put.f (a0_0 : Int) (l0_1 : List (S32)) (a1 : Int) (a2_0 : Int) (a2_1 : Bool) (a2_2 : Bool) : Option (Int × (List (S32))) := if ([] : List (S32)).length + l0_1.length < 8796093022208 then ((some (([] : List (S32)) ++ l0_1 : List (S32))).bind fun y190 => (if 0 ≤ a1 then (if a1 < (y190.length : Int) then (some (a0_0, (y190.set (a1 : Int).toNat (⟨a2_0, a2_1, a2_2⟩ : S32)))) else (none)) else (none))) else (none)
set_option maxHeartbeats 8000000 in
set_option maxRecDepth 100000 in
theorem bobbinref16_put.calls (a0_0 : Int) (A0_1 : Option Addr) (c0_1 : Nat) (l0_1 : List (S32)) (a1 : Int) (a2_0 : Int) (a2_1 : Bool) (a2_2 : Bool) (r1 : Int) (r2 : List (S32)) (w : World) (hr0_1 : Kd.C k32 w A0_1 l0_1.length l0_1) (hc0_1 : l0_1.length ≤ c0_1) (h : bobbinref16_put.f a0_0 l0_1 a1 a2_0 a2_1 a2_2 = some (r1, r2)) :
    Calls Try.prog 27 #[.agg #[.int .i64 a0_0, .slice A0_1 l0_1.length c0_1], .int .i64 a1, .agg #[.int .i64 a2_0, .bool a2_1, .bool a2_2]] w fun e w' => ∃ v1_ : Value, e = .returned (.agg #[.int .i64 r1, v1_]) ∧ Kd.R k32 32 w' w.heap.size (fun _ => True) v1_ r2 ∧ Below w.heap.size w w' := by
  have hu24 := Try.underlying24
  have hu32 := Try.underlying32
  have HR0_1 := Aside0.mk hr0_1
  have HC0_1 := Aside0.mk hc0_1
  clear hr0_1 hc0_1
  have HB := Aside0.mk (Below.refl w.heap.size w)
  have H : (if ([] : List (S32)).length + l0_1.length < 8796093022208 then ((some (([] : List (S32)) ++ l0_1 : List (S32))).bind fun y190 => (if 0 ≤ a1 then (if a1 < (y190.length : Int) then (some (a0_0, (y190.set (a1 : Int).toNat (⟨a2_0, a2_1, a2_2⟩ : S32)))) else (none)) else (none))) else (none)) = some (r1, r2) := h
  clear h
  by_cases c4 : ([] : List (S32)).length + l0_1.length < 8796093022208
  · rw [if_pos c4] at H
    have LMc4 := Aside0.mk c4
    clear c4
    obtain ⟨y190, hy190⟩ : ∃ y_ : List (S32), y_ = (([] : List (S32)) ++ l0_1) := ⟨_, rfl⟩
    replace H : (if 0 ≤ a1 then (if a1 < (y190.length : Int) then (some (a0_0, (y190.set (a1 : Int).toNat (⟨a2_0, a2_1, a2_2⟩ : S32)))) else (none)) else (none)) = some (r1, r2) := by first | (rw [hy190]; with_reducible exact H) | (have H2_ := (Option.bind_some _ _).symm.trans H; rw [hy190]; with_reducible exact H2_) | (have H2_ := (Option.bind_some _ _).symm.trans H; with_reducible exact H2_) | with_reducible exact H | (rw [hy190]; exact H) | exact H
    have Ny190 := Aside0.mk hy190
    clear hy190
    by_cases c5 : 0 ≤ a1
    · rw [if_pos c5] at H
      have c5b0 : decide (0 ≤ a1) = true := decide_eq_true c5
      clear c5
      by_cases c6 : a1 < (y190.length : Int)
      · rw [if_pos c6] at H
        have c6b0 : decide (a1 < (y190.length : Int)) = true := decide_eq_true c6
        clear c6
        obtain ⟨y193, hy193⟩ : ∃ y_ : List (S32), y_ = (y190.set (a1 : Int).toNat (⟨a2_0, a2_1, a2_2⟩ : S32)) := ⟨_, rfl⟩
        replace H : (some (a0_0, y193)) = some (r1, r2) := by first | (rw [hy193]; with_reducible exact H) | (have H2_ := (Option.bind_some _ _).symm.trans H; rw [hy193]; with_reducible exact H2_) | (have H2_ := (Option.bind_some _ _).symm.trans H; with_reducible exact H2_) | with_reducible exact H | (rw [hy193]; exact H) | exact H
        have Ny193 := Aside0.mk hy193
        clear hy193
        simp only [Option.some.injEq, Prod.mk.injEq] at H
        obtain ⟨rfl, rfl⟩ := H
        go_enter Try.func27, Try.ntmps27
        go_wp2_with (first | ((with_reducible refine gate_dst (N := 3) rfl ?_); refine box_event ?hg (N := 3) ?hd (cs := #[.int .i64 a0_0, .slice A0_1 l0_1.length c0_1]) (t := 24) ?hr ?_; (case hd => rfl); (case hg => rfl); (case hr => first | (go_simp; done) | (go_simp; rfl)); intro gb187 hg w8 hbox hb; have n0_ := Aside0.mk (below_step (by repeat (first | (with_reducible first | exact HB.out | apply below_alloc | apply pw_below_drewN | apply below_drew1) | exact HB.out)) hb); have n1_ := Aside0.mk (hbox); have n2_ := Aside0.mk ((by rw [hg]; exact (below_size (by repeat (first | (with_reducible first | exact HB.out | apply below_alloc | apply pw_below_drewN | apply below_drew1) | exact HB.out))) : w.heap.size ≤ gb187)); have n3_ := Aside0.mk ((by rw [hg]; exact (below_size (by repeat (first | (with_reducible first | exact HB.out | apply below_alloc | apply pw_below_drewN | apply below_drew1) | exact HB.out))) : w.heap.size ≤ gb187)); clear HB; have HB := n0_; have BK187 := n1_; have GW187 := n2_; have GE187 := n3_; clear n0_ n1_ n2_ n3_; clear hb hbox hg) | ((with_reducible refine gate_dst (N := 5) rfl ?_); refine box_event ?hg (N := 5) ?hd (cs := #[.int .i64 a2_0, .bool a2_1, .bool a2_2]) (t := 32) ?hr ?_; (case hd => rfl); (case hg => rfl); (case hr => first | (go_simp; done) | (go_simp; rfl)); intro gb188 hg w9 hbox hb; have n0_ := Aside0.mk (blk_below (g := gb187) (o := .cells #[.int .i64 a0_0, .slice A0_1 l0_1.length c0_1] 24 (0, 0)) (by (with_reducible repeat (first | refine blk_drewN ?_ _ | refine blk_drew ?_ | refine blk_alloc ?_ _)); exact BK187.out) hb); have n1_ := Aside0.mk (below_step (by repeat (first | (with_reducible first | exact HB.out | apply below_alloc | apply pw_below_drewN | apply below_drew1 | refine below_set ?_ GE187.out) | exact HB.out)) hb); have n2_ := Aside0.mk (hbox); have n3_ := Aside0.mk ((by rw [hg]; exact (below_size (by repeat (first | (with_reducible first | exact HB.out | apply below_alloc | apply pw_below_drewN | apply below_drew1 | refine below_set ?_ GE187.out) | exact HB.out))) : w.heap.size ≤ gb188)); have n4_ := Aside0.mk ((by rw [hg]; exact (below_size (by repeat (first | (with_reducible first | exact HB.out | apply below_alloc | apply pw_below_drewN | apply below_drew1 | refine below_set ?_ GE187.out) | exact HB.out))) : w.heap.size ≤ gb188)); have n5_ := Aside0.mk ((by rw [hg]; exact Nat.ne_of_lt (blk_lt (g := gb187) (o := .cells #[.int .i64 a0_0, .slice A0_1 l0_1.length c0_1] 24 (0, 0)) (by (with_reducible repeat (first | refine blk_drewN ?_ _ | refine blk_drew ?_ | refine blk_alloc ?_ _)); exact BK187.out)) : gb187 ≠ gb188)); have n6_ := Aside0.mk ((by rw [hg]; exact Nat.ne_of_gt (blk_lt (g := gb187) (o := .cells #[.int .i64 a0_0, .slice A0_1 l0_1.length c0_1] 24 (0, 0)) (by (with_reducible repeat (first | refine blk_drewN ?_ _ | refine blk_drew ?_ | refine blk_alloc ?_ _)); exact BK187.out)) : gb188 ≠ gb187)); clear BK187; clear HB; have BK187 := n0_; have HB := n1_; have BK188 := n2_; have GW188 := n3_; have GE188 := n4_; have NB187_188 := n5_; have NB188_187 := n6_; clear n0_ n1_ n2_ n3_ n4_ n5_ n6_; clear hb hbox hg) | ((with_reducible refine gate_dst (N := 6) rfl ?_); refine box_event ?hg (N := 6) ?hd (cs := #[.int .i64 0, .slice none 0 0]) (t := 24) ?hr ?_; (case hd => rfl); (case hg => rfl); (case hr => first | (go_simp; done) | (go_simp; rfl)); intro gb189 hg w10 hbox hb; have n0_ := Aside0.mk (blk_below (g := gb187) (o := .cells #[.int .i64 a0_0, .slice A0_1 l0_1.length c0_1] 24 (0, 0)) (by (with_reducible repeat (first | refine blk_drewN ?_ _ | refine blk_drew ?_ | refine blk_alloc ?_ _)); exact BK187.out) hb); have n1_ := Aside0.mk (blk_below (g := gb188) (o := .cells #[.int .i64 a2_0, .bool a2_1, .bool a2_2] 32 (0, 0)) (by (with_reducible repeat (first | refine blk_drewN ?_ _ | refine blk_drew ?_ | refine blk_alloc ?_ _)); exact BK188.out) hb); have n2_ := Aside0.mk (below_step (by repeat (first | (with_reducible first | exact HB.out | apply below_alloc | apply pw_below_drewN | apply below_drew1 | refine below_set ?_ GE187.out | refine below_set ?_ GE188.out) | exact HB.out)) hb); have n3_ := Aside0.mk (hbox); have n4_ := Aside0.mk ((by rw [hg]; exact (below_size (by repeat (first | (with_reducible first | exact HB.out | apply below_alloc | apply pw_below_drewN | apply below_drew1 | refine below_set ?_ GE187.out | refine below_set ?_ GE188.out) | exact HB.out))) : w.heap.size ≤ gb189)); have n5_ := Aside0.mk ((by rw [hg]; exact (below_size (by repeat (first | (with_reducible first | exact HB.out | apply below_alloc | apply pw_below_drewN | apply below_drew1 | refine below_set ?_ GE187.out | refine below_set ?_ GE188.out) | exact HB.out))) : w.heap.size ≤ gb189)); have n6_ := Aside0.mk ((by rw [hg]; exact Nat.ne_of_lt (blk_lt (g := gb187) (o := .cells #[.int .i64 a0_0, .slice A0_1 l0_1.length c0_1] 24 (0, 0)) (by (with_reducible repeat (first | refine blk_drewN ?_ _ | refine blk_drew ?_ | refine blk_alloc ?_ _)); exact BK187.out)) : gb187 ≠ gb189)); have n7_ := Aside0.mk ((by rw [hg]; exact Nat.ne_of_gt (blk_lt (g := gb187) (o := .cells #[.int .i64 a0_0, .slice A0_1 l0_1.length c0_1] 24 (0, 0)) (by (with_reducible repeat (first | refine blk_drewN ?_ _ | refine blk_drew ?_ | refine blk_alloc ?_ _)); exact BK187.out)) : gb189 ≠ gb187)); have n8_ := Aside0.mk ((by rw [hg]; exact Nat.ne_of_lt (blk_lt (g := gb188) (o := .cells #[.int .i64 a2_0, .bool a2_1, .bool a2_2] 32 (0, 0)) (by (with_reducible repeat (first | refine blk_drewN ?_ _ | refine blk_drew ?_ | refine blk_alloc ?_ _)); exact BK188.out)) : gb188 ≠ gb189)); have n9_ := Aside0.mk ((by rw [hg]; exact Nat.ne_of_gt (blk_lt (g := gb188) (o := .cells #[.int .i64 a2_0, .bool a2_1, .bool a2_2] 32 (0, 0)) (by (with_reducible repeat (first | refine blk_drewN ?_ _ | refine blk_drew ?_ | refine blk_alloc ?_ _)); exact BK188.out)) : gb189 ≠ gb188)); clear BK187; clear BK188; clear HB; have BK187 := n0_; have BK188 := n1_; have HB := n2_; have BK189 := n3_; have GW189 := n4_; have GE189 := n5_; have NB187_189 := n6_; have NB189_187 := n7_; have NB188_189 := n8_; have NB189_188 := n9_; clear n0_ n1_ n2_ n3_ n4_ n5_ n6_ n7_ n8_ n9_; clear hb hbox hg; have hnb11 := NB187_188.out; have hnc11 := NB188_187.out; have hnb12 := NB187_189.out; have hnc12 := NB189_187.out; have hcz13_0 : w10.cell? ⟨gb187, 0, none⟩ = some (.int .i64 a0_0) := (blk_cell BK187.out 0).trans rfl; have hcz13_1 : w10.cell? ⟨gb187, 1, none⟩ = some (.slice A0_1 l0_1.length c0_1) := (blk_cell BK187.out 1).trans rfl; have hfz13_0 := blk_frozen BK187.out 0; have hfz13_1 := blk_frozen BK187.out 1) | ((with_reducible refine gate_builtin (b := .append) (xs := #[.const (.slice none 0 0), .tmp 9]) rfl ?_); at_builtin; refine Kd.R_append_rows k32 (w0 := w) w.heap.size rfl (.const (.slice none 0 0)) (.tmp 9) 22 32 (.agg #[(.int .i64 0), (.bool false), (.bool false)]) 16 rfl Try.underlying22 info32 rfl (by decide) (by omega) (.slice none 0 0) ([] : List (S32)) l0_1 _ _ _ (fun k_ => k_ ≠ gb188) (fun _ => False) rfl rfl ?aO ?aR (fun _ _ h => h) (fun _ h => h.elim) ?aF ?aB ?aS ?aL ?_; (case aR => repeat (first | exact (Kd.C_below HR0_1.out HB.out) | (with_reducible refine Kd.C_alloc ?_ _) | (with_reducible refine Kd.C_drewN ?_ _) | (with_reducible refine Kd.C_drew ?_))); (case aB => exact (by repeat (first | (with_reducible first | exact HB.out | apply below_alloc | apply pw_below_drewN | apply below_drew1 | refine below_set ?_ GE187.out | refine below_set ?_ GE188.out | refine below_set ?_ GE189.out) | exact HB.out))); (case aF => exact (fun k_ hk => Kd.freshB (g := gb188) (o := .cells #[.int .i64 a2_0, .bool a2_1, .bool a2_2] 32 (0, 0)) (by (with_reducible repeat (first | refine blk_drewN ?_ _ | refine blk_drew ?_ | refine blk_alloc ?_ _)); exact BK188.out) k_ hk)); (case aO => exact ((Kd.R_nil _ _ _ _ (fun k_ => k_ ≠ gb188)))); (case aS => exact (below_size (by repeat (first | (with_reducible first | exact HB.out | apply below_alloc | apply pw_below_drewN | apply below_drew1 | refine below_set ?_ GE187.out | refine below_set ?_ GE188.out | refine below_set ?_ GE189.out) | exact HB.out)))); (case aL => have := LMc4.out; omega); intro v191 w14 ho hb hg hat; rw [← Ny190.out] at ho; have n0_ := Aside0.mk (blk_grown (g := gb187) (o := .cells #[.int .i64 a0_0, .slice A0_1 l0_1.length c0_1] 24 (0, 0)) (by (with_reducible repeat (first | refine blk_drewN ?_ _ | refine blk_drew ?_ | refine blk_alloc ?_ _)); exact BK187.out) hg (by simp [Value.ownBlock])); have n1_ := Aside0.mk (blk_grown (g := gb188) (o := .cells #[.int .i64 a2_0, .bool a2_1, .bool a2_2] 32 (0, 0)) (by (with_reducible repeat (first | refine blk_drewN ?_ _ | refine blk_drew ?_ | refine blk_alloc ?_ _)); exact BK188.out) hg (by simp [Value.ownBlock])); have n2_ := Aside0.mk (blk_grown (g := gb189) (o := .cells #[.int .i64 0, .slice none 0 0] 24 (0, 0)) (by (with_reducible repeat (first | refine blk_drewN ?_ _ | refine blk_drew ?_ | refine blk_alloc ?_ _)); exact BK189.out) hg (by simp [Value.ownBlock])); have n3_ := Aside0.mk (hb); have n4_ := Aside0.mk (ho); clear BK187; clear BK188; clear BK189; clear HB; have BK187 := n0_; have BK188 := n1_; have BK189 := n2_; have HB := n3_; have HO192 := n4_; clear n0_ n1_ n2_ n3_ n4_; clear ho hb hg hat; have hnb15 := NB188_189.out; have hnc15 := NB189_188.out; have hcz16_0 : w14.cell? ⟨gb188, 0, none⟩ = some (.int .i64 a2_0) := (blk_cell BK188.out 0).trans rfl; have hcz16_1 : w14.cell? ⟨gb188, 1, none⟩ = some (.bool a2_1) := (blk_cell BK188.out 1).trans rfl; have hcz16_2 : w14.cell? ⟨gb188, 2, none⟩ = some (.bool a2_2) := (blk_cell BK188.out 2).trans rfl; have hfz16_0 := blk_frozen BK188.out 0; have hfz16_1 := blk_frozen BK188.out 1; have hfz16_2 := blk_frozen BK188.out 2; have p7 : 0 ≤ (a1 : Int) := of_decide_eq_true (by first | (with_reducible assumption) | assumption); have q7 : (a1 : Int) < ((y190.length : Int) : Int) := of_decide_eq_true (by first | (with_reducible assumption) | assumption); obtain ⟨go7, co7, eo7, gb7, gl7, cl7, HG7⟩ := Kd.R_form HO192.out (by omega); (first | cases eo7 | (injection eo7 with ea_ en_ ec_; (first | subst ea_ | (injection ea_ with ea_; subst ea_)); subst ec_; clear en_)); have GB7 := Aside0.mk gb7; have GG7 := Aside0.mk HG7; clear gb7 gl7 HG7; obtain ⟨ce7, hcl7, hM7, hcc7, hfr7⟩ := Kd.R_elem HO192.out z32 (a1 : Int) p7 q7; obtain rfl := k32_openM hM7; have hx7_0 : w14.cell? ⟨go7, (a1 : Int).toNat * 3, none⟩ = some (.int .i64 ((rd_T32 y190 a1).f0)) := hcc7 0 _ rfl; have hx7_1 : w14.cell? ⟨go7, (a1 : Int).toNat * 3 + 1, none⟩ = some (.bool ((rd_T32 y190 a1).f1)) := hcc7 1 _ rfl; have hx7_2 : w14.cell? ⟨go7, (a1 : Int).toNat * 3 + 2, none⟩ = some (.bool ((rd_T32 y190 a1).f2)) := hcc7 2 _ rfl; have hf7_0 : w14.frozen? ⟨go7, (a1 : Int).toNat * 3, none⟩ = false := hfr7 0; have hf7_1 : w14.frozen? ⟨go7, (a1 : Int).toNat * 3 + 1, none⟩ = false := hfr7 1; have hf7_2 : w14.frozen? ⟨go7, (a1 : Int).toNat * 3 + 2, none⟩ = false := hfr7 2; clear hcl7 hcc7 hfr7 hM7; replace p7 := eq_true p7; replace q7 := eq_true q7; have HX17 := Aside0.mk (show Kd.R k32 32 w14 w.heap.size (fun k_ => k_ ≠ gb188) (.slice (some ⟨go7, 0, none⟩) y190.length co7) y190 from (by (with_reducible repeat (first | apply Kd.R_alloc | apply Kd.R_drewN | apply Kd.R_drew)); exact HO192.out)); obtain ⟨ce17, hcl17, hM17, hcc17, hfr17⟩ := Kd.R_elem HX17.out z32 (a1 : Int) (of_decide_eq_true (by first | (with_reducible assumption) | assumption)) (by have h_ : (a1 : Int) < ((y190.length : Int) : Int) := of_decide_eq_true (by first | (with_reducible assumption) | assumption); first | exact h_ | (have e_ := (Kd.R_reads' HO192.out).1; omega) | simpa using h_); obtain rfl := k32_openM hM17; have HP17 := Kd.R_seg HX17.out (a1 : Int) (of_decide_eq_true (by first | (with_reducible assumption) | assumption)) (by have h_ : (a1 : Int) < ((y190.length : Int) : Int) := of_decide_eq_true (by first | (with_reducible assumption) | assumption); first | exact h_ | (have e_ := (Kd.R_reads' HO192.out).1; omega) | simpa using h_) (seg := [.int .i64 a2_0, .bool a2_1, .bool a2_2]) (j := 0) hcl17 hcc17 (show 3 ≤ 3 from by decide) (x' := (⟨a2_0, a2_1, a2_2⟩ : S32)) (k32_mkM _ _ _ (⟨a2_0, a2_1, a2_2⟩ : S32) ) (fun _ hk => hk); have hx17_0 := hcc17 0 _ rfl; (try simp only [show (k32).sz = 3 from rfl, Nat.mul_one, Nat.add_zero] at hx17_0); have hf17_0 := hfr17 0; (try simp only [show (k32).sz = 3 from rfl, Nat.mul_one, Nat.add_zero] at hf17_0); have hx17_1 := hcc17 1 _ rfl; (try simp only [show (k32).sz = 3 from rfl, Nat.mul_one, Nat.add_zero] at hx17_1); have hf17_1 := hfr17 1; (try simp only [show (k32).sz = 3 from rfl, Nat.mul_one, Nat.add_zero] at hf17_1); have hx17_2 := hcc17 2 _ rfl; (try simp only [show (k32).sz = 3 from rfl, Nat.mul_one, Nat.add_zero] at hx17_2); have hf17_2 := hfr17 2; (try simp only [show (k32).sz = 3 from rfl, Nat.mul_one, Nat.add_zero] at hf17_2); clear hcl17 hcc17 hfr17 hM17) | ((with_reducible refine gate_store (t := 32) (p := 14) rfl ?_); refine store_event (t := 32) (p := 14) (v := ?vo_w18) (w1 := (((w14.setCell ⟨go7, (a1 : Int).toNat * 3, none⟩ (.int .i64 a2_0)).setCell ⟨go7, (a1 : Int).toNat * 3 + 1, none⟩ (.bool a2_1)).setCell ⟨go7, (a1 : Int).toNat * 3 + 2, none⟩ (.bool a2_2))) ?hg ?ho ?hn ?hr ?_; (case ho => rfl); (case hg => rfl); (case hn => rfl); (case hr => first | (go_simp; done) | (go_simp; rfl)); intro w18 hw; have hg : w14.grownBy w18 (some go7) := (by rw [hw]; exact HP17.2); have hp_ : Kd.R k32 32 w18 w.heap.size (fun k_ => k_ ≠ gb188) (.slice (some ⟨go7, 0, none⟩) y190.length co7) y193 := (by rw [hw, Ny193.out]; exact HP17.1); clear HP17; have n0_ := Aside0.mk (blk_grown (g := gb187) (o := .cells #[.int .i64 a0_0, .slice A0_1 l0_1.length c0_1] 24 (0, 0)) (by (with_reducible repeat (first | refine blk_drewN ?_ _ | refine blk_drew ?_ | refine blk_alloc ?_ _)); exact BK187.out) hg (Kd.R_ne HO192.out BK187.out (by decide))); have n1_ := Aside0.mk (blk_grown (g := gb188) (o := .cells #[.int .i64 a2_0, .bool a2_1, .bool a2_2] 32 (0, 0)) (by (with_reducible repeat (first | refine blk_drewN ?_ _ | refine blk_drew ?_ | refine blk_alloc ?_ _)); exact BK188.out) hg (Kd.R_away HO192.out (fun _ hk => hk))); have n2_ := Aside0.mk (blk_grown (g := gb189) (o := .cells #[.int .i64 0, .slice none 0 0] 24 (0, 0)) (by (with_reducible repeat (first | refine blk_drewN ?_ _ | refine blk_drew ?_ | refine blk_alloc ?_ _)); exact BK189.out) hg (Kd.R_ne HO192.out BK189.out (by decide))); have n3_ := Aside0.mk (hp_); have n4_ := Aside0.mk ((by rw [hw]; exact below_set (below_set (below_set (HB.out) GB7.out) GB7.out) GB7.out : Below w.heap.size w w18)); clear BK187; clear BK188; clear BK189; clear HO192; clear HB; have BK187 := n0_; have BK188 := n1_; have BK189 := n2_; have HO192 := n3_; have HB := n4_; clear n0_ n1_ n2_ n3_ n4_; clear hg hw hp_; have hcz19_0 : w18.cell? ⟨gb187, 0, none⟩ = some (.int .i64 a0_0) := (blk_cell BK187.out 0).trans rfl; have hcz19_1 : w18.cell? ⟨gb187, 1, none⟩ = some (.slice A0_1 l0_1.length c0_1) := (blk_cell BK187.out 1).trans rfl; have hfz19_0 := blk_frozen BK187.out 0; have hfz19_1 := blk_frozen BK187.out 1; have hcz20_0 : w18.cell? ⟨gb189, 0, none⟩ = some (.int .i64 0) := (blk_cell BK189.out 0).trans rfl; have hcz20_1 : w18.cell? ⟨gb189, 1, none⟩ = some (.slice none 0 0) := (blk_cell BK189.out 1).trans rfl; have hfz20_0 := blk_frozen BK189.out 0; have hfz20_1 := blk_frozen BK189.out 1))
        refine bodyPost_ret (results_cell_row rfl _ _ gb189 24 #[.int .i64 a0_0, .slice (some ⟨go7, 0, none⟩) y190.length co7] (0, 0) _ rfl (by (with_reducible repeat (first | refine blk_drewN ?_ _ | refine blk_drew ?_ | refine blk_alloc ?_ _)); refine blk_put (cs := #[.int .i64 a0_0, .slice none 0 0]) ?_ 1 _ rfl; (with_reducible repeat (first | refine blk_drewN ?_ _ | refine blk_drew ?_ | refine blk_alloc ?_ _)); refine blk_put (cs := #[.int .i64 0, .slice none 0 0]) ?_ 0 _ rfl; (with_reducible repeat (first | refine blk_drewN ?_ _ | refine blk_drew ?_ | refine blk_alloc ?_ _)); exact BK189.out) Try.underlying24 rfl (by kernel_rfl)) rfl ?_
        exact ⟨_, by first | rfl | (simp [errW_none, errW_some] <;> rfl) | (simp [*, errW_none, errW_some] <;> rfl), by (with_reducible repeat (first | apply Kd.R_alloc | apply Kd.R_drewN | apply Kd.R_drew)); exact Kd.R_mono (Kd.R_far (p := ⟨gb189, 1, none⟩) (Kd.R_far (p := ⟨gb189, 0, none⟩) (Kd.R_types HO192.out BK189.out (by decide)) (fun _ hk => hk.2) (.int .i64 a0_0)) (fun _ hk => hk.2) (.slice (some ⟨go7, 0, none⟩) y190.length co7)) (fun _ hk => trivial), by repeat (first | (with_reducible first | exact HB.out | apply below_alloc | apply pw_below_drewN | apply below_drew1 | refine below_set ?_ GE187.out | refine below_set ?_ GE188.out | refine below_set ?_ GE189.out) | exact HB.out)⟩
      · rw [if_neg c6] at H
        exact absurd H (by simp)
    · rw [if_neg c5] at H
      exact absurd H (by simp)
  · rw [if_neg c4] at H
    exact absurd H (by simp)

/-! ### bobbinref16_Turn: function 14 -/
def bobbinref16_Turn.f (k : Nat) (a0_0 : Int) (l0_1 : List (S32)) (a1 : Int) (a2 : Bool) (a3 : Bool) : Option (Int × (List (S32)) × Int) := (bobbinref16_May.f k a0_0 l0_1).bind fun t196 => (if t196 = true then ((bobbinref16_find.f k l0_1 a1).bind fun t197 => (if t197 < 0 then (some (0, ([] : List (S32)), 3)) else (if 0 ≤ t197 then (if t197 < (l0_1.length : Int) then (if a2 = true then ((bobbinref16_put.f a0_0 l0_1 t197 ((rd_T32 l0_1 t197).f0) ((rd_T32 l0_1 t197).f1) a3).bind fun bt200 => (some (bt200.1, bt200.2, 0))) else ((bobbinref16_put.f a0_0 l0_1 t197 ((rd_T32 l0_1 t197).f0) true ((rd_T32 l0_1 t197).f2)).bind fun bt204 => (some (bt204.1, bt204.2, 0)))) else (none)) else (none)))) else (some (0, ([] : List (S32)), 1)))
theorem bobbinref16_Turn.mono : ∀ a0 a1 a2 a3 a4 k, LeO (bobbinref16_Turn.f k a0 a1 a2 a3 a4) (bobbinref16_Turn.f (k + 1) a0 a1 a2 a3 a4) := by
  intro a0 a1 a2 a3 a4 k
  unfold bobbinref16_Turn.f
  repeat' first
      | (with_reducible exact bobbinref16_May.mono _ _ _)
      | (with_reducible exact bobbinref16_find.mono _ _ _)
      | (with_reducible exact LeO.refl _)
      | (with_reducible exact LeO.none _)
      | (with_reducible refine LeO.ite ?_ ?_)
      | (with_reducible refine LeO.bind ?_ (fun _ => ?_))
      | exact bobbinref16_May.mono _ _ _
      | exact bobbinref16_find.mono _ _ _
      | exact LeO.none _
      | refine LeO.ite ?_ ?_
      | refine LeO.bind ?_ (fun _ => ?_)
/-! ### clock_Pin: function 15 -/
def clock_Pin.turn (on : Bool) (x : S32) : S32 := { x with f2 := on }
def clock_Pin.f (k : Nat) (a0_0 : Int) (l0_1 : List S32) (a1 : Int) (a2 : Bool) : Option (Int × List S32 × Int) :=
  (clock_May.f k a0_0 l0_1).bind fun ok => if ok = true then (if clock_at.idx l0_1 a1 < 0 then some (0, [], 3) else
    if l0_1.length < 8796093022208 then some (a0_0, l0_1.set (clock_at.idx l0_1 a1).toNat (clock_Pin.turn a2 (l0_1.getD (clock_at.idx l0_1 a1).toNat z32)), 0) else none) else some (0, [], 1)
theorem clock_Pin.mono : ∀ a0 a1 a2 a3 k, LeO (clock_Pin.f k a0 a1 a2 a3) (clock_Pin.f (k + 1) a0 a1 a2 a3) := by
  intro a0 a1 a2 a3 k
  unfold clock_Pin.f
  repeat' first
      | (with_reducible exact clock_May.mono _ _ _)
      | (with_reducible exact LeO.refl _)
      | (with_reducible exact LeO.none _)
      | (with_reducible refine LeO.ite ?_ ?_)
      | (with_reducible refine LeO.bind ?_ (fun _ => ?_))
set_option maxHeartbeats 1000000 in
set_option maxRecDepth 100000 in
theorem clock_Pin.clo (g o : Nat) (b0 : Bool) (a : Addr) (on : Bool) (W : World) (hc : W.cell? a = some (.bool on)) (h : W.cell? ⟨g, o + 2, none⟩ = some (.bool b0)) (hf : W.frozen? ⟨g, o + 2, none⟩ = false) :
    Calls Try.prog 28 #[.pointer (some ⟨g, o, none⟩), .pointer (some a)] W fun e w' => e = .returned (.tuple #[]) ∧ W.setCell ⟨g, o + 2, none⟩ (.bool on) = w' := by
  go_enter Try.func28, Try.ntmps28
  go_wp2_with fail
  go_end0
  exact ⟨rfl, rfl⟩
set_option maxHeartbeats 1000000 in
set_option maxRecDepth 100000 in
theorem clock_Pin.with_ (k : Nat) (a0_0 : Int) (A0_1 : Option Addr) (c0_1 : Nat) (l0_1 : List S32) (a1 : Int) (a2 : Bool) (r1 : Int) (r2 : List S32) (r3 : Int) (a : Addr) (w : World) (hc : w.cell? a = some (.bool a2)) (hr0_1 : Kd.C k32 w A0_1 l0_1.length l0_1) (hc0_1 : l0_1.length ≤ c0_1) (h : clock_Pin.f k a0_0 l0_1 a1 a2 = some (r1, r2, r3)) :
    Calls Try.prog 24 #[.agg #[.int .i64 a0_0, .slice A0_1 l0_1.length c0_1], .int .i64 a1, .func (.func 28) #[] #[.pointer (some a)]] w fun e w' => ∃ v1_ : Value, e = .returned (.tuple #[.agg #[.int .i64 r1, v1_], .int .i64 r3]) ∧ Kd.R k32 32 w' w.heap.size (fun _ => True) v1_ r2 ∧ Below w.heap.size w w' := by
  have HR := Aside0.mk hr0_1
  clear hr0_1
  unfold clock_Pin.f at h
  replace h := Option.bind_eq_some_iff.mp h
  obtain ⟨ok, HM, h⟩ := h
  replace HM := Aside0.mk HM
  have HB0 := fun (o1 o2 : Obj) => below_alloc (below_alloc (Below.refl w.heap.size w) o1) o2
  replace HB0 := Aside0.mk HB0
  by_cases hok : ok = true
  · subst hok
    rw [if_pos rfl] at h
    have hcap : True := trivial
    split at h
    · rename_i hneg
      simp only [Option.some.injEq, Prod.mk.injEq] at h
      obtain ⟨rfl, rfl, rfl⟩ := h
      have hd := decide_eq_true hneg
      clear hneg
      go_enter Try.func24, Try.ntmps24
      go_wp2_with fail
      refine (clock_May.calls k a0_0 A0_1 c0_1 l0_1 true _ (Kd.C_below HR.out (HB0.out _ _)) hc0_1 HM.out).mono ?_
      rintro e w1 ⟨rfl, hb⟩
      have c0w1 : w1.cell? ⟨w.heap.size, 0, none⟩ = some (.int .i64 a0_0) := (hb.cell (by first | omega | (simp; done) | (simp; omega))).trans (by go_simp)
      have c1w1 : w1.cell? ⟨w.heap.size, 1, none⟩ = some (.slice A0_1 l0_1.length c0_1) := (hb.cell (by first | omega | (simp; done) | (simp; omega))).trans (by go_simp)
      have f1w1 : w1.frozen? ⟨w.heap.size, 1, none⟩ = false := (hb.frozen (by first | omega | (simp; done) | (simp; omega))).trans (by go_simp)
      have b0w1 : w1.frozen? ⟨w.heap.size + 1, 0, none⟩ = false := (hb.frozen (by first | omega | (simp; done) | (simp; omega))).trans (by go_simp)
      have b1w1 : w1.frozen? ⟨w.heap.size + 1, 1, none⟩ = false := (hb.frozen (by first | omega | (simp; done) | (simp; omega))).trans (by go_simp)
      have b2w1 : w1.cell? ⟨w.heap.size + 1, 0, none⟩ = some (.int .i64 0) := (hb.cell (by first | omega | (simp; done) | (simp; omega))).trans (by go_simp)
      have b3w1 : w1.cell? ⟨w.heap.size + 1, 1, none⟩ = some (.slice none 0 0) := (hb.cell (by first | omega | (simp; done) | (simp; omega))).trans (by go_simp)
      have hz1 : w.heap.size + 1 < w1.heap.size := by have := hb.size; simp at this; omega
      replace hb := Aside0.mk (below_then (HB0.out _ _) (by simp; omega) hb)
      go_wp2_with fail
      refine (clock_at.calls A0_1 c0_1 l0_1 a1 _ _ (Kd.C_below HR.out hb.out) hc0_1 rfl).mono ?_
      rintro e w2 ⟨rfl, hb2⟩
      have c0w2 : w2.cell? ⟨w.heap.size, 0, none⟩ = some (.int .i64 a0_0) := (hb2.cell (by first | omega | (simp; done) | (simp; omega))).trans c0w1
      have c1w2 : w2.cell? ⟨w.heap.size, 1, none⟩ = some (.slice A0_1 l0_1.length c0_1) := (hb2.cell (by first | omega | (simp; done) | (simp; omega))).trans c1w1
      have f1w2 : w2.frozen? ⟨w.heap.size, 1, none⟩ = false := (hb2.frozen (by first | omega | (simp; done) | (simp; omega))).trans f1w1
      have b0w2 : w2.frozen? ⟨w.heap.size + 1, 0, none⟩ = false := (hb2.frozen (by first | omega | (simp; done) | (simp; omega))).trans b0w1
      have b1w2 : w2.frozen? ⟨w.heap.size + 1, 1, none⟩ = false := (hb2.frozen (by first | omega | (simp; done) | (simp; omega))).trans b1w1
      have b2w2 : w2.cell? ⟨w.heap.size + 1, 0, none⟩ = some (.int .i64 0) := (hb2.cell (by first | omega | (simp; done) | (simp; omega))).trans b2w1
      have b3w2 : w2.cell? ⟨w.heap.size + 1, 1, none⟩ = some (.slice none 0 0) := (hb2.cell (by first | omega | (simp; done) | (simp; omega))).trans b3w1
      clear c0w1 c1w1 f1w1 b0w1 b1w1 b2w1 b3w1
      replace hb2 := Aside0.mk (below_then hb.out hb.out.size hb2)
      go_wp2_with fail
      refine bodyPost_ret (v := .tuple #[.agg #[.int .i64 0, .slice none 0 0], .int .i64 3]) (by simp [results, Try.results24, go_sem, b0w2, b1w2, b2w2, b3w2]) rfl ⟨_, rfl, Kd.R_nil _ _ _ _ _, ?_⟩
      exact below_set (below_set hb2.out (by simp)) (by simp)

    · rename_i hneg
      split at h
      · rename_i hlim
        simp only [Option.some.injEq, Prod.mk.injEq] at h
        obtain ⟨rfl, rfl, rfl⟩ := h
        have hd := decide_eq_false hneg
        go_enter Try.func24, Try.ntmps24
        go_wp2_with fail
        refine (clock_May.calls k a0_0 A0_1 c0_1 l0_1 true _ (Kd.C_below HR.out (HB0.out _ _)) hc0_1 HM.out).mono ?_
        rintro e w1 ⟨rfl, hb⟩
        have c0w1 : w1.cell? ⟨w.heap.size, 0, none⟩ = some (.int .i64 a0_0) := (hb.cell (by first | omega | (simp; done) | (simp; omega))).trans (by go_simp)
        have c1w1 : w1.cell? ⟨w.heap.size, 1, none⟩ = some (.slice A0_1 l0_1.length c0_1) := (hb.cell (by first | omega | (simp; done) | (simp; omega))).trans (by go_simp)
        have f1w1 : w1.frozen? ⟨w.heap.size, 1, none⟩ = false := (hb.frozen (by first | omega | (simp; done) | (simp; omega))).trans (by go_simp)
        have b0w1 : w1.frozen? ⟨w.heap.size + 1, 0, none⟩ = false := (hb.frozen (by first | omega | (simp; done) | (simp; omega))).trans (by go_simp)
        have b1w1 : w1.frozen? ⟨w.heap.size + 1, 1, none⟩ = false := (hb.frozen (by first | omega | (simp; done) | (simp; omega))).trans (by go_simp)
        have b2w1 : w1.cell? ⟨w.heap.size + 1, 0, none⟩ = some (.int .i64 0) := (hb.cell (by first | omega | (simp; done) | (simp; omega))).trans (by go_simp)
        have b3w1 : w1.cell? ⟨w.heap.size + 1, 1, none⟩ = some (.slice none 0 0) := (hb.cell (by first | omega | (simp; done) | (simp; omega))).trans (by go_simp)
        have hz1 : w.heap.size + 1 < w1.heap.size := by have := hb.size; simp at this; omega
        replace hb := Aside0.mk (below_then (HB0.out _ _) (by simp; omega) hb)
        go_wp2_with fail
        refine (clock_at.calls A0_1 c0_1 l0_1 a1 _ _ (Kd.C_below HR.out hb.out) hc0_1 rfl).mono ?_
        rintro e w2 ⟨rfl, hb2⟩
        have c0w2 : w2.cell? ⟨w.heap.size, 0, none⟩ = some (.int .i64 a0_0) := (hb2.cell (by first | omega | (simp; done) | (simp; omega))).trans c0w1
        have c1w2 : w2.cell? ⟨w.heap.size, 1, none⟩ = some (.slice A0_1 l0_1.length c0_1) := (hb2.cell (by first | omega | (simp; done) | (simp; omega))).trans c1w1
        have f1w2 : w2.frozen? ⟨w.heap.size, 1, none⟩ = false := (hb2.frozen (by first | omega | (simp; done) | (simp; omega))).trans f1w1
        have b0w2 : w2.frozen? ⟨w.heap.size + 1, 0, none⟩ = false := (hb2.frozen (by first | omega | (simp; done) | (simp; omega))).trans b0w1
        have b1w2 : w2.frozen? ⟨w.heap.size + 1, 1, none⟩ = false := (hb2.frozen (by first | omega | (simp; done) | (simp; omega))).trans b1w1
        have b2w2 : w2.cell? ⟨w.heap.size + 1, 0, none⟩ = some (.int .i64 0) := (hb2.cell (by first | omega | (simp; done) | (simp; omega))).trans b2w1
        have b3w2 : w2.cell? ⟨w.heap.size + 1, 1, none⟩ = some (.slice none 0 0) := (hb2.cell (by first | omega | (simp; done) | (simp; omega))).trans b3w1
        clear c0w1 c1w1 f1w1 b0w1 b1w1 b2w1 b3w1
        have hz2 : w.heap.size + 1 < w2.heap.size := by have := hb2.size; omega
        replace hb2 := Aside0.mk (below_then hb.out hb.out.size hb2)
        go_wp2_with fail
        refine (api_Frame_23.calls_n l0_1.length _ _ l0_1 _ (Kd.C_below HR.out hb2.out) hc0_1 hlim).mono ?_
        rintro e w3 ⟨v1, rfl, ho, hb3⟩
        have c0w3 : w3.cell? ⟨w.heap.size, 0, none⟩ = some (.int .i64 a0_0) := (hb3.cell (by first | omega | (simp; done) | (simp; omega))).trans c0w2
        have c1w3 : w3.cell? ⟨w.heap.size, 1, none⟩ = some (.slice A0_1 l0_1.length c0_1) := (hb3.cell (by first | omega | (simp; done) | (simp; omega))).trans c1w2
        have f1w3 : w3.frozen? ⟨w.heap.size, 1, none⟩ = false := (hb3.frozen (by first | omega | (simp; done) | (simp; omega))).trans f1w2
        have b0w3 : w3.frozen? ⟨w.heap.size + 1, 0, none⟩ = false := (hb3.frozen (by first | omega | (simp; done) | (simp; omega))).trans b0w2
        have b1w3 : w3.frozen? ⟨w.heap.size + 1, 1, none⟩ = false := (hb3.frozen (by first | omega | (simp; done) | (simp; omega))).trans b1w2
        have b2w3 : w3.cell? ⟨w.heap.size + 1, 0, none⟩ = some (.int .i64 0) := (hb3.cell (by first | omega | (simp; done) | (simp; omega))).trans b2w2
        have b3w3 : w3.cell? ⟨w.heap.size + 1, 1, none⟩ = some (.slice none 0 0) := (hb3.cell (by first | omega | (simp; done) | (simp; omega))).trans b3w2
        clear c0w2 c1w2 f1w2 b0w2 b1w2 b2w2 b3w2
        replace hb3 := Aside0.mk (below_then hb2.out hb2.out.size hb3)
        obtain ⟨i, hi, hil⟩ := clock_at.idx_lt (by omega : 0 ≤ clock_at.idx l0_1 a1)
        have hT := Aside0.mk (show (clock_at.idx l0_1 a1).toNat = i by rw [hi]; rfl)
        rw [hi] at hd ⊢
        clear hneg hi
        obtain ⟨g, cap, rfl, hg1, hg2, cells, HG⟩ := Kd.R_form ho (by omega)
        replace HG := Aside0.mk HG
        obtain ⟨hn, hcc, hC⟩ := Kd.R_reads' ho
        obtain ⟨ad, hA, h0, h1, h2⟩ := clock_at.cells hC i hil
        obtain rfl := Option.some.inj hA
        have e0 : (⟨g, 0, none⟩ : Addr).add (i * 3) = ⟨g, i * 3, none⟩ := add_plain g (i * 3)
        rw [e0] at h0 h1 h2
        replace ho := Aside0.mk ho
        clear hA e0 hC
        go_wp2_with fail
        refine (clock_Pin.clo g (i * 3) _ a a2 _ (bb_far ((hb3.out.cell (World.block_lt_of_cell? w a hc)).trans hc) (by have := World.block_lt_of_cell? w a hc; show a.block ≠ w.heap.size; omega) _) (bb_far h2 (by show g ≠ w.heap.size; omega) _) (bb_ffar (blk_frozen HG.out _) (by show g ≠ w.heap.size; omega) _)).mono ?_
        rintro e w4 ⟨rfl, hw4⟩
        replace hw4 := Aside0.mk hw4
        have d0 : w4.cell? ⟨w.heap.size, 0, none⟩ = some (.int .i64 a0_0) := by rw [← hw4.out]; exact bb_far ((World.cell?_setCell_other _ _ _ _ (by simp)).trans c0w3) (by show w.heap.size ≠ g; omega) _
        have d1 : w4.cell? ⟨w.heap.size, 1, none⟩ = some (.slice (some ⟨g, 0, none⟩) l0_1.length cap) := by rw [← hw4.out]; exact bb_far (World.cell?_setCell_same _ _ _ c1w3) (by show w.heap.size ≠ g; omega) _
        have d2 : w4.cell? ⟨w.heap.size + 1, 0, none⟩ = some (.int .i64 0) := by rw [← hw4.out]; exact bb_far (bb_far b2w3 (by simp) _) (by show w.heap.size + 1 ≠ g; omega) _
        have d3 : w4.cell? ⟨w.heap.size + 1, 1, none⟩ = some (.slice none 0 0) := by rw [← hw4.out]; exact bb_far (bb_far b3w3 (by simp) _) (by show w.heap.size + 1 ≠ g; omega) _
        have d4 : w4.frozen? ⟨w.heap.size + 1, 0, none⟩ = false := by rw [← hw4.out]; exact bb_ffar (bb_ffar b0w3 (by simp) _) (by show w.heap.size + 1 ≠ g; omega) _
        have d5 : w4.frozen? ⟨w.heap.size + 1, 1, none⟩ = false := by rw [← hw4.out]; exact bb_ffar (bb_ffar b1w3 (by simp) _) (by show w.heap.size + 1 ≠ g; omega) _
        have hR4 := Aside0.mk (show Kd.R k32 32 w4 w2.heap.size (fun _ => True) (.slice (some ⟨g, 0, none⟩) l0_1.length cap) (l0_1.set i (clock_Pin.turn a2 (l0_1.getD i z32))) from by
          rw [← hw4.out]
          exact clock_at.setc (R_farB ho.out (by show w.heap.size < w2.heap.size; omega) _) i hil 2 (by decide) _ _ rfl)
        have hB4 := Aside0.mk (show Below w.heap.size w w4 from by
          rw [← hw4.out]
          exact below_set (below_set hb3.out (Nat.le_refl _)) (by show w.heap.size ≤ g; omega))
        clear c0w3 c1w3 f1w3 b0w3 b1w3 b2w3 b3w3 h0 h1 h2 hn hd hcc hw4 HG ho
        go_wp2_with fail
        refine bodyPost_ret (v := .tuple #[.agg #[.int .i64 a0_0, .slice (some ⟨g, 0, none⟩) l0_1.length cap], .int .i64 0]) (by simp [results, Try.results24, go_sem, d2, d3, d4, d5]) rfl ⟨_, rfl, ?_, ?_⟩
        · rw [hT.out]
          exact Kd.R_lower (R_farB (R_farB hR4.out (by show w.heap.size + 1 < w2.heap.size; omega) _) (by show w.heap.size + 1 < w2.heap.size; omega) _) (by omega)
        · exact below_set (below_set hB4.out (by simp)) (by simp)
      · exact absurd h (by simp)
  · rw [if_neg hok] at h
    simp only [Option.some.injEq, Prod.mk.injEq] at h
    obtain ⟨rfl, rfl, rfl⟩ := h
    obtain rfl : ok = false := by simpa using hok
    clear hok
    go_enter Try.func24, Try.ntmps24
    go_wp2_with fail
    refine (clock_May.calls k a0_0 A0_1 c0_1 l0_1 false _ (Kd.C_below HR.out (HB0.out _ _)) hc0_1 HM.out).mono ?_
    rintro e w1 ⟨rfl, hb⟩
    have c0w1 : w1.cell? ⟨w.heap.size, 0, none⟩ = some (.int .i64 a0_0) := (hb.cell (by first | omega | (simp; done) | (simp; omega))).trans (by go_simp)
    have c1w1 : w1.cell? ⟨w.heap.size, 1, none⟩ = some (.slice A0_1 l0_1.length c0_1) := (hb.cell (by first | omega | (simp; done) | (simp; omega))).trans (by go_simp)
    have f1w1 : w1.frozen? ⟨w.heap.size, 1, none⟩ = false := (hb.frozen (by first | omega | (simp; done) | (simp; omega))).trans (by go_simp)
    have b0w1 : w1.frozen? ⟨w.heap.size + 1, 0, none⟩ = false := (hb.frozen (by first | omega | (simp; done) | (simp; omega))).trans (by go_simp)
    have b1w1 : w1.frozen? ⟨w.heap.size + 1, 1, none⟩ = false := (hb.frozen (by first | omega | (simp; done) | (simp; omega))).trans (by go_simp)
    have b2w1 : w1.cell? ⟨w.heap.size + 1, 0, none⟩ = some (.int .i64 0) := (hb.cell (by first | omega | (simp; done) | (simp; omega))).trans (by go_simp)
    have b3w1 : w1.cell? ⟨w.heap.size + 1, 1, none⟩ = some (.slice none 0 0) := (hb.cell (by first | omega | (simp; done) | (simp; omega))).trans (by go_simp)
    have hz1 : w.heap.size + 1 < w1.heap.size := by have := hb.size; simp at this; omega
    replace hb := Aside0.mk (below_then (HB0.out _ _) (by simp; omega) hb)
    go_wp2_with fail
    refine bodyPost_ret (v := .tuple #[.agg #[.int .i64 0, .slice none 0 0], .int .i64 1]) (by simp [results, Try.results24, go_sem, b0w1, b1w1, b2w1, b3w1]) rfl ⟨_, rfl, Kd.R_nil _ _ _ _ _, ?_⟩
    exact below_set (below_set hb.out (by simp)) (by simp)
set_option maxHeartbeats 1000000 in
set_option maxRecDepth 100000 in
theorem clock_Pin.calls (k : Nat) (a0_0 : Int) (A0_1 : Option Addr) (c0_1 : Nat) (l0_1 : List S32) (a1 : Int) (a2 : Bool) (r1 : Int) (r2 : List S32) (r3 : Int) (w : World) (hr0_1 : Kd.C k32 w A0_1 l0_1.length l0_1) (hc0_1 : l0_1.length ≤ c0_1) (h : clock_Pin.f k a0_0 l0_1 a1 a2 = some (r1, r2, r3)) :
    Calls Try.prog 15 #[.agg #[.int .i64 a0_0, .slice A0_1 l0_1.length c0_1], .int .i64 a1, .bool a2] w fun e w' => ∃ v1_ : Value, e = .returned (.tuple #[.agg #[.int .i64 r1, v1_], .int .i64 r3]) ∧ Kd.R k32 32 w' w.heap.size (fun _ => True) v1_ r2 ∧ Below w.heap.size w w' := by
  have HR := Aside0.mk hr0_1
  clear hr0_1
  have HB0 := Aside0.mk (fun (o1 o2 o3 : Obj) => below_alloc (below_alloc (below_alloc (Below.refl w.heap.size w) o1) o2) o3)
  go_enter Try.func15, Try.ntmps15
  go_wp2_with fail
  refine (clock_Pin.with_ k a0_0 A0_1 c0_1 l0_1 a1 a2 r1 r2 r3 ⟨w.heap.size + 1, 0, none⟩ _ (by go_simp) (Kd.C_below HR.out (HB0.out _ _ _)) hc0_1 h).mono ?_
  rintro e w1 ⟨v1, rfl, ho, hb⟩
  have b0 : w1.frozen? ⟨w.heap.size + 2, 0, none⟩ = false := (hb.frozen (by first | omega | (simp; done) | (simp; omega))).trans (by go_simp)
  have b1 : w1.frozen? ⟨w.heap.size + 2, 1, none⟩ = false := (hb.frozen (by first | omega | (simp; done) | (simp; omega))).trans (by go_simp)
  have b2 : w1.cell? ⟨w.heap.size + 2, 0, none⟩ = some (.int .i64 0) := (hb.cell (by first | omega | (simp; done) | (simp; omega))).trans (by go_simp)
  have b3 : w1.cell? ⟨w.heap.size + 2, 1, none⟩ = some (.slice none 0 0) := (hb.cell (by first | omega | (simp; done) | (simp; omega))).trans (by go_simp)
  obtain ⟨A1, c1, rfl⟩ := Kd.R_slice ho
  replace ho := Aside0.mk (Kd.R_lower (base' := w.heap.size + 2 + 1) ho (by simp))
  replace hb := Aside0.mk (below_then (HB0.out _ _ _) (by simp; omega) hb)
  go_wp2_with fail
  refine bodyPost_ret (v := .tuple #[.agg #[.int .i64 r1, .slice A1 r2.length c1], .int .i64 r3]) (by simp [results, Try.results15, go_sem, b0, b1, b2, b3]) rfl ⟨_, rfl, ?_, ?_⟩
  · exact Kd.R_lower (R_farB (R_farB ho.out (by simp) _) (by simp) _) (by omega)
  · exact below_set (below_set hb.out (by omega)) (by omega)

end Go.Proofs.Ytoklljioloekmaa.Print
