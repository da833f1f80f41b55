/- The walk of BytJoins: calls that are made one behind the other make the bytes that each part of them makes. -/
import Derived.Test.YtkniklgecmdeoaaBytWrote
namespace Go.Proofs.Ytkniklgecmdeoaa.Print
open Go.RowKit Go.Proofs.YtkniklgecmdeoaaW.PrintWords Go.Proofs.YtkniklgecmdeoaaW.PrintLast Go.Proofs.YtkniklgecmdeoaaW.PrintMore Go.Proofs.Ytkniklgecmdeoaa.Pure
set_option linter.unusedVariables false
set_option linter.unusedSimpArgs false
theorem infoOp : (Try.prog.info? 30).map (fun i => (i.zero, i.size, i.bytes)) = some (some (.agg #[(.bool false), (.int .i64 0), (.int .i64 0), (.slice none 0 0)]), 4, 48) := by kernel_rfl
theorem heapOp : Kd.Heap k30 := Kd.heap_iso _ (Kd.heap_pair Kd.heap_bool (Kd.heap_pair (Kd.heap_int _) (Kd.heap_pair (Kd.heap_int _) (Kd.heap_slice _ (Kd.heap_int _)))))
theorem each_append {a b : List S30} (ha : Small a) (hb : Small b) : ∀ i, i < (a ++ b).length → (go_ (a ++ b) i).f3.length ≤ 600 := by
  intro i hi
  rw [List.length_append] at hi
  unfold go_
  rcases Nat.lt_or_ge i a.length with h | h
  · have := ha.each i h
    rwa [List.getD_eq_getElem?_getD, List.getElem?_append_left h, ← List.getD_eq_getElem?_getD]
  · have := hb.each (i - a.length) (by omega)
    rwa [List.getD_eq_getElem?_getD, List.getElem?_append_right h, ← List.getD_eq_getElem?_getD]
set_option maxHeartbeats 1000000 in
set_option maxRecDepth 100000 in
theorem bobbinlaw01_BytJoins.walk (A0 : Option Addr) (c0 : Nat) (l0 : List S30) (A1 : Option Addr) (c1 : Nat) (l1 : List S30) (w : World) (hr0 : Kd.C k30 w A0 l0.length l0) (hc0 : l0.length ≤ c0) (hr1 : Kd.C k30 w A1 l1.length l1) (hc1 : l1.length ≤ c1) :
    Calls Try.prog 4 #[.slice A0 l0.length c0, .slice A1 l1.length c1] w fun e w' => e = .returned (.bool true) ∧ Below w.heap.size w w' := by
  have HR : ∀ {X : World}, Below w.heap.size w X → Kd.C k30 X A0 l0.length l0 := fun hb => Kd.C_below hr0 hb
  have HS : ∀ {X : World}, Below w.heap.size w X → Kd.C k30 X A1 l1.length l1 := fun hb => Kd.C_below hr1 hb
  replace HR := Aside0.mk @HR
  replace HS := Aside0.mk @HS
  have F0 := Aside0.mk (Kd.C_F heapOp hr0)
  have F1 := Aside0.mk (Kd.C_F heapOp hr1)
  have h63 : l0.length ≤ 9223372036854775807 := hr0.2.1
  have h64 : l1.length ≤ 9223372036854775807 := hr1.2.1
  clear hr0 hr1
  obtain ⟨ok, hsm, hfew⟩ := few_calls l0
  obtain ⟨ok1, hsm1, hfew1⟩ := few_calls l1
  replace hfew := Aside0.mk hfew
  replace hfew1 := Aside0.mk hfew1
  have haw := Aside0.mk awake_calls
  go_enter Try.func4, Try.ntmps4
  go_wp2_with fail
  refine (haw.out _).mono ?_
  rintro e w1 ⟨rfl, hb1⟩
  replace hb1 := Aside0.mk hb1
  go_wp2_with fail
  refine (hfew.out A0 c0 _ (HR.out hb1.out) hc0).mono ?_
  rintro e w2 ⟨rfl, hd2⟩
  have hb2 := Aside0.mk (below_then hb1.out hb1.out.size hd2)
  clear hd2
  go_wp2_with fail
  refine (hfew1.out A1 c1 _ (HS.out hb2.out) hc1).mono ?_
  rintro e w3 ⟨rfl, hd3⟩
  have hb3 := Aside0.mk (below_then hb2.out hb2.out.size hd3)
  clear hd3
  cases ok with
  | false =>
    go_wp2_with fail
    go_ret
    exact ⟨rfl, hb3.out⟩
  | true =>
  cases ok1 with
  | false =>
    go_wp2_with fail
    go_ret
    exact ⟨rfl, hb3.out⟩
  | true =>
  replace hsm := hsm rfl
  replace hsm1 := hsm1 rfl
  have hlen := hsm.len
  have hlen1 := hsm1.len
  have hea := Aside0.mk (each_append hsm hsm1)
  replace hsm := Aside0.mk hsm
  replace hsm1 := Aside0.mk hsm1
  go_wp2_with (first | ((with_reducible refine gate_builtin (b := .append) (xs := #[.const (.slice none 0 0), .tmp 25]) rfl ?_); at_builtin; refine Kd.N_append_rows k30 (w0 := w) w.heap.size rfl (.const (.slice none 0 0)) (.tmp 25) 22 30 (.agg #[(.bool false), (.int .i64 0), (.int .i64 0), (.slice none 0 0)]) 48 rfl Try.underlying22 infoOp rfl (by decide) (by decide) (.slice none 0 0) [] l0 A0 l0.length c0 (fun _ => True) (fun k => k < w.heap.size) rfl rfl (Kd.N_nil _ _ _ _ _) ?aF (fun _ _ => ⟨trivial, by simp [Value.ownBlock]⟩) (fun _ _ => trivial) hb3.out hb3.out.size ?aL ?_; (case aF => exact Kd.F_below F0.out hb3.out); (case aL => simp; omega); intro v4 w4 hN4 hb4 _ _; replace hN4 := Aside0.mk hN4; replace hb4 := Aside0.mk hb4) | ((with_reducible refine gate_builtin (b := .append) (xs := #[.tmp 26, .tmp 27]) rfl ?_); at_builtin; refine Kd.N_append_rows k30 (w0 := w) w.heap.size rfl (.tmp 26) (.tmp 27) 22 30 (.agg #[(.bool false), (.int .i64 0), (.int .i64 0), (.slice none 0 0)]) 48 rfl Try.underlying22 infoOp rfl (by decide) (by decide) v4 l0 l1 A1 l1.length c1 (fun _ => True) (fun k => k < w.heap.size) rfl rfl hN4.out ?aF (fun k hk => ⟨trivial, fun he => by have := Kd.N_base hN4.out k he.symm; omega⟩) (fun _ _ => trivial) hb4.out hb4.out.size ?aL ?_; (case aF => exact Kd.F_below F1.out hb4.out); (case aL => omega); intro v5 w5 hN5 hb5 _ _; replace hN5 := Aside0.mk hN5; replace hb5 := Aside0.mk hb5))
  obtain ⟨A5, c5, hv5, hl5, hC5⟩ := Kd.N_reads hN5.out
  have hll : (l0 ++ l1).length = l0.length + l1.length := List.length_append
  have hob : opsB (l0 ++ l1) = opsB l0 ++ opsB l1 := by unfold opsB; rw [List.flatMap_append]
  have hlb0 := opsB_len l0
  have hlb1 := opsB_len l1
  have hlt : (opsB l0).length ≤ 700 * 60 := by omega
  have hlt1 : (opsB l1).length ≤ 700 * 60 := by omega
  clear hlb0 hlb1
  generalize l0 ++ l1 = m at *
  subst hv5
  have HM : ∀ {X : World}, Below w5.heap.size w5 X → Kd.C k30 X A5 m.length m := fun hb => Kd.C_below hC5 hb
  replace HM := Aside0.mk @HM
  have fin : ∀ {X : World}, Below w5.heap.size w5 X → Below w.heap.size w X := fun h => below_then hb5.out hb5.out.size h
  replace fin := Aside0.mk @fin
  clear hC5
  replace hll := Aside0.mk hll
  replace hob := Aside0.mk hob
  replace hlt := Aside0.mk hlt
  replace hlt1 := Aside0.mk hlt1
  refine (wrote_calls A5 c5 m w5 (HM.out (Below.refl _ _)) hl5 (by have := hll.out; omega) hea.out).mono ?_
  rintro e w6 ⟨v6, rfl, hR6, hd6⟩
  obtain ⟨A6, c6, rfl, hl6, hC6⟩ := Kd.R_reads hR6
  replace hC6 := Aside0.mk hC6
  have hb6 := Aside0.mk hd6
  clear hR6 hd6
  go_wp2_with fail
  refine (wrote_calls A0 c0 l0 _ (HR.out (fin.out hb6.out)) hc0 (by omega) hsm.out.each).mono ?_
  rintro e w7 ⟨v7, rfl, hR7, hd7⟩
  have hb7 := Aside0.mk (below_then hb6.out hb6.out.size hd7)
  obtain ⟨A7, c7, rfl⟩ := Kd.R_slice hR7
  have hR7b := Aside0.mk hd7
  replace hR7 := Aside0.mk hR7
  clear hd7
  go_wp2_with fail
  refine (wrote_calls A1 c1 l1 _ (HS.out (fin.out hb7.out)) hc1 (by omega) hsm1.out.each).mono ?_
  rintro e w8 ⟨v8, rfl, hR8, hd8⟩
  obtain ⟨A8, c8, rfl, hl8, hC8⟩ := Kd.R_reads hR8
  have hb78 := Aside0.mk (below_then (Below.refl w6.heap.size w6) (Nat.le_refl _) (below_then (hR7b.out) hR7b.out.size hd8))
  have hR78 := Aside0.mk (Kd.R_below hR7.out hd8)
  have hb8 := Aside0.mk (below_then hb7.out hb7.out.size hd8)
  clear hR8 hd8
  replace hC8 := Aside0.mk hC8
  generalize hB0 : opsB l0 = B0 at *
  generalize hB1 : opsB l1 = B1 at *
  generalize hBm : opsB m = Bm at *
  replace hB0 := Aside0.mk hB0
  replace hB1 := Aside0.mk hB1
  replace hBm := Aside0.mk hBm
  generalize hq0 : B0.length = q0 at hR78 hlt
  generalize hq1 : B1.length = q1 at hC8 hl8 hlt1
  replace hq0 := Aside0.mk hq0
  replace hq1 := Aside0.mk hq1
  go_wp2_with ((with_reducible refine gate_builtin (b := .append) (xs := #[.tmp 32, .tmp 34]) rfl ?_); at_builtin; refine Kd.R_append_rows (Kd.int .u8) (w0 := w6) w6.heap.size rfl (.tmp 32) (.tmp 34) 26 5 (.int .u8 0) 1 rfl Try.underlying26 info5 rfl (by decide) (by decide) (.slice A7 q0 c7) B0 B1 A8 q1 c8 (fun _ => True) (fun _ => False) rfl rfl hR78.out hC8.out (fun _ _ h => h) (fun _ h => h.elim) (fun _ _ => trivial) hb78.out hb78.out.size (by have := hlt.out; have := hlt1.out; have := hq0.out; omega) ?_; intro v9 w9 hR9 hb9 _ _; generalize hB2 : B0 ++ B1 = B2 at hR9; replace hB2 := Aside0.mk hB2; obtain ⟨A9, c9, rfl, hl9, hC9⟩ := Kd.R_reads hR9; replace hb9 := Aside0.mk hb9; replace hC9 := Aside0.mk hC9; clear hR9)
  refine (ref_same A6 A9 c6 c9 Bm B2 _ (Kd.C_below hC6.out hb9.out) hl6 hC9.out hl9 (by rw [hob.out, List.length_append]; have := hlt.out; have := hlt1.out; have := hq0.out; have := hq1.out; omega) true (decide_eq_true (hob.out.trans hB2.out))).mono ?_
  rintro e w10 ⟨rfl, hd10⟩
  have hb10 := Aside0.mk (fin.out (below_then hb6.out hb6.out.size (below_then hb9.out hb9.out.size hd10.below)))
  clear hd10
  go_wp2_with fail
  go_ret
  exact ⟨rfl, hb10.out⟩
def bobbinlaw01_BytJoins.f (l0 : List S30) (l1 : List S30) : Option Bool := some true
theorem bobbinlaw01_BytJoins.calls (A0 : Option Addr) (c0 : Nat) (l0 : List S30) (A1 : Option Addr) (c1 : Nat) (l1 : List S30) (r : Bool) (w : World) (hr0 : Kd.C k30 w A0 l0.length l0) (hc0 : l0.length ≤ c0) (hr1 : Kd.C k30 w A1 l1.length l1) (hc1 : l1.length ≤ c1) (h : bobbinlaw01_BytJoins.f l0 l1 = some r) :
    Calls Try.prog 4 #[.slice A0 l0.length c0, .slice A1 l1.length c1] w fun e w' => e = .returned (.bool r) ∧ Below w.heap.size w w' := by
  obtain rfl := Option.some.inj h
  exact bobbinlaw01_BytJoins.walk A0 c0 l0 A1 c1 l1 w hr0 hc0 hr1 hc1
end Go.Proofs.Ytkniklgecmdeoaa.Print
