/- TxnAdds. -/
import Derived.Test.YtdbbibndjknafaaTxAd
namespace Go.Proofs.Ytdbbibndjknafaa.Print
open Go.RowKit Go.Proofs.YtdbbibndjknafaaW.PrintWords Go.Proofs.YtdbbibndjknafaaW.PrintLast Go.Proofs.YtdbbibndjknafaaW.PrintMore
set_option linter.unusedVariables false
set_option linter.unusedSimpArgs false
theorem info25a : (Try.prog.info? 25).map (fun i => (i.zero, i.size, i.bytes)) = some (some (.agg #[(.int .i64 0), (.int .i64 0), (.int .i64 0), (.int .i64 0), (.slice none 0 0), (.slice none 0 0)]), 6, 80) := by kernel_rfl
set_option maxHeartbeats 4000000 in
set_option maxRecDepth 100000 in
theorem adds_walk (A0 : Option Addr) (c0 : Nat) (l : List S25) (A1 : Option Addr) (c1 : Nat) (l1 : List S25) (p : Int) (c : S30) (D4 : Option Addr) (e4 : Nat) (D6 : Option Addr) (e6 : Nat) (w : World) (haw : ∀ w : World, Calls Try.prog 10 #[] w fun e w' => e = .returned (.bool true) ∧ Below w.heap.size w w') (h : Kd.C k25 w A0 l.length l) (hc0 : l.length ≤ c0) (h1 : Kd.C k25 w A1 l1.length l1) (hc1 : l1.length ≤ c1) (hc : CF w (fun k => k < w.heap.size) c D4 e4 D6 e6) (hl20 : l.length ≤ 20) (hm20 : l1.length ≤ 20) (hv3 : c.f3.f1.length ≤ 100) (hv4 : c.f4.f1.length ≤ 100) :
    Calls Try.prog 8 #[.slice A0 l.length c0, .slice A1 l1.length c1, .int .i64 p, .agg #[.int .i64 c.f0, .int .i64 c.f1, .int .i64 c.f2, .bool c.f3.f0, .slice D4 c.f3.f1.length e4, .bool c.f4.f0, .slice D6 c.f4.f1.length e6]] w fun e w' => e = .returned (.bool true) ∧ Below w.heap.size w w' := by
  have HL := Aside0.mk (fun X (hb : Below w.heap.size w X) => Kd.C_below h hb)
  have HM := Aside0.mk (fun X (hb : Below w.heap.size w X) => Kd.C_below h1 hb)
  have FL := Aside0.mk (Kd.C_F heap25 h)
  have FM := Aside0.mk (Kd.C_F heap25 h1)
  have f1 : decide ((l.length : Int) > 20) = false := by simp; omega
  have f2 : decide ((l1.length : Int) > 20) = false := by simp; omega
  have f3 : decide ((c.f3.f1.length : Int) > 100) = false := by simp; omega
  have f4 : decide ((c.f4.f1.length : Int) > 100) = false := by simp; omega
  have HB : Aside0 (Below w.heap.size w (w.alloc (.cells #[.int .i64 c.f0, .int .i64 c.f1, .int .i64 c.f2, .bool c.f3.f0, .slice D4 c.f3.f1.length e4, .bool c.f4.f0, .slice D6 c.f4.f1.length e6] 30))) := ⟨below_alloc (Below.refl _ _) _⟩
  have K7 : Aside0 (BC (w.alloc (.cells #[.int .i64 c.f0, .int .i64 c.f1, .int .i64 c.f2, .bool c.f3.f0, .slice D4 c.f3.f1.length e4, .bool c.f4.f0, .slice D6 c.f4.f1.length e6] 30)) w.heap.size c D4 e4 D6 e6) := ⟨⟨heap_alloc_new _ _, (hc.mono (fun _ _ => trivial)).below (below_alloc (Below.refl _ _) _)⟩⟩
  replace haw := Aside0.mk haw
  have hv := Aside0.mk (And.intro hv3 hv4)
  replace hl20 := Aside0.mk hl20
  replace hm20 := Aside0.mk hm20
  clear h h1 hc hv3 hv4
  go_enter Try.func8, Try.ntmps8
  go_wp2_with fail
  generalize w.alloc _ = w1 at *
  refine (haw.out w1).mono ?_
  rintro e w2 ⟨rfl, hb⟩
  replace K7 := Aside0.mk (K7.out.below hb)
  replace HB := Aside0.mk (HB.out.trans (hb.mono HB.out.size))
  clear hb
  obtain ⟨q0, q1, q2, q3, q4, q5, q6⟩ := seven_at K7.out.box
  have q7 : w2.cell? ⟨w.heap.size, 3 + 1, none⟩ = some (.slice D4 c.f3.f1.length e4) := q4
  have q8 : w2.cell? ⟨w.heap.size, 5 + 1, none⟩ = some (.slice D6 c.f4.f1.length e6) := q6
  have HI0 : Aside0 (Below w2.heap.size w2 w2 ∧ ∀ t ∈ l.take 0, LightP t) := ⟨Below.refl _ _, fun t ht => by simp at ht⟩
  go_wp2_with fail
  clear q0 q1 q2 q3 q4 q5 q6 q7 q8
  go_loopw [10] (fun v10 wr => ∃ i : Nat, i ≤ l.length ∧ v10 = .int .i64 i ∧ Aside0 (Below w2.heap.size w2 wr ∧ ∀ t ∈ l.take i, LightP t)) (fun v10 _ => l.length - (intOf v10).toNat)
  case atStart => exact ⟨0, Nat.zero_le _, rfl, HI0⟩
  case round =>
    clear HI0
    obtain ⟨i, hi, rfl, HI⟩ := hrel
    have HBr := Aside0.mk (HB.out.trans (HI.out.1.mono HB.out.size))
    by_cases hli : i < l.length
    · obtain ⟨ad, A4, c4, A5, c5, rfl, z0, z1, z2, z3, z4, z5, hT⟩ := at_TX (HL.out wr HBr.out) i hli
      have htk : l.take (i + 1) = l.take i ++ [rd_T25 l i] := by
        unfold rd_T25
        rw [show ((i : Int)).toNat = i by omega, List.take_succ_eq_append_getElem hli, List.getD_eq_getElem?_getD, List.getElem?_eq_getElem hli]
        rfl
      replace htk := Aside0.mk htk
      generalize rd_T25 l i = t at *
      replace hT := Aside0.mk hT
      go_wp2_with fail
      refine (rlight_any t A4 c4 A5 c5 hT.out).mono ?_
      rintro e w3 ⟨rfl, hb⟩
      have HB3 := Aside0.mk (HI.out.1.trans (hb.mono HI.out.1.size))
      clear hb z0 z1 z2 z3 z4 z5
      cases hlt : lightT t
      · go_wp2_with fail
        go_ret
        exact ⟨rfl, HB.out.trans (HB3.out.mono HB.out.size)⟩
      · have HI2 : Aside0 (Below w2.heap.size w2 w3 ∧ ∀ t ∈ l.take (i + 1), LightP t) := ⟨HB3.out, fun x hx => by
          rw [htk.out] at hx
          rcases List.mem_append.1 hx with e | e
          · exact HI.out.2 x e
          · simp at e
            rw [e]
            exact lightT_true.1 hlt⟩
        go_wp2_with fail
        go_roundw
        case rel => exact ⟨i + 1, by omega, by rw [wr64 (by have := hl20.out; omega) (by have := hl20.out; omega)]; go_num, HI2⟩
        case measure => exact meas_lt hli (Nat.le_trans hl20.out (by decide))
    · obtain rfl : i = l.length := by omega
      have hL := HI.out.2
      rw [List.take_length] at hL
      replace hL := Aside0.mk hL
      have HJ0 : Aside0 (Below w2.heap.size w2 wr ∧ ∀ t ∈ l1.take 0, LightP t) := ⟨HI.out.1, fun t ht => by simp at ht⟩
      clear HI HBr
      go_wp2_with fail
      go_loopw [12] (fun v12 wr => ∃ i : Nat, i ≤ l1.length ∧ v12 = .int .i64 i ∧ Aside0 (Below w2.heap.size w2 wr ∧ ∀ t ∈ l1.take i, LightP t)) (fun v12 _ => l1.length - (intOf v12).toNat)
      case atStart => exact ⟨0, Nat.zero_le _, rfl, HJ0⟩
      case round =>
        clear HJ0 hli hi
        obtain ⟨i, hi, rfl, HI⟩ := hrel
        have HBr := Aside0.mk (HB.out.trans (HI.out.1.mono HB.out.size))
        by_cases hli : i < l1.length
        · obtain ⟨ad, A4, c4, A5, c5, rfl, z0, z1, z2, z3, z4, z5, hT⟩ := at_TX (HM.out wr HBr.out) i hli
          have htk : l1.take (i + 1) = l1.take i ++ [rd_T25 l1 i] := by
            unfold rd_T25
            rw [show ((i : Int)).toNat = i by omega, List.take_succ_eq_append_getElem hli, List.getD_eq_getElem?_getD, List.getElem?_eq_getElem hli]
            rfl
          replace htk := Aside0.mk htk
          generalize rd_T25 l1 i = t at *
          replace hT := Aside0.mk hT
          go_wp2_with fail
          refine (rlight_any t A4 c4 A5 c5 hT.out).mono ?_
          rintro e w3 ⟨rfl, hb⟩
          have HB3 := Aside0.mk (HI.out.1.trans (hb.mono HI.out.1.size))
          clear hb z0 z1 z2 z3 z4 z5
          cases hlt : lightT t
          · go_wp2_with fail
            go_ret
            exact ⟨rfl, HB.out.trans (HB3.out.mono HB.out.size)⟩
          · have HI2 : Aside0 (Below w2.heap.size w2 w3 ∧ ∀ t ∈ l1.take (i + 1), LightP t) := ⟨HB3.out, fun x hx => by
              rw [htk.out] at hx
              rcases List.mem_append.1 hx with e | e
              · exact HI.out.2 x e
              · simp at e
                rw [e]
                exact lightT_true.1 hlt⟩
            go_wp2_with fail
            go_roundw
            case rel => exact ⟨i + 1, by omega, by rw [wr64 (by have := hm20.out; omega) (by have := hm20.out; omega)]; go_num, HI2⟩
            case measure => exact meas_lt hli (Nat.le_trans hm20.out (by decide))
        · obtain rfl : i = l1.length := by omega
          have hM := HI.out.2
          rw [List.take_length] at hM
          replace hM := Aside0.mk hM
          have hw := Aside0.mk HI.out.1
          clear HI
          have K7r := Aside0.mk (K7.out.below hw.out)
          have hnl : l.length ≤ 20 := hl20.out
          have hnm : l1.length ≤ 20 := hm20.out
          go_wp2_with (first
            | ((with_reducible refine gate_builtin (b := .append) (xs := #[.const (.slice none 0 0), .tmp 71]) rfl ?_); at_builtin; refine N_append_rows k25 (w0 := wr) wr.heap.size rfl (.const (.slice none 0 0)) (.tmp 71) 46 25 (.agg #[(.int .i64 0), (.int .i64 0), (.int .i64 0), (.int .i64 0), (.slice none 0 0), (.slice none 0 0)]) 80 rfl Try.underlying46 info25a rfl (by decide) (by omega) (.slice none 0 0) [] l A0 l.length c0 (fun _ => True) (fun k => k < w.heap.size) rfl rfl ?aO ?aY ?aQ (fun _ _ => trivial) ?aB (Nat.le_refl _) ?aL ?_; (case aO => exact Kd.N_nil _ _ _ _ _); (case aY => exact Kd.F_below FL.out HBr.out); (case aQ => exact fun k hk => ⟨trivial, fun e => by cases e⟩); (case aB => exact Below.refl _ _); (case aL => simp only [List.length_nil]; omega); intro v2 w5 ho hb hg hat; rw [List.nil_append] at ho; obtain ⟨A14, c14, rfl⟩ := Kd.N_slice ho; replace ho := Aside0.mk ho; replace hb := Aside0.mk hb; clear hg hat)
            | ((with_reducible refine gate_builtin (b := .append) (xs := #[.tmp 72, .tmp 73]) rfl ?_); at_builtin; refine N_append_rows k25 (w0 := wr) wr.heap.size rfl (.tmp 72) (.tmp 73) 46 25 (.agg #[(.int .i64 0), (.int .i64 0), (.int .i64 0), (.int .i64 0), (.slice none 0 0), (.slice none 0 0)]) 80 rfl Try.underlying46 info25a rfl (by decide) (by omega) (.slice A14 l.length c14) l l1 A1 l1.length c1 (fun _ => True) (fun k => k < w.heap.size) rfl rfl ?aO ?aY ?aQ (fun _ _ => trivial) ?aB ?aS ?aL ?_; (case aO => exact ho.out); (case aY => exact Kd.F_below FM.out (HBr.out.trans (hb.out.mono HBr.out.size))); (case aQ => exact fun k hk => ⟨trivial, fun e => by have := N_base ho.out k e.symm; have := HBr.out.size; omega⟩); (case aB => exact hb.out); (case aS => exact hb.out.size); (case aL => omega); intro v3 w6 ho2 hb2 hg hat; obtain ⟨A15, c15, rfl⟩ := Kd.N_slice ho2; replace ho2 := Aside0.mk ho2; replace hb2 := Aside0.mk hb2; clear hg hat; have K76 := Aside0.mk (K7r.out.below hb2.out); obtain ⟨q0, q1, q2, q3, q4, q5, q6⟩ := seven_at K76.out.box))
          have hal := below_alloc (below_alloc (Below.refl w6.heap.size w6) (.cells #[.int .i64 c.f0, .int .i64 c.f1, .int .i64 c.f2, .bool c.f3.f0, .slice D4 c.f3.f1.length e4, .bool c.f4.f0, .slice D6 c.f4.f1.length e6] 30)) (.cells #[.int .i64 0, .int .i64 0, .int .i64 0, .int .i64 0, .slice (some ⟨w6.heap.size, 0, none⟩) 1 1, .slice none 0 0] 25)
          have hs1 : (w6.alloc (.cells #[.int .i64 c.f0, .int .i64 c.f1, .int .i64 c.f2, .bool c.f3.f0, .slice D4 c.f3.f1.length e4, .bool c.f4.f0, .slice D6 c.f4.f1.length e6] 30)).heap.size = w6.heap.size + 1 := World.size_alloc ..
          have hg1 := blk_alloc (heap_alloc_new w6 (.cells #[.int .i64 c.f0, .int .i64 c.f1, .int .i64 c.f2, .bool c.f3.f0, .slice D4 c.f3.f1.length e4, .bool c.f4.f0, .slice D6 c.f4.f1.length e6] 30)) (.cells #[.int .i64 0, .int .i64 0, .int .i64 0, .int .i64 0, .slice (some ⟨w6.heap.size, 0, none⟩) 1 1, .slice none 0 0] 25)
          have hg2 := heap_alloc_new (w6.alloc (.cells #[.int .i64 c.f0, .int .i64 c.f1, .int .i64 c.f2, .bool c.f3.f0, .slice D4 c.f3.f1.length e4, .bool c.f4.f0, .slice D6 c.f4.f1.length e6] 30)) (.cells #[.int .i64 0, .int .i64 0, .int .i64 0, .int .i64 0, .slice (some ⟨w6.heap.size, 0, none⟩) 1 1, .slice none 0 0] 25)
          rw [hs1] at hg2
          have hK1 := own_any1 c p hv.out (K76.out.below hal).cf w6.heap.size (w6.heap.size + 1) hg1 hg2
          clear hs1 hg1 hg2 q0 q1 q2 q3 q4 q5 q6
          generalize World.alloc _ _ = w7 at *
          refine hK1.mono ?_
          clear hK1
          rintro e w8 ⟨rfl, hb8⟩
          have hw8 := Aside0.mk (hb2.out.trans ((hal.trans (hb8.mono hal.size)).mono hb2.out.size))
          have h68 := Aside0.mk (hal.trans (hb8.mono hal.size))
          clear hal hb8
          have hm0 := (moreT_bd (p := p) hv.out).1
          have hmp : ¬ c.f1 = p → moreT p c = 0 := fun e => by unfold moreT; rw [if_neg e]
          generalize moreT p c = ow at *
          have K78 := Aside0.mk (K76.out.below h68.out)
          obtain ⟨q0, q1, q2, q3, q4, q5, q6⟩ := seven_at K78.out.box
          have hNC := Kd.N_reads' ho2.out
          have HK := Aside0.mk (fun X (hX : Below w8.heap.size w8 X) => show Calls Try.prog 25 #[.slice A15 (l.length + l1.length) c15, .int .i64 p] X fun e w' => e = .returned (.int .i64 (keptT p l + keptT p l1)) ∧ Below X.heap.size X w' from by
            have hh := txn_Kept.calls 1000 A15 c15 (l ++ l1) p _ X (Kd.C_below hNC.2.2 (h68.out.trans (hX.mono h68.out.size))) hNC.2.1 (kept_f p (l ++ l1) (fun t ht => by rcases List.mem_append.1 ht with e | e; exact hL.out t e; exact hM.out t e) (by rw [List.length_append]; omega))
            rw [List.length_append, keptT_app] at hh
            exact hh)
          have HKa := Aside0.mk (fun X (hX : Below w8.heap.size w8 X) => txn_Kept.calls 1000 A0 c0 l p _ X (HL.out X (HBr.out.trans ((hw8.out.trans (hX.mono hw8.out.size)).mono HBr.out.size))) hc0 (kept_f p l hL.out (by omega)))
          have HKb := Aside0.mk (fun X (hX : Below w8.heap.size w8 X) => txn_Kept.calls 1000 A1 c1 l1 p _ X (HM.out X (HBr.out.trans ((hw8.out.trans (hX.mono hw8.out.size)).mono HBr.out.size))) hc1 (kept_f p l1 hM.out (by omega)))
          have ka := keptT_bd (p := p) l hL.out
          have kb := keptT_bd (p := p) l1 hM.out
          have HB8 := Aside0.mk (HBr.out.trans (hw8.out.mono HBr.out.size))
          clear hNC
          generalize keptT p l = sa at *
          generalize keptT p l1 = sb at *
          have e1 : IntKind.i64.wrap (sa + sb) = sa + sb := (i64_w _).trans (wr64 (by omega) (by omega))
          have b1 : (sa + sb == sa + sb) = true := by simp
          have b2 : decide (ow ≥ 0) = true := by simp; omega
          replace ka := Aside0.mk ka
          replace kb := Aside0.mk kb
          by_cases hcp : c.f1 = p
          · have b3 : (c.f1 == p) = true := by simpa using hcp
            replace hcp := Aside0.mk hcp
            replace hmp := Aside0.mk hmp
            replace hm0 := Aside0.mk hm0
            go_wp2_with fail
            refine (HK.out _ (Below.refl _ _)).mono ?_
            rintro e w9 ⟨rfl, hb9⟩
            go_wp2_with fail
            refine (HKa.out _ hb9).mono ?_
            rintro e w10 ⟨rfl, hb10⟩
            replace hb10 := hb9.trans (hb10.mono hb9.size)
            go_wp2_with fail
            refine (HKb.out _ hb10).mono ?_
            rintro e w11 ⟨rfl, hb11⟩
            replace hb11 := hb10.trans (hb11.mono hb10.size)
            go_wp2_with fail
            go_ret
            exact ⟨rfl, HB8.out.trans (hb11.mono HB8.out.size)⟩
          · have b3 : (c.f1 == p) = false := by simpa using hcp
            have b4 : (ow == (0 : Int)) = true := by simpa using hmp hcp
            replace hcp := Aside0.mk hcp
            replace hmp := Aside0.mk hmp
            replace hm0 := Aside0.mk hm0
            go_wp2_with fail
            refine (HK.out _ (Below.refl _ _)).mono ?_
            rintro e w9 ⟨rfl, hb9⟩
            go_wp2_with fail
            refine (HKa.out _ hb9).mono ?_
            rintro e w10 ⟨rfl, hb10⟩
            replace hb10 := hb9.trans (hb10.mono hb9.size)
            go_wp2_with fail
            refine (HKb.out _ hb10).mono ?_
            rintro e w11 ⟨rfl, hb11⟩
            replace hb11 := hb10.trans (hb11.mono hb10.size)
            go_wp2_with fail
            go_ret
            exact ⟨rfl, HB8.out.trans (hb11.mono HB8.out.size)⟩
set_option maxHeartbeats 2000000 in
set_option maxRecDepth 100000 in
/-- Too many transactions, or too great a change: nothing is asked. -/
theorem adds_out (A0 : Option Addr) (c0 n : Nat) (A1 : Option Addr) (c1 m : Nat) (p x0 x1 x2 : Int) (b3 b4 : Bool) (D4 : Option Addr) (n3 e4 : Nat) (D6 : Option Addr) (n4 e6 : Nat) (w : World) (haw : ∀ w : World, Calls Try.prog 10 #[] w fun e w' => e = .returned (.bool true) ∧ Below w.heap.size w w') (hn : n ≤ 9223372036854775807) (hm : m ≤ 9223372036854775807) (hn3 : n3 ≤ 9223372036854775807) (hn4 : n4 ≤ 9223372036854775807) (h : 20 < n ∨ 20 < m ∨ 100 < n3 ∨ 100 < n4) :
    Calls Try.prog 8 #[.slice A0 n c0, .slice A1 m c1, .int .i64 p, .agg #[.int .i64 x0, .int .i64 x1, .int .i64 x2, .bool b3, .slice D4 n3 e4, .bool b4, .slice D6 n4 e6]] w fun e w' => e = .returned (.bool true) ∧ Below w.heap.size w w' := by
  have HB : Aside0 (Below w.heap.size w (w.alloc (.cells #[.int .i64 x0, .int .i64 x1, .int .i64 x2, .bool b3, .slice D4 n3 e4, .bool b4, .slice D6 n4 e6] 30))) := ⟨below_alloc (Below.refl _ _) _⟩
  have hbox := Aside0.mk (heap_alloc_new w (.cells #[.int .i64 x0, .int .i64 x1, .int .i64 x2, .bool b3, .slice D4 n3 e4, .bool b4, .slice D6 n4 e6] 30))
  have hbl : Aside0 (w.heap.size < (w.alloc (.cells #[.int .i64 x0, .int .i64 x1, .int .i64 x2, .bool b3, .slice D4 n3 e4, .bool b4, .slice D6 n4 e6] 30)).heap.size) := ⟨by rw [World.size_alloc]; omega⟩
  replace haw := Aside0.mk haw
  by_cases h1 : 20 < n
  · have f1 : decide ((n : Int) > 20) = true := by simp; omega
    clear h h1
    go_enter Try.func8, Try.ntmps8
    go_wp2_with fail
    generalize w.alloc _ = w1 at *
    refine (haw.out w1).mono ?_
    rintro e w2 ⟨rfl, hb⟩
    replace hbox := Aside0.mk ((hb.block _ hbl.out).trans hbox.out)
    replace HB := Aside0.mk (HB.out.trans (hb.mono HB.out.size))
    clear hb
    have v1 : w2.cell? ⟨w.heap.size, 3 + 1, none⟩ = some (.slice D4 n3 e4) := (blk_cell hbox.out 4).trans rfl
    have v2 : w2.cell? ⟨w.heap.size, 5 + 1, none⟩ = some (.slice D6 n4 e6) := (blk_cell hbox.out 6).trans rfl
    go_wp2_with fail
    go_ret
    exact ⟨rfl, HB.out⟩
  · have f1 : decide ((n : Int) > 20) = false := by simp; omega
    by_cases h2 : 20 < m
    · have f2 : decide ((m : Int) > 20) = true := by simp; omega
      clear h h1 h2
      go_enter Try.func8, Try.ntmps8
      go_wp2_with fail
      generalize w.alloc _ = w1 at *
      refine (haw.out w1).mono ?_
      rintro e w2 ⟨rfl, hb⟩
      replace hbox := Aside0.mk ((hb.block _ hbl.out).trans hbox.out)
      replace HB := Aside0.mk (HB.out.trans (hb.mono HB.out.size))
      clear hb
      have v1 : w2.cell? ⟨w.heap.size, 3 + 1, none⟩ = some (.slice D4 n3 e4) := (blk_cell hbox.out 4).trans rfl
      have v2 : w2.cell? ⟨w.heap.size, 5 + 1, none⟩ = some (.slice D6 n4 e6) := (blk_cell hbox.out 6).trans rfl
      go_wp2_with fail
      go_ret
      exact ⟨rfl, HB.out⟩
    · have f2 : decide ((m : Int) > 20) = false := by simp; omega
      by_cases h3 : 100 < n3
      · have f3 : decide ((n3 : Int) > 100) = true := by simp; omega
        clear h h1 h2 h3
        go_enter Try.func8, Try.ntmps8
        go_wp2_with fail
        generalize w.alloc _ = w1 at *
        refine (haw.out w1).mono ?_
        rintro e w2 ⟨rfl, hb⟩
        replace hbox := Aside0.mk ((hb.block _ hbl.out).trans hbox.out)
        replace HB := Aside0.mk (HB.out.trans (hb.mono HB.out.size))
        clear hb
        have v1 : w2.cell? ⟨w.heap.size, 3 + 1, none⟩ = some (.slice D4 n3 e4) := (blk_cell hbox.out 4).trans rfl
        have v2 : w2.cell? ⟨w.heap.size, 5 + 1, none⟩ = some (.slice D6 n4 e6) := (blk_cell hbox.out 6).trans rfl
        go_wp2_with fail
        go_ret
        exact ⟨rfl, HB.out⟩
      · have f3 : decide ((n3 : Int) > 100) = false := by simp; omega
        have f4 : decide ((n4 : Int) > 100) = true := by simp; omega
        clear h h1 h2 h3
        go_enter Try.func8, Try.ntmps8
        go_wp2_with fail
        generalize w.alloc _ = w1 at *
        refine (haw.out w1).mono ?_
        rintro e w2 ⟨rfl, hb⟩
        replace hbox := Aside0.mk ((hb.block _ hbl.out).trans hbox.out)
        replace HB := Aside0.mk (HB.out.trans (hb.mono HB.out.size))
        clear hb
        have v1 : w2.cell? ⟨w.heap.size, 3 + 1, none⟩ = some (.slice D4 n3 e4) := (blk_cell hbox.out 4).trans rfl
        have v2 : w2.cell? ⟨w.heap.size, 5 + 1, none⟩ = some (.slice D6 n4 e6) := (blk_cell hbox.out 6).trans rfl
        go_wp2_with fail
        go_ret
        exact ⟨rfl, HB.out⟩
def bobbinlaw14_TxnAdds.f (l0 l1 : List S25) (a2 a3_0 a3_1 a3_2 : Int) (a3_3 : Bool) (l3_4 : List Int) (a3_5 : Bool) (l3_6 : List Int) : Option Bool := some true
theorem bobbinlaw14_TxnAdds.calls (A0 : Option Addr) (c0 : Nat) (l0 : List (S25)) (A1 : Option Addr) (c1 : Nat) (l1 : List (S25)) (a2 : Int) (a3_0 : Int) (a3_1 : Int) (a3_2 : Int) (a3_3 : Bool) (A3_4 : Option Addr) (c3_4 : Nat) (l3_4 : List Int) (a3_5 : Bool) (A3_6 : Option Addr) (c3_6 : Nat) (l3_6 : List Int) (r : Bool) (w : World) (hr0 : Kd.C k25 w A0 l0.length l0) (hc0 : l0.length ≤ c0) (hr1 : Kd.C k25 w A1 l1.length l1) (hc1 : l1.length ≤ c1) (hr3_4 : Kd.C (Kd.int .u8) w A3_4 l3_4.length l3_4) (hc3_4 : l3_4.length ≤ c3_4) (hr3_6 : Kd.C (Kd.int .u8) w A3_6 l3_6.length l3_6) (hc3_6 : l3_6.length ≤ c3_6) (h : bobbinlaw14_TxnAdds.f l0 l1 a2 a3_0 a3_1 a3_2 a3_3 l3_4 a3_5 l3_6 = some r) :
    Calls Try.prog 8 #[.slice A0 l0.length c0, .slice A1 l1.length c1, .int .i64 a2, .agg #[.int .i64 a3_0, .int .i64 a3_1, .int .i64 a3_2, .bool a3_3, .slice A3_4 l3_4.length c3_4, .bool a3_5, .slice A3_6 l3_6.length c3_6]] w fun e w' => e = .returned (.bool r) ∧ Below w.heap.size w w' := by
  obtain rfl : true = r := Option.some.inj h
  by_cases hh : 20 < l0.length ∨ 20 < l1.length ∨ 100 < l3_4.length ∨ 100 < l3_6.length
  · exact adds_out A0 c0 _ A1 c1 _ a2 a3_0 a3_1 a3_2 a3_3 a3_5 A3_4 _ c3_4 A3_6 _ c3_6 w awake_any hr0.2.1 hr1.2.1 hr3_4.2.1 hr3_6.2.1 hh
  · exact adds_walk A0 c0 l0 A1 c1 l1 a2 ⟨a3_0, a3_1, a3_2, ⟨a3_3, l3_4⟩, ⟨a3_5, l3_6⟩⟩ A3_4 c3_4 A3_6 c3_6 w awake_any hr0 hc0 hr1 hc1 (CF.came (c := ⟨a3_0, a3_1, a3_2, ⟨a3_3, l3_4⟩, ⟨a3_5, l3_6⟩⟩) hc3_4 hr3_4 hc3_6 hr3_6) (by omega) (by omega) (show l3_4.length ≤ 100 by omega) (show l3_6.length ≤ 100 by omega)
end Go.Proofs.Ytdbbibndjknafaa.Print
