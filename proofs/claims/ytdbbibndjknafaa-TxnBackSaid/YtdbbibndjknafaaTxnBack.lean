/- TxnBack. -/
import Derived.Test.YtdbbibndjknafaaTxBk
import Derived.Test.YtdbbibndjknafaaTxnTells
namespace Go.Proofs.Ytdbbibndjknafaa.Print
open Go.RowKit Go.Proofs.YtdbbibndjknafaaW.PrintWords Go.Proofs.YtdbbibndjknafaaW.PrintLast Go.Proofs.YtdbbibndjknafaaW.PrintMore
set_option linter.unusedVariables false
set_option linter.unusedSimpArgs false
set_option maxHeartbeats 4000000 in
set_option maxRecDepth 100000 in
theorem back_walk (t : S25) (A4 : Option Addr) (c4 : Nat) (A5 : Option Addr) (c5 : Nat) (A1 : Option Addr) (c1 : Nat) (l : List S30) (w : World) (haw : ∀ w : World, Calls Try.prog 10 #[] w fun e w' => e = .returned (.bool true) ∧ Below w.heap.size w w') (h : TF w (fun k => k < w.heap.size) t A4 c4 A5 c5) (hl : Kd.C k30 w A1 l.length l) (hl10 : l.length ≤ 10) :
    Calls Try.prog 5 #[.agg #[.int .i64 t.f0, .int .i64 t.f1, .int .i64 t.f2, .int .i64 t.f3, .slice A4 t.f4.length c4, .slice A5 t.f5.length c5], .slice A1 l.length c1] w fun e w' => e = .returned (.bool true) ∧ Below w.heap.size w w' := by
  have K3 : Aside0 (BT (w.alloc (.cells #[.int .i64 t.f0, .int .i64 t.f1, .int .i64 t.f2, .int .i64 t.f3, .slice A4 t.f4.length c4, .slice A5 t.f5.length c5] 25)) w.heap.size t A4 c4 A5 c5) := ⟨BT.made h⟩
  have HB : Aside0 (Below w.heap.size w (w.alloc (.cells #[.int .i64 t.f0, .int .i64 t.f1, .int .i64 t.f2, .int .i64 t.f3, .slice A4 t.f4.length c4, .slice A5 t.f5.length c5] 25))) := ⟨below_alloc (Below.refl _ _) _⟩
  have HL := Aside0.mk (fun X (hb : Below w.heap.size w X) => Kd.F_below (Kd.C_F heap30 hl) hb)
  have fl : decide ((l.length : Int) > 10) = false := by simp; omega
  replace haw := Aside0.mk haw
  clear h hl
  go_enter Try.func5, Try.ntmps5
  go_wp2_with fail
  generalize w.alloc _ = w1 at *
  refine (haw.out w1).mono ?_
  rintro e w2 ⟨rfl, hb⟩
  replace K3 := Aside0.mk (K3.out.below hb)
  replace HB := Aside0.mk (HB.out.trans (hb.mono HB.out.size))
  clear hb
  obtain ⟨y0, y1, y2, y3, y4, y5, _⟩ := six_cells K3.out.box
  go_wp2_with fail
  refine (light_any t A4 c4 A5 c5 K3.out.tf z30 none 0 none 0 (CF.nil w2 (fun _ => True))).mono ?_
  rintro e w3 ⟨rfl, hb⟩
  clear y0 y1 y2 y3 y4 y5
  replace K3 := Aside0.mk (K3.out.below hb)
  replace HB := Aside0.mk (HB.out.trans (hb.mono HB.out.size))
  clear hb
  cases hli : lightC t z30
  · go_wp2_with fail
    go_ret
    exact ⟨rfl, HB.out⟩
  · clear hli
    obtain ⟨y0, y1, y2, y3, y4, y5, _⟩ := six_cells K3.out.box
    go_wp2_with fail
    refine (may_any t A4 c4 A5 c5 K3.out.tf).mono ?_
    rintro e w4 ⟨rfl, hb⟩
    clear y0 y1 y2 y3 y4 y5
    replace K3 := Aside0.mk (K3.out.below hb)
    replace HB := Aside0.mk (HB.out.trans (hb.mono HB.out.size))
    clear hb
    cases hmay : mayT t
    · go_wp2_with fail
      go_ret
      exact ⟨rfl, HB.out⟩
    · have hmp := Aside0.mk (mayT_true.1 hmay)
      obtain ⟨y0, y1, y2, y3, y4, y5, _⟩ := six_cells K3.out.box
      have hx : Aside0 (BX w4 (w4.alloc (.cells #[.int .i64 t.f0, .int .i64 t.f1, .int .i64 t.f2, .int .i64 t.f3, .slice A4 t.f4.length c4, .slice A5 t.f5.length c5] 25)) w4.heap.size t A4 c4 A5 c5) := ⟨⟨below_alloc (Below.refl _ _) _, heap_alloc_new _ _, (K3.out.tf.bound.below (below_alloc (Below.refl _ _) _)).mono (fun k hk => by have := hk.2; omega), Nat.le_refl _⟩⟩
      clear fl
      replace hl10 := Aside0.mk hl10
      have hsv : Aside0 (∀ y ∈ t.f5, y ≤ (t.f4.length : Int)) := ⟨fun y hy => ((sv_up hmp.out.sv).1 y hy).2⟩
      have HI0 : Aside0 (BK t w4 (w4.alloc (.cells #[.int .i64 t.f0, .int .i64 t.f1, .int .i64 t.f2, .int .i64 t.f3, .slice A4 t.f4.length c4, .slice A5 t.f5.length c5] 25)) w4.heap.size t A4 c4 A5 c5 [] none 0 []) := ⟨⟨hmp.out, hx.out, hx.out.tf.mono (fun k hk => ⟨hk, fun e => by cases e⟩), (List.append_nil _).symm, rfl, rfl, rfl, Kd.N_nil _ _ _ _ _⟩⟩
      have hwb : w.heap.size ≠ w4.heap.size := by have := (Array.getElem?_eq_some_iff.1 K3.out.box).1; omega
      have hTt : Aside0 (TF w4 (fun k => k ≠ w4.heap.size) t A4 c4 A5 c5) := ⟨K3.out.tf.bound.mono (fun k hk => by have := hk.2; omega)⟩
      replace hwb := Aside0.mk hwb
      clear hmay hx
      go_upto_region 8 with fail
      generalize w4.heap.size = b at *
      generalize w4.alloc _ = wx at *
      clear y0 y1 y2 y3 y4 y5
      go_loopw [8, 9] (fun v8 v9 wr => ∃ (i : Nat) (D : List S30) (u : S25) (E4 : Option Addr) (g4 : Nat) (E5 : Option Addr) (g5 : Nat) (A8 : Option Addr) (c8 : Nat), v8 = .slice A8 D.length c8 ∧ v9 = .int .i64 i ∧ D.length ≤ i ∧ i ≤ l.length ∧ Aside0 (BK t w4 wr b u E4 g4 E5 g5 D A8 c8 D)) (fun _ v9 _ => l.length - (intOf v9).toNat)
      case atStart => exact ⟨0, [], t, A4, c4, A5, c5, none, 0, rfl, rfl, Nat.le_refl _, Nat.zero_le _, HI0⟩
      case round =>
        clear HI0
        obtain ⟨i, D, u, E4, g4, E5, g5, A8, c8, rfl, rfl, hmi, hil, HI⟩ := hrel
        replace hmi := Aside0.mk hmi
        obtain ⟨z0, z1, z2, z3, z4, z5, q0, q1, q2, q3, q4, q5⟩ := six_cells HI.out.bx.box
        have HBr := Aside0.mk (HB.out.trans (HI.out.bx.bel.mono HB.out.size))
        by_cases hlt : i < l.length
        · have f1 : decide ((i : Int) < (l.length : Int)) = true := by simp; omega
          have f0 : decide (0 ≤ (i : Int)) = true := by simp
          obtain ⟨ad, D4, j4, D6, j6, rfl, s0, s1, s2, s3, s4, s5, s6, hCF⟩ := at_F30 (HL.out wr HBr.out) (i : Int) (by omega) (by omega)
          rw [show ((i : Int)).toNat = i from rfl] at s0 s1 s2 s3 s4 s5 s6
          have s7 : wr.cell? ⟨(ad.add (i * 7)).block, (ad.add (i * 7)).off + 3 + 1, none⟩ = some (.slice D4 (rd_T30 l (i : Int)).f3.f1.length j4) := s4
          have s8 : wr.cell? ⟨(ad.add (i * 7)).block, (ad.add (i * 7)).off + 5 + 1, none⟩ = some (.slice D6 (rd_T30 l (i : Int)).f4.f1.length j6) := s6
          replace hil := Aside0.mk hil
          replace hCF := Aside0.mk hCF
          have HA := Aside0.mk (fun X (hX : Below w.heap.size w X) => at_F30 (HL.out X hX) (i : Int) (by omega) (by omega))
          generalize rd_T30 l (i : Int) = c at *
          by_cases hv3 : c.f3.f1.length ≤ 100
          · have f3 : decide ((c.f3.f1.length : Int) > 100) = false := by simp; omega
            replace hv3 := Aside0.mk hv3
            by_cases hv4 : c.f4.f1.length ≤ 100
            · have f4 : decide ((c.f4.f1.length : Int) > 100) = false := by simp; omega
              replace hv4 := Aside0.mk hv4
              go_upto_region 12 with fail
              have HN := Aside0.mk (fun X (hX : Below wr.heap.size wr X) => note_any u E4 g4 E5 g5 (HI.out.bx.tf.below hX) c D4 j4 D6 j6 (hCF.out.below hX))
              have hni := note_is c HI.out.may
              have hn4 : (noteD u c).f4 = t.f4 ++ (D ++ [c]) := by show u.f4 ++ [c] = _; rw [HI.out.c4, List.append_assoc]
              have hn5 : (noteD u c).f5 = t.f5 := HI.out.c5
              have hn0 : (noteD u c).f0 = t.f0 := HI.out.c0
              have hn1 : (noteD u c).f1 = t.f1 := HI.out.c1
              generalize noteR u c = x at *
              generalize noteE u c = en at *
              generalize noteD u c = y at *
              replace hni := Aside0.mk hni
              replace hn4 := Aside0.mk hn4
              replace hn5 := Aside0.mk hn5
              replace hn0 := Aside0.mk hn0
              replace hn1 := Aside0.mk hn1
              go_cut [10, 11] from 64 to 71 (fun v10 v11 wc => ∃ (g : Nat) (F4 : Option Addr) (f4 : Nat) (F5 : Option Addr) (f5 : Nat), v10 = .pointer (some ⟨g, 0, none⟩) ∧ v11 = .int .i64 en ∧ Aside0 (NY wr wc x g F4 f4 F5 f5))
              case first =>
                have hz := below_alloc (Below.refl _ wr) (.cells #[.int .i64 0, .int .i64 0, .int .i64 0, .int .i64 0, .slice none 0 0, .slice none 0 0] 25)
                have s10 := pw_cell_below hz s0
                have s11 := pw_cell_below hz s1
                have s12 := pw_cell_below hz s2
                have s13 := pw_cell_below hz s3
                have s14 := pw_cell_below hz s4
                have s15 := pw_cell_below hz s5
                have s16 := pw_cell_below hz s6
                have z10 := pw_cell_below hz z0
                have z11 := pw_cell_below hz z1
                have z12 := pw_cell_below hz z2
                have z13 := pw_cell_below hz z3
                have z14 := pw_cell_below hz z4
                have z15 := pw_cell_below hz z5
                clear hz
                go_region_with
                  (first
                    | (go_at_call 12; first | (refine (HN.out _ (below_drew (below_alloc (Below.refl _ _) _))).mono ?_; rintro e w6 ⟨F4, f4, F5, f5, rfl, hT6, hb6⟩; have hb7 := (below_drew (Below.refl _ _)).trans hb6; have hn1 := NY.first (wr := wr) hb7 hT6; obtain ⟨o0, o1, o2, o3, o4, o5, p0, p1, p2, p3, p4, p5⟩ := six_cells (zero_kept hb7); replace hn1 := Aside0.mk hn1; clear hT6 hb6 hb7) | (refine (HN.out _ (below_drew (Below.refl _ _))).mono ?_; rintro e w6 ⟨F4, f4, F5, f5, rfl, hT6, hb6⟩; have hn1 := Aside0.mk (NY.last (wr := wr) ((below_drew (Below.refl _ _)).trans hb6) hT6); clear hT6 hb6)))
                all_goals
                  (try go_wp2_with fail)
                  go_meet
                  case rel => exact ⟨_, F4, f4, F5, f5, rfl, rfl, hn1⟩
              case rest =>
                obtain ⟨g, F4, f4, F5, f5, rfl, rfl, HN1⟩ := hcut
                clear z0 z1 z2 z3 z4 z5 q0 q1 q2 q3 q4 q5 s0 s1 s2 s3 s4 s5 s6 s7 s8
                obtain ⟨z0, z1, z2, z3, z4, z5, q0, q1, q2, q3, q4, q5⟩ := six_cells (HI.out.bx.below HN1.out.bel).box
                obtain ⟨y0, y1, y2, y3, y4, y5, _⟩ := six_cells HN1.out.box
                have gne : g ≠ b := by have := HI.out.bx.lt; have := HN1.out.lo; omega
                rcases hni.out with ⟨he, hx, hmx⟩ | he
                · have f2 : (en == (0 : Int)) = true := by simp [he]
                  replace he := Aside0.mk he
                  obtain rfl := hx
                  have hp := Aside0.mk (HI.out.put HN1.out.bel HN1.out.tf hmx hn4.out hn5.out hn0.out hn1.out)
                  go_upto_region 15 with fail
                  generalize World.setCell _ _ _ = wp at *
                  clear z0 z1 z2 z3 z4 z5 q0 q1 q2 q3 q4 q5 y0 y1 y2 y3 y4 y5
                  have HBp := Aside0.mk (HB.out.trans (hp.out.bx.bel.mono HB.out.size))
                  obtain ⟨ad2, M4, m4, M6, m6, e2, s0, s1, s2, s3, s4, s5, s6, hCp⟩ := HA.out wp HBp.out
                  obtain rfl := Option.some.inj e2
                  clear e2
                  rw [show ((i : Int)).toNat = i from rfl] at s0 s1 s2 s3 s4 s5 s6
                  replace hCp := Aside0.mk hCp
                  have hdl : D.length ≤ 10 := by have := hmi.out; have := hil.out; have := hl10.out; omega
                  have hbse : Aside0 (∀ k, (Value.slice A8 D.length c8).ownBlock = some k → w4.heap.size ≤ k) := ⟨N_base hp.out.dn⟩
                  go_wp2_with ((with_reducible refine gate_builtin (b := .append) (xs := #[.tmp 75, .tmp 80]) rfl ?_); at_builtin; refine Kd.N_append k30 (w0 := w4) w4.heap.size rfl (.tmp 75) (.tmp 80) 22 30 (.agg #[(.int .i64 0), (.int .i64 0), (.int .i64 0), (.bool false), (.slice none 0 0), (.bool false), (.slice none 0 0)]) 88 rfl Try.underlying22 info30 rfl (by decide) (by omega) (.slice A8 D.length c8) D c [.int .i64 c.f0, .int .i64 c.f1, .int .i64 c.f2, .bool c.f3.f0, .slice M4 c.f3.f1.length m4, .bool c.f4.f0, .slice M6 c.f4.f1.length m6] (fun k => k ≠ b) (fun k => k < w.heap.size) rfl rfl ?aP ?aQ ?aF ?aO ?aB ?aS ?aL ?_; (case aP => exact k30_mkF _ _ c hCp.out.l4 hCp.out.g4 hCp.out.l6 hCp.out.g6); (case aQ => exact fun k hk => ⟨fun e => by have := hp.out.bx.lo; have := HB.out.size; omega, fun e => by have := hbse.out k e.symm; have := HB.out.size; omega⟩); (case aF => exact fun k hk e => by have := hp.out.bx.lt; omega); (case aO => exact hp.out.dn); (case aB => exact hp.out.bx.bel); (case aS => exact hp.out.bx.bel.size); (case aL => omega); intro v1 w1 ho hb hg hat; obtain ⟨A9, c9, rfl⟩ := Kd.N_slice ho; have hq := Aside0.mk (hp.out.app ho hb hg hat); clear ho hb hg hat)
                  go_roundw
                  case rel => exact ⟨i + 1, D ++ [c], x, F4, f4, F5, f5, A9, c9, by simp, by rw [wr64 (by have := hil.out; have := hl10.out; omega) (by have := hil.out; have := hl10.out; omega)]; go_num, by have := hmi.out; simp; omega, by omega, hq⟩
                  case measure => exact meas_lt hlt (Nat.le_trans hl10.out (by decide))
                · have f2 : (en == (0 : Int)) = false := by simp [he]
                  replace he := Aside0.mk he
                  have hp7 := Aside0.mk (HI.out.below HN1.out.bel)
                  go_wp2_with fail
                  go_roundw
                  case rel => exact ⟨i + 1, D, u, E4, g4, E5, g5, A8, c8, rfl, by rw [wr64 (by have := hil.out; have := hl10.out; omega) (by have := hil.out; have := hl10.out; omega)]; go_num, Nat.le_succ_of_le hmi.out, by omega, hp7⟩
                  case measure => exact meas_lt hlt (Nat.le_trans hl10.out (by decide))
            · have f4 : decide ((c.f4.f1.length : Int) > 100) = true := by simp; omega
              replace hv4 := Aside0.mk hv4
              go_wp2_with fail
              go_ret
              exact ⟨rfl, HBr.out⟩
          · have f3 : decide ((c.f3.f1.length : Int) > 100) = true := by simp; omega
            replace hv3 := Aside0.mk hv3
            go_wp2_with fail
            go_ret
            exact ⟨rfl, HBr.out⟩
        · have f1 : decide ((i : Int) < (l.length : Int)) = false := by simp; omega
          have hdl : D.length ≤ 10 := by have := hmi.out; have := hl10.out; omega
          replace hdl := Aside0.mk hdl
          have K3r := Aside0.mk (K3.out.below HI.out.bx.bel)
          go_wp2_with fail
          clear f1 hlt
          have hmy := may_any u E4 g4 E5 g5 HI.out.bx.tf
          rw [mayT_true.2 HI.out.may] at hmy
          refine hmy.mono ?_
          rintro e w6 ⟨rfl, hb⟩
          have HJ0 : Aside0 (BK t w4 w6 b u E4 g4 E5 g5 D A8 c8 (D.take D.length)) := ⟨by rw [List.take_length]; exact HI.out.below hb⟩
          have K36 := Aside0.mk (K3r.out.below hb)
          have hul : u.f4.length = t.f4.length + D.length := by rw [HI.out.c4, List.length_append]
          have hn6 := hmp.out.nl
          have e1 : IntKind.i64.wrap ((t.f4.length : Int) + (D.length : Int)) = (u.f4.length : Int) := (i64_w _).trans ((wr64 (by have := hdl.out; omega) (by have := hdl.out; omega)).trans (by omega))
          have e2 : IntKind.i64.wrap ((D.length : Int) - 1) = (D.length : Int) - 1 := (i64_w _).trans (wr64 (by have := hdl.out; omega) (by have := hdl.out; omega))
          replace hul := Aside0.mk hul
          replace hn6 := Aside0.mk hn6
          have f5 : ((u.f4.length : Int) != (u.f4.length : Int)) = false := by simp
          clear hb hmy HI z0 z1 z2 z3 z4 z5 q0 q1 q2 q3 q4 q5 K3r
          obtain ⟨z0, z1, z2, z3, z4, z5, q0, q1, q2, q3, q4, q5⟩ := six_cells HJ0.out.bx.box
          obtain ⟨y0, y1, y2, y3, y4, y5, _⟩ := six_cells K36.out.box
          go_wp2_with fail
          clear e1 e2 f5 y0 y1 y2 y3 y4 y5 z0 z1 z2 z3 z4 z5 q0 q1 q2 q3 q4 q5 K36
          go_loopw [12] (fun v12 w2r => ∃ (n : Nat) (u : S25) (E4 : Option Addr) (g4 : Nat) (E5 : Option Addr) (g5 : Nat), v12 = .int .i64 ((n : Int) - 1) ∧ n ≤ D.length ∧ Aside0 (BK t w4 w2r b u E4 g4 E5 g5 D A8 c8 (D.take n))) (fun v12 _ => (intOf v12 + 1).toNat)
          case atStart => exact ⟨D.length, u, E4, g4, E5, g5, rfl, Nat.le_refl _, HJ0⟩
          case round =>
            clear HJ0
            obtain ⟨n, u, E4, g4, E5, g5, rfl, hn, HJ⟩ := hrel
            rcases n with _ | m
            · have e0 : ((0 : Nat) : Int) - 1 = -1 := rfl
              rw [e0]
              have f1 : decide ((-1 : Int) ≥ 0) = false := rfl
              have hu4 : u.f4 = t.f4 := by rw [HJ.out.c4]; simp
              have hbox := HJ.out.bx.box
              rw [HJ.out.c0, HJ.out.c1, hu4, HJ.out.c5] at hbox
              have hT : TF wr (fun k => k ≠ b) t E4 g4 E5 g5 := ⟨by rw [← hu4]; exact HJ.out.bx.tf.l4, by rw [← hu4]; exact HJ.out.bx.tf.g4, by rw [← HJ.out.c5]; exact HJ.out.bx.tf.l5, by rw [← HJ.out.c5]; exact HJ.out.bx.tf.g5⟩
              have hfar : ∀ k, k ≠ b → ((wr.setCell ⟨b, 2, none⟩ (.int .i64 t.f2)).setCell ⟨b, 3, none⟩ (.int .i64 t.f3)).heap[k]? = wr.heap[k]? := fun k hk => (Below.heap_setCell _ _ _ k hk).trans (Below.heap_setCell _ _ _ k hk)
              have K3r := Aside0.mk (K3.out.below HJ.out.bx.bel)
              have hS := Aside0.mk (same_any t E4 g4 E5 g5 (hT.step (fun k hk _ => hfar k hk)) A4 c4 A5 c5 ((hTt.out.below HJ.out.bx.bel).step (fun k hk _ => hfar k hk)) hmp.out.light)
              have hBf := Aside0.mk (below_set (j := 3) (v := .int .i64 t.f3) (below_set (j := 2) (v := .int .i64 t.f2) HJ.out.bx.bel HJ.out.bx.lo) HJ.out.bx.lo)
              obtain ⟨z0, z1, z2, z3, z4, z5, q0, q1, q2, q3, q4, q5⟩ := six_cells hbox
              obtain ⟨y0, y1, y2, y3, y4, y5, _⟩ := six_cells K3r.out.box
              have hwn := hwb.out
              clear hu4 hbox hT hfar hn
              go_wp2_with fail
              refine hS.out.mono ?_
              rintro e w7 ⟨rfl, hb⟩
              have HB7 := Aside0.mk (HB.out.trans ((hBf.out.trans (hb.mono hBf.out.size)).mono HB.out.size))
              clear hb z0 z1 z2 z3 z4 z5 q0 q1 q2 q3 q4 q5 y0 y1 y2 y3 y4 y5
              go_wp2_with fail
              go_ret
              exact ⟨rfl, HB7.out⟩
            · have e0 : ((m + 1 : Nat) : Int) - 1 = (m : Int) := by omega
              rw [e0]
              have f1 : decide ((m : Int) ≥ 0) = true := by simp
              obtain ⟨z0, z1, z2, z3, z4, z5, q0, q1, q2, q3, q4, q5⟩ := six_cells HJ.out.bx.box
              have hub := undo_back (c := rd_T30 D (m : Int)) (l := D.take m) (by rw [HJ.out.c4, take_snoc (by omega)]) HJ.out.c5 hsv.out
              have hv := HJ.out.may.vals100 _ (lastC_mem hub.1)
              have hxm := HJ.out.may.undo hub.1
              have hR := undo_ok (mayT_true.2 HJ.out.may) hub.1
              have hun := undo_any u E4 g4 E5 g5 HJ.out.bx.tf
              unfold UnPost at hun
              rw [hR.1, hR.2.1, hR.2.2, hub.2.1] at hun
              rw [hub.2.1] at hv
              have hx0 : (undoD u).f0 = t.f0 := HJ.out.c0
              have hx1 : (undoD u).f1 = t.f1 := HJ.out.c1
              have hx4 := hub.2.2.1
              have hx5 := hub.2.2.2
              clear hub hR e0
              generalize undoD u = x at *
              replace hun := Aside0.mk hun
              replace hv := Aside0.mk hv
              replace hxm := Aside0.mk hxm
              replace hx0 := Aside0.mk hx0
              replace hx1 := Aside0.mk hx1
              replace hx4 := Aside0.mk hx4
              replace hx5 := Aside0.mk hx5
              go_wp2_with fail
              refine hun.out.mono ?_
              clear hun
              rintro e w7 ⟨I4, i4, I5, i5, J4, j4, J6, j6, rfl, hT, hC, hb⟩
              have hwn7 : Aside0 (w7.heap.size ≠ b) := ⟨by have := hb.size; have := HJ.out.bx.lt; omega⟩
              obtain ⟨m1, m2, m3⟩ := two_made hT hC
              have hw := Aside0.mk (hb.trans (m3.mono hb.size))
              have hTx := Aside0.mk (hT.below m3)
              have HJ9 := Aside0.mk (HJ.out.below hw.out)
              obtain ⟨ad, M4, m4, M6, m6, rfl, s0, s1, s2, s3, s4, s5, s6, hCM⟩ := at_F30 (Kd.N_F HJ9.out.dn) (m : Int) (by omega) (by omega)
              rw [show ((m : Int)).toNat = m from rfl] at s0 s1 s2 s3 s4 s5 s6
              generalize rd_T30 D (m : Int) = c at *
              have hb0 : decide (0 ≤ (m : Int)) = true := by simp
              have hb1 : decide ((m : Int) < (D.length : Int)) = true := by simp; omega
              have hi0 : (0 : Int) ≤ (m : Int) := by omega
              have hi1 : (m : Int) < (D.length : Int) := by omega
              have hi2 : m < D.length := by omega
              replace m1 := Aside0.mk m1
              replace m2 := Aside0.mk m2
              replace hCM := Aside0.mk hCM
              obtain ⟨c0, c1', c2, c3, c4', c5', c6⟩ := seven_at m2.out.box
              clear hT hC hb m3 z0 z1 z2 z3 z4 z5 q0 q1 q2 q3 q4 q5
              go_upto_region 22 with fail
              generalize (World.alloc _ _).alloc _ = w9 at *
              go_region_held3 (fun X => X.cell? ⟨w7.heap.size + 1, 0, none⟩ = some (.int .i64 c.f0) ∧ X.cell? ⟨w7.heap.size + 1, 1, none⟩ = some (.int .i64 c.f1) ∧ X.cell? ⟨w7.heap.size + 1, 2, none⟩ = some (.int .i64 c.f2) ∧ X.cell? ⟨w7.heap.size + 1, 3, none⟩ = some (.bool c.f3.f0) ∧ X.cell? ⟨w7.heap.size + 1, 4, none⟩ = some (.slice J4 c.f3.f1.length j4) ∧ X.cell? ⟨w7.heap.size + 1, 5, none⟩ = some (.bool c.f4.f0) ∧ X.cell? ⟨w7.heap.size + 1, 6, none⟩ = some (.slice J6 c.f4.f1.length j6) ∧ X.cell? (ad.add (m * 7)) = some (.int .i64 c.f0) ∧ X.cell? ⟨(ad.add (m * 7)).block, (ad.add (m * 7)).off + 1, none⟩ = some (.int .i64 c.f1) ∧ X.cell? ⟨(ad.add (m * 7)).block, (ad.add (m * 7)).off + 2, none⟩ = some (.int .i64 c.f2) ∧ X.cell? ⟨(ad.add (m * 7)).block, (ad.add (m * 7)).off + 3, none⟩ = some (.bool c.f3.f0) ∧ X.cell? ⟨(ad.add (m * 7)).block, (ad.add (m * 7)).off + 4, none⟩ = some (.slice M4 c.f3.f1.length m4) ∧ X.cell? ⟨(ad.add (m * 7)).block, (ad.add (m * 7)).off + 5, none⟩ = some (.bool c.f4.f0) ∧ X.cell? ⟨(ad.add (m * 7)).block, (ad.add (m * 7)).off + 6, none⟩ = some (.slice M6 c.f4.f1.length m6))
                (first | exact ⟨c0, c1', c2, c3, c4', c5', c6, s0, s1, s2, s3, s4, s5, s6⟩ | exact ⟨pw_cell_below hb.out c0, pw_cell_below hb.out c1', pw_cell_below hb.out c2, pw_cell_below hb.out c3, pw_cell_below hb.out c4', pw_cell_below hb.out c5', pw_cell_below hb.out c6, pw_cell_below hb.out s0, pw_cell_below hb.out s1, pw_cell_below hb.out s2, pw_cell_below hb.out s3, pw_cell_below hb.out s4, pw_cell_below hb.out s5, pw_cell_below hb.out s6⟩)
                (first | (go_at_call 21; refine (changes_any c J4 j4 J6 j6 M4 m4 M6 m6 (m2.out.below (below_drew (Below.refl _ _))).cf (hCM.out.below (below_drew (Below.refl _ _))) hv.out).mono ?_; rintro e w10 ⟨rfl, hb⟩; replace hb := Aside0.mk ((below_drew (Below.refl _ _)).trans hb)))
              clear c0 c1' c2 c3 c4' c5' c6 s0 s1 s2 s3 s4 s5 s6 hb0 hb1 hi0 hi1 hi2 f1
              have n1 := Aside0.mk (m1.out.below hb.out)
              have hwx := Aside0.mk (hw.out.trans (hb.out.mono hw.out.size))
              have hTy := Aside0.mk (hTx.out.below hb.out)
              clear hb m1 hw hTx hCM HJ9 m2
              obtain ⟨y0, y1, y2, y3, y4, y5, _⟩ := six_cells n1.out.box
              go_wp2_with fail
              have hmy := may_any x I4 i4 I5 i5 n1.out.tf
              rw [mayT_true.2 hxm.out] at hmy
              refine hmy.mono ?_
              rintro e w11 ⟨rfl, hb⟩
              have n2 := Aside0.mk (n1.out.below hb)
              have hwy := Aside0.mk (hwx.out.trans (hb.mono hwx.out.size))
              have hTz := Aside0.mk (hTy.out.below hb)
              clear hb hmy n1 hwx hTy y0 y1 y2 y3 y4 y5
              have hp := Aside0.mk (HJ.out.put hwy.out hTz.out hxm.out hx4.out hx5.out hx0.out hx1.out)
              obtain ⟨y0, y1, y2, y3, y4, y5, _⟩ := six_cells n2.out.box
              obtain ⟨z0, z1, z2, z3, z4, z5, q0, q1, q2, q3, q4, q5⟩ := six_cells (HJ.out.below hwy.out).bx.box
              have gne := hwn7.out
              go_wp2_with fail
              go_roundw
              case rel => exact ⟨m, x, I4, i4, I5, i5, by rw [wr64 (by have := hdl.out; omega) (by have := hdl.out; omega)], by omega, hp⟩
              case measure => exact meas_dn (by have := hdl.out; omega)
set_option maxHeartbeats 2000000 in
set_option maxRecDepth 100000 in
/-- More than ten changes: nothing is asked. -/
theorem back_out (t : S25) (A4 : Option Addr) (c4 : Nat) (A5 : Option Addr) (c5 : Nat) (A1 : Option Addr) (c1 : Nat) (l : List S30) (w : World) (haw : ∀ w : World, Calls Try.prog 10 #[] w fun e w' => e = .returned (.bool true) ∧ Below w.heap.size w w') (h : TF w (fun k => k < w.heap.size) t A4 c4 A5 c5) (hl10 : ¬ l.length ≤ 10) :
    Calls Try.prog 5 #[.agg #[.int .i64 t.f0, .int .i64 t.f1, .int .i64 t.f2, .int .i64 t.f3, .slice A4 t.f4.length c4, .slice A5 t.f5.length c5], .slice A1 l.length c1] w fun e w' => e = .returned (.bool true) ∧ Below w.heap.size w w' := by
  have K3 : Aside0 (BT (w.alloc (.cells #[.int .i64 t.f0, .int .i64 t.f1, .int .i64 t.f2, .int .i64 t.f3, .slice A4 t.f4.length c4, .slice A5 t.f5.length c5] 25)) w.heap.size t A4 c4 A5 c5) := ⟨BT.made h⟩
  have HB : Aside0 (Below w.heap.size w (w.alloc (.cells #[.int .i64 t.f0, .int .i64 t.f1, .int .i64 t.f2, .int .i64 t.f3, .slice A4 t.f4.length c4, .slice A5 t.f5.length c5] 25))) := ⟨below_alloc (Below.refl _ _) _⟩
  have fl : decide ((l.length : Int) > 10) = true := by simp; omega
  replace haw := Aside0.mk haw
  clear h hl10
  go_enter Try.func5, Try.ntmps5
  go_wp2_with fail
  generalize w.alloc _ = w1 at *
  refine (haw.out w1).mono ?_
  rintro e w2 ⟨rfl, hb⟩
  replace K3 := Aside0.mk (K3.out.below hb)
  replace HB := Aside0.mk (HB.out.trans (hb.mono HB.out.size))
  clear hb
  obtain ⟨y0, y1, y2, y3, y4, y5, _⟩ := six_cells K3.out.box
  go_wp2_with fail
  refine (light_any t A4 c4 A5 c5 K3.out.tf z30 none 0 none 0 (CF.nil w2 (fun _ => True))).mono ?_
  rintro e w3 ⟨rfl, hb⟩
  clear y0 y1 y2 y3 y4 y5
  replace HB := Aside0.mk (HB.out.trans (hb.mono HB.out.size))
  clear hb
  cases hli : lightC t z30
  · go_wp2_with fail
    go_ret
    exact ⟨rfl, HB.out⟩
  · clear hli
    go_wp2_with fail
    go_ret
    exact ⟨rfl, HB.out⟩
def bobbinlaw14_TxnBack.f (a0_0 a0_1 a0_2 a0_3 : Int) (l0_4 : List S30) (l0_5 : List Int) (l1 : List S30) : Option Bool := some true
theorem bobbinlaw14_TxnBack.calls (a0_0 : Int) (a0_1 : Int) (a0_2 : Int) (a0_3 : Int) (A0_4 : Option Addr) (c0_4 : Nat) (l0_4 : List (S30)) (A0_5 : Option Addr) (c0_5 : Nat) (l0_5 : List Int) (A1 : Option Addr) (c1 : Nat) (l1 : List (S30)) (r : Bool) (w : World) (hr0_4 : Kd.C k30 w A0_4 l0_4.length l0_4) (hc0_4 : l0_4.length ≤ c0_4) (hr0_5 : Kd.C (Kd.int .i64) w A0_5 l0_5.length l0_5) (hc0_5 : l0_5.length ≤ c0_5) (hr1 : Kd.C k30 w A1 l1.length l1) (hc1 : l1.length ≤ c1) (h : bobbinlaw14_TxnBack.f a0_0 a0_1 a0_2 a0_3 l0_4 l0_5 l1 = some r) :
    Calls Try.prog 5 #[.agg #[.int .i64 a0_0, .int .i64 a0_1, .int .i64 a0_2, .int .i64 a0_3, .slice A0_4 l0_4.length c0_4, .slice A0_5 l0_5.length c0_5], .slice A1 l1.length c1] w fun e w' => e = .returned (.bool r) ∧ Below w.heap.size w w' := by
  obtain rfl : true = r := Option.some.inj h
  by_cases h10 : l1.length ≤ 10
  · exact back_walk ⟨a0_0, a0_1, a0_2, a0_3, l0_4, l0_5⟩ A0_4 c0_4 A0_5 c0_5 A1 c1 l1 w awake_any (TF.came hc0_4 hr0_4 hc0_5 hr0_5) hr1 h10
  · exact back_out ⟨a0_0, a0_1, a0_2, a0_3, l0_4, l0_5⟩ A0_4 c0_4 A0_5 c0_5 A1 c1 l1 w awake_any (TF.came hc0_4 hr0_4 hc0_5 hr0_5) h10
end Go.Proofs.Ytdbbibndjknafaa.Print
