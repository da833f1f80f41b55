/- The walk of BytBack, first part: the calls; what went through stands in a row. -/
import Derived.Test.YtkniklgecmdeoaaBytBack
import Derived.Test.YtkniklgecmdeoaaBytJoins
import Derived.StillTailTactics
namespace Go.Proofs.Ytkniklgecmdeoaa.Print
open Go.RowKit Go.Proofs.YtkniklgecmdeoaaW.PrintWords Go.Proofs.YtkniklgecmdeoaaW.PrintLast Go.Proofs.YtkniklgecmdeoaaW.PrintMore Go.Proofs.Ytkniklgecmdeoaa.Pure
set_option linter.unusedVariables false
set_option linter.unusedSimpArgs false
theorem mkFOp (W : World) (ok : Nat → Prop) (x : S30) {A3 : Option Addr} {c3 : Nat} (l3 : x.f3.length ≤ c3) (g3 : Kd.F (Kd.int .u8) W ok A3 x.f3.length x.f3) : Kd.FK k30 W ok x [.bool x.f0, .int .i64 x.f1, .int .i64 x.f2, .slice A3 x.f3.length c3] := fun W2 hW => k30_mk W2 x l3 (g3 W2 hW)
/-- Behind k reads: what is left to read is what the rest of the row made. -/
def LI (w5 : World) (g : Nat) (D : List S30) (k : Nat) (wr : World) : Prop := ∃ ok, Rd wr g ok (opsB (D.drop k)) ∧ Below w5.heap.size w5 wr
theorem opsB_drop (D : List S30) (k : Nat) (h : k < D.length) : opsB (D.drop k) = opB (rd_T30 D (k : Int)) ++ opsB (D.drop (k + 1)) := by
  have : rd_T30 D (k : Int) = D[k] := by simp [rd_T30, List.getD_eq_getElem?_getD, List.getElem?_eq_getElem h]
  rw [this, List.drop_eq_getElem_cons h]
  unfold opsB
  rw [List.flatMap_cons]
theorem rd_mem (D : List S30) (k : Nat) (h : k < D.length) : rd_T30 D (k : Int) ∈ D := by
  have : rd_T30 D (k : Int) = D[k] := by simp [rd_T30, List.getD_eq_getElem?_getD, List.getElem?_eq_getElem h]
  rw [this]
  exact List.getElem_mem h
set_option maxHeartbeats 2000000 in
set_option maxRecDepth 100000 in
theorem bobbinlaw01_BytBack.walk (A0 : Option Addr) (c0 : Nat) (l0 : List S30) (w : World) (hr0 : Kd.C k30 w A0 l0.length l0) (hc0 : l0.length ≤ c0) (hBy : ∀ x ∈ l0, Bytes x.f3) :
    Calls Try.prog 7 #[.slice A0 l0.length c0] w fun e w' => e = .returned (.bool true) ∧ Below w.heap.size w w' := by
  have HR : ∀ {X : World}, Below w.heap.size w X → Kd.C k30 X A0 l0.length l0 := fun hb => Kd.C_below hr0 hb
  replace HR := Aside0.mk @HR
  have h63 : l0.length ≤ 9223372036854775807 := hr0.2.1
  clear hr0
  replace hBy := Aside0.mk hBy
  obtain ⟨ok, hsm, hfew⟩ := few_calls l0
  replace hfew := Aside0.mk hfew
  have haw := Aside0.mk awake_calls
  go_enter Try.func7, Try.ntmps7
  go_wp2_with fail
  refine (haw.out _).mono ?_
  rintro e w1 ⟨rfl, hb1⟩
  replace hb1 := Aside0.mk hb1
  go_wp2_with fail
  refine (hfew.out A0 c0 _ (HR.out hb1.out) hc0).mono ?_
  rintro e w2 ⟨rfl, hd2⟩
  have hb2 := Aside0.mk (below_then hb1.out hb1.out.size hd2)
  clear hd2
  cases ok with
  | false =>
    go_wp2_with fail
    go_ret
    exact ⟨rfl, hb2.out⟩
  | true =>
  replace hsm := hsm rfl
  have hlen := hsm.len
  replace hsm := Aside0.mk hsm
  go_wp2_with fail
  go_loopw [6, 7] (fun v6 v7 wr => ∃ k : Nat, k ≤ l0.length ∧ v7 = .int .i64 k ∧ Aside0 (BI w w2.heap.size k l0 v6 wr)) (fun _ v7 _ => l0.length - (intOf v7).toNat)
  case atStart => exact ⟨0, Nat.zero_le _, rfl, ⟨none, [], wr_new w2, Kd.N_nil _ _ _ _ _, (by simp), (fun k e => by cases e), hb2.out.size, (fun k e => by cases e), Nat.le_refl _, hb2.out.alloc hb2.out.size _⟩⟩
  case round =>
    obtain ⟨k, hk, rfl, HI⟩ := hrel
    obtain ⟨r, D, hW, hN, hD, hr, hg, hv, hL, hB⟩ := HI.out
    obtain ⟨A6, c6, rfl⟩ := Kd.N_slice hN
    clear HI
    have hOL := opsB_len D
    by_cases hlk : k < l0.length
    · obtain ⟨ad, A3, c3, rfl, h0, h1, h2, h3, hl3, hC3⟩ := at_T30 (HR.out (Below.refl _ _)) (k : Int) (by omega) (by omega)
      have hx3 : (rd_T30 l0 (k : Int)).f3.length ≤ 600 := hsm.out.each k hlk
      have hxm := rd_mem l0 k hlk
      generalize rd_T30 l0 (k : Int) = x at *
      rw [show ((k : Int)).toNat = k by omega] at h0 h1 h2 h3
      have hcX : ∀ {X : World}, Below w.heap.size w X → X.cell? (ad.add (k * 4)) = some (.bool x.f0) ∧ X.cell? ⟨(ad.add (k * 4)).block, (ad.add (k * 4)).off + 1, none⟩ = some (.int .i64 x.f1) ∧ X.cell? ⟨(ad.add (k * 4)).block, (ad.add (k * 4)).off + 2, none⟩ = some (.int .i64 x.f2) ∧ X.cell? ⟨(ad.add (k * 4)).block, (ad.add (k * 4)).off + 3, none⟩ = some (.slice A3 x.f3.length c3) := fun hb => ⟨pw_cell_below hb h0, pw_cell_below hb h1, pw_cell_below hb h2, pw_cell_below hb h3⟩
      replace hcX := Aside0.mk @hcX
      have hXC : ∀ {X : World}, Below w.heap.size w X → Kd.C (Kd.int .u8) X A3 x.f3.length x.f3 := fun hb => Kd.C_below hC3 hb
      replace hXC := Aside0.mk @hXC
      have hXF := Aside0.mk (Kd.C_F (Kd.heap_int _) hC3)
      have hmid : ∀ {X w5 : World}, Below wr.heap.size wr X → WrPost w2.heap.size r (opsB D ++ opB x) X w5 → ∃ r1, BMid w w2.heap.size k l0 D x (.slice A6 D.length c6) w5 r1 := fun hx hp => BMid.of hN hD hr hg hv hL hB (WrPost.drawn hx hp)
      replace hmid := Aside0.mk @hmid
      clear hC3 h0 h1 h2 h3
      obtain ⟨h0, h1, h2, h3⟩ := hcX.out hB
      replace hr := Aside0.mk hr
      replace hg := Aside0.mk hg
      replace hL := Aside0.mk hL
      replace hOL := Aside0.mk hOL
      replace hx3 := Aside0.mk hx3
      replace hB := Aside0.mk hB
      replace hW := Aside0.mk hW
      replace hxm := Aside0.mk hxm
      clear hN hD hv
      obtain ⟨y0, y1, y2, y3⟩ := x
      cases y0 with
      | true =>
        go_wp2_with fail
        refine (lay_any w2.heap.size r (opsB D) A3 c3 y3 _ hW.out (fun W1 hc => reads_of_C (hXC.out (Chg.then_ hB.out hc (fun k hk => by rcases hk with rfl | e; exact hg.out; exact hr.out k e.symm) hB.out.size))) (by have := hOL.out; have := hL.out; omega) (by have := hx3.out; omega)).mono ?_
        rintro e w5 ⟨rfl, hq5⟩
        obtain ⟨r1, hM⟩ := hmid.out (Below.refl _ _) hq5
        clear hq5 h0 h1 h2 h3
        obtain ⟨h0, h1, h2, h3⟩ := hcX.out hM.below
        have hXF5 := Aside0.mk (Kd.F_below hXF.out hM.below)
        have hE0 : opE ⟨true, y1, y2, y3⟩ = (layE y3) := rfl
        by_cases hE : (layE y3) = 0
        · have hM' := Aside0.mk hM
          replace hE0 := Aside0.mk (hE0.trans hE)
          rw [hE]
          go_wp2_with ((with_reducible refine gate_builtin (b := .append) (xs := #[.tmp 60, .tmp 65]) rfl ?_); at_builtin; refine Kd.N_append k30 (w0 := w5) 0 rfl (.tmp 60) (.tmp 65) 22 30 (.agg #[(.bool false), (.int .i64 0), (.int .i64 0), (.slice none 0 0)]) 48 rfl Try.underlying22 infoOp rfl (by decide) (by decide) (.slice A6 D.length c6) D ⟨true, y1, y2, y3⟩ [.bool true, .int .i64 y1, .int .i64 y2, .slice A3 y3.length c3] (fun k => k ≠ w2.heap.size ∧ some k ≠ r1) (fun k => k < w.heap.size) rfl rfl (mkFOp _ _ ⟨true, y1, y2, y3⟩ hl3 hXF5.out) ?aQ ?aR hM'.out.row (Below.refl _ _) (Nat.zero_le _) (by have := hM'.out.len; omega) ?_; (case aQ => intro k hk; refine ⟨⟨fun e => by have := hg.out; omega, fun e => by have := hM'.out.rlow k e.symm; omega⟩, fun e => by have := hM'.out.vlow k e.symm; omega⟩); (case aR => intro k hk; have := hM'.out.wr.lt; exact ⟨by omega, fun e => by have := this.2 k e.symm; omega⟩); intro v1 w7 hN1 _ hgr hat; have HN := Aside0.mk (BMid.app hM'.out hE0.out hxm.out hN1 (o := .cells #[] 0) (.inr hgr) hat); obtain ⟨A8, c8, rfl⟩ := Kd.N_slice hN1; clear hN1 hgr hat; generalize (D ++ [_]).length = n8 at HN)
          go_roundw
          case rel => exact ⟨k + 1, by omega, by go_num, HN⟩
          case measure => simp [intOf]; omega
        · have hM' := Aside0.mk (hM.bad (by rw [hE0]; exact hE))
          have e9 : ((layE y3) == 0) = false := by simpa using hE
          generalize (layE y3) = E at *
          clear hM hE0
          replace hE := Aside0.mk hE
          go_wp2_with fail
          go_roundw
          case rel => exact ⟨k + 1, by omega, by go_num, hM'⟩
          case measure => simp [intOf]; omega
      | false =>
        go_wp2_with fail
        go_still_tail 11, (by kernel_rfl)
        go_wp2_with fail
        refine (put_any w2.heap.size r (opsB D) y1 y2 wr.drew (hW.out.below (below_drew (Below.refl _ _))) (by have := hOL.out; have := hL.out; omega)).mono ?_
        rintro e w5 ⟨rfl, hq5⟩
        obtain ⟨r1, hM⟩ := hmid.out (below_drew (Below.refl _ _)) hq5
        clear hq5 h0 h1 h2 h3
        obtain ⟨h0, h1, h2, h3⟩ := hcX.out hM.below
        have hXF5 := Aside0.mk (Kd.F_below hXF.out hM.below)
        have hE0 : opE ⟨false, y1, y2, y3⟩ = (putE y1 y2) := rfl
        by_cases hE : (putE y1 y2) = 0
        · have hM' := Aside0.mk hM
          replace hE0 := Aside0.mk (hE0.trans hE)
          rw [hE]
          go_wp2_with ((with_reducible refine gate_builtin (b := .append) (xs := #[.tmp 60, .tmp 65]) rfl ?_); at_builtin; refine Kd.N_append k30 (w0 := w5) 0 rfl (.tmp 60) (.tmp 65) 22 30 (.agg #[(.bool false), (.int .i64 0), (.int .i64 0), (.slice none 0 0)]) 48 rfl Try.underlying22 infoOp rfl (by decide) (by decide) (.slice A6 D.length c6) D ⟨false, y1, y2, y3⟩ [.bool false, .int .i64 y1, .int .i64 y2, .slice A3 y3.length c3] (fun k => k ≠ w2.heap.size ∧ some k ≠ r1) (fun k => k < w.heap.size) rfl rfl (mkFOp _ _ ⟨false, y1, y2, y3⟩ hl3 hXF5.out) ?aQ ?aR hM'.out.row (Below.refl _ _) (Nat.zero_le _) (by have := hM'.out.len; omega) ?_; (case aQ => intro k hk; refine ⟨⟨fun e => by have := hg.out; omega, fun e => by have := hM'.out.rlow k e.symm; omega⟩, fun e => by have := hM'.out.vlow k e.symm; omega⟩); (case aR => intro k hk; have := hM'.out.wr.lt; exact ⟨by omega, fun e => by have := this.2 k e.symm; omega⟩); intro v1 w7 hN1 _ hgr hat; have HN := Aside0.mk (BMid.app hM'.out hE0.out hxm.out hN1 (o := .cells #[] 0) (.inr hgr) hat); obtain ⟨A8, c8, rfl⟩ := Kd.N_slice hN1; clear hN1 hgr hat; generalize (D ++ [_]).length = n8 at HN)
          go_roundw
          case rel => exact ⟨k + 1, by omega, by go_num, HN⟩
          case measure => simp [intOf]; omega
        · have hM' := Aside0.mk (hM.bad (by rw [hE0]; exact hE))
          have e9 : ((putE y1 y2) == 0) = false := by simpa using hE
          generalize (putE y1 y2) = E at *
          clear hM hE0
          replace hE := Aside0.mk hE
          go_wp2_with fail
          go_roundw
          case rel => exact ⟨k + 1, by omega, by go_num, hM'⟩
          case measure => simp [intOf]; omega
    · obtain rfl : k = l0.length := by omega
      have hDl : D.length ≤ 60 := by omega
      have hOl : (opsB D).length ≤ 42000 := by omega
      have hDB : Aside0 (∀ x ∈ D, Bytes x.f3) := ⟨fun x hx => hBy.out x (hD x hx).2⟩
      have hDg := Aside0.mk (fun x hx => (hD x hx).1)
      obtain ⟨hn6, hl6, hC6⟩ := Kd.N_reads' hN
      clear hn6 hN hD hv hL hOL
      replace hB := Aside0.mk hB
      replace hC6 := Aside0.mk hC6
      replace hW := Aside0.mk hW
      clear hr hg
      go_wp2_with fail
      refine (bytes_any w2.heap.size r (opsB D) _ hW.out (by omega)).mono ?_
      rintro e w5 ⟨v5, rfl, hR5, hd5⟩
      obtain ⟨A5, c5, rfl, hl5, hC5⟩ := Kd.R_reads hR5
      have hC65 := Aside0.mk (Kd.C_below hC6.out hd5)
      have hb5 := Aside0.mk (below_then hB.out hB.out.size hd5)
      replace hC5 := Aside0.mk hC5
      clear hR5 hd5
      go_wp2_with fail
      refine (newReader_any A5 c5 (opsB D) _ hC5.out hl5 (by omega)).mono ?_
      rintro e w6 ⟨g2, rfl, hg2, hR6, hd6⟩
      have HI := Aside0.mk (show LI w5 g2 D 0 w6 from ⟨_, by rw [List.drop_zero]; exact hR6, hd6⟩)
      have hb6 := Aside0.mk (below_then hb5.out hb5.out.size hd6)
      replace hg2 := Aside0.mk hg2
      clear hR6 hd6
      go_wp2_with fail
      go_loopw [10] (fun v10 wq => ∃ k : Nat, k ≤ D.length ∧ v10 = .int .i64 k ∧ Aside0 (LI w5 g2 D k wq)) (fun v10 _ => D.length - (intOf v10).toNat)
      case atStart => exact ⟨0, Nat.zero_le _, rfl, HI⟩
      case round =>
        obtain ⟨k, hk, rfl, HJ⟩ := hrel
        obtain ⟨ok2, hRd, hBq⟩ := HJ.out
        clear HJ HI
        by_cases hlk : k < D.length
        · obtain ⟨ad, A3, c3, rfl, h0, h1, h2, h3, hl3, hC3⟩ := at_T30 hC65.out (k : Int) (by omega) (by omega)
          have hxm := rd_mem D k hlk
          have hod := opsB_drop D k hlk
          have hxg := hDg.out _ hxm
          have hxB := hDB.out _ hxm
          have hrB : Bytes (opsB (D.drop (k + 1))) := bytes_opsB _ (fun x hx => hDB.out x (List.mem_of_mem_drop hx))
          rw [hod] at hRd
          have hBB : Bytes (opB (rd_T30 D (k : Int)) ++ opsB (D.drop (k + 1))) := fun y hy => by
            rcases List.mem_append.1 hy with hy | hy
            · exact bytes_opB _ hxB y hy
            · exact hrB y hy
          have hnext : ∀ {w9 : World}, Rd w9 g2 ok2 (opsB (D.drop (k + 1))) → Below w5.heap.size w5 w9 → LI w5 g2 D (k + 1) w9 := fun a b => ⟨ok2, a, b⟩
          replace hnext := Aside0.mk @hnext
          generalize opsB (D.drop (k + 1)) = R at *
          clear hod hxm hrB hxB
          generalize rd_T30 D (k : Int) = x at *
          rw [show ((k : Int)).toNat = k by omega] at h0 h1 h2 h3
          have hcX : ∀ {X : World}, Below w5.heap.size w5 X → X.cell? (ad.add (k * 4)) = some (.bool x.f0) ∧ X.cell? ⟨(ad.add (k * 4)).block, (ad.add (k * 4)).off + 1, none⟩ = some (.int .i64 x.f1) ∧ X.cell? ⟨(ad.add (k * 4)).block, (ad.add (k * 4)).off + 2, none⟩ = some (.int .i64 x.f2) ∧ X.cell? ⟨(ad.add (k * 4)).block, (ad.add (k * 4)).off + 3, none⟩ = some (.slice A3 x.f3.length c3) := fun hb => ⟨pw_cell_below hb h0, pw_cell_below hb h1, pw_cell_below hb h2, pw_cell_below hb h3⟩
          replace hcX := Aside0.mk @hcX
          have hXC : ∀ {X : World}, Below w5.heap.size w5 X → Kd.C (Kd.int .u8) X A3 x.f3.length x.f3 := fun hb => Kd.C_below hC3 hb
          replace hXC := Aside0.mk @hXC
          have hpast : ∀ {M : List Int} {w9 : World}, RdPost g2 ok2 M wr w9 → Below w5.heap.size w5 w9 := fun hp => Chg.then_ hBq hp.2 (fun k hk => by rw [hk]; have := hg2.out; omega) hBq.size
          replace hpast := Aside0.mk @hpast
          clear h0 h1 h2 h3 hC3
          obtain ⟨h0, h1, h2, h3⟩ := hcX.out hBq
          replace hRd := Aside0.mk hRd
          replace hBB := Aside0.mk hBB
          replace hBq := Aside0.mk hBq
          obtain ⟨y0, y1, y2, y3⟩ := x
          cases y0 with
          | true =>
            have hle : y3.length ≤ 255 := by
              have : layE y3 = 0 := hxg
              unfold layE at this
              split at this
              · assumption
              · cases this
            have ho : opB ⟨true, y1, y2, y3⟩ = (y3.length : Int) :: y3 := by
              show layB y3 = _
              unfold layB
              rw [if_pos hle]
            rw [ho] at hRd hBB
            have ht := take_lay y3 R hle
            have hc := take_any g2 ok2 ((y3.length : Int) :: y3 ++ R) wr hRd.out hBB.out
            rw [ht.1, ht.2.1, ht.2.2] at hc
            replace hc := Aside0.mk hc
            replace hle := Aside0.mk hle
            clear ht hxg ho hRd hBB
            go_wp2_with fail
            refine hc.out.mono ?_
            rintro e w9 ⟨v9, rfl, hR9, hp9⟩
            have hb9 := Aside0.mk (hpast.out hp9)
            have hN9 := Aside0.mk hp9.1
            obtain ⟨A9, c9, rfl, hl9, hC9⟩ := Kd.R_reads hR9
            replace hC9 := Aside0.mk hC9
            clear hR9 hp9 hc h0 h1 h2 h3
            obtain ⟨h0, h1, h2, h3⟩ := hcX.out hb9.out
            go_wp2_with fail
            refine (ref_same A9 A3 c9 c3 y3 y3 _ hC9.out hl9 (hXC.out hb9.out) hl3 (by have := hle.out; omega) true (by simp)).mono ?_
            rintro e w10 ⟨rfl, hd10⟩
            have HN := Aside0.mk (hnext.out (hN9.out.below hd10.below) (below_then hb9.out hb9.out.size hd10.below))
            clear hd10
            go_wp2_with fail
            go_roundw
            case rel => exact ⟨k + 1, by omega, by go_num, HN⟩
            case measure => simp [intOf]; omega
          | false =>
            have hmp : mayPut y1 y2 := by
              have : putE y1 y2 = 0 := hxg
              unfold putE at this
              split at this
              · assumption
              · cases this
            have ho : opB ⟨false, y1, y2, y3⟩ = le y2.toNat y1 := by
              show putB y1 y2 = _
              unfold putB
              rw [if_pos hmp]
            rw [ho] at hRd hBB
            have ht := get_put y1 y2 R hmp
            have hc := get_any g2 ok2 (le y2.toNat y1 ++ R) y2 wr hRd.out hBB.out
            rw [ht.1, ht.2.1, ht.2.2] at hc
            replace hc := Aside0.mk hc
            clear ht hxg ho hRd hBB hmp
            go_wp2_with fail
            refine hc.out.mono ?_
            rintro e w9 ⟨rfl, hp9⟩
            have hb9 := Aside0.mk (hpast.out hp9)
            have HN := Aside0.mk (hnext.out hp9.1 hb9.out)
            clear hp9 hc h0 h1 h2 h3
            obtain ⟨h0, h1, h2, h3⟩ := hcX.out hb9.out
            go_wp2_with fail
            go_roundw
            case rel => exact ⟨k + 1, by omega, by go_num, HN⟩
            case measure => simp [intOf]; omega
        · obtain rfl : k = D.length := by omega
          rw [List.drop_length] at hRd
          have hb7 := Aside0.mk (below_then hb5.out hb5.out.size hBq)
          replace hRd := Aside0.mk hRd
          clear hBq
          go_wp2_with fail
          refine (left_any g2 ok2 (opsB []) _ hRd.out).mono ?_
          rintro e w9 ⟨rfl, rfl⟩
          rw [show (opsB []).length = 0 from rfl]
          go_wp2_with fail
          go_ret
          exact ⟨rfl, hb7.out⟩
def bobbinlaw01_BytBack.f (l0 : List S30) : Option Bool := if ∀ x ∈ l0, ∀ y ∈ x.f3, 0 ≤ y ∧ y ≤ 255 then some true else none
theorem bobbinlaw01_BytBack.calls (A0 : Option Addr) (c0 : Nat) (l0 : List S30) (r : Bool) (w : World) (hr0 : Kd.C k30 w A0 l0.length l0) (hc0 : l0.length ≤ c0) (h : bobbinlaw01_BytBack.f l0 = some r) :
    Calls Try.prog 7 #[.slice A0 l0.length c0] w fun e w' => e = .returned (.bool r) ∧ Below w.heap.size w w' := by
  unfold bobbinlaw01_BytBack.f at h
  split at h
  · rename_i hn
    obtain rfl := Option.some.inj h
    exact bobbinlaw01_BytBack.walk A0 c0 l0 w hr0 hc0 hn
  · cases h
end Go.Proofs.Ytkniklgecmdeoaa.Print
