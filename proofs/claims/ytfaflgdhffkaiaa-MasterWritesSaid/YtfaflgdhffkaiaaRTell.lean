/- law09: the document's Told and Read, walked. -/
import Derived.Test.YtfaflgdhffkaiaaRTold
namespace Go.Proofs.Ytfaflgdhffkaiaa.Print
open Go.RowKit Go.Proofs.YtfaflgdhffkaiaaW.PrintWords Go.Proofs.YtfaflgdhffkaiaaW.PrintLast Go.Proofs.YtfaflgdhffkaiaaW.PrintMore
set_option linter.unusedVariables false
set_option linter.unusedSimpArgs false
theorem rget_any (A : Option Addr) (c n : Nat) (l : List Int) (X : World) (hn : n = l.length) (hB : Bytes l) (h4 : 4 ≤ l.length) (hc : l.length ≤ c) (hF : Kd.F (Kd.int .u8) X (fun _ => True) A l.length l) :
    Calls Try.prog 45 #[.slice A n c, .int .i64 4] X fun e w' => ∃ v1_ : Value, e = .returned (.tuple #[.int .i64 (leN (l.take 4)), v1_, .int .i64 0]) ∧ Below X.heap.size X w' := by
  subst hn
  obtain ⟨k, hk⟩ := Ev.rounds (get4 l hB h4)
  refine (bobbinref01_Get.calls k (fun _ => True) A c l 4 _ _ _ X (Kd.V_mk hc hF) hk).mono ?_
  rintro e w' ⟨v, rfl, _, hb⟩
  exact ⟨v, rfl, hb⟩
theorem rmay_any (m : MS) (w : World) : Calls Try.prog 19 #[.agg #[.int .i64 m.no, .int .i64 m.ep, .int .i64 m.st, .int .i64 m.ck]] w fun e w' => e = .returned (.bool m.may) ∧ Below w.heap.size w w' := bobbinref09_May.calls m.no m.ep m.st m.ck m.may w (rmay m)
theorem rsector_any (m : MS) (hm : m.mayP) (w : World) : Calls Try.prog 22 #[.agg #[.int .i64 m.no, .int .i64 m.ep, .int .i64 m.st, .int .i64 m.ck]] w fun e w' => ∃ A c, e = .returned (.slice A 256 c) ∧ 256 ≤ c ∧ Kd.C (Kd.int .u8) w' A 256 m.sect ∧ Below w.heap.size w w' := by
  obtain ⟨k, hk⟩ := Ev.rounds (rsector m hm)
  refine (bobbinref09_Sector.calls k m.no m.ep m.st m.ck _ w hk).mono ?_
  rintro e w' ⟨v, rfl, hR, hb⟩
  obtain ⟨A, c, rfl⟩ := Kd.R_slice hR
  have h3 := Kd.R_reads' hR
  rw [m.sect_len] at h3 ⊢
  exact ⟨A, c, rfl, h3.2.1, h3.2.2, hb⟩
theorem rsame_any (A B : Option Addr) (c d : Nat) (l m : List Int) (w : World) (hl : l.length = 256) (hm : m.length = 256) (hC : Kd.C (Kd.int .u8) w A 256 l) (hc : 256 ≤ c) (hD : Kd.C (Kd.int .u8) w B 256 m) (hd : 256 ≤ d) :
    Calls Try.prog 21 #[.slice A 256 c, .slice B 256 d] w fun e w' => e = .returned (.bool (decide (l = m))) ∧ Drawn0 w w' := by
  have := ref_same A B c d l m w (by rw [hl]; exact hC) (by omega) (by rw [hm]; exact hD) (by omega) (by omega) (decide (l = m)) rfl
  rwa [hl, hm] at this
theorem ropen_any (A : Option Addr) (c : Nat) (l : List Int) (w : World) (hl : l.length = 256) (hB : Bytes l) (hC : Kd.C (Kd.int .u8) w A 256 l) (hc : 256 ≤ c) (r1 : List Int) (r2 r3 : Int) (hr : (if okS l then (body l, leN (l.take 4), 0) else (([] : List Int), (0 : Int), (20 : Int))) = (r1, r2, r3)) :
    Calls Try.prog 44 #[.slice A 256 c] w fun e w' => ∃ v0_ : Value, e = .returned (.tuple #[v0_, .int .i64 r2, .int .i64 r3]) ∧ Kd.R (Kd.int .u8) 5 w' w.heap.size (fun _ => True) v0_ r1 ∧ Below w.heap.size w w' := by
  obtain ⟨k, hk⟩ := Ev.rounds (ropen hl hB)
  have := bobbinref02_Open.calls k A c l r1 r2 r3 w (by rw [hl]; exact hC) (by omega) (by rw [hk, hr])
  rwa [hl] at this
set_option maxHeartbeats 4000000 in
set_option maxRecDepth 100000 in
theorem rtold_any (A : Option Addr) (c : Nat) (s : List Int) (at_ : Int) (w : World) (hl : s.length = 256) (hB : Bytes s) (hC : Kd.C (Kd.int .u8) w A 256 s) (hc : 256 ≤ c) :
    Calls Try.prog 30 #[.slice A 256 c, .int .i64 at_] w fun e w' => e = .returned (.tuple #[.agg #[.int .i64 (rToldM s at_).no, .int .i64 (rToldM s at_).ep, .int .i64 (rToldM s at_).st, .int .i64 (rToldM s at_).ck], .bool (rTold s at_)]) ∧ Below w.heap.size w w' := by
  have hb0 : Aside0 (Below w.heap.size w (w.alloc (.cells #[.int .i64 0, .int .i64 0, .int .i64 0, .int .i64 0] 30))) := ⟨below_alloc (Below.refl _ _) _⟩
  have hx0 := Aside0.mk (heap_alloc_new w (.cells #[.int .i64 0, .int .i64 0, .int .i64 0, .int .i64 0] 30))
  have hxl : w.heap.size < (w.alloc (.cells #[.int .i64 0, .int .i64 0, .int .i64 0, .int .i64 0] 30)).heap.size := by rw [World.size_alloc]; omega
  have HC := Aside0.mk (fun X (hX : Below w.heap.size w X) => Kd.C_below hC hX)
  have hop := ropen_any A c s (w.alloc (.cells #[.int .i64 0, .int .i64 0, .int .i64 0, .int .i64 0] 30)) hl hB (HC.out _ hb0.out) hc
  have hrT : rTold s at_ = decide (okS s ∧ (rdM (body s)).mayP ∧ Int.tmod (rdM (body s)).no 2 = at_ ∧ (rdM (body s)).sect = s) := rfl
  have hrM : rToldM s at_ = if okS s ∧ (rdM (body s)).mayP ∧ Int.tmod (rdM (body s)).no 2 = at_ then rdM (body s) else mz := rfl
  replace hrT := Aside0.mk hrT
  replace hrM := Aside0.mk hrM
  clear hC
  by_cases h : okS s
  · rw [if_pos h] at hop
    have hop := Aside0.mk (hop _ _ _ rfl)
    have hBb := Aside0.mk (body_bytes hB)
    have hlb := Aside0.mk (body_len hl)
    generalize leN (s.take 4) = st at *
    generalize body s = b at *
    replace hl := Aside0.mk hl
    replace hB := Aside0.mk hB
    replace h := Aside0.mk h
    go_enter Try.func30, Try.ntmps30
    go_wp2_with fail
    refine hop.out.mono ?_
    rintro e w1 ⟨v0, rfl, hR, hb1⟩
    have hx1 := Aside0.mk ((hb1.block w.heap.size hxl).trans hx0.out)
    have hB1 := Aside0.mk (hb0.out.trans (hb1.mono (Nat.le_of_lt hxl)))
    have hl1 : w.heap.size < w1.heap.size := Nat.lt_of_lt_of_le hxl hb1.size
    obtain ⟨q, cb, rfl, hq0, hq1, _⟩ := Kd.R_form hR (by rw [hlb.out]; decide)
    have hcb := (Kd.R_reads' hR).2.1
    have hF0 : Kd.F (Kd.int .u8) w1 (fun _ => True) (some ⟨q, 0, none⟩) b.length b := Kd.F_mono (Kd.R_F hR) (fun _ _ => trivial)
    rw [hlb.out] at hcb
    have hF := Aside0.mk (fun (o : Nat) (ho0 : o ≤ 12) (ho : 0 < o) => show Kd.F (Kd.int .u8) w1 (fun _ => True) (some ⟨q, o, none⟩) (b.drop o).length (b.drop o) from by
      have := Kd.F_cut (m := o) (c := cb) hF0 (by rw [hlb.out]; omega) (by rw [hlb.out]; exact hcb)
      rw [if_neg (by omega)] at this
      simpa [Addr.add, show (Kd.int .u8).sz = 1 from rfl, show o ≠ 0 by omega] using this)
    have hgt : Aside0 (∀ X (o : Nat), Below w1.heap.size w1 X → 0 < o → o ≤ 12 → Calls Try.prog 45 #[.slice (some ⟨q, o, none⟩) (248 - o) (cb - o), .int .i64 4] X fun e w' => ∃ v1_ : Value, e = .returned (.tuple #[.int .i64 (leN ((b.drop o).take 4)), v1_, .int .i64 0]) ∧ Below X.heap.size X w') := ⟨fun X o hX h0 h1 => by
      have hld : (b.drop o).length = 248 - o := by rw [List.length_drop, hlb.out]
      exact rget_any _ _ _ _ X hld.symm (fun x hx => hBb.out x (List.mem_of_mem_drop hx)) (by omega) (by omega) (Kd.F_below (hF.out o h1 h0) hX)⟩
    have hg0 : Aside0 (∀ X, Below w1.heap.size w1 X → Calls Try.prog 45 #[.slice (some ⟨q, 0, none⟩) 248 cb, .int .i64 4] X fun e w' => ∃ v1_ : Value, e = .returned (.tuple #[.int .i64 (leN (b.take 4)), v1_, .int .i64 0]) ∧ Below X.heap.size X w') := ⟨fun X hX => rget_any _ _ _ _ X hlb.out.symm hBb.out (by rw [hlb.out]; decide) (by rw [hlb.out]; exact hcb) (Kd.F_below hF0 hX)⟩
    rw [hlb.out] at ⊢
    clear hR hb1 hF hF0 hop hq0 hq1
    go_wp2_with fail
    refine (hg0.out w1 (Below.refl _ _)).mono ?_
    rintro e w2 ⟨u0, rfl, hb2⟩
    obtain ⟨v0, hv0⟩ : ∃ v : Int, v = leN (b.take 4) := ⟨_, rfl⟩
    rw [← hv0]
    replace hv0 := Aside0.mk hv0
    replace hb2 := Aside0.mk hb2
    clear hg0
    go_wp2_with fail
    refine (hgt.out w2 4 hb2.out (by decide) (by decide)).mono ?_
    rintro e w3 ⟨u1, rfl, hb3⟩
    obtain ⟨v1, hv1⟩ : ∃ v : Int, v = leN ((b.drop 4).take 4) := ⟨_, rfl⟩
    rw [← hv1]
    replace hv1 := Aside0.mk hv1
    have hb3 := Aside0.mk (hb2.out.trans (hb3.mono hb2.out.size))
    clear hb2
    go_wp2_with fail
    refine (hgt.out w3 8 hb3.out (by decide) (by decide)).mono ?_
    rintro e w4 ⟨u2, rfl, hb4⟩
    obtain ⟨v2, hv2⟩ : ∃ v : Int, v = leN ((b.drop 8).take 4) := ⟨_, rfl⟩
    rw [← hv2]
    replace hv2 := Aside0.mk hv2
    have hb4 := Aside0.mk (hb3.out.trans (hb4.mono hb3.out.size))
    clear hb3
    go_wp2_with fail
    refine (hgt.out w4 12 hb4.out (by decide) (by decide)).mono ?_
    rintro e w5 ⟨u3, rfl, hb5⟩
    obtain ⟨v3, hv3⟩ : ∃ v : Int, v = leN ((b.drop 12).take 4) := ⟨_, rfl⟩
    rw [← hv3]
    replace hv3 := Aside0.mk hv3
    have hb5 := hb4.out.trans (hb5.mono hb4.out.size)
    have hx5 := (hb5.block w.heap.size hl1).trans hx1.out
    have hB5 := hB1.out.trans (hb5.mono hB1.out.size)
    have hl5 : w.heap.size < w5.heap.size := Nat.lt_of_lt_of_le hl1 hb5.size
    have hrm : Aside0 (rdM b = ⟨v0, v1, v2, v3⟩) := ⟨by rw [hv0.out, hv1.out, hv2.out, hv3.out]; rfl⟩
    have hal := below_alloc (Below.refl w5.heap.size w5) (.cells #[.int .i64 v0, .int .i64 v1, .int .i64 v2, .int .i64 v3] 30)
    have hx6 := Aside0.mk ((hal.block _ hl5).trans hx5)
    have hB6 := Aside0.mk (hB5.trans (hal.mono hB5.size))
    have hm6 := heap_alloc_new w5 (.cells #[.int .i64 v0, .int .i64 v1, .int .i64 v2, .int .i64 v3] 30)
    have hml : w5.heap.size < (w5.alloc (.cells #[.int .i64 v0, .int .i64 v1, .int .i64 v2, .int .i64 v3] 30)).heap.size := by rw [World.size_alloc]; omega
    clear hb4 hb5 hx5 hB5 hal hv0 hv1 hv2 hv3 hgt hx1 hB1
    go_upto_region 9 with fail
    generalize w5.alloc (.cells #[.int .i64 v0, .int .i64 v1, .int .i64 v2, .int .i64 v3] 30) = w6 at *
    generalize hmb : w5.heap.size = mb at *
    obtain ⟨z0, z1, z2, z3⟩ := m_cells hm6
    replace hm6 := Aside0.mk hm6
    go_wp2_with fail
    refine (rmay_any ⟨v0, v1, v2, v3⟩ w6).mono ?_
    rintro e w7 ⟨rfl, hb7⟩
    have hx7 := Aside0.mk ((hb7.block _ (by omega)).trans hx6.out)
    have hm7 := (hb7.block _ hml).trans hm6.out
    have hB7 := Aside0.mk (hB6.out.trans (hb7.mono hB6.out.size))
    have hml7 : mb < w7.heap.size := Nat.lt_of_lt_of_le hml hb7.size
    clear hb7 z0 z1 z2 z3 hm6 hx6 hB6
    obtain ⟨z0, z1, z2, z3⟩ := m_cells hm7
    obtain ⟨x0, x1, x2, x3, g0, g1, g2, g3⟩ := four_cells hx7.out
    rw [hrm.out] at hrT hrM
    have hstz := Aside0.mk (four_store hx7.out (.int .i64 0) (.int .i64 0) (.int .i64 0) (.int .i64 0))
    have hBz := Aside0.mk (hB7.out.trans (Chg.below hstz.out.1 (fun k e => Nat.le_of_eq e.symm) hB7.out.size))
    by_cases hm : (⟨v0, v1, v2, v3⟩ : MS).mayP
    · have hmy : (⟨v0, v1, v2, v3⟩ : MS).may = true := decide_eq_true hm
      by_cases hp : v0.tmod 2 = at_
      · have f1 : (v0.tmod 2 != at_) = false := by simpa using hp
        rw [hmy]
        have hsec := rsector_any ⟨v0, v1, v2, v3⟩ hm w7
        have hM : Aside0 (rToldM s at_ = ⟨v0, v1, v2, v3⟩) := ⟨hrM.out.trans (if_pos ⟨h.out, hm, hp⟩)⟩
        have hT : Aside0 (rTold s at_ = decide ((⟨v0, v1, v2, v3⟩ : MS).sect = s)) := ⟨hrT.out.trans (decide_eq_decide.2 ⟨fun q => q.2.2.2, fun q => ⟨h.out, hm, hp, q⟩⟩)⟩
        replace hsec := Aside0.mk hsec
        clear hm hp hmy
        go_wp2_with fail
        refine hsec.out.mono ?_
        rintro e w8 ⟨A8, c8, rfl, hc8, hC8, hb8⟩
        have hB8 := hB7.out.trans (hb8.mono hB7.out.size)
        have hC8' := HC.out w8 hB8
        have hx8 := (hb8.block _ (by omega)).trans hx7.out
        have hm8 := (hb8.block _ hml7).trans hm7
        have hsm := rsame_any A8 A c8 c (⟨v0, v1, v2, v3⟩ : MS).sect s w8 (MS.sect_len _) hl.out hC8 hc8 hC8' hc
        rw [← hT.out] at hsm
        replace hsm := Aside0.mk hsm
        clear hC8 hC8' hb8 hsec z0 z1 z2 z3 x0 x1 x2 x3 g0 g1 g2 g3 hstz hBz
        go_wp2_with fail
        refine hsm.out.mono ?_
        rintro e w9 ⟨rfl, hdr⟩
        obtain ⟨n9, rfl⟩ := hdr
        have hbd := pw_below_drewN (Below.refl w8.heap.size w8) n9
        have hx9 := (hbd.block _ (Array.getElem?_eq_some_iff.1 hx8).1).trans hx8
        have hm9 := (hbd.block _ (Array.getElem?_eq_some_iff.1 hm8).1).trans hm8
        have hB9 := hB8.trans (hbd.mono hB8.size)
        generalize w8.drewN n9 = w9 at *
        obtain ⟨z0, z1, z2, z3⟩ := m_cells hm9
        obtain ⟨x0, x1, x2, x3, g0, g1, g2, g3⟩ := four_cells hx9
        have hst := Aside0.mk (four_store hx9 (.int .i64 v0) (.int .i64 v1) (.int .i64 v2) (.int .i64 v3))
        have hB10 := Aside0.mk (hB9.trans (Chg.below hst.out.1 (fun k e => Nat.le_of_eq e.symm) hB9.size))
        clear hx9 hm9 hB9 hbd hx8 hm8 hB8 hsm hm7
        go_wp2_with fail
        refine bodyPost_ret (results_ct rfl _ _ w.heap.size 30 #[.int .i64 v0, .int .i64 v1, .int .i64 v2, .int .i64 v3] (0, 0) _ rfl hst.out.2 Try.underlying30 rfl (by kernel_rfl)) rfl ?_
        exact ⟨by rw [hM.out]; rfl, hB10.out⟩
      · have f1 : (v0.tmod 2 != at_) = true := by simpa using hp
        rw [hmy]
        have hM : Aside0 (rToldM s at_ = mz) := ⟨hrM.out.trans (if_neg (fun q => hp q.2.2))⟩
        have hT : Aside0 (rTold s at_ = false) := ⟨hrT.out.trans (decide_eq_false (fun q => hp q.2.2.1))⟩
        clear hm hp hmy hm7
        go_wp2_with fail
        refine bodyPost_ret (results_ct rfl _ _ w.heap.size 30 #[.int .i64 0, .int .i64 0, .int .i64 0, .int .i64 0] (0, 0) _ rfl hstz.out.2 Try.underlying30 rfl (by kernel_rfl)) rfl ?_
        exact ⟨by rw [hM.out, hT.out]; rfl, hBz.out⟩
    · have hmy : (⟨v0, v1, v2, v3⟩ : MS).may = false := decide_eq_false hm
      rw [hmy]
      have hM : Aside0 (rToldM s at_ = mz) := ⟨hrM.out.trans (if_neg (fun q => hm q.2.1))⟩
      have hT : Aside0 (rTold s at_ = false) := ⟨hrT.out.trans (decide_eq_false (fun q => hm q.2.1))⟩
      clear hm hmy hm7
      go_wp2_with fail
      refine bodyPost_ret (results_ct rfl _ _ w.heap.size 30 #[.int .i64 0, .int .i64 0, .int .i64 0, .int .i64 0] (0, 0) _ rfl hstz.out.2 Try.underlying30 rfl (by kernel_rfl)) rfl ?_
      exact ⟨by rw [hM.out, hT.out]; rfl, hBz.out⟩
  · rw [if_neg h] at hop
    have hop := Aside0.mk (hop _ _ _ rfl)
    have hM : Aside0 (rToldM s at_ = mz) := ⟨hrM.out.trans (if_neg (fun q => h q.1))⟩
    have hT : Aside0 (rTold s at_ = false) := ⟨hrT.out.trans (decide_eq_false (fun q => h q.1))⟩
    clear h hl hB
    go_enter Try.func30, Try.ntmps30
    go_wp2_with fail
    refine hop.out.mono ?_
    rintro e w1 ⟨v0, rfl, hR, hb1⟩
    have hx := (hb1.block w.heap.size hxl).trans hx0.out
    have hB1 := Aside0.mk (hb0.out.trans (hb1.mono (Nat.le_of_lt hxl)))
    clear hR hb1
    obtain ⟨z0, z1, z2, z3, f0, f1, f2, f3⟩ := four_cells hx
    have hs := Aside0.mk (four_store hx (.int .i64 0) (.int .i64 0) (.int .i64 0) (.int .i64 0))
    have hB2 := Aside0.mk (hB1.out.trans (Chg.below hs.out.1 (fun k e => Nat.le_of_eq e.symm) hB1.out.size))
    clear hx
    go_wp2_with fail
    refine bodyPost_ret (results_ct rfl _ _ w.heap.size 30 #[.int .i64 0, .int .i64 0, .int .i64 0, .int .i64 0] (0, 0) _ rfl hs.out.2 Try.underlying30 rfl (by kernel_rfl)) rfl ?_
    exact ⟨by rw [hM.out, hT.out]; rfl, hB2.out⟩
set_option maxHeartbeats 2000000 in
set_option maxRecDepth 100000 in
theorem rread_any (A B : Option Addr) (c d : Nat) (a b : List Int) (w : World) (ha : a.length = 256) (hb : b.length = 256) (hBa : Bytes a) (hBb : Bytes b) (hC : Kd.C (Kd.int .u8) w A 256 a) (hc : 256 ≤ c) (hD : Kd.C (Kd.int .u8) w B 256 b) (hd : 256 ≤ d) :
    Calls Try.prog 13 #[.slice A 256 c, .slice B 256 d] w fun e w' => e = .returned (.tuple #[.agg #[.int .i64 (rrM a b).no, .int .i64 (rrM a b).ep, .int .i64 (rrM a b).st, .int .i64 (rrM a b).ck], .int .i64 (rrE a b)]) ∧ Below w.heap.size w w' := by
  have hb0 := below_alloc (Below.refl w.heap.size w) (.cells #[.int .i64 0, .int .i64 0, .int .i64 0, .int .i64 0] 30)
  have hx0 := heap_alloc_new w (.cells #[.int .i64 0, .int .i64 0, .int .i64 0, .int .i64 0] 30)
  have hxl : w.heap.size < (w.alloc (.cells #[.int .i64 0, .int .i64 0, .int .i64 0, .int .i64 0] 30)).heap.size := by rw [World.size_alloc]; omega
  have HA := Aside0.mk (fun X (hX : Below w.heap.size w X) => rtold_any A c a 0 X ha hBa (Kd.C_below hC hX) hc)
  have HB := Aside0.mk (fun X (hX : Below w.heap.size w X) => rtold_any B d b 1 X hb hBb (Kd.C_below hD hX) hd)
  have hM : rrM a b = if rTold a 0 = true ∧ (rTold b 1 = false ∨ (rToldM b 1).no < (rToldM a 0).no) then rToldM a 0 else if rTold b 1 = true then rToldM b 1 else mz := rfl
  have hE : rrE a b = if rTold a 0 = true ∧ (rTold b 1 = false ∨ (rToldM b 1).no < (rToldM a 0).no) then 0 else if rTold b 1 = true then 0 else 3 := rfl
  generalize rToldM a 0 = x at *
  generalize rToldM b 1 = y at *
  generalize rTold a 0 = is at *
  generalize rTold b 1 = was at *
  replace hM := Aside0.mk hM
  replace hE := Aside0.mk hE
  clear hC hD hBa hBb
  go_enter Try.func13, Try.ntmps13
  go_wp2_with fail
  generalize w.alloc (.cells #[.int .i64 0, .int .i64 0, .int .i64 0, .int .i64 0] 30) = w1 at *
  refine (HA.out w1 hb0).mono ?_
  rintro e w2 ⟨rfl, hb2⟩
  have hx2 := (hb2.block _ hxl).trans hx0
  have hB2 := hb0.trans (hb2.mono (Nat.le_of_lt hxl))
  have hl2 : w.heap.size < w2.heap.size := Nat.lt_of_lt_of_le hxl hb2.size
  have hal := below_alloc (Below.refl w2.heap.size w2) (.cells (agM x) 30)
  have hx3 := (hal.block _ hl2).trans hx2
  have hB3 := hB2.trans (hal.mono hB2.size)
  have hm3 := heap_alloc_new w2 (.cells (agM x) 30)
  have hl3 : w2.heap.size < (w2.alloc (.cells (agM x) 30)).heap.size := by rw [World.size_alloc]; omega
  clear hb2 hx0 hb0 hxl hx2 hB2 hal
  replace hm3 := Aside0.mk hm3
  replace hx3 := Aside0.mk hx3
  replace hB3 := Aside0.mk hB3
  go_upto_region 2 with fail
  generalize w2.alloc (.cells (agM x) 30) = w3 at *
  generalize w2.heap.size = bx at *
  go_wp2_with fail
  refine (HB.out w3 hB3.out).mono ?_
  rintro e w4 ⟨rfl, hb4⟩
  have hx4 := (hb4.block _ (by omega)).trans hx3.out
  have hm4 := (hb4.block _ hl3).trans hm3.out
  have hB4 := hB3.out.trans (hb4.mono hB3.out.size)
  have hl4 : bx < w4.heap.size := Nat.lt_of_lt_of_le hl3 hb4.size
  have hal := below_alloc (Below.refl w4.heap.size w4) (.cells (agM y) 30)
  have hx5 := (hal.block _ (by omega)).trans hx4
  have hm5 := (hal.block _ hl4).trans hm4
  have hB5 := hB4.trans (hal.mono hB4.size)
  have hy5 := heap_alloc_new w4 (.cells (agM y) 30)
  clear hb4 hx4 hm4 hB4 hal hx3 hm3 hB3
  replace hm5 := Aside0.mk hm5
  replace hx5 := Aside0.mk hx5
  replace hB5 := Aside0.mk hB5
  replace hy5 := Aside0.mk hy5
  go_upto_region 3 with fail
  generalize w4.alloc (.cells (agM y) 30) = w5 at *
  generalize w4.heap.size = bz at *
  obtain ⟨x0, x1, x2, x3⟩ := m_cells hm5.out
  obtain ⟨y0, y1, y2, y3⟩ := m_cells hy5.out
  obtain ⟨r0, r1, r2, r3, g0, g1, g2, g3⟩ := four_cells hx5.out
  have hst := Aside0.mk (fun a b c d => four_store hx5.out a b c d)
  have hBs := Aside0.mk (fun a b c d => hB5.out.trans (Chg.below (four_store hx5.out a b c d).1 (fun k e => Nat.le_of_eq e.symm) hB5.out.size))
  have fin : ∀ (m : MS) (ee : Int), rrM a b = m → rrE a b = ee → Aside0 (rrM a b = m ∧ rrE a b = ee) := fun m ee p q => ⟨⟨p, q⟩⟩
  cases is with
  | false =>
    cases was with
    | false =>
      have hr := fin mz 3 (hM.out.trans (by simp)) (hE.out.trans (by simp))
      clear fin
      go_wp2_with fail
      refine bodyPost_ret (results_ct rfl _ _ w.heap.size 30 #[.int .i64 0, .int .i64 0, .int .i64 0, .int .i64 0] (0, 0) _ rfl (hst.out _ _ _ _).2 Try.underlying30 rfl (by kernel_rfl)) rfl ?_
      exact ⟨by rw [hr.out.1, hr.out.2]; rfl, hBs.out _ _ _ _⟩
    | true =>
      have hr := fin y 0 (hM.out.trans (by simp)) (hE.out.trans (by simp))
      clear fin
      go_wp2_with fail
      refine bodyPost_ret (results_ct rfl _ _ w.heap.size 30 #[.int .i64 y.no, .int .i64 y.ep, .int .i64 y.st, .int .i64 y.ck] (0, 0) _ rfl (hst.out _ _ _ _).2 Try.underlying30 rfl (by kernel_rfl)) rfl ?_
      exact ⟨by rw [hr.out.1, hr.out.2]; rfl, hBs.out _ _ _ _⟩
  | true =>
    cases was with
    | false =>
      have hr := fin x 0 (hM.out.trans (by simp)) (hE.out.trans (by simp))
      clear fin
      go_wp2_with fail
      refine bodyPost_ret (results_ct rfl _ _ w.heap.size 30 #[.int .i64 x.no, .int .i64 x.ep, .int .i64 x.st, .int .i64 x.ck] (0, 0) _ rfl (hst.out _ _ _ _).2 Try.underlying30 rfl (by kernel_rfl)) rfl ?_
      exact ⟨by rw [hr.out.1, hr.out.2]; rfl, hBs.out _ _ _ _⟩
    | true =>
      by_cases hgt : y.no < x.no
      · have f1 : decide (x.no > y.no) = true := by simpa using hgt
        have f2 : decide (y.no < x.no) = true := by simpa using hgt
        have hr := fin x 0 (hM.out.trans (by simp [hgt])) (hE.out.trans (by simp [hgt]))
        clear fin hgt
        go_wp2_with fail
        refine bodyPost_ret (results_ct rfl _ _ w.heap.size 30 #[.int .i64 x.no, .int .i64 x.ep, .int .i64 x.st, .int .i64 x.ck] (0, 0) _ rfl (hst.out _ _ _ _).2 Try.underlying30 rfl (by kernel_rfl)) rfl ?_
        exact ⟨by rw [hr.out.1, hr.out.2]; rfl, hBs.out _ _ _ _⟩
      · have f1 : decide (x.no > y.no) = false := by simpa using hgt
        have f2 : decide (y.no < x.no) = false := by simpa using hgt
        have hr := fin y 0 (hM.out.trans (by simp [hgt])) (hE.out.trans (by simp [hgt]))
        clear fin hgt
        go_wp2_with fail
        refine bodyPost_ret (results_ct rfl _ _ w.heap.size 30 #[.int .i64 y.no, .int .i64 y.ep, .int .i64 y.st, .int .i64 y.ck] (0, 0) _ rfl (hst.out _ _ _ _).2 Try.underlying30 rfl (by kernel_rfl)) rfl ?_
        exact ⟨by rw [hr.out.1, hr.out.2]; rfl, hBs.out _ _ _ _⟩
end Go.Proofs.Ytfaflgdhffkaiaa.Print
