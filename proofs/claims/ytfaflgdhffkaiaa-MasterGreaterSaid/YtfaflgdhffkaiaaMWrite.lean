/- master.Write on a device of a law's own. -/
import Derived.Test.YtfaflgdhffkaiaaMastP
import Derived.Test.YtfaflgdhffkaiaaDevMore
import Derived.Deep.RegionHeld3
import Derived.Test.YtfaflgdhffkaiaaPrint1
namespace Go.Proofs.Ytfaflgdhffkaiaa.Print
open Go.RowKit Go.Proofs.YtfaflgdhffkaiaaW.PrintWords Go.Proofs.YtfaflgdhffkaiaaW.PrintLast Go.Proofs.YtfaflgdhffkaiaaW.PrintMore
set_option linter.unusedVariables false
set_option linter.unusedSimpArgs false
theorem Dev.writeF {w0 W W1 : World} {g : Nat} {d : DS} {m : Nat} (h : Dev w0 W g d) (hB : Below w0.heap.size w0 W) (hb : Below W.heap.size W W1) (hO : d.Ok m) (hm : m ≤ 100000) (i : Int) {A : Option Addr} {c n : Nat} {s : List Int} (hn : n = s.length) (hF : Kd.F (Kd.int .u8) W1 (fun k => W.heap.size ≤ k) A s.length s) (hc : s.length ≤ c) :
    Calls Try.prog 11 #[.pointer (some ⟨g, 0, none⟩), .int .i64 i, .slice A n c] W1 fun e w' => e = .returned (.int .i64 (writeE d i s)) ∧ Dev w0 w' g (writeD d i s) ∧ Below w0.heap.size w0 w' ∧ ∀ k, W.heap.size ≤ k → k < W1.heap.size → w'.heap[k]? = W1.heap[k]? := by
  subst hn
  obtain ⟨Rs, Sec, hk, h1, h2⟩ := h.bound
  have hs := hB.size
  refine (write_any g Rs Sec d i m A c s W1 (hk.below hb) hO hm (fun X hX => Kd.F_now (Kd.F_step hF (fun k hk hlt => hX.block k hlt (fun e => by have := (h1 k e).2; omega)))) hc).mono ?_
  rintro e w' ⟨rfl, hp⟩
  obtain ⟨hd, hB1⟩ := Dev.of_post (hB.trans (hb.mono hs)) (fun k a => (h1 k a).1) (fun k a => (h2 k a).1) hp
  obtain ⟨Rs', Sec', k1, k2, k3, k4⟩ := hp
  exact ⟨rfl, hd, hB1, fun k a b => k4.block k b (fun e => by have := (h1 k e).2; omega)⟩
/-- What a master's writing leaves, and answers. -/
def mwD (d : DS) (m : MS) : DS := if writeE d (m.no % 2) m.sect = 0 then syncD (writeD d (m.no % 2) m.sect) else writeD d (m.no % 2) m.sect
def mwE (d : DS) (m : MS) : Int := if writeE d (m.no % 2) m.sect = 0 then syncE (writeD d (m.no % 2) m.sect) else writeE d (m.no % 2) m.sect
theorem wr_new (W : World) : Wr (W.alloc (.cells #[.slice none 0 0] 63)) W.heap.size none [] := ⟨_, heap_alloc_new _ _, rfl, rfl, .inl ⟨rfl, rfl⟩⟩
theorem seal_m (m : MS) (h : m.mayP) : frame_Seal.f m.no m.bytes = some (m.sect, 0) := Pure.seal_ok _ _ (by have := h.1; omega) h.2.1 (by rw [m.bytes_len]; decide)
/-- What is kept while the Writer is filled. -/
structure MwI (W W1 X : World) (gw sb : Nat) (r : Option Nat) (m : MS) (L : List Int) : Prop where
  wr : Wr X gw r L
  box : X.heap[W1.heap.size]? = some (.cells (agM m) 30 (0, 0))
  row : X.heap[sb]? = some (.cells (agM m) 3 (0, 0))
  bel : Below W1.heap.size W1 X
  rn : ∀ k, r = some k → sb < k
  n1 : W1.heap.size < gw
  n2 : gw < sb
theorem MwI.put {W W1 X X1 : World} {gw sb : Nat} {r : Option Nat} {m : MS} {L L1 : List Int} (h : MwI W W1 X gw sb r m L) (hp : WrPost gw r L1 X X1) : ∃ r', MwI W W1 X1 gw sb r' m L1 := by
  obtain ⟨r', h1, h2, h3⟩ := hp
  have n1 := h.n1
  have n2 := h.n2
  have hl : sb < X.heap.size := (Array.getElem?_eq_some_iff.1 h.row).1
  refine ⟨r', h1, (h3.block _ (by omega) (by rintro (e | e); omega; have := h.rn _ e.symm; omega)).trans h.box, (h3.block _ hl (by rintro (e | e); omega; have := h.rn _ e.symm; omega)).trans h.row, h.bel.trans (Chg.below h3 (by rintro k (e | e); omega; have := h.rn _ e.symm; omega) h.bel.size), ?_, n1, n2⟩
  intro k hk
  rcases h2 with e | ⟨b, e, hb⟩
  · exact h.rn k (by rw [← e]; exact hk)
  · rw [e] at hk; injection hk with hk; omega
theorem MwI.below {W W1 X X1 : World} {gw sb : Nat} {r : Option Nat} {m : MS} {L : List Int} (h : MwI W W1 X gw sb r m L) (hb : Below X.heap.size X X1) : MwI W W1 X1 gw sb r m L := by
  have n1 := h.n1
  have n2 := h.n2
  have hl : sb < X.heap.size := (Array.getElem?_eq_some_iff.1 h.row).1
  exact ⟨h.wr.below hb, (hb.block _ (by omega)).trans h.box, (hb.block _ hl).trans h.row, h.bel.trans (hb.mono h.bel.size), h.rn, n1, n2⟩
theorem MwI.first {W W1 w2 : World} {m : MS} (hx : w2.heap[W1.heap.size]? = some (.cells (agM m) 30 (0, 0))) (hB : Below W1.heap.size W1 w2) (hl : W1.heap.size < w2.heap.size) :
    MwI W W1 ((w2.alloc (.cells #[.slice none 0 0] 63)).alloc (.cells (agM m) 3)) w2.heap.size (w2.heap.size + 1) none m [] := by
  have hb1 := below_alloc (Below.refl w2.heap.size w2) (.cells #[.slice none 0 0] 63)
  have hb2 := below_alloc (Below.refl (w2.alloc (.cells #[.slice none 0 0] 63)).heap.size (w2.alloc (.cells #[.slice none 0 0] 63))) (.cells (agM m) 3)
  have hs : (w2.alloc (.cells #[.slice none 0 0] 63)).heap.size = w2.heap.size + 1 := by rw [World.size_alloc]
  have hn := heap_alloc_new (w2.alloc (.cells #[.slice none 0 0] 63)) (.cells (agM m) 3)
  rw [hs] at hn
  exact ⟨(wr_new w2).below hb2, (hb2.block _ (by omega)).trans ((hb1.block _ hl).trans hx), hn, (hB.trans (hb1.mono hB.size)).trans (hb2.mono (by omega)), fun k hk => by (cases hk), hl, by omega⟩
theorem may4 {m : MS} (h : m.mayP) : mayPut m.no 4 ∧ mayPut m.ep 4 ∧ mayPut m.st 4 ∧ mayPut m.ck 4 := by
  obtain ⟨h0, h1, h2, h3, h4, h5, h6, h7⟩ := h
  have ht : top 4 = 4294967296 := by decide
  have hw : okWide 4 := .inr (.inr rfl)
  exact ⟨⟨hw, by omega, by omega⟩, ⟨hw, by omega, by omega⟩, ⟨hw, by omega, by omega⟩, ⟨hw, by omega, by omega⟩⟩
theorem m_cells {W : World} {g : Nat} {a b c d : Value} {t : TypeId} (h : W.heap[g]? = some (.cells #[a, b, c, d] t (0, 0))) :
    W.cell? ⟨g, 0, none⟩ = some a ∧ W.cell? ⟨g, 1, none⟩ = some b ∧ W.cell? ⟨g, 2, none⟩ = some c ∧ W.cell? ⟨g, 3, none⟩ = some d :=
  ⟨(blk_cell h 0).trans rfl, (blk_cell h 1).trans rfl, (blk_cell h 2).trans rfl, (blk_cell h 3).trans rfl⟩
set_option maxHeartbeats 2000000 in
set_option maxRecDepth 100000 in
theorem mwrite_any {w0 W W1 : World} {g q : Nat} {d : DS} (h : Dev w0 W g d) (hB : Below w0.heap.size w0 W) (hb : Below W.heap.size W W1) (hO : d.Ok q) (hq : q ≤ 99999) (m : MS) (hm : m.mayP) (h2 : 2 ≤ d.D.length) :
    Calls Try.prog 15 #[.pointer (some ⟨g, 0, none⟩), .agg #[.int .i64 m.no, .int .i64 m.ep, .int .i64 m.st, .int .i64 m.ck]] W1 fun e w' => e = .returned (.int .i64 (mwE d m)) ∧ Dev w0 w' g (mwD d m) ∧ Below w0.heap.size w0 w' ∧ ∀ k, W.heap.size ≤ k → k < W1.heap.size → w'.heap[k]? = W1.heap[k]? := by
  have hlen := Aside0.mk (fun X (hX : Below W.heap.size W X) => (h.below hX).lenC)
  have hdm := hO.max
  have hmay := Aside0.mk (fun X => (by have := may_any m X; rwa [show m.may = true from decide_eq_true hm] at this : Calls Try.prog 14 #[.agg #[.int .i64 m.no, .int .i64 m.ep, .int .i64 m.st, .int .i64 m.ck]] X fun e w' => e = .returned (.bool true) ∧ Below X.heap.size X w'))
  have e1 : decide ((d.D.length : Int) < 2) = false := by simp; omega
  have hbx : Aside0 (Below W1.heap.size W1 (W1.alloc (.cells (agM m) 30))) := ⟨below_alloc (Below.refl _ _) _⟩
  have hx := Aside0.mk (heap_alloc_new W1 (.cells (agM m) 30))
  have hxl : W1.heap.size < (W1.alloc (.cells (agM m) 30)).heap.size := by rw [World.size_alloc]; omega
  replace h := Aside0.mk h
  replace hB := Aside0.mk hB
  replace hb := Aside0.mk hb
  replace hO := Aside0.mk hO
  replace hm := Aside0.mk hm
  generalize hdl : d.D.length = n at *
  replace hdl := Aside0.mk hdl
  obtain ⟨z0, z1, z2, z3⟩ := m_cells hx.out
  go_enter Try.func15, Try.ntmps15
  go_wp2_with fail
  refine (hmay.out _).mono ?_
  rintro e w2 ⟨rfl, hb2⟩
  have hx2 := (hb2.block W1.heap.size hxl).trans hx.out
  have hB2 := Aside0.mk (hbx.out.trans (hb2.mono (Nat.le_of_lt hxl)))
  have hl2 : W1.heap.size < w2.heap.size := Nat.lt_of_lt_of_le hxl hb2.size
  clear z0 z1 z2 z3 hb2 hbx hx hxl hmay
  obtain ⟨z0, z1, z2, z3⟩ := m_cells hx2
  replace hx2 := Aside0.mk hx2
  go_wp2_with fail
  refine (hlen.out w2 (hb.out.trans (hB2.out.mono hb.out.size))).mono ?_
  rintro e wz ⟨rfl, hq_⟩
  obtain rfl := hq_.symm
  go_wp2_with fail
  have hI0 : Aside0 (MwI W W1 ((w2.alloc (.cells #[.slice none 0 0] 63)).alloc (.cells (agM m) 3)) w2.heap.size (w2.heap.size + 1) none m []) := ⟨MwI.first hx2.out hB2.out hl2⟩
  generalize (w2.alloc (.cells #[.slice none 0 0] 63)).alloc (.cells (agM m) 3) = w3 at *
  generalize w2.heap.size + 1 = sb at *
  generalize w2.heap.size = gw at *
  clear z0 z1 z2 z3
  refine wp_loop_rounds 5 ?_
  obtain ⟨y0, y1, y2, y3⟩ := m_cells hI0.out.row
  rw [rounds_succ]
  go_wp2_with fail
  refine (put_ok gw _ _ m.no 4 _ hI0.out.wr (may4 hm.out).1 (by simp [le_length])).mono ?_
  rintro e wx ⟨rfl, hp⟩
  obtain ⟨r1, hI1⟩ := hI0.out.put hp
  replace hI1 := Aside0.mk hI1
  clear hp y0 y1 y2 y3 hI0
  go_wp2_with fail
  generalize wx = w4 at *
  obtain ⟨y0, y1, y2, y3⟩ := m_cells hI1.out.row
  rw [rounds_succ]
  go_wp2_with fail
  refine (put_ok gw _ _ m.ep 4 _ hI1.out.wr (may4 hm.out).2.1 (by simp [le_length])).mono ?_
  rintro e wx ⟨rfl, hp⟩
  obtain ⟨r2, hI2⟩ := hI1.out.put hp
  replace hI2 := Aside0.mk hI2
  clear hp y0 y1 y2 y3 hI1
  go_wp2_with fail
  generalize wx = w5 at *
  obtain ⟨y0, y1, y2, y3⟩ := m_cells hI2.out.row
  rw [rounds_succ]
  go_wp2_with fail
  refine (put_ok gw _ _ m.st 4 _ hI2.out.wr (may4 hm.out).2.2.1 (by simp [le_length])).mono ?_
  rintro e wx ⟨rfl, hp⟩
  obtain ⟨r3, hI3⟩ := hI2.out.put hp
  replace hI3 := Aside0.mk hI3
  clear hp y0 y1 y2 y3 hI2
  go_wp2_with fail
  generalize wx = w6 at *
  obtain ⟨y0, y1, y2, y3⟩ := m_cells hI3.out.row
  rw [rounds_succ]
  go_wp2_with fail
  refine (put_ok gw _ _ m.ck 4 _ hI3.out.wr (may4 hm.out).2.2.2 (by simp [le_length])).mono ?_
  rintro e wx ⟨rfl, hp⟩
  obtain ⟨r4, hI4⟩ := hI3.out.put hp
  replace hI4 := Aside0.mk hI4
  clear hp y0 y1 y2 y3 hI3
  go_wp2_with fail
  generalize wx = w7 at *
  obtain ⟨L, hL⟩ : ∃ L, L = [] ++ le (4 : Int).toNat m.no ++ le (4 : Int).toNat m.ep ++ le (4 : Int).toNat m.st ++ le (4 : Int).toNat m.ck := ⟨_, rfl⟩
  rw [← hL] at hI4
  have hL2 : L = m.bytes := by
    rw [hL]
    show [] ++ le 4 m.no ++ le 4 m.ep ++ le 4 m.st ++ le 4 m.ck = _
    simp [le_b4, MS.bytes]
  subst hL2
  have hbytes : Aside0 (Calls Try.prog 33 #[.pointer (some ⟨gw, 0, none⟩)] w7.drew fun e w' => ∃ A c, e = .returned (.slice A 16 c) ∧ 16 ≤ c ∧ Kd.C (Kd.int .u8) w' A 16 m.bytes ∧ Below w7.heap.size w7 w') := ⟨by
    refine (bytes_any gw r4 m.bytes w7.drew (hI4.out.wr.below (below_drew (Below.refl _ _))) (by rw [m.bytes_len]; decide)).mono ?_
    rintro e w' ⟨v, rfl, hR, hbb⟩
    obtain ⟨A, c, rfl⟩ := Kd.R_slice hR
    have := Kd.R_reads' hR
    exact ⟨A, c, rfl, this.2.1, this.2.2, (below_drew (Below.refl _ _)).trans hbb⟩⟩
  have hseal : Aside0 (∀ X A c, Kd.C (Kd.int .u8) X A 16 m.bytes → 16 ≤ c → Calls Try.prog 32 #[.int .i64 m.no, .slice A 16 c] X fun e w' => ∃ A2 c2, e = .returned (.tuple #[.slice A2 256 c2, .int .i64 0]) ∧ 256 ≤ c2 ∧ Kd.F (Kd.int .u8) w' (fun k => X.heap.size ≤ k) A2 m.sect.length m.sect ∧ Below X.heap.size X w') := ⟨fun X A c hC hc => by
    refine (frame_Seal.calls m.no A c m.bytes _ _ X hC hc (seal_m m hm.out)).mono ?_
    rintro e w' ⟨v, rfl, hV, hbb⟩
    obtain ⟨A2, c2, rfl⟩ := Kd.V_slice hV
    have h3 := Kd.V_at hV
    rw [m.sect_len] at h3 ⊢
    exact ⟨A2, c2, rfl, h3.2.1, h3.2.2, hbb⟩⟩
  obtain ⟨y0, y1, y2, y3⟩ := m_cells hI4.out.box
  clear hL
  rw [rounds_succ]
  go_upto_region 9 with fail
  go_region_held3 (fun X => X.cell? ⟨W1.heap.size, 0, none⟩ = some (.int .i64 m.no))
    (first | exact y0 | exact x0 | exact v0)
    (first
      | (go_at_call 33; refine hbytes.out.mono ?_; rintro e w8 ⟨A8, c8, rfl, hc8, hC8, hb8⟩; have x0 := pw_cell_below hb8 y0; replace hC8 := Aside0.mk hC8; replace hb8 := Aside0.mk hb8)
      | (go_at_call 32; refine (hseal.out _ _ _ hC8.out hc8).mono ?_; rintro e w9 ⟨A9, c9, rfl, hc9, hF9, hb9⟩; have v0 := pw_cell_below hb9 x0; replace hF9 := Aside0.mk hF9; replace hb9 := Aside0.mk hb9))
  have hsz7 : W1.heap.size ≤ w8.heap.size := by have := hI4.out.bel.size; have := hb8.out.size; omega
  have hI9 := Aside0.mk ((hI4.out.below hb8.out).below hb9.out)
  have hW9 := Aside0.mk (hb.out.trans (hI9.out.bel.mono hb.out.size))
  clear hbytes hseal hI4 hC8 y0 y1 y2 y3 x0
  go_wp2_with fail
  rw [show m.no.tmod 2 = m.no % 2 from Int.tmod_eq_emod_of_nonneg (by have := hm.out.1; omega)]
  have hsz9 : W.heap.size ≤ w8.heap.size := by have := hb.out.size; have := hb8.out.size; have := hI9.out.bel.size; have := hsz7; omega
  obtain ⟨Rs, Sec, hk, hr1, hr2⟩ := h.out.bound
  have hFw : Kd.F (Kd.int .u8) w9 (fun k => W.heap.size ≤ k) A9 m.sect.length m.sect := Kd.F_mono hF9.out (fun k a => Nat.le_trans hsz9 a)
  have hwa := write_any g Rs Sec d (m.no % 2) q A9 c9 m.sect w9 (hk.below hW9.out) hO.out (by omega) (fun X hX => Kd.F_now (Kd.F_step hFw (fun k hk hlt => hX.block k hlt (fun e => by have := (hr1 k e).2; omega)))) (by rw [m.sect_len]; exact hc9)
  rw [m.sect_len] at hwa
  replace hr1 := Aside0.mk hr1
  replace hr2 := Aside0.mk hr2
  clear hFw hk
  refine hwa.mono ?_
  rintro e w10 ⟨rfl, hp⟩
  have hpo := Aside0.mk (Dev.of_post (hB.out.trans (hW9.out.mono hB.out.size)) (fun k a => (hr1.out k a).1) (fun k a => (hr2.out k a).1) hp)
  obtain ⟨Rs2, Sec2, hk2, hr3, hr4, hc2⟩ := hp
  have hkeep : Aside0 (∀ k, W.heap.size ≤ k → k < W1.heap.size → w10.heap[k]? = W1.heap[k]? ∧ ¬ Rs2 k) := ⟨fun k a b => by
    have h9 := hI9.out.bel.size
    refine ⟨(hc2.block k (by omega) (fun e => by have := (hr1.out k e).2; omega)).trans (hI9.out.bel.block k b), fun e => ?_⟩
    rcases hr3 k e with x | x
    · have := (hr1.out k x).2; omega
    · omega⟩
  have hr5 : Aside0 (∀ k, Rs2 k → w0.heap.size ≤ k) := ⟨fun k a => (hr3 k a).elim (fun x => (hr1.out k x).1) (fun x => by have := hB.out.size; have := hW9.out.size; omega)⟩
  have hr6 : Aside0 (∀ k, Sec2 k → w0.heap.size ≤ k) := ⟨fun k a => (hr4 k a).elim (fun x => (hr1.out k x).1) (fun x => x.elim (fun y => (hr2.out k y).1) (fun y => by have := hB.out.size; have := hW9.out.size; omega))⟩
  have hsa := Aside0.mk (sync_any g Rs2 Sec2 (writeD d (m.no % 2) m.sect) (q + 1) w10 hk2 (writeD_ok hO.out _ _))
  have hpo10 : Aside0 (w9.heap.size ≤ w10.heap.size) := ⟨hc2.size⟩
  have hmd : mwD d m = if writeE d (m.no % 2) m.sect = 0 then syncD (writeD d (m.no % 2) m.sect) else writeD d (m.no % 2) m.sect := rfl
  have hme : mwE d m = if writeE d (m.no % 2) m.sect = 0 then syncE (writeD d (m.no % 2) m.sect) else writeE d (m.no % 2) m.sect := rfl
  replace hmd := Aside0.mk hmd
  replace hme := Aside0.mk hme
  clear hk2 hr3 hr4 hc2 hr1 hr2 hwa hF9 hb8 hb9 v0
  generalize writeD d (m.no % 2) m.sect = d1 at *
  generalize writeE d (m.no % 2) m.sect = ee at *
  by_cases hz : ee = 0
  · have f1 : (ee != (0 : Int)) = false := by simpa using hz
    have hmd2 := hmd.out.trans (if_pos hz)
    have hme2 := hme.out.trans (if_pos hz)
    replace hmd2 := Aside0.mk hmd2
    replace hme2 := Aside0.mk hme2
    clear hz hmd hme
    go_wp2_with fail
    refine hsa.out.mono ?_
    rintro e w11 ⟨rfl, hp11⟩
    have hp2 := Aside0.mk (Dev.of_post hpo.out.2 hr5.out hr6.out hp11)
    have hk11 : Aside0 (∀ k, W.heap.size ≤ k → k < W1.heap.size → w11.heap[k]? = W1.heap[k]?) := ⟨fun k a b => by
      obtain ⟨_, _, _, _, _, hc3⟩ := hp11
      exact (hc3.block k (by have := hI9.out.bel.size; have := hpo10.out; omega) (hkeep.out k a b).2).trans (hkeep.out k a b).1⟩
    clear hp11
    generalize syncE d1 = e2 at *
    generalize syncD d1 = d2 at *
    go_wp2_with fail
    go_ret
    exact ⟨by rw [hme2.out]; rfl, by rw [hmd2.out]; exact hp2.out.1, hp2.out.2, hk11.out⟩
  · have f1 : (ee != (0 : Int)) = true := by simpa using hz
    have hmd2 := hmd.out.trans (if_neg hz)
    have hme2 := hme.out.trans (if_neg hz)
    replace hmd2 := Aside0.mk hmd2
    replace hme2 := Aside0.mk hme2
    clear hz hmd hme
    go_wp2_with fail
    go_ret
    exact ⟨by rw [hme2.out]; rfl, by rw [hmd2.out]; exact hpo.out.1, hpo.out.2, fun k a b => (hkeep.out k a b).1⟩
set_option maxHeartbeats 1000000 in
set_option maxRecDepth 100000 in
/-- One that may not be is not written. -/
theorem mwrite_bad (p : Option Addr) (m : MS) (w : World) (hm : ¬ m.mayP) :
    Calls Try.prog 15 #[.pointer p, .agg #[.int .i64 m.no, .int .i64 m.ep, .int .i64 m.st, .int .i64 m.ck]] w fun e w' => e = .returned (.int .i64 1) ∧ Below w.heap.size w w' := by
  have hmay := may_any m (w.alloc (.cells (agM m) 30))
  rw [show m.may = false from decide_eq_false hm] at hmay
  have hbx : Aside0 (Below w.heap.size w (w.alloc (.cells (agM m) 30))) := ⟨below_alloc (Below.refl _ _) _⟩
  have hx := Aside0.mk (heap_alloc_new w (.cells (agM m) 30))
  have hxl : w.heap.size < (w.alloc (.cells (agM m) 30)).heap.size := by rw [World.size_alloc]; omega
  obtain ⟨z0, z1, z2, z3⟩ := m_cells hx.out
  replace hmay := Aside0.mk hmay
  replace hm := Aside0.mk hm
  go_enter Try.func15, Try.ntmps15
  go_wp2_with fail
  refine hmay.out.mono ?_
  rintro e w2 ⟨rfl, hb2⟩
  have hB2 := Aside0.mk (hbx.out.trans (hb2.mono (Nat.le_of_lt hxl)))
  clear hb2 z0 z1 z2 z3
  go_wp2_with fail
  go_ret
  exact ⟨rfl, hB2.out⟩
set_option maxHeartbeats 1000000 in
set_option maxRecDepth 100000 in
/-- On a device of less than two sectors nothing is written. -/
theorem mwrite_short (p : Option Addr) (m : MS) (n : Nat) (w : World) (hm : m.mayP) (hn : n < 2) (hlen : ∀ X, Below w.heap.size w X → Calls Try.prog 26 #[.pointer p] X fun e w' => e = .returned (.int .i64 (n : Int)) ∧ w' = X) :
    Calls Try.prog 15 #[.pointer p, .agg #[.int .i64 m.no, .int .i64 m.ep, .int .i64 m.st, .int .i64 m.ck]] w fun e w' => e = .returned (.int .i64 1) ∧ Below w.heap.size w w' := by
  have hmay := may_any m (w.alloc (.cells (agM m) 30))
  rw [show m.may = true from decide_eq_true hm] at hmay
  have hbx : Aside0 (Below w.heap.size w (w.alloc (.cells (agM m) 30))) := ⟨below_alloc (Below.refl _ _) _⟩
  have hx := Aside0.mk (heap_alloc_new w (.cells (agM m) 30))
  have hxl : w.heap.size < (w.alloc (.cells (agM m) 30)).heap.size := by rw [World.size_alloc]; omega
  have e1 : decide ((n : Int) < 2) = true := by simp; omega
  obtain ⟨z0, z1, z2, z3⟩ := m_cells hx.out
  replace hmay := Aside0.mk hmay
  replace hm := Aside0.mk hm
  replace hlen := Aside0.mk hlen
  go_enter Try.func15, Try.ntmps15
  go_wp2_with fail
  refine hmay.out.mono ?_
  rintro e w2 ⟨rfl, hb2⟩
  have hB2 := Aside0.mk (hbx.out.trans (hb2.mono (Nat.le_of_lt hxl)))
  clear hb2 z0 z1 z2 z3
  go_wp2_with fail
  refine (hlen.out w2 hB2.out).mono ?_
  rintro e wz ⟨rfl, hq_⟩
  obtain rfl := hq_.symm
  go_wp2_with fail
  go_ret
  exact ⟨rfl, hB2.out⟩
end Go.Proofs.Ytfaflgdhffkaiaa.Print
