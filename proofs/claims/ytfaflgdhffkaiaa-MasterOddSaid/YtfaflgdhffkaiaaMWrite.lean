/- master.Write on a device of a law's own. -/
import Derived.Test.YtfaflgdhffkaiaaMastP
import Derived.Test.YtfaflgdhffkaiaaDevMore
import Derived.Deep.RegionHeld3
import Derived.Test.YtfaflgdhffkaiaaPrint1
namespace Go.Proofs.Ytfaflgdhffkaiaa.Print
open Go.RowKit Go.Proofs.YtfaflgdhffkaiaaW.PrintWords Go.Proofs.YtfaflgdhffkaiaaW.PrintLast Go.Proofs.YtfaflgdhffkaiaaW.PrintMore
set_option linter.unusedVariables false
set_option linter.unusedSimpArgs false
/-- A device none of whose blocks that are written is of K. -/
def DevK (w0 W : World) (g : Nat) (d : DS) (K : Nat → Prop) : Prop := ∃ Rs Sec, Dk W g Rs Sec d ∧ (∀ k, Rs k → w0.heap.size ≤ k ∧ k < W.heap.size ∧ ¬ K k) ∧ (∀ k, Sec k → w0.heap.size ≤ k ∧ ¬ K k)
theorem DevK.dev {w0 W : World} {g : Nat} {d : DS} {K : Nat → Prop} (h : DevK w0 W g d K) : Dev w0 W g d := by
  obtain ⟨Rs, Sec, h0, h1, h2⟩ := h
  exact ⟨Rs, Sec, h0, fun k a => (h1 k a).1, fun k a => (h2 k a).1⟩
theorem DevK.of {w0 W W1 : World} {g : Nat} {d : DS} (h : Dev w0 W g d) (hb : Below W.heap.size W W1) : DevK w0 W1 g d (fun k => W.heap.size ≤ k ∧ k < W1.heap.size) := by
  obtain ⟨Rs, Sec, hk, h1, h2⟩ := h.bound
  have := hb.size
  exact ⟨Rs, Sec, hk.below hb, fun k a => ⟨(h1 k a).1, by have := (h1 k a).2; omega, fun e => by have := (h1 k a).2; omega⟩, fun k a => ⟨(h2 k a).1, fun e => by have := (h2 k a).2; omega⟩⟩
theorem DevK.less {w0 W : World} {g : Nat} {d : DS} {K K' : Nat → Prop} (h : DevK w0 W g d K) (hK : ∀ k, K' k → K k) : DevK w0 W g d K' := by
  obtain ⟨Rs, Sec, h0, h1, h2⟩ := h
  exact ⟨Rs, Sec, h0, fun k a => ⟨(h1 k a).1, (h1 k a).2.1, fun e => (h1 k a).2.2 (hK k e)⟩, fun k a => ⟨(h2 k a).1, fun e => (h2 k a).2 (hK k e)⟩⟩
theorem DevK.below {w0 W W1 : World} {g : Nat} {d : DS} {K : Nat → Prop} (h : DevK w0 W g d K) (hb : Below W.heap.size W W1) : DevK w0 W1 g d K := by
  obtain ⟨Rs, Sec, h0, h1, h2⟩ := h
  have := hb.size
  exact ⟨Rs, Sec, h0.below hb, fun k a => ⟨(h1 k a).1, by have := (h1 k a).2.1; omega, (h1 k a).2.2⟩, h2⟩
/-- A block of K is written. -/
theorem DevK.set {w0 W w' : World} {g : Nat} {d : DS} {K : Nat → Prop} (h : DevK w0 W g d K) (hc : Chg K W w') : DevK w0 w' g d K := by
  obtain ⟨Rs, Sec, h0, h1, h2⟩ := h
  have := hc.size
  exact ⟨Rs, Sec, h0.step hc (fun k a => (h1 k a).2.2) (fun k a => (h2 k a).2), fun k a => ⟨(h1 k a).1, by have := (h1 k a).2.1; omega, (h1 k a).2.2⟩, h2⟩
theorem DevK.post {w0 W W1 w' : World} {g : Nat} {d' : DS} {K Rs Sec : Nat → Prop} (h1 : ∀ k, Rs k → w0.heap.size ≤ k ∧ k < W.heap.size ∧ ¬ K k) (h2 : ∀ k, Sec k → w0.heap.size ≤ k ∧ ¬ K k) (hB : Below w0.heap.size w0 W) (hb : Below W.heap.size W W1) (hK : ∀ k, K k → k < W.heap.size) (hp : DkPost g Rs Sec d' W1 w') :
    DevK w0 w' g d' K ∧ Below w0.heap.size w0 w' ∧ ∀ k, K k → w'.heap[k]? = W.heap[k]? := by
  obtain ⟨hd, hB1⟩ := Dev.of_post (hB.trans (hb.mono hB.size)) (fun k a => (h1 k a).1) (fun k a => (h2 k a).1) hp
  obtain ⟨Rs', Sec', ⟨vd, vl, vw, k1⟩, k2, k3, k4⟩ := hp
  have s0 := hB.size
  have s1 := hb.size
  refine ⟨⟨Rs', Sec', ⟨vd, vl, vw, k1⟩, fun k a => ⟨?_, k1.rs k a, fun e => ?_⟩, fun k a => ?_⟩, hB1, fun k a => (k4.block k (by have := hK k a; omega) (fun e => (h1 k e).2.2 a)).trans (hb.block k (hK k a))⟩
  · exact (k2 k a).elim (fun x => (h1 k x).1) (fun x => by omega)
  · exact (k2 k a).elim (fun x => (h1 k x).2.2 e) (fun x => by have := hK k e; omega)
  · exact (k3 k a).elim (fun x => ⟨(h1 k x).1, (h1 k x).2.2⟩) (fun x => x.elim (h2 k) (fun y => ⟨by omega, fun e => by have := hK k e; omega⟩))
section
variable {w0 W W1 : World} {g m : Nat} {d : DS} {K : Nat → Prop}
theorem DevK.writeF (h : DevK w0 W g d K) (hB : Below w0.heap.size w0 W) (hb : Below W.heap.size W W1) (hK : ∀ k, K k → k < W.heap.size) (hO : d.Ok m) (hm : m ≤ 100000) (i : Int) {A : Option Addr} {c n : Nat} {s : List Int} (hn : n = s.length) (hF : Kd.F (Kd.int .u8) W1 (fun k => W.heap.size ≤ k) A s.length s) (hc : s.length ≤ c) :
    Calls Try.prog 11 #[.pointer (some ⟨g, 0, none⟩), .int .i64 i, .slice A n c] W1 fun e w' => e = .returned (.int .i64 (writeE d i s)) ∧ DevK w0 w' g (writeD d i s) K ∧ Below w0.heap.size w0 w' ∧ ∀ k, K k → w'.heap[k]? = W.heap[k]? := by
  subst hn
  obtain ⟨Rs, Sec, hk, h1, h2⟩ := h
  refine (write_any g Rs Sec d i m A c s W1 (hk.below hb) hO hm (fun X hX => Kd.F_now (Kd.F_step hF (fun k hk hlt => hX.block k hlt (fun e => by have := (h1 k e).2.1; omega)))) hc).mono ?_
  rintro e w' ⟨rfl, hp⟩
  exact ⟨rfl, DevK.post h1 h2 hB hb hK hp⟩
theorem DevK.sync (h : DevK w0 W g d K) (hB : Below w0.heap.size w0 W) (hK : ∀ k, K k → k < W.heap.size) (hO : d.Ok m) :
    Calls Try.prog 34 #[.pointer (some ⟨g, 0, none⟩)] W fun e w' => e = .returned (.int .i64 (syncE d)) ∧ DevK w0 w' g (syncD d) K ∧ Below w0.heap.size w0 w' ∧ ∀ k, K k → w'.heap[k]? = W.heap[k]? := by
  obtain ⟨Rs, Sec, hk, h1, h2⟩ := h
  refine (sync_any g Rs Sec d m W hk hO).mono ?_
  rintro e w' ⟨rfl, hp⟩
  exact ⟨rfl, DevK.post h1 h2 hB (Below.refl _ _) hK hp⟩
end
/-- What a master's writing leaves, and answers. -/
def mwD (d : DS) (m : MS) : DS := if writeE d (m.no % 2) m.sect = 0 then syncD (writeD d (m.no % 2) m.sect) else writeD d (m.no % 2) m.sect
def mwE (d : DS) (m : MS) : Int := if writeE d (m.no % 2) m.sect = 0 then syncE (writeD d (m.no % 2) m.sect) else writeE d (m.no % 2) m.sect
theorem wr_new (W : World) : Wr (W.alloc (.cells #[.slice none 0 0] 63)) W.heap.size none [] := ⟨_, heap_alloc_new _ _, rfl, rfl, .inl ⟨rfl, rfl⟩⟩
theorem seal_m (m : MS) (h : m.mayP) : frame_Seal.f m.no m.bytes = some (m.sect, 0) := Pure.seal_ok _ _ (by have := h.1; omega) h.2.1 (by rw [m.bytes_len]; decide)
/-- What is kept while the Writer is filled. -/
structure MwI (W W1 X : World) (gw sb : Nat) (r : Option Nat) (m : MS) (L : List Int) : Prop where
  wr : Wr X gw r L
  box : X.heap[W1.heap.size]? = some (.cells (agM m) 30 (0, 0))
  row : X.heap[sb]? = some (.cells (agM m) 3 (0, 0))
  bel : Below W1.heap.size W1 X
  rn : ∀ k, r = some k → sb < k
  n1 : W1.heap.size < gw
  n2 : gw < sb
theorem MwI.put {W1 X X1 : World} {gw sb : Nat} {r : Option Nat} {m : MS} {L L1 : List Int} (h : MwI W1 W1 X gw sb r m L) (hp : WrPost gw r L1 X X1) : ∃ r', MwI W1 W1 X1 gw sb r' m L1 := by
  obtain ⟨r', h1, h2, h3⟩ := hp
  have n1 := h.n1
  have n2 := h.n2
  have hl : sb < X.heap.size := (Array.getElem?_eq_some_iff.1 h.row).1
  refine ⟨r', h1, (h3.block _ (by omega) (by rintro (e | e); omega; have := h.rn _ e.symm; omega)).trans h.box, (h3.block _ hl (by rintro (e | e); omega; have := h.rn _ e.symm; omega)).trans h.row, h.bel.trans (Chg.below h3 (by rintro k (e | e); omega; have := h.rn _ e.symm; omega) h.bel.size), ?_, n1, n2⟩
  intro k hk
  rcases h2 with e | ⟨b, e, hb⟩
  · exact h.rn k (by rw [← e]; exact hk)
  · rw [e] at hk; injection hk with hk; omega
theorem MwI.below {W1 X X1 : World} {gw sb : Nat} {r : Option Nat} {m : MS} {L : List Int} (h : MwI W1 W1 X gw sb r m L) (hb : Below X.heap.size X X1) : MwI W1 W1 X1 gw sb r m L := by
  have n1 := h.n1
  have n2 := h.n2
  have hl : sb < X.heap.size := (Array.getElem?_eq_some_iff.1 h.row).1
  exact ⟨h.wr.below hb, (hb.block _ (by omega)).trans h.box, (hb.block _ hl).trans h.row, h.bel.trans (hb.mono h.bel.size), h.rn, n1, n2⟩
theorem MwI.first {W1 w2 : World} {m : MS} (hx : w2.heap[W1.heap.size]? = some (.cells (agM m) 30 (0, 0))) (hB : Below W1.heap.size W1 w2) (hl : W1.heap.size < w2.heap.size) :
    MwI W1 W1 ((w2.alloc (.cells #[.slice none 0 0] 63)).alloc (.cells (agM m) 3)) w2.heap.size (w2.heap.size + 1) none m [] := by
  have hb1 := below_alloc (Below.refl w2.heap.size w2) (.cells #[.slice none 0 0] 63)
  have hb2 := below_alloc (Below.refl (w2.alloc (.cells #[.slice none 0 0] 63)).heap.size (w2.alloc (.cells #[.slice none 0 0] 63))) (.cells (agM m) 3)
  have hs : (w2.alloc (.cells #[.slice none 0 0] 63)).heap.size = w2.heap.size + 1 := by rw [World.size_alloc]
  have hn := heap_alloc_new (w2.alloc (.cells #[.slice none 0 0] 63)) (.cells (agM m) 3)
  rw [hs] at hn
  exact ⟨(wr_new w2).below hb2, (hb2.block _ (by omega)).trans ((hb1.block _ hl).trans hx), hn, (hB.trans (hb1.mono hB.size)).trans (hb2.mono (by omega)), fun k hk => by (cases hk), hl, by omega⟩
theorem may4 {m : MS} (h : m.mayP) : mayPut m.no 4 ∧ mayPut m.ep 4 ∧ mayPut m.st 4 ∧ mayPut m.ck 4 := by
  obtain ⟨h0, h1, h2, h3, h4, h5, h6, h7⟩ := h
  have ht : top 4 = 4294967296 := by decide
  have hw : okWide 4 := .inr (.inr rfl)
  exact ⟨⟨hw, by omega, by omega⟩, ⟨hw, by omega, by omega⟩, ⟨hw, by omega, by omega⟩, ⟨hw, by omega, by omega⟩⟩
theorem m_cells {W : World} {g : Nat} {a b c d : Value} {t : TypeId} (h : W.heap[g]? = some (.cells #[a, b, c, d] t (0, 0))) :
    W.cell? ⟨g, 0, none⟩ = some a ∧ W.cell? ⟨g, 1, none⟩ = some b ∧ W.cell? ⟨g, 2, none⟩ = some c ∧ W.cell? ⟨g, 3, none⟩ = some d :=
  ⟨(blk_cell h 0).trans rfl, (blk_cell h 1).trans rfl, (blk_cell h 2).trans rfl, (blk_cell h 3).trans rfl⟩
set_option maxHeartbeats 2000000 in
set_option maxRecDepth 100000 in
theorem mwriteK {w0 W1 : World} {g q : Nat} {d : DS} {K : Nat → Prop} (h : DevK w0 W1 g d K) (hB : Below w0.heap.size w0 W1) (hK : ∀ k, K k → k < W1.heap.size) (hO : d.Ok q) (hq : q ≤ 99999) (m : MS) (hm : m.mayP) (h2 : 2 ≤ d.D.length) :
    Calls Try.prog 15 #[.pointer (some ⟨g, 0, none⟩), .agg #[.int .i64 m.no, .int .i64 m.ep, .int .i64 m.st, .int .i64 m.ck]] W1 fun e w' => e = .returned (.int .i64 (mwE d m)) ∧ DevK w0 w' g (mwD d m) K ∧ Below w0.heap.size w0 w' ∧ ∀ k, K k → w'.heap[k]? = W1.heap[k]? := by
  have hlen := Aside0.mk (fun X (hX : Below W1.heap.size W1 X) => (h.dev.below hX).lenC)
  have hdm := hO.max
  have hmay := Aside0.mk (fun X => (by have := may_any m X; rwa [show m.may = true from decide_eq_true hm] at this : Calls Try.prog 14 #[.agg #[.int .i64 m.no, .int .i64 m.ep, .int .i64 m.st, .int .i64 m.ck]] X fun e w' => e = .returned (.bool true) ∧ Below X.heap.size X w'))
  have e1 : decide ((d.D.length : Int) < 2) = false := by simp; omega
  have hbx : Aside0 (Below W1.heap.size W1 (W1.alloc (.cells (agM m) 30))) := ⟨below_alloc (Below.refl _ _) _⟩
  have hx := Aside0.mk (heap_alloc_new W1 (.cells (agM m) 30))
  have hxl : W1.heap.size < (W1.alloc (.cells (agM m) 30)).heap.size := by rw [World.size_alloc]; omega
  replace h := Aside0.mk h
  replace hB := Aside0.mk hB
  replace hK := Aside0.mk hK
  replace hO := Aside0.mk hO
  replace hm := Aside0.mk hm
  generalize hdl : d.D.length = n at *
  replace hdl := Aside0.mk hdl
  obtain ⟨z0, z1, z2, z3⟩ := m_cells hx.out
  go_enter Try.func15, Try.ntmps15
  go_wp2_with fail
  refine (hmay.out _).mono ?_
  rintro e w2 ⟨rfl, hb2⟩
  have hx2 := (hb2.block W1.heap.size hxl).trans hx.out
  have hB2 := Aside0.mk (hbx.out.trans (hb2.mono (Nat.le_of_lt hxl)))
  have hl2 : W1.heap.size < w2.heap.size := Nat.lt_of_lt_of_le hxl hb2.size
  clear z0 z1 z2 z3 hb2 hbx hx hxl hmay
  obtain ⟨z0, z1, z2, z3⟩ := m_cells hx2
  replace hx2 := Aside0.mk hx2
  go_wp2_with fail
  refine (hlen.out w2 hB2.out).mono ?_
  rintro e wz ⟨rfl, hq_⟩
  obtain rfl := hq_.symm
  go_wp2_with fail
  have hI0 : Aside0 (MwI W1 W1 ((w2.alloc (.cells #[.slice none 0 0] 63)).alloc (.cells (agM m) 3)) w2.heap.size (w2.heap.size + 1) none m []) := ⟨MwI.first hx2.out hB2.out hl2⟩
  generalize (w2.alloc (.cells #[.slice none 0 0] 63)).alloc (.cells (agM m) 3) = w3 at *
  generalize w2.heap.size + 1 = sb at *
  generalize w2.heap.size = gw at *
  clear z0 z1 z2 z3
  refine wp_loop_rounds 5 ?_
  obtain ⟨y0, y1, y2, y3⟩ := m_cells hI0.out.row
  rw [rounds_succ]
  go_wp2_with fail
  refine (put_ok gw _ _ m.no 4 _ hI0.out.wr (may4 hm.out).1 (by simp [le_length])).mono ?_
  rintro e wx ⟨rfl, hp⟩
  obtain ⟨r1, hI1⟩ := hI0.out.put hp
  replace hI1 := Aside0.mk hI1
  clear hp y0 y1 y2 y3 hI0
  go_wp2_with fail
  generalize wx = w4 at *
  obtain ⟨y0, y1, y2, y3⟩ := m_cells hI1.out.row
  rw [rounds_succ]
  go_wp2_with fail
  refine (put_ok gw _ _ m.ep 4 _ hI1.out.wr (may4 hm.out).2.1 (by simp [le_length])).mono ?_
  rintro e wx ⟨rfl, hp⟩
  obtain ⟨r2, hI2⟩ := hI1.out.put hp
  replace hI2 := Aside0.mk hI2
  clear hp y0 y1 y2 y3 hI1
  go_wp2_with fail
  generalize wx = w5 at *
  obtain ⟨y0, y1, y2, y3⟩ := m_cells hI2.out.row
  rw [rounds_succ]
  go_wp2_with fail
  refine (put_ok gw _ _ m.st 4 _ hI2.out.wr (may4 hm.out).2.2.1 (by simp [le_length])).mono ?_
  rintro e wx ⟨rfl, hp⟩
  obtain ⟨r3, hI3⟩ := hI2.out.put hp
  replace hI3 := Aside0.mk hI3
  clear hp y0 y1 y2 y3 hI2
  go_wp2_with fail
  generalize wx = w6 at *
  obtain ⟨y0, y1, y2, y3⟩ := m_cells hI3.out.row
  rw [rounds_succ]
  go_wp2_with fail
  refine (put_ok gw _ _ m.ck 4 _ hI3.out.wr (may4 hm.out).2.2.2 (by simp [le_length])).mono ?_
  rintro e wx ⟨rfl, hp⟩
  obtain ⟨r4, hI4⟩ := hI3.out.put hp
  replace hI4 := Aside0.mk hI4
  clear hp y0 y1 y2 y3 hI3
  go_wp2_with fail
  generalize wx = w7 at *
  obtain ⟨L, hL⟩ : ∃ L, L = [] ++ le (4 : Int).toNat m.no ++ le (4 : Int).toNat m.ep ++ le (4 : Int).toNat m.st ++ le (4 : Int).toNat m.ck := ⟨_, rfl⟩
  rw [← hL] at hI4
  have hL2 : L = m.bytes := by
    rw [hL]
    show [] ++ le 4 m.no ++ le 4 m.ep ++ le 4 m.st ++ le 4 m.ck = _
    simp [le_b4, MS.bytes]
  subst hL2
  have hbytes : Aside0 (Calls Try.prog 33 #[.pointer (some ⟨gw, 0, none⟩)] w7.drew fun e w' => ∃ A c, e = .returned (.slice A 16 c) ∧ 16 ≤ c ∧ Kd.C (Kd.int .u8) w' A 16 m.bytes ∧ Below w7.heap.size w7 w') := ⟨by
    refine (bytes_any gw r4 m.bytes w7.drew (hI4.out.wr.below (below_drew (Below.refl _ _))) (by rw [m.bytes_len]; decide)).mono ?_
    rintro e w' ⟨v, rfl, hR, hbb⟩
    obtain ⟨A, c, rfl⟩ := Kd.R_slice hR
    have := Kd.R_reads' hR
    exact ⟨A, c, rfl, this.2.1, this.2.2, (below_drew (Below.refl _ _)).trans hbb⟩⟩
  have hseal : Aside0 (∀ X A c, Kd.C (Kd.int .u8) X A 16 m.bytes → 16 ≤ c → Calls Try.prog 32 #[.int .i64 m.no, .slice A 16 c] X fun e w' => ∃ A2 c2, e = .returned (.tuple #[.slice A2 256 c2, .int .i64 0]) ∧ 256 ≤ c2 ∧ Kd.F (Kd.int .u8) w' (fun k => X.heap.size ≤ k) A2 m.sect.length m.sect ∧ Below X.heap.size X w') := ⟨fun X A c hC hc => by
    refine (frame_Seal.calls m.no A c m.bytes _ _ X hC hc (seal_m m hm.out)).mono ?_
    rintro e w' ⟨v, rfl, hV, hbb⟩
    obtain ⟨A2, c2, rfl⟩ := Kd.V_slice hV
    have h3 := Kd.V_at hV
    rw [m.sect_len] at h3 ⊢
    exact ⟨A2, c2, rfl, h3.2.1, h3.2.2, hbb⟩⟩
  obtain ⟨y0, y1, y2, y3⟩ := m_cells hI4.out.box
  clear hL
  rw [rounds_succ]
  go_upto_region 9 with fail
  go_region_held3 (fun X => X.cell? ⟨W1.heap.size, 0, none⟩ = some (.int .i64 m.no))
    (first | exact y0 | exact x0 | exact v0)
    (first
      | (go_at_call 33; refine hbytes.out.mono ?_; rintro e w8 ⟨A8, c8, rfl, hc8, hC8, hb8⟩; have x0 := pw_cell_below hb8 y0; replace hC8 := Aside0.mk hC8; replace hb8 := Aside0.mk hb8)
      | (go_at_call 32; refine (hseal.out _ _ _ hC8.out hc8).mono ?_; rintro e w9 ⟨A9, c9, rfl, hc9, hF9, hb9⟩; have v0 := pw_cell_below hb9 x0; replace hF9 := Aside0.mk hF9; replace hb9 := Aside0.mk hb9))
  have hsz7 : W1.heap.size ≤ w8.heap.size := by have := hI4.out.bel.size; have := hb8.out.size; omega
  have hI9 := Aside0.mk ((hI4.out.below hb8.out).below hb9.out)
  have hW9 := Aside0.mk hI9.out.bel
  clear hbytes hseal hI4 hC8 y0 y1 y2 y3 x0
  go_wp2_with fail
  rw [show m.no.tmod 2 = m.no % 2 from Int.tmod_eq_emod_of_nonneg (by have := hm.out.1; omega)]
  have hFw : Kd.F (Kd.int .u8) w9 (fun k => W1.heap.size ≤ k) A9 m.sect.length m.sect := Kd.F_mono hF9.out (fun k a => Nat.le_trans hsz7 a)
  have hwa := h.out.writeF hB.out hW9.out hK.out hO.out (by omega) (m.no % 2) m.sect_len.symm hFw (by rw [m.sect_len]; exact hc9)
  clear hFw
  refine hwa.mono ?_
  rintro e w10 ⟨rfl, hd10, hB10, hkeep⟩
  have hK10 : ∀ k, K k → k < w10.heap.size := fun k a => by
    have h0 := hK.out k a
    have h1 := hkeep k a
    rw [Array.getElem?_eq_getElem h0] at h1
    exact (Array.getElem?_eq_some_iff.1 h1).1
  have hsa := Aside0.mk (hd10.sync hB10 hK10 (writeD_ok hO.out (m.no % 2) m.sect))
  replace hd10 := Aside0.mk hd10
  replace hB10 := Aside0.mk hB10
  replace hkeep := Aside0.mk hkeep
  clear hwa hF9 hb8 hb9 v0 hK10
  have hmd : mwD d m = if writeE d (m.no % 2) m.sect = 0 then syncD (writeD d (m.no % 2) m.sect) else writeD d (m.no % 2) m.sect := rfl
  have hme : mwE d m = if writeE d (m.no % 2) m.sect = 0 then syncE (writeD d (m.no % 2) m.sect) else writeE d (m.no % 2) m.sect := rfl
  replace hmd := Aside0.mk hmd
  replace hme := Aside0.mk hme
  generalize writeD d (m.no % 2) m.sect = d1 at *
  generalize writeE d (m.no % 2) m.sect = ee at *
  by_cases hz : ee = 0
  · have f1 : (ee != (0 : Int)) = false := by simpa using hz
    have hmd2 := hmd.out.trans (if_pos hz)
    have hme2 := hme.out.trans (if_pos hz)
    replace hmd2 := Aside0.mk hmd2
    replace hme2 := Aside0.mk hme2
    clear hz hmd hme
    go_wp2_with fail
    refine hsa.out.mono ?_
    rintro e w11 ⟨rfl, hd11, hB11, hk11⟩
    replace hd11 := Aside0.mk hd11
    replace hB11 := Aside0.mk hB11
    replace hk11 := Aside0.mk hk11
    generalize syncE d1 = e2 at *
    generalize syncD d1 = d2 at *
    go_wp2_with fail
    go_ret
    exact ⟨by rw [hme2.out]; rfl, by rw [hmd2.out]; exact hd11.out, hB11.out, fun k a => (hk11.out k a).trans (hkeep.out k a)⟩
  · have f1 : (ee != (0 : Int)) = true := by simpa using hz
    have hmd2 := hmd.out.trans (if_neg hz)
    have hme2 := hme.out.trans (if_neg hz)
    replace hmd2 := Aside0.mk hmd2
    replace hme2 := Aside0.mk hme2
    clear hz hmd hme
    go_wp2_with fail
    go_ret
    exact ⟨by rw [hme2.out]; rfl, by rw [hmd2.out]; exact hd10.out, hB10.out, hkeep.out⟩
theorem mwrite_any {w0 W W1 : World} {g q : Nat} {d : DS} (h : Dev w0 W g d) (hB : Below w0.heap.size w0 W) (hb : Below W.heap.size W W1) (hO : d.Ok q) (hq : q ≤ 99999) (m : MS) (hm : m.mayP) (h2 : 2 ≤ d.D.length) :
    Calls Try.prog 15 #[.pointer (some ⟨g, 0, none⟩), .agg #[.int .i64 m.no, .int .i64 m.ep, .int .i64 m.st, .int .i64 m.ck]] W1 fun e w' => e = .returned (.int .i64 (mwE d m)) ∧ Dev w0 w' g (mwD d m) ∧ Below w0.heap.size w0 w' ∧ ∀ k, W.heap.size ≤ k → k < W1.heap.size → w'.heap[k]? = W1.heap[k]? := by
  refine (mwriteK (DevK.of h hb) (hB.trans (hb.mono hB.size)) (fun k a => a.2) hO hq m hm h2).mono ?_
  rintro e w' ⟨rfl, h1, h2, h3⟩
  exact ⟨rfl, h1.dev, h2, fun k a b => h3 k ⟨a, b⟩⟩
set_option maxHeartbeats 1000000 in
set_option maxRecDepth 100000 in
/-- One that may not be is not written. -/
theorem mwrite_bad (p : Option Addr) (m : MS) (w : World) (hm : ¬ m.mayP) :
    Calls Try.prog 15 #[.pointer p, .agg #[.int .i64 m.no, .int .i64 m.ep, .int .i64 m.st, .int .i64 m.ck]] w fun e w' => e = .returned (.int .i64 1) ∧ Below w.heap.size w w' := by
  have hmay := may_any m (w.alloc (.cells (agM m) 30))
  rw [show m.may = false from decide_eq_false hm] at hmay
  have hbx : Aside0 (Below w.heap.size w (w.alloc (.cells (agM m) 30))) := ⟨below_alloc (Below.refl _ _) _⟩
  have hx := Aside0.mk (heap_alloc_new w (.cells (agM m) 30))
  have hxl : w.heap.size < (w.alloc (.cells (agM m) 30)).heap.size := by rw [World.size_alloc]; omega
  obtain ⟨z0, z1, z2, z3⟩ := m_cells hx.out
  replace hmay := Aside0.mk hmay
  replace hm := Aside0.mk hm
  go_enter Try.func15, Try.ntmps15
  go_wp2_with fail
  refine hmay.out.mono ?_
  rintro e w2 ⟨rfl, hb2⟩
  have hB2 := Aside0.mk (hbx.out.trans (hb2.mono (Nat.le_of_lt hxl)))
  clear hb2 z0 z1 z2 z3
  go_wp2_with fail
  go_ret
  exact ⟨rfl, hB2.out⟩
set_option maxHeartbeats 1000000 in
set_option maxRecDepth 100000 in
/-- On a device of less than two sectors nothing is written. -/
theorem mwrite_short (p : Option Addr) (m : MS) (n : Nat) (w : World) (hm : m.mayP) (hn : n < 2) (hlen : ∀ X, Below w.heap.size w X → Calls Try.prog 26 #[.pointer p] X fun e w' => e = .returned (.int .i64 (n : Int)) ∧ w' = X) :
    Calls Try.prog 15 #[.pointer p, .agg #[.int .i64 m.no, .int .i64 m.ep, .int .i64 m.st, .int .i64 m.ck]] w fun e w' => e = .returned (.int .i64 1) ∧ Below w.heap.size w w' := by
  have hmay := may_any m (w.alloc (.cells (agM m) 30))
  rw [show m.may = true from decide_eq_true hm] at hmay
  have hbx : Aside0 (Below w.heap.size w (w.alloc (.cells (agM m) 30))) := ⟨below_alloc (Below.refl _ _) _⟩
  have hx := Aside0.mk (heap_alloc_new w (.cells (agM m) 30))
  have hxl : w.heap.size < (w.alloc (.cells (agM m) 30)).heap.size := by rw [World.size_alloc]; omega
  have e1 : decide ((n : Int) < 2) = true := by simp; omega
  obtain ⟨z0, z1, z2, z3⟩ := m_cells hx.out
  replace hmay := Aside0.mk hmay
  replace hm := Aside0.mk hm
  replace hlen := Aside0.mk hlen
  go_enter Try.func15, Try.ntmps15
  go_wp2_with fail
  refine hmay.out.mono ?_
  rintro e w2 ⟨rfl, hb2⟩
  have hB2 := Aside0.mk (hbx.out.trans (hb2.mono (Nat.le_of_lt hxl)))
  clear hb2 z0 z1 z2 z3
  go_wp2_with fail
  refine (hlen.out w2 hB2.out).mono ?_
  rintro e wz ⟨rfl, hq_⟩
  obtain rfl := hq_.symm
  go_wp2_with fail
  go_ret
  exact ⟨rfl, hB2.out⟩
end Go.Proofs.Ytfaflgdhffkaiaa.Print
