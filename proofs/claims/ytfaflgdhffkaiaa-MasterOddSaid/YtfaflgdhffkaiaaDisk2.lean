/- disk.Disk: lives, Write. -/
import Derived.Test.YtfaflgdhffkaiaaDisk1
namespace Go.Proofs.Ytfaflgdhffkaiaa.Print
open Go.RowKit Go.Proofs.YtfaflgdhffkaiaaW.PrintWords Go.Proofs.YtfaflgdhffkaiaaW.PrintLast Go.Proofs.YtfaflgdhffkaiaaW.PrintMore
set_option linter.unusedVariables false
set_option linter.unusedSimpArgs false
/-- A write or a sync is counted. -/
def livesF (d : DS) : DS := { d with dead := d.dead || (d.armed && d.left == 0), left := wrap64 (d.left - 1) }
set_option maxHeartbeats 1000000 in
set_option maxRecDepth 100000 in
theorem lives_any (g : Nat) (Rs Sec : Nat → Prop) (d : DS) (vd vl vw : Value) (w : World) (h : DkAt w g Rs Sec d vd vl vw) :
    Calls Try.prog 27 #[.pointer (some ⟨g, 0, none⟩)] w fun e w' => e = .returned (.bool (!(livesF d).dead)) ∧ DkAt w' g Rs Sec (livesF d) vd vl vw ∧ Chg (fun k => k = g) w w' := by
  have hblk := h.blk
  obtain ⟨A, c, rfl, _, _⟩ := h.rd.reads
  obtain ⟨A1, c1, rfl, _, _⟩ := h.rl.reads
  obtain ⟨A2, c2, rfl, _, _⟩ := h.rw_.reads
  have hfin : ∀ w', Chg (fun k => k = g) w w' → w'.heap[g]? = some (.cells #[.slice A d.D.length c, .slice A1 d.L.length c1, .slice A2 d.W.length c2, .bool (livesF d).armed, .bool (livesF d).dead, .int .i64 (livesF d).left] 55 (0, 0)) → DkAt w' g Rs Sec (livesF d) (.slice A d.D.length c) (.slice A1 d.L.length c1) (.slice A2 d.W.length c2) := fun w' hc hb => h.turned hc hb rfl rfl rfl
  have hdead : (livesF d).dead = (d.dead || (d.armed && d.left == 0)) := rfl
  have harm : (livesF d).armed = d.armed := rfl
  have hleft : (livesF d).left = wrap64 (d.left - 1) := rfl
  clear h
  generalize livesF d = d1 at *
  generalize hb1 : d1.dead = b1 at *
  replace hfin := Aside0.mk hfin
  replace hb1 := Aside0.mk hb1
  rw [harm, hleft] at hfin
  clear harm hleft
  obtain ⟨D, L, Wt, armed, dead, left⟩ := d
  simp only at hfin hdead hblk
  generalize D.length = n0 at *
  generalize L.length = n1 at *
  generalize Wt.length = n2 at *
  obtain ⟨h0, h1, h2, h3, h4, h5, f0, f1, f2, f3, f4, f5⟩ := six_cells hblk
  replace hblk := Aside0.mk hblk
  cases armed with
  | false =>
    have hd2 : dead = b1 := by rw [hdead]; simp
    clear hdead
    subst hd2
    go_enter Try.func27, Try.ntmps27
    go_wp2_with fail
    go_ret
    exact ⟨rfl, hfin.out _ ((Chg.refl (fun k => k = g) w).set (p := ⟨g, 5, none⟩) (.inl rfl) _) (six_set hblk.out (.int .i64 (wrap64 (left - 1)))).2.2.2.2.2, (Chg.refl (fun k => k = g) w).set (p := ⟨g, 5, none⟩) (.inl rfl) _⟩
  | true =>
    by_cases hl : left = 0
    · subst hl
      have hd2 : true = b1 := by rw [hdead]; simp
      clear hdead
      subst hd2
      go_enter Try.func27, Try.ntmps27
      go_wp2_with fail
      go_ret
      exact ⟨rfl, hfin.out _ (((Chg.refl (fun k => k = g) w).set (p := ⟨g, 4, none⟩) (.inl rfl) _).set (p := ⟨g, 5, none⟩) (.inl rfl) _) (by rw [show wrap64 (0 - 1) = -1 by simp [wrap64]]; exact (six_set (six_set hblk.out (.bool true)).2.2.2.2.1 (.int .i64 (-1))).2.2.2.2.2), ((Chg.refl (fun k => k = g) w).set (p := ⟨g, 4, none⟩) (.inl rfl) _).set (p := ⟨g, 5, none⟩) (.inl rfl) _⟩
    · have e : (left == 0) = false := by simpa using hl
      have hd2 : dead = b1 := by rw [hdead, e]; simp
      clear hdead
      subst hd2
      replace hl := Aside0.mk hl
      go_enter Try.func27, Try.ntmps27
      go_wp2_with fail
      go_ret
      exact ⟨rfl, hfin.out _ ((Chg.refl (fun k => k = g) w).set (p := ⟨g, 5, none⟩) (.inl rfl) _) (six_set hblk.out (.int .i64 (wrap64 (left - 1)))).2.2.2.2.2, (Chg.refl (fun k => k = g) w).set (p := ⟨g, 5, none⟩) (.inl rfl) _⟩
/-- A sector put into a row of sectors. -/
theorem Rw.set {w : World} {q n c : Nat} {Sec : Nat → Prop} {xs : List (List Int)} (h : Rw kS 22 w (.slice (some ⟨q, 0, none⟩) n c) Sec xs) (i : Nat) (hi : i < n) {s : List Int} {A3 : Option Addr} {c3 : Nat} (hl : s.length ≤ c3) (hF : Kd.F (Kd.int .u8) w Sec A3 s.length s) (hsec : ∀ k, Sec k → k ≠ q) :
    Rw kS 22 (w.setCell ⟨q, i, none⟩ (.slice A3 s.length c3)) (.slice (some ⟨q, 0, none⟩) n c) Sec (xs.set i s) ∧ w.grownBy (w.setCell ⟨q, i, none⟩ (.slice A3 s.length c3)) (some q) := by
  obtain ⟨cs, hcl, _, hcell, _⟩ := Kd.N_elem h [] (i : Int) (by omega) (by omega)
  have h1 : cs.length = 1 := hcl
  have := Kd.N_seg h (i : Int) (by omega) (by omega) (c := cs) (seg := [.slice A3 s.length c3]) (j := 0) (x' := s) (okp := Sec) hcl hcell (Nat.le_refl 1) (by
    have e : cs.take 0 ++ [Value.slice A3 s.length c3] ++ cs.drop (0 + [Value.slice A3 s.length c3].length) = [.slice A3 s.length c3] := by
      rw [List.drop_eq_nil_of_le (by simp; omega)]
      simp
    rw [e]
    exact kS_mk hl hF) (fun k hk => ⟨.inl hk, hsec k hk⟩)
  rw [show ((i : Int)).toNat = i by omega, show kS.sz = 1 from rfl, Nat.mul_one, Nat.add_zero] at this
  simp only [World.setCells] at this
  exact this
def writeF (d : DS) (i : Int) (s : List Int) : DS := { d with L := d.L.set i.toNat s, W := d.W ++ [(i, s)] }
/-- The device behind a write that went through. -/
def writeD (d : DS) (i : Int) (s : List Int) : DS := if d.dead = true ∨ ¬ (0 ≤ i ∧ i < d.D.length) ∨ s.length ≠ 256 then d else if (livesF d).dead = true then livesF d else writeF (livesF d) i s
def writeE (d : DS) (i : Int) (s : List Int) : Int := if d.dead = true then 30 else if ¬ (0 ≤ i ∧ i < d.D.length) then 3 else if s.length ≠ 256 then 1 else if (livesF d).dead = true then 30 else 0
/-- What lies where behind the sector was put: the row that waits, still to be grown. -/
structure DkMid (w3 : World) (g : Nat) (Sec : Nat → Prop) (d : DS) (L : List (List Int)) (vd vl vw : Value) : Prop where
  blk : w3.heap[g]? = some (.cells #[vd, vl, vw, .bool d.armed, .bool d.dead, .int .i64 d.left] 55 (0, 0))
  rd : Rw kS 22 w3 vd Sec d.D
  rl : Rw kS 22 w3 vl Sec L
  rw_ : Rw kWr 59 w3 vw Sec d.W
  ne : ∀ k, vd.ownBlock = some k → vl.ownBlock ≠ some k
  gs : ¬ Sec g
  ds : ∀ k, vd.ownBlock = some k → ¬ Sec k
  ls : ∀ k, vl.ownBlock = some k → ¬ Sec k
  ws : ∀ k, vw.ownBlock = some k → ¬ Sec k
theorem DkMid.ng {w3 : World} {g : Nat} {Sec : Nat → Prop} {d : DS} {L : List (List Int)} {vd vl vw : Value} (h : DkMid w3 g Sec d L vd vl vw) {t k : Nat} (hk : ∃ cur, w3.heap[k]? = some (.cells cur t (0, 0))) (ht : t ≠ 55) : k ≠ g := by
  rintro rfl
  obtain ⟨cur, e⟩ := hk
  rw [h.blk] at e
  simp at e
  exact ht e.2.symm
/-- The sector is put into the row of the last ones. -/
theorem DkAt.put {w2 : World} {g q n c1 i : Nat} {Rs Sec : Nat → Prop} {d : DS} {vd vw v0 : Value} {s : List Int} {A3 : Option Addr} {c3 : Nat} (h : DkAt w2 g Rs Sec d vd (.slice (some ⟨q, 0, none⟩) n c1) vw) (hi : i < n)
    (hv : v0 = .slice A3 s.length c3) (hl : s.length ≤ c3) (hF : Kd.F (Kd.int .u8) w2 (fun k => some k = v0.ownBlock) A3 s.length s) (hfr : ∀ k, v0.ownBlock = some k → ¬ Rs k) :
    DkMid (w2.setCell ⟨q, i, none⟩ (.slice A3 s.length c3)) g (fun k => Sec k ∨ some k = v0.ownBlock) d (d.L.set i s) vd (.slice (some ⟨q, 0, none⟩) n c1) vw := by
  have hq : Rs q := h.rsl q (by simp [Value.ownBlock])
  have ap : ∀ k, (Sec k ∨ some k = v0.ownBlock) → ¬ Rs k := fun k hk => hk.elim (h.apart k) (fun e => hfr k e.symm)
  have hr := (Rw.mono h.rl (Sec' := fun k => Sec k ∨ some k = v0.ownBlock) (fun _ a => .inl a)).set i hi hl (Kd.F_mono hF (fun _ a => .inr a)) (fun k hk e => ap k hk (e ▸ hq))
  have hc : Chg (fun k => k = q) w2 (w2.setCell ⟨q, i, none⟩ (.slice A3 s.length c3)) := (Chg.refl (fun k => k = q) w2).set (p := ⟨q, i, none⟩) (.inl rfl) _
  have hg : g ≠ q := by
    rintro rfl
    obtain ⟨cur, e⟩ := h.rl.typed g (by simp [Value.ownBlock])
    rw [h.blk] at e
    simp at e
  refine ⟨hc.obj h.blk hg, (Rw.mono h.rd (fun _ a => .inl a)).step hc (fun k hk e => ap k hk (e ▸ hq)) (fun k hk e => ?_), hr.1, (Rw.mono h.rw_ (fun _ a => .inl a)).step hc (fun k hk e => ap k hk (e ▸ hq)) (fun k hk e => ?_), h.ne, fun e => ap g e h.rg, fun k hk e => ap k e (h.rsd k hk), fun k hk e => ap k e (h.rsl k hk), fun k hk e => ap k e (h.rsw k hk)⟩
  · subst e
    exact h.ne k hk (by simp [Value.ownBlock])
  · subst e
    obtain ⟨cur, e1⟩ := h.rw_.typed k hk
    obtain ⟨cur2, e2⟩ := h.rl.typed k (by simp [Value.ownBlock])
    rw [e1] at e2
    simp at e2
/-- A row that is not grown, its sectors told anew. -/
theorem Rw.renew {α : Type} {d : Kd α} {e : Nat} {w3 w4 : World} {v : Value} {Sec Sec' S : Nat → Prop} {xs : List α} (h : Rw d e w3 v Sec xs) (hc : Chg S w3 w4) (hs : ∀ k, Sec k → ¬ S k) (ho : ∀ k, v.ownBlock = some k → ¬ S k) (hn : ∀ k, Sec k → k < w3.heap.size → Sec' k) : Rw d e w4 v Sec' xs :=
  Kd.N_mono (Kd.N_step (Kd.N_bound h) (fun k hk hlt => hc.block k hlt (by rcases hk.1 with a | a; exact hs k a; exact ho k a.symm))) (fun k hk => hk.1.elim (fun a => .inl (hn k a hk.2)) .inr)
/-- .. and the write waits. -/
theorem DkMid.app {w3 w4 : World} {g i : Nat} {Rs Sec : Nat → Prop} {d : DS} {L : List (List Int)} {s : List Int} {vd vl vw v1 : Value} (h : DkMid w3 g Sec d L vd vl vw)
    (hN : Kd.N kWr 59 w4 0 (fun k => (Sec k ∨ some k = vw.ownBlock) ∨ w3.heap.size ≤ k) v1 (d.W ++ [((i : Int), s)])) (hg : w3.grownBy w4 vw.ownBlock) (hat : v1.ownBlock = vw.ownBlock ∨ ∃ b, v1.ownBlock = some b ∧ w3.heap.size ≤ b)
    (hRs : ∀ k, Rs k → k < w3.heap.size) (rg : Rs g) (rd : ∀ k, vd.ownBlock = some k → Rs k) (rl : ∀ k, vl.ownBlock = some k → Rs k) (rw_ : ∀ k, vw.ownBlock = some k → Rs k) :
    ∃ Rs' Sec', DkAt (w4.setCell ⟨g, 2, none⟩ v1) g Rs' Sec' { d with L := L, W := d.W ++ [((i : Int), s)] } vd vl v1 ∧ (∀ k, Rs' k → Rs k ∨ w3.heap.size ≤ k) ∧ (∀ k, Sec' k → Rs k ∨ Sec k ∨ w3.heap.size ≤ k) ∧ Chg Rs w3 (w4.setCell ⟨g, 2, none⟩ v1) := by
  have hc4 : Chg (fun k => vw.ownBlock = some k) w3 w4 := Chg.of_grown hg (fun k e => e)
  have hgl : g < w3.heap.size := (Array.getElem?_eq_some_iff.1 h.blk).1
  have hwg : ∀ k, vw.ownBlock = some k → k ≠ g := fun k hk => h.ng (h.rw_.typed k hk) (by decide)
  have hdw : ∀ k, vd.ownBlock = some k → vw.ownBlock ≠ some k := fun k hk e => by
    obtain ⟨cur, e1⟩ := h.rd.typed k hk
    obtain ⟨cur2, e2⟩ := h.rw_.typed k e
    rw [e1] at e2
    simp at e2
  have hlw : ∀ k, vl.ownBlock = some k → vw.ownBlock ≠ some k := fun k hk e => by
    obtain ⟨cur, e1⟩ := h.rl.typed k hk
    obtain ⟨cur2, e2⟩ := h.rw_.typed k e
    rw [e1] at e2
    simp at e2
  have hdl : ∀ k, vd.ownBlock = some k → k < w3.heap.size := fun k hk => by obtain ⟨cur, e⟩ := h.rd.typed k hk; exact (Array.getElem?_eq_some_iff.1 e).1
  have hll : ∀ k, vl.ownBlock = some k → k < w3.heap.size := fun k hk => by obtain ⟨cur, e⟩ := h.rl.typed k hk; exact (Array.getElem?_eq_some_iff.1 e).1
  have hwl : ∀ k, vw.ownBlock = some k → k < w3.heap.size := fun k hk => by obtain ⟨cur, e⟩ := h.rw_.typed k hk; exact (Array.getElem?_eq_some_iff.1 e).1
  have hv1 : ∀ k, v1.ownBlock = some k → vw.ownBlock = some k ∨ w3.heap.size ≤ k := fun k hk => by
    rcases hat with e | ⟨b, e, hb⟩
    · exact .inl (e ▸ hk)
    · rw [hk] at e
      obtain rfl := Option.some.inj e
      exact .inr hb
  have hv1lt := Kd.N_lt hN
  have hSw : ∀ k, Sec k → ¬ vw.ownBlock = some k := fun k hk e => h.ws k e hk
  have notR : ∀ k, Sec k → k < w3.heap.size → ¬ (k = g ∨ vd.ownBlock = some k ∨ vl.ownBlock = some k ∨ v1.ownBlock = some k) := by
    rintro k hk hlt (rfl | e | e | e)
    · exact h.gs hk
    · exact h.ds k e hk
    · exact h.ls k e hk
    · rcases hv1 k e with a | a
      · exact h.ws k a hk
      · omega
  have hS' : ∀ k, Sec k → k < w3.heap.size → ((Sec k ∨ some k = vw.ownBlock ∨ w3.heap.size ≤ k) ∧ k < w4.heap.size ∧ ¬ (k = g ∨ vd.ownBlock = some k ∨ vl.ownBlock = some k ∨ v1.ownBlock = some k)) := fun k hk hlt => ⟨.inl hk, Nat.lt_of_lt_of_le hlt hc4.size, notR k hk hlt⟩
  have hc5 : Chg (fun k => k = g) w4 (w4.setCell ⟨g, 2, none⟩ v1) := (Chg.refl (fun k => k = g) w4).set (p := ⟨g, 2, none⟩) (.inl rfl) _
  have hsz5 : w4.heap.size ≤ (w4.setCell ⟨g, 2, none⟩ v1).heap.size := hc5.size
  have hb4 := hc4.obj h.blk (fun e => hwg g e rfl)
  have hdg : ∀ k, vd.ownBlock = some k → ¬ k = g := fun k hk => h.ng (h.rd.typed k hk) (by decide)
  have hlg : ∀ k, vl.ownBlock = some k → ¬ k = g := fun k hk => h.ng (h.rl.typed k hk) (by decide)
  have h1g : ∀ k, v1.ownBlock = some k → ¬ k = g := fun k hk e => by
    rcases hv1 k hk with a | a
    · exact hwg k a e
    · omega
  refine ⟨fun k => k = g ∨ vd.ownBlock = some k ∨ vl.ownBlock = some k ∨ v1.ownBlock = some k, fun k => (Sec k ∨ some k = vw.ownBlock ∨ w3.heap.size ≤ k) ∧ k < w4.heap.size ∧ ¬ (k = g ∨ vd.ownBlock = some k ∨ vl.ownBlock = some k ∨ v1.ownBlock = some k), ⟨(six_set hb4 v1).2.2.1, ?_, ?_, ?_, h.ne, ?_, .inl rfl, fun k hk => .inr (.inl hk), fun k hk => .inr (.inr (.inl hk)), fun k hk => .inr (.inr (.inr hk)), fun k hk => hk.2.2⟩, ?_, ?_, ?_⟩
  · exact (Rw.renew h.rd hc4 hSw hdw hS').step hc5 (fun k hk e => hk.2.2 (.inl e)) hdg
  · exact (Rw.renew h.rl hc4 hSw hlw hS').step hc5 (fun k hk e => hk.2.2 (.inl e)) hlg
  · have : Rw kWr 59 w4 v1 (fun k => (Sec k ∨ some k = vw.ownBlock ∨ w3.heap.size ≤ k) ∧ k < w4.heap.size ∧ ¬ (k = g ∨ vd.ownBlock = some k ∨ vl.ownBlock = some k ∨ v1.ownBlock = some k)) (d.W ++ [((i : Int), s)]) := by
      refine Kd.N_mono (Kd.N_bound hN) (fun k hk => ?_)
      by_cases e : v1.ownBlock = some k
      · exact .inr e.symm
      · refine .inl ⟨?_, hk.2, ?_⟩
        · rcases hk.1 with (a | a) | a
          · exact .inl a
          · exact .inr (.inl a)
          · exact .inr (.inr a)
        · rintro (rfl | q | q | q)
          · rcases hk.1 with (a | a) | a
            · exact h.gs a
            · exact hwg _ a.symm rfl
            · omega
          · rcases hk.1 with (a | a) | a
            · exact h.ds k q a
            · exact hdw k q a.symm
            · have := hdl k q; omega
          · rcases hk.1 with (a | a) | a
            · exact h.ls k q a
            · exact hlw k q a.symm
            · have := hll k q; omega
          · exact e q
    exact this.step hc5 (fun k hk e => hk.2.2 (.inl e)) h1g
  · rintro k (rfl | e | e | e)
    · have := hc4.size; omega
    · have := hdl k e; have := hc4.size; omega
    · have := hll k e; have := hc4.size; omega
    · have := hv1lt k e; omega
  · rintro k (rfl | e | e | e)
    · exact .inl rg
    · exact .inl (rd k e)
    · exact .inl (rl k e)
    · rcases hv1 k e with a | a
      · exact .inl (rw_ k a)
      · exact .inr a
  · rintro k ⟨a | a | a, _, _⟩
    · exact .inr (.inl a)
    · exact .inl (rw_ k a.symm)
    · exact .inr (.inr a)
  · exact (hc4.mono (fun k e => rw_ k e)).set (p := ⟨g, 2, none⟩) (.inl rg) _
set_option maxHeartbeats 2000000 in
set_option maxRecDepth 100000 in
/-- A write that goes through. -/
theorem write_ok (g : Nat) (Rs Sec : Nat → Prop) (d : DS) (i : Nat) (m : Nat) (A : Option Addr) (c : Nat) (s : List Int) (w : World) (h : Dk w g Rs Sec d) (hO : d.Ok m) (hm : m ≤ 100000) (hd : d.dead = false) (hi : i < d.D.length) (hs : s.length = 256) (hl : (livesF d).dead = false)
    (hC : ∀ X, Chg Rs w X → Kd.C (Kd.int .u8) X A s.length s) (hc : s.length ≤ c) :
    Calls Try.prog 11 #[.pointer (some ⟨g, 0, none⟩), .int .i64 (i : Int), .slice A s.length c] w fun e w' => e = .returned (.int .i64 0) ∧ DkPost g Rs Sec (writeF (livesF d) i s) w w' := by
  have hdead := Aside0.mk (dead_any g Rs Sec d w h)
  have hlen := Aside0.mk (len_any g Rs Sec d w h)
  rw [hd] at hdead
  obtain ⟨vd, vl, vw, hk⟩ := h
  have hlives := lives_any g Rs Sec d vd vl vw w hk
  rw [hl] at hlives
  obtain ⟨Ad, cd, rfl, _, _⟩ := hk.rd.reads
  obtain ⟨Al, cl, rfl, _, _⟩ := hk.rl.reads
  obtain ⟨Aw, cw, rfl, hcw, _⟩ := hk.rw_.reads
  have hmx := hO.max
  have e1 : decide (d.D.length ≤ i) = false := by simp; omega
  have e2 : decide ((d.D.length : Int) ≤ (i : Int)) = false := by simp; omega
  have e3 : ((s.length : Int) == 256) = true := by simp; omega
  have e4 : ((s.length : Int) != 256) = false := by simp; omega
  have hll : (livesF d).L.length = d.D.length := hO.len
  have hDD : (livesF d).D = d.D := rfl
  have hWW : (livesF d).W = d.W := rfl
  have hWl := hO.many
  have hRg := hk.rg
  have hWL : d.W.length = (livesF d).W.length := rfl
  have hLL : d.L.length = (livesF d).L.length := rfl
  have hRlt := hk.rs
  generalize hd1 : livesF d = d1 at *
  clear hd1
  rw [hWL] at hlives hWl
  rw [hLL] at hlives
  clear hWL hLL hk
  replace hlives := Aside0.mk hlives
  replace hC := Aside0.mk hC
  replace hRlt := Aside0.mk hRlt
  replace hRg := Aside0.mk hRg
  clear hO hd
  generalize hn : d.D.length = n at *
  generalize hnl : d1.L.length = nl at *
  generalize hnw : d1.W.length = nw at *
  replace hnl := Aside0.mk hnl
  replace hnw := Aside0.mk hnw
  replace hs := Aside0.mk hs
  replace hl := Aside0.mk hl
  replace hll := Aside0.mk hll
  replace hDD := Aside0.mk hDD
  replace hWW := Aside0.mk hWW
  replace hWl := Aside0.mk hWl
  replace hn := Aside0.mk hn
  go_enter Try.func11, Try.ntmps11
  go_wp2_with (first | (go_at_call 25; refine hdead.out.mono ?_; rintro e w1 ⟨rfl, hq_⟩; obtain rfl := hq_.symm) | (go_at_call 26; refine hlen.out.mono ?_; rintro e w1 ⟨rfl, hq_⟩; obtain rfl := hq_.symm))
  refine hlives.out.mono ?_
  rintro e w1 ⟨rfl, hk1, hc1⟩
  have hc1 := hc1.mono (S2 := Rs) (fun k e => by rw [e]; exact hRg.out)
  replace hk1 := Aside0.mk hk1
  have hs1 := hc1.size
  replace hc1 := Aside0.mk hc1
  go_wp2_with fail
  refine (slices_Clone_byte_byte_28.calls_n s.length A c s _ (hC.out _ hc1.out) hc (by have := hs.out; omega)).mono ?_
  rintro e w2 ⟨v0, rfl, hR, hb2⟩
  have hF := Kd.R_tight rfl hR
  have hlow := Kd.R_base hR
  obtain ⟨A3, c3, rfl, hl3, _⟩ := Kd.R_reads hR
  have hF := Kd.R_F hF
  have hk2 := hk1.out.step (Chg.of_new hb2 (fun _ => False)) (fun _ _ x => x) (fun _ _ x => x)
  have hil : i < nl := by have := hll.out; omega
  obtain ⟨q, A1, c1, rfl, hcell, hfr, _, _⟩ := Rw.sector hk2.rl i hil
  obtain ⟨_, hcl1, _⟩ := six_cells hk2.blk
  have hM := hk2.put hil rfl hl3 hF (fun k hk e => by have := hlow k hk; have := hRlt.out k e; omega)
  obtain ⟨_, _, g2, _, _, _, _, _, gf2, _⟩ := six_cells hM.blk
  have hsm := (Chg.refl (fun k => k = q) w2).set (p := ⟨q, i, none⟩) (.inl rfl) (.slice A3 s.length c3)
  have hRq : Rs q := hk2.rsl q (by simp [Value.ownBlock])
  have hc3 := (hc1.out.new hb2).trans (hsm.mono (S2 := Rs) (fun k e => by rw [e]; exact hRq)) (fun k e => .inl e)
  have hs2 := hb2.size
  have hs3 := hsm.size
  have hrw := hk2.rsw
  have hrd := hk2.rsd
  have hrl := hk2.rsl
  have hMw := Kd.N_mono hM.rw_ (ok' := fun k => ((Sec k ∨ some k = (Value.slice A3 s.length c3).ownBlock) ∨ some k = (Value.slice Aw nw cw).ownBlock) ∨ (w2.setCell ⟨q, i, none⟩ (.slice A3 s.length c3)).heap.size ≤ k) (fun k hk => .inl hk)
  have hp : Kd.FK kWr (w2.setCell ⟨q, i, none⟩ (.slice A3 s.length c3)) (fun k => some k = (Value.slice A3 s.length c3).ownBlock) ((i : Int), s) [.int .i64 (i : Int), .slice A3 s.length c3] := kWr_mk hl3 (Kd.F_step hF (fun k hk hlt => hsm.block k hlt (fun e => by have := hlow k hk.symm; have := hRlt.out q hRq; omega)))
  clear hR hF
  replace hp := Aside0.mk hp
  replace hM := Aside0.mk hM
  replace hMw := Aside0.mk hMw
  replace hc3 := Aside0.mk hc3
  replace hsm := Aside0.mk hsm
  replace hlow := Aside0.mk hlow
  replace hrw := Aside0.mk hrw
  replace hrd := Aside0.mk hrd
  replace hrl := Aside0.mk hrl
  replace hRq := Aside0.mk hRq
  replace hk2 := Aside0.mk hk2
  go_wp2_with ((with_reducible refine gate_builtin (b := .append) (xs := #[.tmp 41, .tmp 45]) rfl ?_); at_builtin; refine Kd.N_append kWr (w0 := (w2.setCell ⟨q, i, none⟩ (.slice A3 s.length c3))) 0 rfl (.tmp 41) (.tmp 45) 53 59 (.agg #[(.int .i64 0), (.slice none 0 0)]) 32 rfl Try.underlying53 infoWr rfl (by decide) (by decide) (.slice Aw nw cw) d1.W ((i : Int), s) [.int .i64 (i : Int), .slice A3 s.length c3] (fun k => ((Sec k ∨ some k = (Value.slice A3 s.length c3).ownBlock) ∨ some k = (Value.slice Aw nw cw).ownBlock) ∨ (w2.setCell ⟨q, i, none⟩ (.slice A3 s.length c3)).heap.size ≤ k) (fun k => some k = (Value.slice A3 s.length c3).ownBlock) rfl (by rw [World.size_setCell]; rfl) hp.out ?aK (fun _ h => .inr h) hMw.out (Below.refl _ _) (Nat.zero_le _) ?aL ?_; (case aK => intro k hk; exact ⟨.inl (.inl (.inr hk)), fun e => by have := hlow.out k hk.symm; have := hRlt.out k (hrw.out k e.symm); omega⟩); (case aL => have := hnw.out; have := hWl.out; omega); intro v4 w4 hN4 _ hg4 hat4; have hA := DkMid.app hM.out hN4 hg4 hat4 (fun k hk => by have := hRlt.out k hk; omega) hRg.out hrd.out hrl.out hrw.out; have hg4' := hg4.block g (by have := hRlt.out g hRg.out; omega) (fun e => by have := hM.out.ng (hM.out.rw_.typed g e.symm) (by decide); exact this rfl); obtain ⟨_, _, _, _, _, _, _, _, z4, _⟩ := six_cells (hg4'.trans hM.out.blk); obtain ⟨_, _, y4, _⟩ := six_cells (hg4'.trans hM.out.blk); obtain ⟨A4, c4, rfl⟩ := Kd.N_slice hN4; clear hN4 hg4 hat4 hg4'; replace hA := Aside0.mk hA; generalize (d1.W ++ [((i : Int), s)]).length = n4 at hA)
  go_ret
  obtain ⟨Rs', Sec', k1, k2, k3, k4⟩ := hA.out
  have hszw : w.heap.size ≤ (w2.setCell ⟨q, i, none⟩ (.slice A3 s.length c3)).heap.size := by omega
  refine ⟨rfl, Rs', Sec', ⟨_, _, _, k1⟩, fun k hk => (k2 k hk).elim .inl (fun a => .inr (by omega)), fun k hk => ?_, hc3.out.trans k4 (fun k hk => .inl hk)⟩
  rcases k3 k hk with a | (a | a) | a
  · exact .inl a
  · exact .inr (.inl a)
  · exact .inr (.inr (by have := hlow.out k a.symm; omega))
  · exact .inr (.inr (by omega))
end Go.Proofs.Ytfaflgdhffkaiaa.Print
