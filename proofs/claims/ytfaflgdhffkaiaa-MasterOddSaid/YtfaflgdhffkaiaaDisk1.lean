/- disk.Disk: Waits, Read, Arm. -/
import Derived.Test.YtfaflgdhffkaiaaDisk0
import Derived.Test.YtfaflgdhffkaiaaPrint1
namespace Go.Proofs.Ytfaflgdhffkaiaa.Print
open Go.RowKit Go.Proofs.YtfaflgdhffkaiaaW.PrintWords Go.Proofs.YtfaflgdhffkaiaaW.PrintLast Go.Proofs.YtfaflgdhffkaiaaW.PrintMore
set_option linter.unusedVariables false
set_option linter.unusedSimpArgs false
/-- A device as it is made and used: so many sectors, each of 256 bytes; at most m writes wait. -/
structure DS.Ok (d : DS) (m : Nat) : Prop where
  len : d.L.length = d.D.length
  max : d.D.length ≤ 4096
  dur : ∀ s ∈ d.D, s.length = 256
  last : ∀ s ∈ d.L, s.length = 256
  waits : ∀ x ∈ d.W, 0 ≤ x.1 ∧ x.1 < d.D.length ∧ x.2.length = 256
  many : d.W.length ≤ m
set_option maxHeartbeats 1000000 in
theorem waits_walk (g : Nat) (A : Option Addr) (n c : Nat) (vd vl : Value) (b1 b2 : Bool) (x : Int) (w : World) (hb : w.heap[g]? = some (.cells #[vd, vl, .slice A n c, .bool b1, .bool b2, .int .i64 x] 55 (0, 0))) (hm : n ≤ 9223372036854775807) :
    Calls Try.prog 20 #[.pointer (some ⟨g, 0, none⟩)] w fun e w' => e = .returned (.int .i64 n) ∧ w' = w := by
  obtain ⟨_, _, hc, _⟩ := six_cells hb
  clear hb
  go_enter Try.func20, Try.ntmps20
  go_wp2_with fail
  go_ret
  exact ⟨rfl, rfl⟩
theorem waits_any (g : Nat) (Rs Sec : Nat → Prop) (d : DS) (w : World) (h : Dk w g Rs Sec d) : Calls Try.prog 20 #[.pointer (some ⟨g, 0, none⟩)] w fun e w' => e = .returned (.int .i64 d.W.length) ∧ w' = w := by
  obtain ⟨vd, vl, vw, h⟩ := h
  obtain ⟨A, c, rfl, _, hF⟩ := h.rw_.reads
  exact waits_walk g A _ c vd vl _ _ _ w h.blk (Kd.F_max hF)
set_option maxHeartbeats 1000000 in
theorem waits_nil (w : World) : Calls Try.prog 20 #[.pointer none] w fun e w' => e = .returned (.int .i64 0) ∧ w' = w := by
  go_enter Try.func20, Try.ntmps20
  go_wp2_with fail
  go_ret
  exact ⟨rfl, rfl⟩
/-- An element of a row of sectors. -/
theorem Rw.sector {w : World} {A : Option Addr} {c n : Nat} {Sec : Nat → Prop} {xs : List (List Int)} (h : Rw kS 22 w (.slice A n c) Sec xs) (i : Nat) (hi : i < n) :
    ∃ q A1 c1, A = some ⟨q, 0, none⟩ ∧ w.cell? ⟨q, i, none⟩ = some (.slice A1 (xs.getD i []).length c1) ∧ w.frozen? ⟨q, i, none⟩ = false ∧ (xs.getD i []).length ≤ c1 ∧ Kd.F (Kd.int .u8) w Sec A1 (xs.getD i []).length (xs.getD i []) := by
  have hn : n = xs.length := (Kd.N_reads' h).1
  subst hn
  obtain ⟨q, cap, e, _⟩ := Kd.N_form h (by omega)
  injection e with e1 e2 e3
  subst e1 e3
  obtain ⟨cs, hcl, hFK, hcell, hfr⟩ := Kd.N_elem h [] (i : Int) (by omega) (by omega)
  rw [show ((i : Int)).toNat = i by omega] at hFK hcell hfr
  obtain ⟨A1, c1, rfl, hl, hF⟩ := kS_open hFK
  have hc0 := hcell 0 _ rfl
  have hf0 := hfr 0
  simp only [show kS.sz = 1 from rfl, Nat.mul_one, Nat.add_zero] at hc0 hf0
  exact ⟨q, A1, c1, rfl, hc0, hf0, hl, Kd.F_mono hF (fun k hk => hk.1.elim (fun a => a) (fun a => absurd (by simpa [Value.ownBlock] using a) hk.2))⟩
def readOk (d : DS) (i : Int) : Prop := d.dead = false ∧ 0 ≤ i ∧ i < d.D.length
instance (d : DS) (i : Int) : Decidable (readOk d i) := by unfold readOk; infer_instance
def readB (d : DS) (i : Int) : List Int := if readOk d i then d.L.getD i.toNat [] else []
def readE (d : DS) (i : Int) : Int := if d.dead = true then 30 else if 0 ≤ i ∧ i < d.D.length then 0 else 3
set_option maxHeartbeats 1000000 in
set_option maxRecDepth 100000 in
theorem read_ok (g : Nat) (Rs Sec : Nat → Prop) (d : DS) (m i : Nat) (w : World) (h : Dk w g Rs Sec d) (hO : d.Ok m) (hd : d.dead = false) (hi : i < d.D.length) :
    Calls Try.prog 16 #[.pointer (some ⟨g, 0, none⟩), .int .i64 (i : Int)] w fun e w' => ∃ v0, e = .returned (.tuple #[v0, .int .i64 0]) ∧ Kd.R (Kd.int .u8) 5 w' w.heap.size (fun _ => True) v0 (d.L.getD i []) ∧ Below w.heap.size w w' := by
  have hdead := Aside0.mk (dead_any g Rs Sec d w h)
  have hlen := Aside0.mk (len_any g Rs Sec d w h)
  rw [hd] at hdead
  have hLi : (d.L.getD i []).length = 256 := by
    have : i < d.L.length := by rw [hO.len]; exact hi
    rw [List.getD_eq_getElem?_getD, List.getElem?_eq_getElem this]
    exact hO.last _ (List.getElem_mem this)
  obtain ⟨vd, vl, vw, hk⟩ := h
  have hlt := hk.lt
  obtain ⟨A, c, rfl, hc, hF⟩ := hk.rl.reads
  have hll : d.L.length = d.D.length := hO.len
  obtain ⟨q, A1, c1, rfl, hcell, _, hl1, hF1⟩ := Rw.sector hk.rl i (by omega)
  obtain ⟨_, hc1, _⟩ := six_cells hk.blk
  have hmx := hO.max
  have e1 : decide (d.D.length ≤ i) = false := by simp; omega
  have e2 : decide ((d.D.length : Int) ≤ (i : Int)) = false := by simp; omega
  rw [hll] at hc1 hc
  replace hF1 := Aside0.mk hF1
  clear hk hF hO
  generalize d.L.getD i [] = s at *
  generalize d.D.length = n at *
  clear hll hd
  replace hLi := Aside0.mk hLi
  go_enter Try.func16, Try.ntmps16
  go_wp2_with (first | (go_at_call 25; refine hdead.out.mono ?_; rintro e w1 ⟨rfl, rfl⟩) | (go_at_call 26; refine hlen.out.mono ?_; rintro e w1 ⟨rfl, rfl⟩) | (go_at_call 28; refine (slices_Clone_byte_byte_28.calls_n s.length A1 c1 s _ (Kd.F_now hF1.out) hl1 (by have := hLi.out; omega)).mono ?_; rintro e w1 ⟨v0, rfl, hR, hb⟩; obtain ⟨A3, c3, rfl⟩ := Kd.R_slice hR; replace hR := Aside0.mk hR; replace hb := Aside0.mk hb))
  go_ret2
  exact ⟨_, rfl, hR.out, hb.out⟩
set_option maxHeartbeats 1000000 in
theorem read_dead (p : Value) (i : Int) (w : World) (hp : Calls Try.prog 25 #[p] w fun e w' => e = .returned (.bool true) ∧ w' = w) :
    Calls Try.prog 16 #[p, .int .i64 i] w fun e w' => e = .returned (.tuple #[.slice none 0 0, .int .i64 30]) ∧ w' = w := by
  replace hp := Aside0.mk hp
  go_enter Try.func16, Try.ntmps16
  go_wp2_with (go_at_call 25; refine hp.out.mono ?_; rintro e w1 ⟨rfl, rfl⟩)
  go_ret2
  exact ⟨rfl, rfl⟩
set_option maxHeartbeats 1000000 in
theorem read_out (p : Value) (i : Int) (n : Nat) (w : World) (hn : n ≤ 4096) (hi : i < 0 ∨ (n : Int) ≤ i) (hp : Calls Try.prog 25 #[p] w fun e w' => e = .returned (.bool false) ∧ w' = w) (hq : Calls Try.prog 26 #[p] w fun e w' => e = .returned (.int .i64 (n : Int)) ∧ w' = w) :
    Calls Try.prog 16 #[p, .int .i64 i] w fun e w' => e = .returned (.tuple #[.slice none 0 0, .int .i64 3]) ∧ w' = w := by
  replace hp := Aside0.mk hp
  replace hq := Aside0.mk hq
  by_cases h0 : i < 0
  · clear hi
    go_enter Try.func16, Try.ntmps16
    go_wp2_with (go_at_call 25; refine hp.out.mono ?_; rintro e w1 ⟨rfl, rfl⟩)
    go_ret2
    exact ⟨rfl, rfl⟩
  · have h1 : (n : Int) ≤ i := by omega
    have h2 : 0 ≤ i := by omega
    clear hi h0
    go_enter Try.func16, Try.ntmps16
    go_wp2_with (first | (go_at_call 25; refine hp.out.mono ?_; rintro e w1 ⟨rfl, rfl⟩) | (go_at_call 26; refine hq.out.mono ?_; rintro e w1 ⟨rfl, rfl⟩))
    go_ret2
    exact ⟨rfl, rfl⟩
/-- Read, whatever is asked for. -/
theorem read_any (g : Nat) (Rs Sec : Nat → Prop) (d : DS) (m : Nat) (i : Int) (w : World) (h : Dk w g Rs Sec d) (hO : d.Ok m) :
    Calls Try.prog 16 #[.pointer (some ⟨g, 0, none⟩), .int .i64 i] w fun e w' => ∃ v0, e = .returned (.tuple #[v0, .int .i64 (readE d i)]) ∧ Kd.R (Kd.int .u8) 5 w' w.heap.size (fun _ => True) v0 (readB d i) ∧ Below w.heap.size w w' := by
  have hdead := dead_any g Rs Sec d w h
  unfold readE readB
  by_cases hd : d.dead = true
  · have e : ¬ readOk d i := fun c => by have := c.1; rw [hd] at this; cases this
    rw [if_pos hd, if_neg e]
    rw [hd] at hdead
    refine (read_dead _ i w hdead).mono ?_
    rintro e w' ⟨rfl, rfl⟩
    exact ⟨_, rfl, Kd.R_nil _ _ _ _ _, Below.refl _ _⟩
  · have hd0 : d.dead = false := by simpa using hd
    rw [if_neg hd]
    by_cases hi : 0 ≤ i ∧ i < d.D.length
    · obtain ⟨j, rfl⟩ : ∃ j : Nat, i = j := ⟨i.toNat, by omega⟩
      rw [if_pos hi, if_pos ⟨hd0, hi⟩]
      exact read_ok g Rs Sec d m j w h hO hd0 (by omega)
    · have e : ¬ readOk d i := fun c => hi c.2
      rw [if_neg hi, if_neg e]
      rw [hd0] at hdead
      refine (read_out _ i d.D.length w hO.max (by omega) hdead (len_any g Rs Sec d w h)).mono ?_
      rintro e w' ⟨rfl, rfl⟩
      exact ⟨_, rfl, Kd.R_nil _ _ _ _ _, Below.refl _ _⟩
/-- How a call leaves the device. -/
def DkPost (g : Nat) (Rs Sec : Nat → Prop) (d : DS) (w w' : World) : Prop :=
  ∃ Rs' Sec', Dk w' g Rs' Sec' d ∧ (∀ k, Rs' k → Rs k ∨ w.heap.size ≤ k) ∧ (∀ k, Sec' k → Rs k ∨ Sec k ∨ w.heap.size ≤ k) ∧ Chg Rs w w'
theorem six_set {W : World} {g : Nat} {a b c d e f : Value} {t : TypeId} (h : W.heap[g]? = some (.cells #[a, b, c, d, e, f] t (0, 0))) (u : Value) :
    (W.setCell ⟨g, 0, none⟩ u).heap[g]? = some (.cells #[u, b, c, d, e, f] t (0, 0)) ∧ (W.setCell ⟨g, 1, none⟩ u).heap[g]? = some (.cells #[a, u, c, d, e, f] t (0, 0)) ∧ (W.setCell ⟨g, 2, none⟩ u).heap[g]? = some (.cells #[a, b, u, d, e, f] t (0, 0)) ∧
    (W.setCell ⟨g, 3, none⟩ u).heap[g]? = some (.cells #[a, b, c, u, e, f] t (0, 0)) ∧ (W.setCell ⟨g, 4, none⟩ u).heap[g]? = some (.cells #[a, b, c, d, u, f] t (0, 0)) ∧ (W.setCell ⟨g, 5, none⟩ u).heap[g]? = some (.cells #[a, b, c, d, e, u] t (0, 0)) :=
  ⟨by simpa using blk_set h 0 u, by simpa using blk_set h 1 u, by simpa using blk_set h 2 u, by simpa using blk_set h 3 u, by simpa using blk_set h 4 u, by simpa using blk_set h 5 u⟩
/-- The device's own block turned, its rows as they were. -/
theorem DkAt.turned {w w1 : World} {g : Nat} {Rs Sec : Nat → Prop} {d d1 : DS} {vd vl vw : Value} (h : DkAt w g Rs Sec d vd vl vw) (hc : Chg (fun k => k = g) w w1) (hb : w1.heap[g]? = some (.cells #[vd, vl, vw, .bool d1.armed, .bool d1.dead, .int .i64 d1.left] 55 (0, 0)))
    (h1 : d1.D = d.D) (h2 : d1.L = d.L) (h3 : d1.W = d.W) : DkAt w1 g Rs Sec d1 vd vl vw := by
  have ng : ∀ {t : Nat} {k : Nat}, (∃ cur, w.heap[k]? = some (.cells cur t (0, 0))) → t ≠ 55 → ¬ k = g := by
    rintro t k ⟨cur, e⟩ ht rfl
    rw [h.blk] at e
    simp at e
    exact ht e.2.symm
  have sg : ∀ k, Sec k → ¬ k = g := fun k hk e => h.apart k hk (e ▸ h.rg)
  exact ⟨hb, h1 ▸ h.rd.step hc sg (fun k hk => ng (h.rd.typed k hk) (by decide)), h2 ▸ h.rl.step hc sg (fun k hk => ng (h.rl.typed k hk) (by decide)),
    h3 ▸ h.rw_.step hc sg (fun k hk => ng (h.rw_.typed k hk) (by decide)), h.ne, fun k hk => Nat.lt_of_lt_of_le (h.rs k hk) hc.size, h.rg, h.rsd, h.rsl, h.rsw, h.apart⟩
def armF (d : DS) (n : Int) : DS := { d with armed := decide (0 ≤ n), left := n }
set_option maxHeartbeats 1000000 in
theorem arm_any (g : Nat) (Rs Sec : Nat → Prop) (d : DS) (n : Int) (w : World) (h : Dk w g Rs Sec d) :
    Calls Try.prog 17 #[.pointer (some ⟨g, 0, none⟩), .int .i64 n] w fun e w' => e = .returned (.tuple #[]) ∧ DkPost g Rs Sec (armF d n) w w' := by
  obtain ⟨vd, vl, vw, hk⟩ := h
  have hblk := hk.blk
  obtain ⟨A, c, rfl, _, _⟩ := hk.rd.reads
  obtain ⟨A1, c1, rfl, _, _⟩ := hk.rl.reads
  obtain ⟨A2, c2, rfl, _, _⟩ := hk.rw_.reads
  obtain ⟨h0, h1, h2, h3, h4, h5, f0, f1, f2, f3, f4, f5⟩ := six_cells hblk
  replace hk := Aside0.mk hk
  replace hblk := Aside0.mk hblk
  go_enter Try.func17, Try.ntmps17
  go_wp2_with fail
  go_end0
  refine ⟨rfl, Rs, Sec, ⟨_, _, _, hk.out.turned (d1 := armF d n) (((Chg.refl (fun k => k = g) w).set (p := ⟨g, 3, none⟩) (.inl rfl) _).set (p := ⟨g, 5, none⟩) (.inl rfl) _) ?_ rfl rfl rfl⟩, fun _ h => .inl h, fun _ h => .inr (.inl h),
    ((Chg.refl Rs w).set (p := ⟨g, 3, none⟩) (.inl hk.out.rg) _).set (p := ⟨g, 5, none⟩) (.inl hk.out.rg) _⟩
  exact (six_set (six_set hblk.out _).2.2.2.1 _).2.2.2.2.2
set_option maxHeartbeats 1000000 in
theorem arm_nil (n : Int) (w : World) : Calls Try.prog 17 #[.pointer none, .int .i64 n] w fun e w' => e = .returned (.tuple #[]) ∧ w' = w := by
  go_enter Try.func17, Try.ntmps17
  go_wp2_with fail
  go_end0
  exact ⟨rfl, rfl⟩
end Go.Proofs.Ytfaflgdhffkaiaa.Print
