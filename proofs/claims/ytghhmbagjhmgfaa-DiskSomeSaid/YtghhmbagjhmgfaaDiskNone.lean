/- DiskNone: a nil device has nothing, and is dead; what is handed in, and answered, stays. -/
import Derived.Test.YtghhmbagjhmgfaaOps
import Derived.Deep.RegionHeld3
import Derived.Test.YtghhmbagjhmgfaaPrint1
namespace Go.Proofs.Ytghhmbagjhmgfaa.Print
open Go.RowKit Go.Proofs.YtghhmbagjhmgfaaW.PrintWords Go.Proofs.YtghhmbagjhmgfaaW.PrintLast Go.Proofs.YtghhmbagjhmgfaaW.PrintMore
set_option linter.unusedVariables false
set_option linter.unusedSimpArgs false
theorem same_l0 (l : List Int) (hl : l.length ≤ 1000000) : ∀ (j i : Nat), i + j = l.length → bobbinref01_Same.l0 (j + 1) l l i = some true
  | 0, i, h => by rw [bobbinref01_Same.l0_eq, if_neg (by omega)]
  | j + 1, i, h => by
    rw [bobbinref01_Same.l0_eq, if_pos (by omega), if_pos (by omega), if_pos (by omega), if_pos rfl]
    have e1 : wrap64 ((i : Int) + 1) = ((i + 1 : Nat) : Int) := by unfold wrap64; omega
    rw [e1]
    exact same_l0 l hl j (i + 1) (by omega)
/-- Same, of two rows that hold the same sector. -/
theorem same_any (A B : Option Addr) (n m c d : Nat) (l : List Int) (w : World) (hn : l.length = n) (hm : l.length = m) (hC : Kd.C (Kd.int .u8) w A n l) (hc : n ≤ c) (hD : Kd.C (Kd.int .u8) w B m l) (hd : m ≤ d) (hl : l.length ≤ 1000000) :
    Calls Try.prog 13 #[.slice A n c, .slice B m d] w fun e w' => e = .returned (.bool true) ∧ Drawn0 w w' := by
  subst hn hm
  refine bobbinref01_Same.calls (l.length + 1) A c l B d l true w hC hc hD hd ?_
  unfold bobbinref01_Same.f
  rw [if_pos rfl]
  exact same_l0 l hl l.length 0 (by omega)
/-! #### rows beside the device -/
theorem DkAt.bound {w : World} {g : Nat} {Rs Sec : Nat → Prop} {d : DS} {vd vl vw : Value} (h : DkAt w g Rs Sec d vd vl vw) : DkAt w g Rs (fun k => Sec k ∧ k < w.heap.size) d vd vl vw :=
  ⟨h.blk, h.rd.renew (Chg.refl (fun _ => False) w) (fun _ _ x => x) (fun _ _ x => x) (fun k a b => ⟨a, b⟩), h.rl.renew (Chg.refl (fun _ => False) w) (fun _ _ x => x) (fun _ _ x => x) (fun k a b => ⟨a, b⟩), h.rw_.renew (Chg.refl (fun _ => False) w) (fun _ _ x => x) (fun _ _ x => x) (fun k a b => ⟨a, b⟩),
   h.ne, h.rs, h.rg, h.rsd, h.rsl, h.rsw, fun k a => h.apart k a.1⟩
theorem Dev.bound {w0 W : World} {g : Nat} {d : DS} (h : Dev w0 W g d) : ∃ Rs Sec, Dk W g Rs Sec d ∧ (∀ k, Rs k → w0.heap.size ≤ k ∧ k < W.heap.size) ∧ (∀ k, Sec k → w0.heap.size ≤ k ∧ k < W.heap.size) := by
  obtain ⟨Rs, Sec, ⟨vd, vl, vw, hk⟩, h1, h2⟩ := h
  exact ⟨Rs, _, ⟨vd, vl, vw, hk.bound⟩, fun k a => ⟨h1 k a, hk.rs k a⟩, fun k a => ⟨h2 k a.1, a.2⟩⟩
/-- A row that was made behind the device is written: the device is as it was. -/
theorem Dev.far {w0 W W1 : World} {g : Nat} {d : DS} (h : Dev w0 W g d) (hb : Below W.heap.size W W1) {p : Addr} (hp : W.heap.size ≤ p.block) (u : Value) : Dev w0 (W1.setCell p u) g d := by
  obtain ⟨Rs, Sec, hk, h1, h2⟩ := h.bound
  refine ⟨Rs, Sec, (hk.below hb).step ((Chg.refl (fun k => k = p.block) W1).set (.inl rfl) u) (fun k a e => by have := (h1 k a).2; omega) (fun k a e => by have := (h2 k a).2; omega), fun k a => (h1 k a).1, fun k a => (h2 k a).1⟩
theorem bel_far {w0 W : World} (hB : Below w0.heap.size w0 W) {p : Addr} (hp : w0.heap.size ≤ p.block) (u : Value) : Below w0.heap.size w0 (W.setCell p u) := hB.trans (Chg.below ((Chg.refl (fun k => k = p.block) W).set (p := p) (.inl rfl) u) (fun k e => by omega) hB.size)
/-- Write, of a sector of the law's own that is written later. -/
theorem Dev.write2 {w0 W W1 : World} {g : Nat} {d : DS} {m : Nat} (h : Dev w0 W g d) (hB : Below w0.heap.size w0 W) (hb : Below W.heap.size W W1) (hO : d.Ok m) (hm : m ≤ 100000) (i : Int) {q n c : Nat} {s : List Int} (hq : W.heap.size ≤ q) (hq2 : q < W1.heap.size) (hR : Kd.R (Kd.int .u8) 5 W1 W.heap.size (fun _ => True) (.slice (some ⟨q, 0, none⟩) n c) s) :
    Calls Try.prog 18 #[.pointer (some ⟨g, 0, none⟩), .int .i64 i, .slice (some ⟨q, 0, none⟩) n c] W1 fun e w' => e = .returned (.int .i64 (writeE d i s)) ∧ (∀ p u, p.block = q → Dev w0 (w'.setCell p u) g (writeD d i s)) ∧ Below w0.heap.size w0 w' ∧ w'.heap[q]? = W1.heap[q]? := by
  obtain ⟨Rs, Sec, hk, h1, h2⟩ := h.bound
  have hlow := Kd.R_base hR
  have hF := Kd.R_tight rfl hR
  obtain ⟨A', c', e, hc, _⟩ := Kd.R_reads hR
  injection e with e1 e2 e3
  subst e2 e3
  have hF := Kd.R_F hF
  obtain ⟨vd, vl, vw, hkk⟩ := id hk
  have hs := hB.size
  refine (write_any g Rs Sec d i m _ _ s W1 (hk.below hb) hO hm (fun X hX => Kd.F_now (Kd.F_step hF (fun k hk hlt => hX.block k hlt (fun e => by have := hkk.rs k e; have := hlow k hk.symm; omega)))) hc).mono ?_
  rintro e w' ⟨rfl, hp⟩
  obtain ⟨hd, hB1⟩ := Dev.of_post (hB.trans (hb.mono hs)) (fun k a => (h1 k a).1) (fun k a => (h2 k a).1) hp
  obtain ⟨Rs', Sec', k1, k2, k3, k4⟩ := hp
  have h0 := hb.size
  refine ⟨rfl, fun p u hp => ⟨Rs', Sec', k1.step ((Chg.refl (fun k => k = p.block) w').set (.inl rfl) u) ?_ ?_, ?_, ?_⟩, hB1, k4.block q hq2 (fun a => by have := (h1 q a).2; omega)⟩
  · intro k a e
    rcases k2 k a with x | x
    · have := (h1 k x).2; omega
    · omega
  · intro k a e
    rcases k3 k a with x | x | x
    · have := (h1 k x).2; omega
    · have := (h2 k x).2; omega
    · omega
  · exact fun k a => (k2 k a).elim (fun x => (h1 k x).1) (fun x => by omega)
  · exact fun k a => (k3 k a).elim (fun x => (h1 k x).1) (fun x => x.elim (fun y => (h2 k y).1) (fun y => by omega))
theorem own_form {W : World} {base : Nat} {ok : Nat → Prop} {v : Value} {l : List Int} (h : Kd.R (Kd.int .u8) 5 W base ok v l) (hl : l.length = 256) :
    ∃ q c, v = .slice (some ⟨q, 0, none⟩) 256 c ∧ base ≤ q ∧ q < W.heap.size ∧ 256 ≤ c ∧ ∀ j, j < 256 → W.cell? ⟨q, j, none⟩ = some (.int .u8 (l.getD j 0)) ∧ W.frozen? ⟨q, j, none⟩ = false := by
  obtain ⟨q, c, rfl, hq, hq2, _⟩ := Kd.R_form h (by omega)
  have hc := (Kd.R_reads' h).2.1
  refine ⟨q, c, by rw [hl], hq, hq2, by omega, fun j hj => ?_⟩
  have := Kd.R_cell (0 : Int) h (j : Int) (by omega) (by omega)
  rw [show ((j : Int)).toNat = j by omega] at this
  refine ⟨?_, this.2⟩
  rw [this.1]
  simp [rdOf]
theorem sector_own (b : Int) (w : World) :
    Calls Try.prog 14 #[.int .u8 b] w fun e w' => ∃ q c, e = .returned (.slice (some ⟨q, 0, none⟩) 256 c) ∧ Kd.R (Kd.int .u8) 5 w' w.heap.size (fun _ => True) (.slice (some ⟨q, 0, none⟩) 256 c) (sect b) ∧ Below w.heap.size w w' ∧ w.heap.size ≤ q ∧ q < w'.heap.size ∧ 256 ≤ c := by
  refine (sector_any b w).mono ?_
  rintro e w' ⟨A, c, rfl, hR, hb⟩
  obtain ⟨q, c', e, h1, h2, h3, _⟩ := own_form hR (sect_len b)
  injection e with e1 e2 e3
  subst e1 e3
  exact ⟨q, c, rfl, hR, hb, h1, h2, h3⟩
theorem own_at {W : World} {base : Nat} {ok : Nat → Prop} {q c : Nat} {l : List Int} (h : Kd.R (Kd.int .u8) 5 W base ok (.slice (some ⟨q, 0, none⟩) 256 c) l) (hl : l.length = 256) (j : Nat) (hj : j < 256) : W.cell? ⟨q, j, none⟩ = some (.int .u8 (l.getD j 0)) ∧ W.frozen? ⟨q, j, none⟩ = false := by
  have h' : Kd.R (Kd.int .u8) 5 W base ok (.slice (some ⟨q, 0, none⟩) l.length c) l := by rw [hl]; exact h
  have := Kd.R_cell (0 : Int) h' (j : Int) (by omega) (by omega)
  rw [show ((j : Int)).toNat = j by omega] at this
  refine ⟨?_, this.2⟩
  rw [this.1]
  simp [rdOf]
/-! #### the law -/
set_option maxRecDepth 100000 in
theorem dn_vals (b : Int) : readE (writeD (newD 3) 1 (sect b)) 1 = 0 ∧ readB (writeD (newD 3) 1 (sect b)) 1 = sect b := by
  refine ⟨?_, ?_⟩ <;> kernel_rfl
set_option maxHeartbeats 600000 in
set_option maxRecDepth 100000 in
theorem none_walk (at_ b : Int) (w : World) :
    Calls Try.prog 8 #[.int .i64 at_, .int .u8 b] w fun e w' => e = .returned (.bool true) ∧ Below w.heap.size w w' := by
  obtain ⟨E1, R1⟩ := dn_vals b
  have hok := writeD_ok (newD_ok 3 (by decide)) 1 (sect b)
  replace E1 := Aside0.mk E1
  replace R1 := Aside0.mk R1
  replace hok := Aside0.mk hok
  have haw := Aside0.mk awake_calls
  go_enter Try.func8, Try.ntmps8
  go_wp2_with (go_at_call 9; refine (haw.out _).mono ?_; rintro e w1 ⟨rfl, hb1⟩; replace hb1 := Aside0.mk hb1)
  refine (read_dead (.pointer none) at_ w1 (dead_nil w1)).mono ?_
  rintro e w2 ⟨rfl, hq_⟩
  obtain rfl := hq_.symm
  go_wp2_with fail
  refine (sector_any b w1).mono ?_
  rintro e w2 ⟨A, c, rfl, hR, hb⟩
  have hb2 := Aside0.mk (hb1.out.trans (hb.mono hb1.out.size))
  clear hR hb hb1
  go_wp2_with fail
  refine (write_dead (.pointer none) at_ A 256 c w2 (dead_nil w2)).mono ?_
  rintro e w3 ⟨rfl, hq_⟩
  obtain rfl := hq_.symm
  go_wp2_with fail
  refine (sync_dead (.pointer none) w2 (dead_nil w2)).mono ?_
  rintro e w3 ⟨rfl, hq_⟩
  obtain rfl := hq_.symm
  go_wp2_with fail
  refine (arm_nil at_ w2).mono ?_
  rintro e w3 ⟨rfl, hq_⟩
  obtain rfl := hq_.symm
  go_wp2_with fail
  refine (Dev.new 3 w w2 hb2.out (by decide) (by decide)).mono ?_
  rintro e w4 ⟨g, rfl, hd4, hB4⟩
  replace hd4 := Aside0.mk hd4
  replace hB4 := Aside0.mk hB4
  go_wp2_with fail
  refine (sector_own b w4).mono ?_
  rintro e w5 ⟨q, c5, rfl, hR5, hb5, hq5, hl5, hc5⟩
  obtain ⟨s0, s1⟩ := own_at hR5 (sect_len b) 0 (by decide)
  rw [sect_getD b 0 (by decide)] at s0
  have hq0 : w.heap.size ≤ q := Nat.le_trans hB4.out.size hq5
  replace hR5 := Aside0.mk hR5
  replace hb5 := Aside0.mk hb5
  go_wp2_with fail
  refine (hd4.out.write2 hB4.out hb5.out (newD_ok 3 (by decide)) (by decide) 1 hq5 hl5 hR5.out).mono ?_
  rintro e w6 ⟨rfl, hd6, hB6, hqq⟩
  have z0 := (World.cell?_of_block (w := w5) (w' := w6) (a := ⟨q, 0, none⟩) hqq).trans s0
  have z1 := (World.frozen?_of_block (w := w5) (w' := w6) (a := ⟨q, 0, none⟩) hqq).trans s1
  replace hd6 := Aside0.mk hd6
  replace hB6 := Aside0.mk hB6
  clear hR5 hb5 s0 s1 hqq hd4 hB4 hb2
  generalize writeE (newD 3) 1 (sect b) = e9 at *
  generalize writeD (newD 3) 1 (sect b) = dd at *
  go_wp2_with fail
  have hd7 := Aside0.mk (hd6.out ⟨q, 0, none⟩ (.int .u8 ((b + 1) % 256)) rfl)
  have hB7 := Aside0.mk (bel_far hB6.out (p := ⟨q, 0, none⟩) hq0 (.int .u8 ((b + 1) % 256)))
  clear hd6 hB6
  generalize w6.setCell ⟨q, 0, none⟩ (.int .u8 ((b + 1) % 256)) = w7 at *
  refine (hd7.out.read hok.out 1).mono ?_
  rintro e w8 ⟨v, rfl, hR8, hb8⟩
  rw [R1.out] at hR8
  rw [E1.out]
  obtain ⟨q2, c8, rfl, hq8, hl8, hc8, hcell8⟩ := own_form hR8 (sect_len b)
  obtain ⟨y0, y1⟩ := hcell8 5 (by decide)
  rw [sect_getD b 5 (by decide)] at y0
  have hC8 := Aside0.mk (Kd.R_reads' hR8).2.2
  replace hb8 := Aside0.mk hb8
  clear hcell8 hR8 z0 z1
  go_wp2_with fail
  refine (sector_own b w8).mono ?_
  rintro e w9 ⟨q9, c9, rfl, hR9, hb9, hq9, hl9, hc9⟩
  have hC9 := Aside0.mk (Kd.R_reads' hR9).2.2
  clear hR9
  have y0 := pw_cell_below hb9 y0
  have y1 := (hb9.frozen (p := ⟨q2, 5, none⟩) hl8).trans y1
  have hb9' := Aside0.mk (hb8.out.trans (hb9.mono hb8.out.size))
  have hC8 := Aside0.mk (Kd.C_below hC8.out hb9)
  clear hb9
  go_wp2_with fail
  refine (same_any _ _ 256 256 c8 c9 (sect b) w9 (sect_len b) (sect_len b) hC8.out hc8 hC9.out hc9 (by rw [sect_len]; decide)).mono ?_
  rintro e w10 ⟨rfl, hdr⟩
  obtain ⟨m10, rfl⟩ := hdr
  have hbd := pw_below_drewN (Below.refl w9.heap.size w9) m10
  have y0 := pw_cell_below hbd y0
  have hl9' : q2 < w9.heap.size := by omega
  have y1 := (hbd.frozen (p := ⟨q2, 5, none⟩) hl9').trans y1
  have hb10 := Aside0.mk (hb9'.out.trans (hbd.mono hb9'.out.size))
  have hq2w : w.heap.size ≤ q2 := Nat.le_trans hB7.out.size hq8
  clear hbd hC8 hC9
  generalize w9.drewN m10 = w10 at *
  go_wp2_with fail
  have hd11 := Aside0.mk (hd7.out.far hb10.out (p := ⟨q2, 5, none⟩) hq8 (.int .u8 ((b + 1) % 256)))
  have hB11 := Aside0.mk (bel_far (hB7.out.trans (hb10.out.mono hB7.out.size)) (p := ⟨q2, 5, none⟩) hq2w (.int .u8 ((b + 1) % 256)))
  clear hd7 hB7 hb10 hb9' hb8 y0 y1
  generalize w10.setCell ⟨q2, 5, none⟩ (.int .u8 ((b + 1) % 256)) = w11 at *
  refine (hd11.out.read hok.out 1).mono ?_
  rintro e w12 ⟨v, rfl, hR12, hb12⟩
  rw [R1.out] at hR12
  rw [E1.out]
  obtain ⟨q3, c12, rfl, _, hl12, hc12, _⟩ := own_form hR12 (sect_len b)
  have hC12 := Aside0.mk (Kd.R_reads' hR12).2.2
  have hB12 := Aside0.mk (hB11.out.trans (hb12.mono hB11.out.size))
  clear hR12 hb12 hd11 hB11
  go_wp2_with fail
  refine (sector_own b w12).mono ?_
  rintro e w13 ⟨q13, c13, rfl, hR13, hb13, _, _, hc13⟩
  have hC13 := Aside0.mk (Kd.R_reads' hR13).2.2
  have hB13 := Aside0.mk (hB12.out.trans (hb13.mono hB12.out.size))
  have hC12 := Aside0.mk (Kd.C_below hC12.out hb13)
  clear hR13 hb13 hB12
  go_wp2_with fail
  refine (same_any _ _ 256 256 c12 c13 (sect b) w13 (sect_len b) (sect_len b) hC12.out hc12 hC13.out hc13 (by rw [sect_len]; decide)).mono ?_
  rintro e w14 ⟨rfl, hdr⟩
  obtain ⟨m14, rfl⟩ := hdr
  have hB14 := Aside0.mk (pw_below_drewN hB13.out m14)
  clear hC12 hC13 hB13
  generalize w13.drewN m14 = w14 at *
  go_wp2_with (first | (go_at_call 19; refine (dead_nil w14).mono ?_; rintro e wz ⟨rfl, hq_⟩; obtain rfl := hq_.symm) | (go_at_call 28; refine (len_nil w14).mono ?_; rintro e wz ⟨rfl, hq_⟩; obtain rfl := hq_.symm) | (go_at_call 21; refine (waits_nil w14).mono ?_; rintro e wz ⟨rfl, hq_⟩; obtain rfl := hq_.symm) | (go_at_call 11; refine (crash_nil none 0 0 0 0 w14).mono ?_; rintro e wz ⟨rfl, hbz⟩; replace hbz := Aside0.mk hbz))
  go_ret
  exact ⟨rfl, hB14.out.trans (hbz.out.mono hB14.out.size)⟩
def bobbinlaw03_DiskNone.f (a0 a1 : Int) : Option Bool := some true
theorem bobbinlaw03_DiskNone.calls (a0 : Int) (a1 : Int) (r : Bool) (w : World) (h : bobbinlaw03_DiskNone.f a0 a1 = some r) :
    Calls Try.prog 8 #[.int .i64 a0, .int .u8 a1] w fun e w' => e = .returned (.bool r) ∧ Below w.heap.size w w' := by
  obtain rfl : true = r := Option.some.inj h
  exact none_walk a0 a1 w
end Go.Proofs.Ytghhmbagjhmgfaa.Print
