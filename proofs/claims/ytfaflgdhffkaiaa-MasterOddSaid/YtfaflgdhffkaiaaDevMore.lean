/- A device of a law's own: what a call leaves of what is younger; Same of equal rows. -/
import Derived.Test.YtfaflgdhffkaiaaDev0
import Derived.Test.YtfaflgdhffkaiaaPrint2
namespace Go.Proofs.Ytfaflgdhffkaiaa.Print
open Go.RowKit Go.Proofs.YtfaflgdhffkaiaaW.PrintWords Go.Proofs.YtfaflgdhffkaiaaW.PrintLast Go.Proofs.YtfaflgdhffkaiaaW.PrintMore
set_option linter.unusedVariables false
set_option linter.unusedSimpArgs false
def setW (D : List (List Int)) (x : Int × List Int) : List (List Int) := D.set x.1.toNat x.2
theorem same_l0 (l : List Int) (hl : l.length ≤ 1000000) : ∀ (j i : Nat), i + j = l.length → bobbinref01_Same.l0 (j + 1) l l i = some true
  | 0, i, h => by rw [bobbinref01_Same.l0_eq, if_neg (by omega)]
  | j + 1, i, h => by
    rw [bobbinref01_Same.l0_eq, if_pos (by omega), if_pos (by omega), if_pos (by omega), if_pos rfl]
    have e1 : wrap64 ((i : Int) + 1) = ((i + 1 : Nat) : Int) := by unfold wrap64; omega
    rw [e1]
    exact same_l0 l hl j (i + 1) (by omega)
/-- Same, of two rows that hold the same sector. -/
theorem same_any (A B : Option Addr) (n m c d : Nat) (l : List Int) (w : World) (hn : l.length = n) (hm : l.length = m) (hC : Kd.C (Kd.int .u8) w A n l) (hc : n ≤ c) (hD : Kd.C (Kd.int .u8) w B m l) (hd : m ≤ d) (hl : l.length ≤ 1000000) :
    Calls Try.prog 21 #[.slice A n c, .slice B m d] w fun e w' => e = .returned (.bool true) ∧ Drawn0 w w' := by
  subst hn hm
  refine bobbinref01_Same.calls (l.length + 1) A c l B d l true w hC hc hD hd ?_
  unfold bobbinref01_Same.f
  rw [if_pos rfl]
  exact same_l0 l hl l.length 0 (by omega)
/-! #### rows beside the device -/
theorem DkAt.bound {w : World} {g : Nat} {Rs Sec : Nat → Prop} {d : DS} {vd vl vw : Value} (h : DkAt w g Rs Sec d vd vl vw) : DkAt w g Rs (fun k => Sec k ∧ k < w.heap.size) d vd vl vw :=
  ⟨h.blk, h.rd.renew (Chg.refl (fun _ => False) w) (fun _ _ x => x) (fun _ _ x => x) (fun k a b => ⟨a, b⟩), h.rl.renew (Chg.refl (fun _ => False) w) (fun _ _ x => x) (fun _ _ x => x) (fun k a b => ⟨a, b⟩), h.rw_.renew (Chg.refl (fun _ => False) w) (fun _ _ x => x) (fun _ _ x => x) (fun k a b => ⟨a, b⟩),
   h.ne, h.rs, h.rg, h.rsd, h.rsl, h.rsw, fun k a => h.apart k a.1⟩
theorem Dev.bound {w0 W : World} {g : Nat} {d : DS} (h : Dev w0 W g d) : ∃ Rs Sec, Dk W g Rs Sec d ∧ (∀ k, Rs k → w0.heap.size ≤ k ∧ k < W.heap.size) ∧ (∀ k, Sec k → w0.heap.size ≤ k ∧ k < W.heap.size) := by
  obtain ⟨Rs, Sec, ⟨vd, vl, vw, hk⟩, h1, h2⟩ := h
  exact ⟨Rs, _, ⟨vd, vl, vw, hk.bound⟩, fun k a => ⟨h1 k a, hk.rs k a⟩, fun k a => ⟨h2 k a.1, a.2⟩⟩
/-- A row that was made behind the device is written: the device is as it was. -/
theorem Dev.far {w0 W W1 : World} {g : Nat} {d : DS} (h : Dev w0 W g d) (hb : Below W.heap.size W W1) {p : Addr} (hp : W.heap.size ≤ p.block) (u : Value) : Dev w0 (W1.setCell p u) g d := by
  obtain ⟨Rs, Sec, hk, h1, h2⟩ := h.bound
  refine ⟨Rs, Sec, (hk.below hb).step ((Chg.refl (fun k => k = p.block) W1).set (.inl rfl) u) (fun k a e => by have := (h1 k a).2; omega) (fun k a e => by have := (h2 k a).2; omega), fun k a => (h1 k a).1, fun k a => (h2 k a).1⟩
theorem bel_far {w0 W : World} (hB : Below w0.heap.size w0 W) {p : Addr} (hp : w0.heap.size ≤ p.block) (u : Value) : Below w0.heap.size w0 (W.setCell p u) := hB.trans (Chg.below ((Chg.refl (fun k => k = p.block) W).set (p := p) (.inl rfl) u) (fun k e => by omega) hB.size)
/-- Write, of a sector of the law's own that is written later. -/
theorem Dev.write2 {w0 W W1 : World} {g : Nat} {d : DS} {m : Nat} (h : Dev w0 W g d) (hB : Below w0.heap.size w0 W) (hb : Below W.heap.size W W1) (hO : d.Ok m) (hm : m ≤ 100000) (i : Int) {q n c : Nat} {s : List Int} (hq : W.heap.size ≤ q) (hq2 : q < W1.heap.size) (hR : Kd.R (Kd.int .u8) 5 W1 W.heap.size (fun _ => True) (.slice (some ⟨q, 0, none⟩) n c) s) :
    Calls Try.prog 11 #[.pointer (some ⟨g, 0, none⟩), .int .i64 i, .slice (some ⟨q, 0, none⟩) n c] W1 fun e w' => e = .returned (.int .i64 (writeE d i s)) ∧ (∀ p u, p.block = q → Dev w0 (w'.setCell p u) g (writeD d i s)) ∧ Below w0.heap.size w0 w' ∧ w'.heap[q]? = W1.heap[q]? := by
  obtain ⟨Rs, Sec, hk, h1, h2⟩ := h.bound
  have hlow := Kd.R_base hR
  have hF := Kd.R_tight rfl hR
  obtain ⟨A', c', e, hc, _⟩ := Kd.R_reads hR
  injection e with e1 e2 e3
  subst e2 e3
  have hF := Kd.R_F hF
  obtain ⟨vd, vl, vw, hkk⟩ := id hk
  have hs := hB.size
  refine (write_any g Rs Sec d i m _ _ s W1 (hk.below hb) hO hm (fun X hX => Kd.F_now (Kd.F_step hF (fun k hk hlt => hX.block k hlt (fun e => by have := hkk.rs k e; have := hlow k hk.symm; omega)))) hc).mono ?_
  rintro e w' ⟨rfl, hp⟩
  obtain ⟨hd, hB1⟩ := Dev.of_post (hB.trans (hb.mono hs)) (fun k a => (h1 k a).1) (fun k a => (h2 k a).1) hp
  obtain ⟨Rs', Sec', k1, k2, k3, k4⟩ := hp
  have h0 := hb.size
  refine ⟨rfl, fun p u hp => ⟨Rs', Sec', k1.step ((Chg.refl (fun k => k = p.block) w').set (.inl rfl) u) ?_ ?_, ?_, ?_⟩, hB1, k4.block q hq2 (fun a => by have := (h1 q a).2; omega)⟩
  · intro k a e
    rcases k2 k a with x | x
    · have := (h1 k x).2; omega
    · omega
  · intro k a e
    rcases k3 k a with x | x | x
    · have := (h1 k x).2; omega
    · have := (h2 k x).2; omega
    · omega
  · exact fun k a => (k2 k a).elim (fun x => (h1 k x).1) (fun x => by omega)
  · exact fun k a => (k3 k a).elim (fun x => (h1 k x).1) (fun x => x.elim (fun y => (h2 k y).1) (fun y => by omega))
theorem own_form {W : World} {base : Nat} {ok : Nat → Prop} {v : Value} {l : List Int} (h : Kd.R (Kd.int .u8) 5 W base ok v l) (hl : l.length = 256) :
    ∃ q c, v = .slice (some ⟨q, 0, none⟩) 256 c ∧ base ≤ q ∧ q < W.heap.size ∧ 256 ≤ c ∧ ∀ j, j < 256 → W.cell? ⟨q, j, none⟩ = some (.int .u8 (l.getD j 0)) ∧ W.frozen? ⟨q, j, none⟩ = false := by
  obtain ⟨q, c, rfl, hq, hq2, _⟩ := Kd.R_form h (by omega)
  have hc := (Kd.R_reads' h).2.1
  refine ⟨q, c, by rw [hl], hq, hq2, by omega, fun j hj => ?_⟩
  have := Kd.R_cell (0 : Int) h (j : Int) (by omega) (by omega)
  rw [show ((j : Int)).toNat = j by omega] at this
  refine ⟨?_, this.2⟩
  rw [this.1]
  simp [rdOf]
theorem own_at {W : World} {base : Nat} {ok : Nat → Prop} {q c : Nat} {l : List Int} (h : Kd.R (Kd.int .u8) 5 W base ok (.slice (some ⟨q, 0, none⟩) 256 c) l) (hl : l.length = 256) (j : Nat) (hj : j < 256) : W.cell? ⟨q, j, none⟩ = some (.int .u8 (l.getD j 0)) ∧ W.frozen? ⟨q, j, none⟩ = false := by
  have h' : Kd.R (Kd.int .u8) 5 W base ok (.slice (some ⟨q, 0, none⟩) l.length c) l := by rw [hl]; exact h
  have := Kd.R_cell (0 : Int) h' (j : Int) (by omega) (by omega)
  rw [show ((j : Int)).toNat = j by omega] at this
  refine ⟨?_, this.2⟩
  rw [this.1]
  simp [rdOf]
/-! #### a call behind which what is younger than the device stands as it did -/
theorem Dev.write3 {w0 W W1 : World} {g : Nat} {d : DS} {m : Nat} (h : Dev w0 W g d) (hB : Below w0.heap.size w0 W) (hb : Below W.heap.size W W1) (hO : d.Ok m) (hm : m ≤ 100000) (i : Int) {base : Nat} (hbase : W.heap.size ≤ base) {A : Option Addr} {n c : Nat} {s : List Int} (hR : Kd.R (Kd.int .u8) 5 W1 base (fun _ => True) (.slice A n c) s) :
    Calls Try.prog 11 #[.pointer (some ⟨g, 0, none⟩), .int .i64 i, .slice A n c] W1 fun e w' => e = .returned (.int .i64 (writeE d i s)) ∧ Dev w0 w' g (writeD d i s) ∧ Below w0.heap.size w0 w' ∧ ∀ k, W.heap.size ≤ k → k < W1.heap.size → w'.heap[k]? = W1.heap[k]? := by
  obtain ⟨Rs, Sec, hk, h1, h2⟩ := h.bound
  have hlow := Kd.R_base hR
  have hF := Kd.R_tight rfl hR
  obtain ⟨A', c', e, hc, _⟩ := Kd.R_reads hR
  injection e with e1 e2 e3
  subst e1 e2 e3
  have hF := Kd.R_F hF
  have hs := hB.size
  refine (write_any g Rs Sec d i m _ _ s W1 (hk.below hb) hO hm (fun X hX => Kd.F_now (Kd.F_step hF (fun k hk hlt => hX.block k hlt (fun e => by have := (h1 k e).2; have := hlow k hk.symm; omega)))) hc).mono ?_
  rintro e w' ⟨rfl, hp⟩
  obtain ⟨hd, hB1⟩ := Dev.of_post (hB.trans (hb.mono hs)) (fun k a => (h1 k a).1) (fun k a => (h2 k a).1) hp
  obtain ⟨Rs', Sec', k1, k2, k3, k4⟩ := hp
  exact ⟨rfl, hd, hB1, fun k a b => k4.block k b (fun e => by have := (h1 k e).2; omega)⟩
theorem Dev.sync3 {w0 W W1 : World} {g : Nat} {d : DS} {m : Nat} (h : Dev w0 W g d) (hB : Below w0.heap.size w0 W) (hb : Below W.heap.size W W1) (hO : d.Ok m) :
    Calls Try.prog 34 #[.pointer (some ⟨g, 0, none⟩)] W1 fun e w' => e = .returned (.int .i64 (syncE d)) ∧ Dev w0 w' g (syncD d) ∧ Below w0.heap.size w0 w' ∧ ∀ k, W.heap.size ≤ k → k < W1.heap.size → w'.heap[k]? = W1.heap[k]? := by
  obtain ⟨Rs, Sec, hk, h1, h2⟩ := h.bound
  refine (sync_any g Rs Sec d m W1 (hk.below hb) hO).mono ?_
  rintro e w' ⟨rfl, hp⟩
  obtain ⟨hd, hB1⟩ := Dev.of_post (hB.trans (hb.mono hB.size)) (fun k a => (h1 k a).1) (fun k a => (h2 k a).1) hp
  obtain ⟨Rs', Sec', k1, k2, k3, k4⟩ := hp
  exact ⟨rfl, hd, hB1, fun k a b => k4.block k b (fun e => by have := (h1 k e).2; omega)⟩
theorem Dev.arm3 {w0 W W1 : World} {g : Nat} {d : DS} (h : Dev w0 W g d) (hB : Below w0.heap.size w0 W) (hb : Below W.heap.size W W1) (n : Int) :
    Calls Try.prog 17 #[.pointer (some ⟨g, 0, none⟩), .int .i64 n] W1 fun e w' => e = .returned (.tuple #[]) ∧ Dev w0 w' g (armF d n) ∧ Below w0.heap.size w0 w' ∧ ∀ k, W.heap.size ≤ k → k < W1.heap.size → w'.heap[k]? = W1.heap[k]? := by
  obtain ⟨Rs, Sec, hk, h1, h2⟩ := h.bound
  refine (arm_any g Rs Sec d n W1 (hk.below hb)).mono ?_
  rintro e w' ⟨rfl, hp⟩
  obtain ⟨hd, hB1⟩ := Dev.of_post (hB.trans (hb.mono hB.size)) (fun k a => (h1 k a).1) (fun k a => (h2 k a).1) hp
  obtain ⟨Rs', Sec', k1, k2, k3, k4⟩ := hp
  exact ⟨rfl, hd, hB1, fun k a b => k4.block k b (fun e => by have := (h1 k e).2; omega)⟩
theorem Dev.waits {w0 W : World} {g : Nat} {d : DS} (h : Dev w0 W g d) : Calls Try.prog 20 #[.pointer (some ⟨g, 0, none⟩)] W fun e w' => e = .returned (.int .i64 d.W.length) ∧ w' = W := by
  obtain ⟨Rs, Sec, hk, k1, k2⟩ := h
  exact waits_any g Rs Sec d W hk
theorem getD_set_ne {α : Type} (l : List α) (i j : Nat) (x z : α) (h : i ≠ j) : (l.set i x).getD j z = l.getD j z := by
  rw [List.getD_eq_getElem?_getD, List.getD_eq_getElem?_getD, List.getElem?_set_ne h]
theorem readE_live' {d : DS} {i : Int} (h : d.dead = false) (h0 : 0 ≤ i) (h1 : i < d.D.length) : readE d i = 0 := by unfold readE; rw [if_neg (by simp [h]), if_pos ⟨h0, h1⟩]
theorem Dev.lenC {w0 W : World} {g : Nat} {d : DS} (h : Dev w0 W g d) : Calls Try.prog 26 #[.pointer (some ⟨g, 0, none⟩)] W fun e w' => e = .returned (.int .i64 d.D.length) ∧ w' = W := by
  obtain ⟨Rs, Sec, hk, k1, k2⟩ := h
  exact len_any g Rs Sec d W hk
theorem readB_live {d : DS} {i : Nat} (h : d.dead = false) (h1 : i < d.D.length) : readB d i = d.L.getD i [] := by
  unfold readB
  rw [if_pos ⟨h, by omega, by omega⟩]
  simp
theorem last_256 {d : DS} {m i : Nat} (hO : d.Ok m) (h1 : i < d.D.length) : (d.L.getD i []).length = 256 := by
  have hl : i < d.L.length := by rw [hO.len]; exact h1
  rw [List.getD_eq_getElem?_getD, List.getElem?_eq_getElem hl]
  exact hO.last _ (List.getElem_mem hl)
theorem Dev.base {w0 w1 W : World} {g : Nat} {d : DS} (h : Dev w1 W g d) (hs : w0.heap.size ≤ w1.heap.size) : Dev w0 W g d := by
  obtain ⟨Rs, Sec, hk, h1, h2⟩ := h
  exact ⟨Rs, Sec, hk, fun k a => Nat.le_trans hs (h1 k a), fun k a => Nat.le_trans hs (h2 k a)⟩
end Go.Proofs.Ytfaflgdhffkaiaa.Print
