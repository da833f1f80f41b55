/- DiskDoes: the program's device beside the document's, which lies in a block of the law's own. -/
import Derived.Test.YtghhmbagjhmgfaaSameD
import Derived.Test.YtghhmbagjhmgfaaOps
import Derived.Test.YtghhmbagjhmgfaaPlain
import Derived.Test.YtghhmbagjhmgfaaPrint2
import Derived.Test.YtghhmbagjhmgfaaPrint3
import Derived.Test.YtghhmbagjhmgfaaPrint4
namespace Go.Proofs.Ytghhmbagjhmgfaa.Print
open Go.RowKit Go.Proofs.YtghhmbagjhmgfaaW.PrintWords Go.Proofs.YtghhmbagjhmgfaaW.PrintLast Go.Proofs.YtghhmbagjhmgfaaW.PrintMore
set_option linter.unusedVariables false
set_option linter.unusedSimpArgs false
theorem sector_own (b : Int) (w : World) :
    Calls Try.prog 14 #[.int .u8 b] w fun e w' => ∃ q c, e = .returned (.slice (some ⟨q, 0, none⟩) 256 c) ∧ Kd.R (Kd.int .u8) 5 w' w.heap.size (fun _ => True) (.slice (some ⟨q, 0, none⟩) 256 c) (sect b) ∧ Below w.heap.size w w' ∧ w.heap.size ≤ q ∧ q < w'.heap.size ∧ 256 ≤ c := by
  refine (sector_any b w).mono ?_
  rintro e w' ⟨A, c, rfl, hR, hb⟩
  obtain ⟨q, c', e, h1, h2, h3, _⟩ := own_form hR (sect_len b)
  injection e with e1 e2 e3
  subst e1 e3
  exact ⟨q, c, rfl, hR, hb, h1, h2, h3⟩
theorem ops_few {w : World} {A : Option Addr} {n : Nat} {xs : List S35} (h : Kd.C k35 w A n xs) (i : Nat) (hi : i < n) : (rd_T35 xs i).f5.f0.length ≤ 9223372036854775807 := by
  obtain ⟨ad, c, e, _, hK, hc0⟩ := Kd.C_get h z35 (i : Int) (by omega) (by omega)
  rw [show ((i : Int)).toNat = i by omega] at hK
  obtain ⟨A1, c1, rfl, l1, g1⟩ := kO_open hK
  exact g1.2.1
abbrev kSS : Kd (List Int) := Kd.slice 5 (Kd.int .u8)
/-- The document's device as a value. -/
abbrev agR (r : PD) (A0 A1 : Option Addr) (c0 c1 : Nat) : Array Value := #[.slice A0 r.D.length c0, .slice A1 r.W.length c1, .bool r.armed, .bool r.dead, .int .i64 r.left]
structure PrAt (w0 W : World) (g rb : Nat) (d : DS) (r : PD) (Rs Sec P : Nat → Prop) (A0 A1 : Option Addr) (c0 c1 : Nat) : Prop where
  dk : Dk W g Rs Sec d
  rs : ∀ k, Rs k → w0.heap.size ≤ k ∧ k < W.heap.size ∧ k ≠ rb
  sec : ∀ k, Sec k → w0.heap.size ≤ k ∧ k < W.heap.size ∧ k ≠ rb
  p : ∀ k, P k → k < W.heap.size ∧ ¬ Rs k ∧ k ≠ rb
  fD : Kd.V kSS 30 W W.heap.size P (.slice A0 r.D.length c0) r.D
  fW : Kd.V k75 75 W W.heap.size P (.slice A1 r.W.length c1) r.W
  blk : W.heap[rb]? = some (.cells (agR r A0 A1 c0 c1) 51 (0, 0))
  rb0 : w0.heap.size ≤ rb
section
variable {w0 W W1 w' : World} {g rb m : Nat} {d d' : DS} {r r' : PD} {Rs Sec P : Nat → Prop} {A0 A1 A0' A1' : Option Addr} {c0 c1 c0' c1' : Nat}
theorem PrAt.lt (h : PrAt w0 W g rb d r Rs Sec P A0 A1 c0 c1) : rb < W.heap.size := (Array.getElem?_eq_some_iff.1 h.blk).1
theorem PrAt.dev (h : PrAt w0 W g rb d r Rs Sec P A0 A1 c0 c1) : Dev w0 W g d := ⟨Rs, Sec, h.dk, fun k a => (h.rs k a).1, fun k a => (h.sec k a).1⟩
theorem PrAt.below (h : PrAt w0 W g rb d r Rs Sec P A0 A1 c0 c1) (hb : Below W.heap.size W W1) : PrAt w0 W1 g rb d r Rs Sec P A0 A1 c0 c1 := by
  have hs := hb.size
  have hl := h.lt
  exact ⟨h.dk.below hb, fun k a => by have := h.rs k a; exact ⟨this.1, by omega, this.2.2⟩, fun k a => by have := h.sec k a; exact ⟨this.1, by omega, this.2.2⟩, fun k a => by have := h.p k a; exact ⟨by omega, this.2⟩, Kd.V_below h.fD hb, Kd.V_below h.fW hb, (hb.block rb hl).trans h.blk, h.rb0⟩
/-- A call of the device. -/
theorem PrAt.post (h : PrAt w0 W g rb d r Rs Sec P A0 A1 c0 c1) (hB : Below w0.heap.size w0 W) (hb : Below W.heap.size W W1) (hp : DkPost g Rs Sec d' W1 w') :
    (∃ Rs' Sec', PrAt w0 w' g rb d' r Rs' Sec' P A0 A1 c0 c1) ∧ Below w0.heap.size w0 w' ∧ ∀ k, W.heap.size ≤ k → k < W1.heap.size → w'.heap[k]? = W1.heap[k]? := by
  obtain ⟨Rs', Sec', ⟨vd, vl, vw, k1⟩, k2, k3, k4⟩ := hp
  have hs := hB.size
  have hs1 := hb.size
  have hs2 := k4.size
  have h1 := h.below hb
  have hl := h.lt
  refine ⟨⟨Rs', fun k => Sec' k ∧ k < w'.heap.size, ⟨vd, vl, vw, k1.bound⟩, ?_, ?_, ?_, ?_, ?_, ?_, h.rb0⟩, (hB.trans (hb.mono hs)).trans (Chg.below k4 (fun k a => (h.rs k a).1) (by omega)), fun k a b => k4.block k b (fun e => by have := (h.rs k e).2.1; omega)⟩
  · intro k a
    have := k1.rs k a
    rcases k2 k a with x | x
    · exact ⟨(h.rs k x).1, this, (h.rs k x).2.2⟩
    · exact ⟨by omega, this, by omega⟩
  · intro k a
    rcases k3 k a.1 with x | x | x
    · exact ⟨(h.rs k x).1, a.2, (h.rs k x).2.2⟩
    · exact ⟨(h.sec k x).1, a.2, (h.sec k x).2.2⟩
    · exact ⟨by omega, a.2, by omega⟩
  · intro k a
    obtain ⟨p1, p2, p3⟩ := h.p k a
    exact ⟨by omega, fun e => (k2 k e).elim p2 (fun x => by omega), p3⟩
  · exact Kd.V_step h1.fD (fun k a b => k4.block k b (h1.p k a).2.1)
  · exact Kd.V_step h1.fW (fun k a b => k4.block k b (h1.p k a).2.1)
  · exact (k4.block rb h1.lt (fun e => (h.rs rb e).2.2 rfl)).trans h1.blk
theorem PrAt.write (h : PrAt w0 W g rb d r Rs Sec P A0 A1 c0 c1) (hB : Below w0.heap.size w0 W) (hb : Below W.heap.size W W1) (hO : d.Ok m) (hm : m ≤ 100000) (i : Int) {A : Option Addr} {c n : Nat} {s : List Int} (hn : n = s.length) (hF : Kd.F (Kd.int .u8) W1 (fun k => W.heap.size ≤ k) A s.length s) (hc : s.length ≤ c) :
    Calls Try.prog 18 #[.pointer (some ⟨g, 0, none⟩), .int .i64 i, .slice A n c] W1 fun e w' => e = .returned (.int .i64 (writeE d i s)) ∧ (∃ Rs' Sec', PrAt w0 w' g rb (writeD d i s) r Rs' Sec' P A0 A1 c0 c1) ∧ Below w0.heap.size w0 w' ∧ ∀ k, W.heap.size ≤ k → k < W1.heap.size → w'.heap[k]? = W1.heap[k]? := by
  subst hn
  refine (write_any g Rs Sec d i m A c s W1 (h.dk.below hb) hO hm (fun X hX => Kd.F_now (Kd.F_step hF (fun k hk hlt => hX.block k hlt (fun e => by have := (h.rs k e).2.1; omega)))) hc).mono ?_
  rintro e w' ⟨rfl, hp⟩
  exact ⟨rfl, h.post hB hb hp⟩
theorem PrAt.sync (h : PrAt w0 W g rb d r Rs Sec P A0 A1 c0 c1) (hB : Below w0.heap.size w0 W) (hb : Below W.heap.size W W1) (hO : d.Ok m) :
    Calls Try.prog 17 #[.pointer (some ⟨g, 0, none⟩)] W1 fun e w' => e = .returned (.int .i64 (syncE d)) ∧ (∃ Rs' Sec', PrAt w0 w' g rb (syncD d) r Rs' Sec' P A0 A1 c0 c1) ∧ Below w0.heap.size w0 w' ∧ ∀ k, W.heap.size ≤ k → k < W1.heap.size → w'.heap[k]? = W1.heap[k]? := by
  refine (sync_any g Rs Sec d m W1 (h.dk.below hb) hO).mono ?_
  rintro e w' ⟨rfl, hp⟩
  exact ⟨rfl, h.post hB hb hp⟩
theorem PrAt.arm (h : PrAt w0 W g rb d r Rs Sec P A0 A1 c0 c1) (hB : Below w0.heap.size w0 W) (hb : Below W.heap.size W W1) (n : Int) :
    Calls Try.prog 16 #[.pointer (some ⟨g, 0, none⟩), .int .i64 n] W1 fun e w' => e = .returned (.tuple #[]) ∧ (∃ Rs' Sec', PrAt w0 w' g rb (armF d n) r Rs' Sec' P A0 A1 c0 c1) ∧ Below w0.heap.size w0 w' ∧ ∀ k, W.heap.size ≤ k → k < W1.heap.size → w'.heap[k]? = W1.heap[k]? := by
  refine (arm_any g Rs Sec d n W1 (h.dk.below hb)).mono ?_
  rintro e w' ⟨rfl, hp⟩
  exact ⟨rfl, h.post hB hb hp⟩
theorem PrAt.crash (h : PrAt w0 W g rb d r Rs Sec P A0 A1 c0 c1) (hB : Below w0.heap.size w0 W) (hO : d.Ok m) (hm : m ≤ 100000) (h1 : 0 < d.D.length) (Ak : Option Addr) (nk ck : Nat) (kb : Nat → Bool) (torn kk : Int) (hnk : nk ≤ 9223372036854775807)
    (hK : ∀ j, j < nk → ∃ ak, Ak = some ak ∧ W.cell? (ak.add j) = some (.bool (kb j))) :
    Calls Try.prog 11 #[.pointer (some ⟨g, 0, none⟩), .agg #[.slice Ak nk ck, .int .i64 torn, .int .i64 kk]] W fun e w' => ∃ g2, e = .returned (.pointer (some ⟨g2, 0, none⟩)) ∧ (∃ Rs' Sec', PrAt w0 w' g2 rb (crashD d (kf kb nk torn kk)) r Rs' Sec' P A0 A1 c0 c1) ∧ Below W.heap.size W w' := by
  have hs := hB.size
  have hl := h.lt
  refine (crash_any g Rs Sec d m Ak nk ck kb torn kk W h.dk hO hm h1 hnk hK).mono ?_
  rintro e w' ⟨g2, Rs2, Sec2, rfl, _, ⟨vd, vl, vw, hk2⟩, hr, hsc, hb⟩
  have h2 := h.below hb
  refine ⟨g2, rfl, ⟨Rs2, fun k => Sec2 k ∧ k < w'.heap.size, ⟨vd, vl, vw, hk2.bound⟩, fun k a => ⟨by have := hr k a; omega, hk2.rs k a, by have := hr k a; omega⟩, fun k a => ?_, fun k a => ⟨(h2.p k a).1, fun e => by have := hr k e; have := (h.p k a).1; omega, (h.p k a).2.2⟩, h2.fD, h2.fW, h2.blk, h.rb0⟩, hb⟩
  rcases hsc k a.1 with x | x
  · exact ⟨(h.sec k x).1, a.2, (h.sec k x).2.2⟩
  · exact ⟨by omega, a.2, by omega⟩
/-- The document's device is another one: it is stored. -/
theorem PrAt.store (h : PrAt w0 W g rb d r Rs Sec P A0 A1 c0 c1) (hb : Below W.heap.size W W1)
    (h0 : Kd.V kSS 30 W1 W.heap.size (fun k => P k ∨ W.heap.size ≤ k) (.slice A0' r'.D.length c0') r'.D)
    (h1 : Kd.V k75 75 W1 W.heap.size (fun k => P k ∨ W.heap.size ≤ k) (.slice A1' r'.W.length c1') r'.W)
    (hc : Chg (fun k => k = rb) W1 w') (hk : w'.heap[rb]? = some (.cells (agR r' A0' A1' c0' c1') 51 (0, 0))) :
    PrAt w0 w' g rb d r' Rs Sec (fun k => (P k ∨ W.heap.size ≤ k) ∧ k < W1.heap.size) A0' A1' c0' c1' := by
  have hl := h.lt
  have hs := hb.size
  have hs2 := hc.size
  have h2 := h.below hb
  have hne : ∀ k, (P k ∨ W.heap.size ≤ k) → k ≠ rb := fun k a => a.elim (fun x => (h.p k x).2.2) (fun x => by omega)
  refine ⟨h2.dk.step hc (fun k a => (h.rs k a).2.2) (fun k a => (h.sec k a).2.2), fun k a => ⟨(h.rs k a).1, by have := (h.rs k a).2.1; omega, (h.rs k a).2.2⟩, fun k a => ⟨(h.sec k a).1, by have := (h.sec k a).2.1; omega, (h.sec k a).2.2⟩, fun k a => ⟨by have := a.2; omega, fun e => ?_, hne k a.1⟩, Kd.V_step (Kd.V_bound h0) (fun k a b => hc.block k b (hne k a.1)), Kd.V_step (Kd.V_bound h1) (fun k a b => hc.block k b (hne k a.1)), hk, h.rb0⟩
  rcases a.1 with x | x
  · exact (h.p k x).2.1 e
  · have := (h.rs k e).2.1; omega
end
/-- What a call of the document's answers, and what it leaves behind the store. -/
def RAns (w0 W W1 : World) (g rb : Nat) (d : DS) (r' : PD) (Rs Sec P : Nat → Prop) (A0' A1' : Option Addr) (c0' c1' : Nat) : Prop :=
  Below W.heap.size W W1 ∧ ∀ w', Chg (fun k => k = rb) W1 w' → w'.heap[rb]? = some (.cells (agR r' A0' A1' c0' c1') 51 (0, 0)) → PrAt w0 w' g rb d r' Rs Sec (fun k => (P k ∨ W.heap.size ≤ k) ∧ k < W1.heap.size) A0' A1' c0' c1'
section
variable {w0 W W1 w' : World} {g rb m : Nat} {d d' : DS} {r r' : PD} {Rs Sec P : Nat → Prop} {A0 A1 A0' A1' : Option Addr} {c0 c1 c0' c1' : Nat}
theorem or_or {P Q : Nat → Prop} (k : Nat) (h : (P k ∨ P k) ∨ Q k) : P k ∨ Q k := h.elim (fun x => .inl (x.elim id id)) .inr
theorem PrAt.rwrite (h : PrAt w0 W g rb d r Rs Sec P A0 A1 c0 c1) (hW : r.W.length ≤ 100000) (hD : r.D.length ≤ 4096) (i : Int) {A : Option Addr} {n c : Nat} {s : List Int} (hn : n = s.length) (hs : s.length ≤ 256) (hC : Kd.C (Kd.int .u8) W A s.length s) (hc : s.length ≤ c) :
    Calls Try.prog 23 #[.agg (agR r A0 A1 c0 c1), .int .i64 i, .slice A n c] W fun e w' => ∃ A0' A1' c0' c1', e = .returned (.tuple #[.agg #[.slice A0' (r.write i s).D.length c0', .slice A1' (r.write i s).W.length c1', .bool (r.write i s).armed, .bool (r.write i s).dead, .int .i64 (r.write i s).left], .int .i64 (r.writeE i s)]) ∧ RAns w0 W w' g rb d (r.write i s) Rs Sec P A0' A1' c0' c1' := by
  subst hn
  refine (bobbinref03_Write.calls 1 P A0 c0 r.D P A1 c1 r.W r.armed r.dead r.left i A c s _ _ _ _ _ _ W h.fD h.fW hC hc (write_pd r i s hW hs hD 0)).mono ?_
  rintro e w' ⟨v0, v1, rfl, k0, k1, hb⟩
  obtain ⟨A0', c0', rfl⟩ := Kd.V_slice k0
  obtain ⟨A1', c1', rfl⟩ := Kd.V_slice k1
  exact ⟨A0', A1', c0', c1', rfl, hb, fun w'' hch hk => h.store hb (Kd.V_mono k0 or_or) (Kd.V_mono k1 or_or) hch hk⟩
theorem PrAt.rsync (h : PrAt w0 W g rb d r Rs Sec P A0 A1 c0 c1) (hW : r.W.length ≤ 100000) (hD : r.D.length ≤ 4096) (hx : ∀ x ∈ r.W, 0 ≤ x.f0 ∧ x.f0 < r.D.length) :
    Calls Try.prog 24 #[.agg (agR r A0 A1 c0 c1)] W fun e w' => ∃ A0' A1' c0' c1', e = .returned (.tuple #[.agg #[.slice A0' r.sync.D.length c0', .slice A1' r.sync.W.length c1', .bool r.sync.armed, .bool r.sync.dead, .int .i64 r.sync.left], .int .i64 r.syncE]) ∧ RAns w0 W w' g rb d r.sync Rs Sec P A0' A1' c0' c1' := by
  refine (bobbinref03_Sync.calls _ P A0 c0 r.D P A1 c1 r.W r.armed r.dead r.left _ _ _ _ _ _ W h.fD h.fW (sync_pd r hW hD hx)).mono ?_
  rintro e w' ⟨v0, v1, rfl, k0, k1, hb⟩
  obtain ⟨A0', c0', rfl⟩ := Kd.V_slice k0
  obtain ⟨A1', c1', rfl⟩ := Kd.V_slice k1
  exact ⟨A0', A1', c0', c1', rfl, hb, fun w'' hch hk => h.store hb (Kd.V_mono k0 or_or) (Kd.V_mono k1 or_or) hch hk⟩
theorem PrAt.rarm (h : PrAt w0 W g rb d r Rs Sec P A0 A1 c0 c1) (n : Int) :
    Calls Try.prog 25 #[.agg (agR r A0 A1 c0 c1), .int .i64 n] W fun e w' => ∃ A0' A1' c0' c1', e = .returned (.agg #[.slice A0' (r.arm n).D.length c0', .slice A1' (r.arm n).W.length c1', .bool (r.arm n).armed, .bool (r.arm n).dead, .int .i64 (r.arm n).left]) ∧ RAns w0 W w' g rb d (r.arm n) Rs Sec P A0' A1' c0' c1' := by
  refine (bobbinref03_Arm.calls P A0 c0 r.D P A1 c1 r.W r.armed r.dead r.left n _ _ _ _ _ W h.fD h.fW (arm_pd r n)).mono ?_
  rintro e w' ⟨v0, v1, rfl, k0, k1, hb⟩
  obtain ⟨A0', c0', rfl⟩ := Kd.V_slice k0
  obtain ⟨A1', c1', rfl⟩ := Kd.V_slice k1
  exact ⟨A0', A1', c0', c1', rfl, hb, fun w'' hch hk => h.store hb (Kd.V_mono k0 or_or) (Kd.V_mono k1 or_or) hch hk⟩
/-- The document's device behind a crash. -/
def PD.crash (d : DS) (f : Nat → Int) : PD := ⟨(crashD d f).D, [], false, false, 0⟩
theorem PrAt.rcrash {d0 : DS} (h : PrAt w0 W g rb d r Rs Sec P A0 A1 c0 c1) (hO : d0.Ok m) (hA : Alk d0 r) (hW : r.W.length ≤ 100000) {Ak : Option Addr} {nk ck : Nat} {lk : List Bool} (hn : nk = lk.length) (torn kk : Int) (hK : Kd.C Kd.bool W Ak lk.length lk) (hc : lk.length ≤ ck) :
    Calls Try.prog 26 #[.agg (agR r A0 A1 c0 c1), .agg #[.slice Ak nk ck, .int .i64 torn, .int .i64 kk]] W fun e w' => ∃ A0' A1' c0' c1', e = .returned (.agg #[.slice A0' (PD.crash d0 (kf (fun j => lk.getD j false) lk.length torn kk)).D.length c0', .slice A1' (PD.crash d0 (kf (fun j => lk.getD j false) lk.length torn kk)).W.length c1', .bool (PD.crash d0 (kf (fun j => lk.getD j false) lk.length torn kk)).armed, .bool (PD.crash d0 (kf (fun j => lk.getD j false) lk.length torn kk)).dead, .int .i64 (PD.crash d0 (kf (fun j => lk.getD j false) lk.length torn kk)).left]) ∧ RAns w0 W w' g rb d (PD.crash d0 (kf (fun j => lk.getD j false) lk.length torn kk)) Rs Sec P A0' A1' c0' c1' := by
  subst hn
  obtain ⟨K, hK0⟩ := crash_pd hO r hA hW lk torn kk
  refine (bobbinref03_Crash.calls K P A0 c0 r.D A1 c1 r.W r.armed r.dead r.left Ak ck lk torn kk _ _ _ _ _ W h.fD (Kd.V_reads' h.fW).2.2 (Kd.V_reads' h.fW).2.1 hK hc (hK0 K (Nat.le_refl _))).mono ?_
  rintro e w' ⟨v0, v1, rfl, k0, k1, hb⟩
  obtain ⟨A0', c0', rfl⟩ := Kd.N_slice k0
  obtain ⟨A1', c1', rfl⟩ := Kd.N_slice k1
  exact ⟨A0', A1', c0', c1', rfl, hb, fun w'' hch hk => h.store hb (Kd.V_mono (Kd.N_V k0) (fun k a => a.1)) (Kd.V_mono (Kd.N_V k1) (fun k a => a.1)) hch hk⟩
theorem PrAt.same (h : PrAt w0 W g rb d r Rs Sec P A0 A1 c0 c1) (hO : d.Ok m) (hm : m ≤ 100000) (hK : Alk d r) :
    Calls Try.prog 27 #[.pointer (some ⟨g, 0, none⟩), .agg (agR r A0 A1 c0 c1)] W fun e w' => e = .returned (.bool true) ∧ Below W.heap.size W w' := same_dev h.dev hO hm hK h.fD h.fW
/-- A block of five cells, written anew. -/
theorem five_store {W : World} {rb : Nat} {a b c d e : Value} {t : TypeId} (h : W.heap[rb]? = some (.cells #[a, b, c, d, e] t (0, 0))) (a' b' c' d' e' : Value) :
    Chg (fun k => k = rb) W (((((W.setCell ⟨rb, 0, none⟩ a').setCell ⟨rb, 1, none⟩ b').setCell ⟨rb, 2, none⟩ c').setCell ⟨rb, 3, none⟩ d').setCell ⟨rb, 4, none⟩ e') ∧ (((((W.setCell ⟨rb, 0, none⟩ a').setCell ⟨rb, 1, none⟩ b').setCell ⟨rb, 2, none⟩ c').setCell ⟨rb, 3, none⟩ d').setCell ⟨rb, 4, none⟩ e').heap[rb]? = some (.cells #[a', b', c', d', e'] t (0, 0)) := by
  refine ⟨(((((Chg.refl (fun k => k = rb) W).set (p := ⟨rb, 0, none⟩) (.inl rfl) a').set (p := ⟨rb, 1, none⟩) (.inl rfl) b').set (p := ⟨rb, 2, none⟩) (.inl rfl) c').set (p := ⟨rb, 3, none⟩) (.inl rfl) d').set (p := ⟨rb, 4, none⟩) (.inl rfl) e', ?_⟩
  have h1 := blk_set h 0 a'
  have h2 := blk_set h1 1 b'
  have h3 := blk_set h2 2 c'
  have h4 := blk_set h3 3 d'
  have h5 := blk_set h4 4 e'
  simpa using h5
end
end Go.Proofs.Ytghhmbagjhmgfaa.Print
namespace Go.Proofs.Ytghhmbagjhmgfaa.Print
open Go.RowKit Go.Proofs.YtghhmbagjhmgfaaW.PrintWords Go.Proofs.YtghhmbagjhmgfaaW.PrintLast Go.Proofs.YtghhmbagjhmgfaaW.PrintMore
set_option linter.unusedVariables false
set_option linter.unusedSimpArgs false
theorem ops_at2 {w : World} {A : Option Addr} {n : Nat} {xs : List S35} (h : Kd.C k35 w A n xs) (i : Nat) (hi : i < n) : ∃ ad A1 c1, A = some ad ∧ OpAt ad i (rd_T35 xs i) A1 c1 w ∧ (rd_T35 xs i).f5.f0.length ≤ c1 ∧ Kd.bool.C w A1 (rd_T35 xs i).f5.f0.length (rd_T35 xs i).f5.f0 := by
  obtain ⟨ad, A1, c1, h1, h2⟩ := ops_at h i hi
  obtain ⟨ad', c, e, _, hK, hc0⟩ := Kd.C_get h z35 (i : Int) (by omega) (by omega)
  have hc : ∀ j u, c[j]? = some u → w.cell? (ad'.add (((i : Int)).toNat * 8 + j)) = some u := hc0
  rw [show ((i : Int)).toNat = i by omega] at hc hK
  obtain ⟨A1', c1', rfl, l1, g1⟩ := kO_open hK
  have q := hc 5 _ rfl
  rw [h1] at e
  injection e with e
  subst e
  have q2 : w.cell? ⟨(ad.add (i * 8)).block, (ad.add (i * 8)).off + 5, none⟩ = some (.slice A1' (rd_T35 xs i).f5.f0.length c1') := by rw [← add_field _ _ 5 (by omega)]; exact q
  rw [h2.c5] at q2
  injection q2 with q2
  injection q2 with e1 _ e3
  subst e1 e3
  exact ⟨ad, A1, c1, h1, h2, l1, g1⟩
/-- The sector that the law hands in, whole. -/
theorem sect_F {W : World} {base B : Nat} {A : Option Addr} {c n : Nat} {s : List Int} (h : Kd.R (Kd.int .u8) 5 W base (fun _ => True) (.slice A n c) s) (hb : B ≤ base) : n = s.length ∧ s.length ≤ c ∧ Kd.F (Kd.int .u8) W (fun k => B ≤ k) A s.length s := by
  obtain ⟨h1, h2, _⟩ := Kd.R_reads' h
  subst h1
  exact ⟨rfl, h2, Kd.F_mono (Kd.R_F (Kd.R_bound h)) (fun k a => by have := a.2.1; omega)⟩
/-- .. one byte less. -/
theorem sect_F1 {W : World} {B q c : Nat} {s : List Int} (hs : s.length = 256) (hc : 256 ≤ c) (h : Kd.F (Kd.int .u8) W (fun k => B ≤ k) (some ⟨q, 0, none⟩) s.length s) : 255 = (s.drop 1).length ∧ (s.drop 1).length ≤ c - 1 ∧ Kd.F (Kd.int .u8) W (fun k => B ≤ k) (some ⟨q, 1, none⟩) (s.drop 1).length (s.drop 1) := by
  have hl : (s.drop 1).length = 255 := by rw [List.length_drop]; omega
  refine ⟨hl.symm, by omega, ?_⟩
  have := Kd.F_cut (m := 1) (c := c) h (by omega) (by omega)
  rw [if_neg (by omega)] at this
  exact this
theorem PrAt.first {w0 W1 W2 : World} {g : Nat} {Rs Sec : Nat → Prop} {A0 A1 : Option Addr} {c0 c1 : Nat} {r : PD} {d : DS} (hk : Dk W1 g Rs Sec d) (hr : ∀ k, Rs k → w0.heap.size ≤ k) (hs : ∀ k, Sec k → w0.heap.size ≤ k) (hw : w0.heap.size ≤ W1.heap.size) (hb : Below W1.heap.size W1 W2)
    (h0 : Kd.S kSS 30 W2 W1.heap.size (fun _ => True) (.slice A0 r.D.length c0) r.D) (h1 : Kd.S k75 75 W2 W1.heap.size (fun _ => True) (.slice A1 r.W.length c1) r.W) :
    PrAt w0 (W2.alloc (.cells (agR r A0 A1 c0 c1) 51)) g W2.heap.size d r Rs (fun k => Sec k ∧ k < W1.heap.size) (fun k => W1.heap.size ≤ k ∧ k < W2.heap.size) A0 A1 c0 c1 := by
  have hba := below_alloc (Below.refl W2.heap.size W2) (.cells (agR r A0 A1 c0 c1) 51)
  have h12 := hb.size
  have hsz : W2.heap.size < (W2.alloc (.cells (agR r A0 A1 c0 c1) 51)).heap.size := by rw [World.size_alloc]; omega
  obtain ⟨vd, vl, vw, hk0⟩ := hk
  have hk2 : Dk W1 g Rs (fun k => Sec k ∧ k < W1.heap.size) d := ⟨vd, vl, vw, hk0.bound⟩
  refine ⟨(hk2.below hb).below hba, fun k a => ⟨hr k a, ?_, ?_⟩, fun k a => ⟨hs k a.1, by have := a.2; omega, by have := a.2; omega⟩, fun k a => ⟨by have := a.2; omega, fun e => ?_, by have := a.2; omega⟩, ?_, ?_, World.alloc_heap_new _ _, by omega⟩
  · have := hk0.rs k a; omega
  · have := hk0.rs k a; omega
  · have := hk0.rs k e; have := a.1; omega
  · exact Kd.V_below (Kd.V_mono (Kd.S_V (Kd.S_bound h0)) (fun k a => ⟨a.2.1, a.2.2.1⟩)) hba
  · exact Kd.V_below (Kd.V_mono (Kd.S_V (Kd.S_bound h1)) (fun k a => ⟨a.2.1, a.2.2.1⟩)) hba
/-- Behind k calls. -/
structure DoI (w0 W : World) (n g rb : Nat) (d : DS) (r : PD) (k : Nat) : Prop where
  pr : ∃ Rs Sec P A0 A1 c0 c1, PrAt w0 W g rb d r Rs Sec P A0 A1 c0 c1
  ok : d.Ok k
  len : d.D.length = n
  alk : Alk d r
  bel : Below w0.heap.size w0 W
theorem DoI.below {w0 W W1 : World} {n g rb k : Nat} {d : DS} {r : PD} (h : DoI w0 W n g rb d r k) (hb : Below W.heap.size W W1) : DoI w0 W1 n g rb d r k := by
  obtain ⟨Rs, Sec, P, A0, A1, c0, c1, hp⟩ := h.pr
  exact ⟨⟨Rs, Sec, P, A0, A1, c0, c1, hp.below hb⟩, h.ok, h.len, h.alk, h.bel.trans (hb.mono h.bel.size)⟩
theorem Alk.few {d : DS} {r : PD} {m : Nat} (h : Alk d r) (hO : d.Ok m) : r.W.length ≤ m ∧ r.D.length ≤ 4096 ∧ ∀ x ∈ r.W, 0 ≤ x.f0 ∧ x.f0 < r.D.length := by
  refine ⟨?_, ?_, fun x hx => ?_⟩
  · have := hO.many
    rw [← h.W, List.length_map] at this
    exact this
  · rw [h.D]; exact hO.max
  · have := hO.waits (toP x) (by rw [← h.W]; exact List.mem_map_of_mem hx)
    rw [h.D]
    exact ⟨this.1, this.2.1⟩
theorem RAns.put {w0 W W1 : World} {g rb : Nat} {d : DS} {r r' : PD} {Rs Sec P : Nat → Prop} {A0 A1 A0' A1' : Option Addr} {c0 c1 c0' c1' : Nat} (hp : PrAt w0 W g rb d r Rs Sec P A0 A1 c0 c1) (h : RAns w0 W W1 g rb d r' Rs Sec P A0' A1' c0' c1') (hB : Below w0.heap.size w0 W) :
    ∀ w', Chg (fun k => k = rb) W1 w' → w'.heap[rb]? = some (.cells (agR r' A0' A1' c0' c1') 51 (0, 0)) → (∃ Rs Sec P A0 A1 c0 c1, PrAt w0 w' g rb d r' Rs Sec P A0 A1 c0 c1) ∧ Below w0.heap.size w0 w' := fun w' hc hk =>
  ⟨⟨_, _, _, _, _, _, _, h.2 w' hc hk⟩, (hB.trans (h.1.mono hB.size)).trans (Chg.below hc (fun k e => by have := hp.rb0; omega) (by have := hB.size; have := h.1.size; omega))⟩
end Go.Proofs.Ytghhmbagjhmgfaa.Print
