/- disk.Disk in the laws: a device all of whose blocks are the law's own. -/
import Derived.Test.YtfaflgdhffkaiaaDiskCr
import Derived.Test.YtfaflgdhffkaiaaDisk5
namespace Go.Proofs.Ytfaflgdhffkaiaa.Print
open Go.RowKit Go.Proofs.YtfaflgdhffkaiaaW.PrintWords Go.Proofs.YtfaflgdhffkaiaaW.PrintLast Go.Proofs.YtfaflgdhffkaiaaW.PrintMore
set_option linter.unusedVariables false
set_option linter.unusedSimpArgs false
/-! #### a device stays one -/
theorem DS.Ok.more {d : DS} {m m' : Nat} (h : d.Ok m) (hm : m ≤ m') : d.Ok m' := ⟨h.len, h.max, h.dur, h.last, h.waits, Nat.le_trans h.many hm⟩
theorem newD_ok (n : Nat) (hn : n ≤ 4096) : (newD n).Ok 0 := by
  refine ⟨by simp [newD], by simp [newD]; exact hn, ?_, ?_, ?_, by simp [newD]⟩
  · intro s hs
    rw [List.eq_of_mem_replicate hs, sect_len]
  · intro s hs
    rw [List.eq_of_mem_replicate hs, sect_len]
  · intro x hx
    cases hx
theorem livesF_ok {d : DS} {m : Nat} (h : d.Ok m) : (livesF d).Ok m := ⟨h.len, h.max, h.dur, h.last, h.waits, h.many⟩
theorem writeD_ok {d : DS} {m : Nat} (h : d.Ok m) (i : Int) (s : List Int) : (writeD d i s).Ok (m + 1) := by
  unfold writeD
  split
  · exact h.more (by omega)
  · rename_i hc
    have h0 : (0 ≤ i ∧ i < d.D.length) := Decidable.not_not.1 (fun x => hc (.inr (.inl x)))
    have h1 : s.length = 256 := Decidable.not_not.1 (fun x => hc (.inr (.inr x)))
    split
    · exact (livesF_ok h).more (by omega)
    · have k := livesF_ok h
      refine ⟨by simp [writeF]; exact k.len, k.max, k.dur, ?_, ?_, ?_⟩
      · intro t ht
        rcases List.mem_or_eq_of_mem_set ht with e | e
        · exact k.last t e
        · rw [e]; exact h1
      · intro x hx
        rcases List.mem_append.1 hx with e | e
        · exact k.waits x e
        · simp at e
          subst e
          exact ⟨h0.1, h0.2, h1⟩
      · simp [writeF, livesF]
        exact h.many
theorem syncD_ok {d : DS} {m : Nat} (h : d.Ok m) : (syncD d).Ok m := by
  unfold syncD
  split
  · exact h
  · split
    · exact livesF_ok h
    · have k := livesF_ok h
      exact ⟨rfl, by have := k.len; have := k.max; simp [syncF]; omega, k.last, k.last, (fun x hx => by cases hx), Nat.zero_le _⟩
theorem armF_ok {d : DS} {m : Nat} (h : d.Ok m) (n : Int) : (armF d n).Ok m := ⟨h.len, h.max, h.dur, h.last, h.waits, h.many⟩
theorem crashD_ok {d : DS} {m : Nat} (h : d.Ok m) (f : Nat → Int) (hf : ∀ i, 0 ≤ f i ∧ f i ≤ 256) : (crashD d f).Ok 0 := by
  have h6 : ∀ s ∈ crL d f (List.range d.W.length), s.length = 256 := by
    by_cases hW : 0 < d.W.length
    · exact crL_256 f h hW hf _
    · rw [show d.W.length = 0 by omega]
      exact h.dur
  exact ⟨rfl, by simp [crashD, crL_len]; exact h.max, h6, h6, (fun x hx => by cases hx), Nat.zero_le _⟩
theorem writeD_len (d : DS) (i : Int) (s : List Int) : (writeD d i s).D.length = d.D.length := by
  unfold writeD
  split
  · rfl
  · split <;> rfl
theorem syncD_len {d : DS} {m : Nat} (h : d.Ok m) : (syncD d).D.length = d.D.length := by
  unfold syncD
  split
  · rfl
  · split
    · rfl
    · exact h.len
theorem crashD_len (d : DS) (f : Nat → Int) : (crashD d f).D.length = d.D.length := crL_len d f _
/-! #### a device of the law's own -/
def Dev (w0 W : World) (g : Nat) (d : DS) : Prop := ∃ Rs Sec, Dk W g Rs Sec d ∧ (∀ k, Rs k → w0.heap.size ≤ k) ∧ (∀ k, Sec k → w0.heap.size ≤ k)
theorem Dev.below {w0 W W1 : World} {g : Nat} {d : DS} (h : Dev w0 W g d) (hb : Below W.heap.size W W1) : Dev w0 W1 g d := by
  obtain ⟨Rs, Sec, h, h1, h2⟩ := h
  exact ⟨Rs, Sec, h.below hb, h1, h2⟩
theorem Dev.of_post {w0 W W1 : World} {g : Nat} {Rs Sec : Nat → Prop} {d : DS} (hB : Below w0.heap.size w0 W) (h1 : ∀ k, Rs k → w0.heap.size ≤ k) (h2 : ∀ k, Sec k → w0.heap.size ≤ k) (h : DkPost g Rs Sec d W W1) : Dev w0 W1 g d ∧ Below w0.heap.size w0 W1 := by
  obtain ⟨Rs', Sec', k1, k2, k3, k4⟩ := h
  have := hB.size
  exact ⟨⟨Rs', Sec', k1, fun k hk => (k2 k hk).elim (h1 k) (fun x => by omega), fun k hk => (k3 k hk).elim (h1 k) (fun x => x.elim (h2 k) (fun y => by omega))⟩, hB.trans (Chg.below k4 h1 hB.size)⟩
theorem Dev.new (n : Nat) (w0 W : World) (hB : Below w0.heap.size w0 W) (h1 : 1 ≤ n) (h2 : n ≤ 4096) :
    Calls Try.prog 10 #[.int .i64 (n : Int)] W fun e w' => ∃ g, e = .returned (.tuple #[.pointer (some ⟨g, 0, none⟩), .int .i64 0]) ∧ Dev w0 w' g (newD n) ∧ Below w0.heap.size w0 w' := by
  refine (new_ok n W h1 h2).mono ?_
  rintro e w' ⟨g, Rs, Sec, rfl, hk, hr, hs, hb⟩
  have := hB.size
  exact ⟨g, rfl, ⟨Rs, Sec, hk, fun k a => by have := hr k a; omega, fun k a => by have := hs k a; omega⟩, hB.trans (hb.mono (by omega))⟩
/-- Write, of a sector that is the law's own and was made behind the device. -/
theorem Dev.write {w0 W W1 : World} {g : Nat} {d : DS} {m : Nat} (h : Dev w0 W g d) (hB : Below w0.heap.size w0 W) (hb : Below W.heap.size W W1) (hO : d.Ok m) (hm : m ≤ 100000) (i : Int) {A : Option Addr} {n c : Nat} {s : List Int} (hR : Kd.R (Kd.int .u8) 5 W1 W.heap.size (fun _ => True) (.slice A n c) s) :
    Calls Try.prog 11 #[.pointer (some ⟨g, 0, none⟩), .int .i64 i, .slice A n c] W1 fun e w' => e = .returned (.int .i64 (writeE d i s)) ∧ Dev w0 w' g (writeD d i s) ∧ Below w0.heap.size w0 w' := by
  obtain ⟨Rs, Sec, hk, h1, h2⟩ := h
  have hlow := Kd.R_base hR
  have hF := Kd.R_tight rfl hR
  obtain ⟨A', c', e, hc, _⟩ := Kd.R_reads hR
  injection e with e1 e2 e3
  subst e1 e2 e3
  have hF := Kd.R_F hF
  obtain ⟨vd, vl, vw, hkk⟩ := id hk
  have hs := hB.size
  refine (write_any g Rs Sec d i m _ _ s W1 (hk.below hb) hO hm (fun X hX => Kd.F_now (Kd.F_step hF (fun k hk hlt => hX.block k hlt (fun e => by have := hkk.rs k e; have := hlow k hk.symm; omega)))) hc).mono ?_
  rintro e w' ⟨rfl, hp⟩
  exact ⟨rfl, Dev.of_post (hB.trans (hb.mono hs)) h1 h2 hp⟩
theorem Dev.sync {w0 W : World} {g : Nat} {d : DS} {m : Nat} (h : Dev w0 W g d) (hB : Below w0.heap.size w0 W) (hO : d.Ok m) :
    Calls Try.prog 34 #[.pointer (some ⟨g, 0, none⟩)] W fun e w' => e = .returned (.int .i64 (syncE d)) ∧ Dev w0 w' g (syncD d) ∧ Below w0.heap.size w0 w' := by
  obtain ⟨Rs, Sec, hk, h1, h2⟩ := h
  refine (sync_any g Rs Sec d m W hk hO).mono ?_
  rintro e w' ⟨rfl, hp⟩
  exact ⟨rfl, Dev.of_post hB h1 h2 hp⟩
theorem Dev.arm {w0 W : World} {g : Nat} {d : DS} (h : Dev w0 W g d) (hB : Below w0.heap.size w0 W) (n : Int) :
    Calls Try.prog 17 #[.pointer (some ⟨g, 0, none⟩), .int .i64 n] W fun e w' => e = .returned (.tuple #[]) ∧ Dev w0 w' g (armF d n) ∧ Below w0.heap.size w0 w' := by
  obtain ⟨Rs, Sec, hk, h1, h2⟩ := h
  refine (arm_any g Rs Sec d n W hk).mono ?_
  rintro e w' ⟨rfl, hp⟩
  exact ⟨rfl, Dev.of_post hB h1 h2 hp⟩
/-- Crash: the device itself is as it was, beside the new one. -/
theorem Dev.crash {w0 W : World} {g : Nat} {d : DS} {m : Nat} (h : Dev w0 W g d) (hB : Below w0.heap.size w0 W) (hO : d.Ok m) (hm : m ≤ 100000) (h1 : 0 < d.D.length) (Ak : Option Addr) (nk ck : Nat) (kb : Nat → Bool) (torn kk : Int) (hnk : nk ≤ 9223372036854775807)
    (hK : ∀ j, j < nk → ∃ ak, Ak = some ak ∧ W.cell? (ak.add j) = some (.bool (kb j))) :
    Calls Try.prog 18 #[.pointer (some ⟨g, 0, none⟩), .agg #[.slice Ak nk ck, .int .i64 torn, .int .i64 kk]] W fun e w' => ∃ g2, e = .returned (.pointer (some ⟨g2, 0, none⟩)) ∧ Dev w0 w' g2 (crashD d (kf kb nk torn kk)) ∧ Below W.heap.size W w' := by
  obtain ⟨Rs, Sec, hk, k1, k2⟩ := h
  have := hB.size
  refine (crash_any g Rs Sec d m Ak nk ck kb torn kk W hk hO hm h1 hnk hK).mono ?_
  rintro e w' ⟨g2, Rs2, Sec2, rfl, _, hk2, hr, hs, hb⟩
  exact ⟨g2, rfl, ⟨Rs2, Sec2, hk2, fun k a => by have := hr k a; omega, fun k a => (hs k a).elim (k2 k) (fun x => by omega)⟩, hb⟩
/-- What was read is a row of its own. -/
theorem own_cells {W : World} {base : Nat} {ok : Nat → Prop} {v : Value} {l : List Int} (h : Kd.R (Kd.int .u8) 5 W base ok v l) (hl : l.length = 256) :
    ∃ q c, v = .slice (some ⟨q, 0, none⟩) 256 c ∧ base ≤ q ∧ ∀ j, j < 256 → W.cell? ⟨q, j, none⟩ = some (.int .u8 (l.getD j 0)) := by
  obtain ⟨q, c, rfl, hq, _⟩ := Kd.R_form h (by omega)
  refine ⟨q, c, by rw [hl], hq, fun j hj => ?_⟩
  have := (Kd.R_cell (0 : Int) h (j : Int) (by omega) (by omega)).1
  rw [show ((j : Int)).toNat = j by omega] at this
  rw [this]
  simp [rdOf]
theorem Dev.read {w0 W : World} {g : Nat} {d : DS} {m : Nat} (h : Dev w0 W g d) (hO : d.Ok m) (i : Int) :
    Calls Try.prog 16 #[.pointer (some ⟨g, 0, none⟩), .int .i64 i] W fun e w' => ∃ v0, e = .returned (.tuple #[v0, .int .i64 (readE d i)]) ∧ Kd.R (Kd.int .u8) 5 w' W.heap.size (fun _ => True) v0 (readB d i) ∧ Below W.heap.size W w' := by
  obtain ⟨Rs, Sec, hk, k1, k2⟩ := h
  exact read_any g Rs Sec d m i W hk hO
theorem Dev.dead {w0 W : World} {g : Nat} {d : DS} (h : Dev w0 W g d) : Calls Try.prog 25 #[.pointer (some ⟨g, 0, none⟩)] W fun e w' => e = .returned (.bool d.dead) ∧ w' = W := by
  obtain ⟨Rs, Sec, hk, k1, k2⟩ := h
  exact dead_any g Rs Sec d W hk
end Go.Proofs.Ytfaflgdhffkaiaa.Print
