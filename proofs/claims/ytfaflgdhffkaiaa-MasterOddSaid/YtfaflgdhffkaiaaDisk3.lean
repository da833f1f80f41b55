/- disk.Disk: Write, whatever it is given; Clone of sectors; Sync. -/
import Derived.Test.YtfaflgdhffkaiaaDisk2
namespace Go.Proofs.Ytfaflgdhffkaiaa.Print
open Go.RowKit Go.Proofs.YtfaflgdhffkaiaaW.PrintWords Go.Proofs.YtfaflgdhffkaiaaW.PrintLast Go.Proofs.YtfaflgdhffkaiaaW.PrintMore
set_option linter.unusedVariables false
set_option linter.unusedSimpArgs false
set_option maxHeartbeats 1000000 in
theorem write_dead (p : Value) (i : Int) (A : Option Addr) (n c : Nat) (w : World) (hp : Calls Try.prog 25 #[p] w fun e w' => e = .returned (.bool true) ∧ w' = w) :
    Calls Try.prog 11 #[p, .int .i64 i, .slice A n c] w fun e w' => e = .returned (.int .i64 30) ∧ w' = w := by
  replace hp := Aside0.mk hp
  go_enter Try.func11, Try.ntmps11
  go_wp2_with (go_at_call 25; refine hp.out.mono ?_; rintro e w1 ⟨rfl, hq_⟩; obtain rfl := hq_.symm)
  go_ret
  exact ⟨rfl, rfl⟩
set_option maxHeartbeats 1000000 in
theorem write_out (p : Value) (i : Int) (A : Option Addr) (l n c : Nat) (w : World) (hn : n ≤ 4096) (hi : i < 0 ∨ (n : Int) ≤ i) (hp : Calls Try.prog 25 #[p] w fun e w' => e = .returned (.bool false) ∧ w' = w) (hq : Calls Try.prog 26 #[p] w fun e w' => e = .returned (.int .i64 (n : Int)) ∧ w' = w) :
    Calls Try.prog 11 #[p, .int .i64 i, .slice A l c] w fun e w' => e = .returned (.int .i64 3) ∧ w' = w := by
  replace hp := Aside0.mk hp
  replace hq := Aside0.mk hq
  by_cases h0 : i < 0
  · clear hi
    go_enter Try.func11, Try.ntmps11
    go_wp2_with (go_at_call 25; refine hp.out.mono ?_; rintro e w1 ⟨rfl, hq_⟩; obtain rfl := hq_.symm)
    go_ret
    exact ⟨rfl, rfl⟩
  · have h1 : (n : Int) ≤ i := by omega
    have h2 : 0 ≤ i := by omega
    clear hi h0
    go_enter Try.func11, Try.ntmps11
    go_wp2_with (first | (go_at_call 25; refine hp.out.mono ?_; rintro e w1 ⟨rfl, hq_⟩; obtain rfl := hq_.symm) | (go_at_call 26; refine hq.out.mono ?_; rintro e w1 ⟨rfl, hq_⟩; obtain rfl := hq_.symm))
    go_ret
    exact ⟨rfl, rfl⟩
set_option maxHeartbeats 1000000 in
theorem write_arg (p : Value) (i : Nat) (A : Option Addr) (l n c : Nat) (w : World) (hn : n ≤ 4096) (hi : i < n) (hl : l ≠ 256) (hp : Calls Try.prog 25 #[p] w fun e w' => e = .returned (.bool false) ∧ w' = w) (hq : Calls Try.prog 26 #[p] w fun e w' => e = .returned (.int .i64 (n : Int)) ∧ w' = w) :
    Calls Try.prog 11 #[p, .int .i64 (i : Int), .slice A l c] w fun e w' => e = .returned (.int .i64 1) ∧ w' = w := by
  replace hp := Aside0.mk hp
  replace hq := Aside0.mk hq
  have e1 : decide (n ≤ i) = false := by simp; omega
  have e2 : decide ((n : Int) ≤ (i : Int)) = false := by simp; omega
  have e3 : ((l : Int) == 256) = false := by simp; omega
  have e4 : ((l : Int) != 256) = true := by simp; omega
  replace hl := Aside0.mk hl
  go_enter Try.func11, Try.ntmps11
  go_wp2_with (first | (go_at_call 25; refine hp.out.mono ?_; rintro e w1 ⟨rfl, hq_⟩; obtain rfl := hq_.symm) | (go_at_call 26; refine hq.out.mono ?_; rintro e w1 ⟨rfl, hq_⟩; obtain rfl := hq_.symm))
  go_ret
  exact ⟨rfl, rfl⟩
set_option maxHeartbeats 1000000 in
theorem write_dies (p : Value) (i : Nat) (A : Option Addr) (n c : Nat) (w : World) (K : World → Prop) (hn : n ≤ 4096) (hi : i < n) (hp : Calls Try.prog 25 #[p] w fun e w' => e = .returned (.bool false) ∧ w' = w) (hq : Calls Try.prog 26 #[p] w fun e w' => e = .returned (.int .i64 (n : Int)) ∧ w' = w)
    (hr : Calls Try.prog 27 #[p] w fun e w' => e = .returned (.bool false) ∧ K w') :
    Calls Try.prog 11 #[p, .int .i64 (i : Int), .slice A 256 c] w fun e w' => e = .returned (.int .i64 30) ∧ Aside0 (K w') := by
  replace hp := Aside0.mk hp
  replace hq := Aside0.mk hq
  replace hr := Aside0.mk hr
  have e1 : decide (n ≤ i) = false := by simp; omega
  have e2 : decide ((n : Int) ≤ (i : Int)) = false := by simp; omega
  go_enter Try.func11, Try.ntmps11
  go_wp2_with (first | (go_at_call 25; refine hp.out.mono ?_; rintro e w1 ⟨rfl, hq_⟩; obtain rfl := hq_.symm) | (go_at_call 26; refine hq.out.mono ?_; rintro e w1 ⟨rfl, hq_⟩; obtain rfl := hq_.symm) | (go_at_call 27; refine hr.out.mono ?_; rintro e w1 ⟨rfl, hK⟩; replace hK := Aside0.mk hK))
  go_ret
  exact ⟨rfl, hK⟩
theorem livesF_dead {d : DS} (h : (livesF d).dead = false) : d.dead = false := by
  simp only [livesF, Bool.or_eq_false_iff] at h
  exact h.1
/-- Write, whatever it is given. -/
theorem write_any (g : Nat) (Rs Sec : Nat → Prop) (d : DS) (i : Int) (m : Nat) (A : Option Addr) (c : Nat) (s : List Int) (w : World) (h : Dk w g Rs Sec d) (hO : d.Ok m) (hm : m ≤ 100000)
    (hC : ∀ X, Chg Rs w X → Kd.C (Kd.int .u8) X A s.length s) (hc : s.length ≤ c) :
    Calls Try.prog 11 #[.pointer (some ⟨g, 0, none⟩), .int .i64 i, .slice A s.length c] w fun e w' => e = .returned (.int .i64 (writeE d i s)) ∧ DkPost g Rs Sec (writeD d i s) w w' := by
  have hdead := dead_any g Rs Sec d w h
  have hlen := len_any g Rs Sec d w h
  have same : DkPost g Rs Sec d w w := ⟨Rs, Sec, h, fun _ h => .inl h, fun _ h => .inr (.inl h), .refl _ _⟩
  unfold writeE writeD
  by_cases hd : d.dead = true
  · rw [if_pos hd, if_pos (.inl hd)]
    rw [hd] at hdead
    refine (write_dead _ i A s.length c w hdead).mono ?_
    rintro e w' ⟨rfl, hw⟩
    obtain rfl := hw.symm
    exact ⟨rfl, same⟩
  · have hd0 : d.dead = false := by simpa using hd
    rw [hd0] at hdead
    rw [if_neg hd]
    by_cases hi : 0 ≤ i ∧ i < d.D.length
    · rw [if_neg (fun q => q hi)]
      obtain ⟨j, rfl⟩ : ∃ j : Nat, i = j := ⟨i.toNat, by omega⟩
      by_cases hs : s.length = 256
      · have hno : ¬ (d.dead = true ∨ ¬ (0 ≤ (j : Int) ∧ (j : Int) < d.D.length) ∨ s.length ≠ 256) := by
          rintro (a | a | a)
          · exact hd a
          · exact a hi
          · exact a hs
        rw [if_neg (fun q => q hs), if_neg hno]
        obtain ⟨vd, vl, vw, hk⟩ := id h
        by_cases hl : (livesF d).dead = true
        · rw [if_pos hl, if_pos hl]
          have hlv := lives_any g Rs Sec d vd vl vw w hk
          rw [hl] at hlv
          rw [hs]
          refine (write_dies _ j A d.D.length c w (fun w' => DkAt w' g Rs Sec (livesF d) vd vl vw ∧ Chg (fun k => k = g) w w') hO.max (by omega) hdead hlen hlv).mono ?_
          rintro e w' ⟨rfl, ⟨hk1, hc1⟩⟩
          exact ⟨rfl, Rs, Sec, ⟨_, _, _, hk1⟩, fun _ h => .inl h, fun _ h => .inr (.inl h), hc1.mono (fun k e => by rw [e]; exact hk.rg)⟩
        · rw [if_neg hl, if_neg hl]
          exact write_ok g Rs Sec d j m A c s w h hO hm hd0 (by omega) hs (by simpa using hl) hC hc
      · rw [if_pos hs, if_pos (.inr (.inr hs))]
        refine (write_arg _ j A s.length d.D.length c w hO.max (by omega) hs hdead hlen).mono ?_
        rintro e w' ⟨rfl, hw⟩
        obtain rfl := hw.symm
        exact ⟨rfl, same⟩
    · rw [if_pos hi, if_pos (.inr (.inl hi))]
      refine (write_out _ i A s.length d.D.length c w hO.max (by omega) hdead hlen).mono ?_
      rintro e w' ⟨rfl, hw⟩
      obtain rfl := hw.symm
      exact ⟨rfl, same⟩
theorem Rw.rowsK {α : Type} {d : Kd α} {e : Nat} {w : World} {A : Option Addr} {n c : Nat} {Sec : Nat → Prop} {xs : List α} (h : Rw d e w (.slice A n c) Sec xs) : ReadsRow (fun x cs => Kd.FK d w Sec x cs) d.sz w A n xs := by
  obtain ⟨hn, _, hC⟩ := Kd.N_reads' h
  subst hn
  refine ⟨rfl, hC.2.1, fun hp => ?_⟩
  obtain ⟨ad, e, _⟩ := hC.2.2 hp
  subst e
  refine ⟨ad, rfl, fun j p hj => ?_⟩
  obtain ⟨hjl, hjp⟩ := List.getElem?_eq_some_iff.1 hj
  obtain ⟨cs, hcl, hFK, hcell⟩ := Kd.N_get h p (j : Int) (by omega) (by omega)
  simp only [Int.toNat_natCast] at hFK hcell
  rw [List.getD_eq_getElem?_getD, hj] at hFK
  exact ⟨cs, hcl, Kd.FK_mono hFK (fun k hk => hk.1.elim (fun a => a) (fun a => absurd a hk.2)), hcell⟩
section
variable {P : Program} {ops : Array Oper} {rest : List Oper} {o : Oper} {a : Act} {Q : Exit → Act → World → Prop} {α : Type}
/-- append(v, ys...): what ys's elements lead to lies in okp; ys's own row is not spoken of. -/
theorem N_append_rowsK (d : Kd α) {w0 W : World} (base : Nat) (hgd : o.guard = none) (s x : Operand) (t e : TypeId) (z : Value) (bytes : Nat)
    (ho : o.op = .call { callee := .builtin .append, args := #[s, x], argTypes := #[t, t] })
    (ht : P.underlying t = some (.slice e)) (hinfo : (P.info? e).map (fun i => (i.zero, i.size, i.bytes)) = some (some z, d.sz, bytes)) (hz : z.cells.size = d.sz) (hs0 : 0 < d.sz) (hb0 : 0 < bytes)
    (v : Value) (xs ys : List α) (A : Option Addr) (m c : Nat) (ok okp : Nat → Prop) (hs : a.eval s = v) (hx : a.eval x = .slice A m c)
    (HO : Kd.N d e W base ok v xs) (HR : ReadsRow (fun x c => Kd.FK d W okp x c) d.sz W A m ys) (hokp : ∀ k, okp k → ok k ∧ some k ≠ v.ownBlock) (hfresh : ∀ k, W.heap.size ≤ k → ok k)
    (HB : Below base w0 W) (hbase : base ≤ W.heap.size) (hl : (xs.length + m) * bytes ≤ 140737488355328)
    (h : ∀ v1 w1, Kd.N d e w1 base ok v1 (xs ++ ys) → Below base w0 w1 → W.grownBy w1 v.ownBlock → (v1.ownBlock = v.ownBlock ∨ ∃ b, v1.ownBlock = some b ∧ W.heap.size ≤ b) → wpList P ops Q rest (a.put o.dst v1) w1) :
    wpList P ops Q (o :: rest) a W := by
  obtain ⟨h0, rows, hlr, hR, hf⟩ := HO
  obtain ⟨news, hnl, hnr, hnf⟩ := Kd.reads_raw HR (fun y c hk => ⟨d.K_len (Kd.FK_now hk), d.K_one (Kd.FK_now hk)⟩)
  refine Kd.R_append_rows (Kd.raw d.sz) base hgd s x t e z bytes ho ht hinfo hz hs0 hb0 v rows news A m c (fun _ => True) (fun _ => False) hs hx (Kd.raw_any hR) hnr (fun _ _ hk => hk) (fun _ hk => hk.elim) (fun _ _ => trivial) HB hbase (by rw [hlr]; exact hl) ?_
  intro v1 w1 hr hb hg hat
  exact h v1 w1 (Kd.N_appended h0 hlr hf hnl hnf hokp hfresh hr hg hat) hb hg hat
end
set_option maxHeartbeats 1000000 in
set_option maxRecDepth 100000 in
/-- slices.Clone of sectors: a row of its own, whose sectors are shared. -/
theorem cloneS (A0 : Option Addr) (c0 : Nat) (l0 : List (List Int)) (Sec : Nat → Prop) (w : World) (hF : Rw kS 22 w (.slice A0 l0.length c0) Sec l0) (hl : l0.length ≤ 100000) :
    Calls Try.prog 24 #[.slice A0 l0.length c0] w fun e w' => ∃ v, e = .returned v ∧ Rw kS 22 w' v (fun k => (Sec k ∨ w.heap.size ≤ k) ∧ v.ownBlock ≠ some k) l0 ∧ (∀ k, v.ownBlock = some k → w.heap.size ≤ k) ∧ Below w.heap.size w w' := by
  have HF := Aside0.mk hF
  clear hF
  cases A0 with
  | none =>
    obtain rfl : l0 = [] := by
      rcases l0 with _ | ⟨a, t⟩
      · rfl
      · exact absurd ((Kd.N_reads' HF.out).2.2.2.2 (by simp)) (by simp)
    have hq : ∀ (w : World), (binOp .eql 52 (.slice none 0 c0) (.slice none 0 0)).run Try.prog w = .ok (.bool true) w := fun w => Lib.run_eql_slice_nil w 52 22 none 0 c0 0 0 Try.underlying52
    go_enter Try.func24, Try.ntmps24
    go_wp2_with fail
    go_ret
    exact ⟨_, rfl, Kd.N_nil _ _ _ _ _, (fun k e => by cases e), Below.refl _ _⟩
  | some a =>
    have hq : ∀ (w : World), (binOp .eql 52 (.slice (some a) l0.length c0) (.slice none 0 0)).run Try.prog w = .ok (.bool false) w := fun w => Lib.run_eql_slice_nil w 52 22 (some a) l0.length c0 0 0 Try.underlying52
    have hbd : ∀ o, Rw kS 22 (w.alloc o) (.slice (some a) l0.length c0) (fun k => Sec k ∧ k < w.heap.size) l0 := fun o => Kd.N_alloc (Kd.N_mono (Kd.N_bound HF.out) (fun k hk => hk.1.elim (fun q => .inl ⟨q, hk.2⟩) .inr)) o
    replace hbd := Aside0.mk hbd
    have hmade : ∀ W : World, W.heap.size = w.heap.size → Kd.R kS 22 (W.alloc (.cells #[] 22)) w.heap.size (fun _ => True) (.slice (some ⟨W.heap.size, 0, none⟩) 0 0) [] := fun W hW => ⟨fun _ _ => trivial, [], ⟨by simp, .inr ⟨W.heap.size, 0, #[], rfl, by omega, by simpa using heap_alloc_new W (.cells #[] 22), by simp, by simp [maxLen], by simp, by simp⟩⟩, Reps.none _ _⟩
    go_enter Try.func24, Try.ntmps24
    go_wp2_with ((with_reducible refine gate_builtin (b := .append) (xs := #[.tmp 5, .tmp 6]) rfl ?_); at_builtin; refine N_append_rowsK kS (w0 := w) w.heap.size rfl (.tmp 5) (.tmp 6) 52 22 (.slice none 0 0) 24 rfl Try.underlying52 infoS rfl (by decide) (by decide) (.slice (some ⟨w.heap.size, 0, none⟩) 0 0) [] l0 (some a) l0.length c0 (fun k => Sec k ∧ k < w.heap.size ∨ w.heap.size ≤ k) (fun k => Sec k ∧ k < w.heap.size) rfl rfl ?aO ?aR ?aP ?aF ?aB ?aS ?aL ?_; (case aF => intro k hk; right; simp at hk; omega); (case aB => exact below_alloc (Below.refl _ _) _); (case aS => simp); (case aL => simp; omega); (case aR => exact Rw.rowsK (hbd.out _)); (case aO => exact Kd.N_mono (Kd.R_N (Kd.R_bound (hmade w rfl))) (fun k hk => .inr hk.2.1)); (case aP => intro k hk; exact ⟨.inl hk, fun e => by simp [Value.ownBlock] at e; omega⟩); intro v w1 hN hb _ _)
    rw [List.nil_append] at hN
    have hlow := Kd.N_base hN
    obtain ⟨A2, c2, rfl⟩ := Kd.N_slice hN
    go_ret
    exact ⟨_, rfl, Kd.N_mono (Kd.N_lower hN (Nat.zero_le _)) (fun k hk => by
      by_cases e : (Value.slice A2 l0.length c2).ownBlock = some k
      · exact .inr e.symm
      · exact .inl ⟨hk.elim (fun a => .inl a.1) .inr, e⟩), hlow, hb⟩
end Go.Proofs.Ytfaflgdhffkaiaa.Print
