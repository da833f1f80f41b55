/- disk.Disk: Sync, New. -/
import Derived.Test.YtfaflgdhffkaiaaDisk3
import Derived.Deep.RegionWith
namespace Go.Proofs.Ytfaflgdhffkaiaa.Print
open Go.RowKit Go.Proofs.YtfaflgdhffkaiaaW.PrintWords Go.Proofs.YtfaflgdhffkaiaaW.PrintLast Go.Proofs.YtfaflgdhffkaiaaW.PrintMore
set_option linter.unusedVariables false
set_option linter.unusedSimpArgs false
def syncF (d : DS) : DS := { d with D := d.L, W := [] }
def syncD (d : DS) : DS := if d.dead = true then d else if (livesF d).dead = true then livesF d else syncF (livesF d)
def syncE (d : DS) : Int := if d.dead = true then 30 else if (livesF d).dead = true then 30 else 0
/-- The last sectors are durable now. -/
theorem DkAt.synced {w1 w2 : World} {g : Nat} {Rs Sec : Nat → Prop} {d : DS} {vd vl vw v : Value} (h : DkAt w1 g Rs Sec d vd vl vw) (hb : Below w1.heap.size w1 w2)
    (hv : Rw kS 22 w2 v (fun k => (Sec k ∨ w1.heap.size ≤ k) ∧ v.ownBlock ≠ some k) d.L) (hlow : ∀ k, v.ownBlock = some k → w1.heap.size ≤ k) :
    ∃ Rs' Sec', DkAt ((w2.setCell ⟨g, 0, none⟩ v).setCell ⟨g, 2, none⟩ (.slice none 0 0)) g Rs' Sec' (syncF d) v vl (.slice none 0 0) ∧ (∀ k, Rs' k → Rs k ∨ w1.heap.size ≤ k) ∧ (∀ k, Sec' k → Rs k ∨ Sec k ∨ w1.heap.size ≤ k) ∧ Chg Rs w1 ((w2.setCell ⟨g, 0, none⟩ v).setCell ⟨g, 2, none⟩ (.slice none 0 0)) := by
  have hg1 := h.lt
  have hc2 : Chg (fun _ => False) w1 w2 := Chg.of_new hb _
  have hc5 : Chg (fun k => k = g) w2 ((w2.setCell ⟨g, 0, none⟩ v).setCell ⟨g, 2, none⟩ (.slice none 0 0)) := ((Chg.refl (fun k => k = g) w2).set (p := ⟨g, 0, none⟩) (.inl rfl) _).set (p := ⟨g, 2, none⟩) (.inl rfl) _
  have hb2 := hc2.obj h.blk (fun x => x)
  have hvlt := Kd.N_lt hv
  have hlg : ∀ k, vl.ownBlock = some k → ¬ k = g := fun k hk e => by
    subst e
    obtain ⟨cur, e1⟩ := h.rl.typed k hk
    rw [h.blk] at e1
    simp at e1
  have hll : ∀ k, vl.ownBlock = some k → k < w1.heap.size := fun k hk => by obtain ⟨cur, e⟩ := h.rl.typed k hk; exact (Array.getElem?_eq_some_iff.1 e).1
  have hvg : ∀ k, v.ownBlock = some k → ¬ k = g := fun k hk e => by have := hlow k hk; omega
  refine ⟨fun k => k = g ∨ v.ownBlock = some k ∨ vl.ownBlock = some k, fun k => (Sec k ∨ w1.heap.size ≤ k) ∧ k < w2.heap.size ∧ ¬ (k = g ∨ v.ownBlock = some k ∨ vl.ownBlock = some k), ⟨?_, ?_, ?_, Kd.N_nil _ _ _ _ _, ?_, ?_, .inl rfl, fun k hk => .inr (.inl hk), fun k hk => .inr (.inr hk), (fun k e => by cases e), fun k hk => hk.2.2⟩, ?_, ?_, ?_⟩
  · exact (six_set (six_set hb2 v).1 (.slice none 0 0)).2.2.1
  · refine Rw.step (Kd.N_mono (Kd.N_bound hv) (fun k hk => ?_)) hc5 (fun k hk e => hk.2.2 (.inl e)) hvg
    rcases hk.1 with a | a
    · refine .inl ⟨a.1, hk.2, ?_⟩
      rintro (rfl | q | q)
      · rcases a.1 with b | b
        · exact h.apart _ b h.rg
        · omega
      · exact a.2 q
      · rcases a.1 with b | b
        · exact h.apart _ b (h.rsl k q)
        · have := hll k q; omega
    · exact .inr a
  · refine Rw.step (Rw.renew h.rl hc2 (fun _ _ x => x) (fun _ _ x => x) (fun k hk hlt => ⟨.inl hk, Nat.lt_of_lt_of_le hlt hb.size, ?_⟩)) hc5 (fun k hk e => hk.2.2 (.inl e)) hlg
    rintro (rfl | q | q)
    · exact h.apart _ hk h.rg
    · have := hlow k q; omega
    · exact h.apart _ hk (h.rsl k q)
  · exact fun k hk e => by have := hlow k hk; have := hll k e; omega
  · have := hb.size
    have := hc5.size
    rintro k (rfl | e | e)
    · omega
    · have := hvlt k e; omega
    · have := hll k e; omega
  · rintro k (rfl | e | e)
    · exact .inl h.rg
    · exact .inr (hlow k e)
    · exact .inl (h.rsl k e)
  · rintro k ⟨a | a, _, _⟩
    · exact .inr (.inl a)
    · exact .inr (.inr a)
  · exact ((Chg.of_new hb Rs).set (p := ⟨g, 0, none⟩) (.inl h.rg) _).set (p := ⟨g, 2, none⟩) (.inl h.rg) _
set_option maxHeartbeats 2000000 in
set_option maxRecDepth 100000 in
theorem sync_ok (g : Nat) (Rs Sec : Nat → Prop) (d : DS) (m : Nat) (w : World) (h : Dk w g Rs Sec d) (hO : d.Ok m) (hd : d.dead = false) (hl : (livesF d).dead = false) :
    Calls Try.prog 34 #[.pointer (some ⟨g, 0, none⟩)] w fun e w' => e = .returned (.int .i64 0) ∧ DkPost g Rs Sec (syncF (livesF d)) w w' := by
  have hdead := Aside0.mk (dead_any g Rs Sec d w h)
  rw [hd] at hdead
  obtain ⟨vd, vl, vw, hk⟩ := h
  have hlives := lives_any g Rs Sec d vd vl vw w hk
  rw [hl] at hlives
  have hRg := Aside0.mk hk.rg
  obtain ⟨Ad, cd, rfl, _, _⟩ := hk.rd.reads
  obtain ⟨Al, cl, rfl, hcl, _⟩ := hk.rl.reads
  obtain ⟨Aw, cw, rfl, hcw, _⟩ := hk.rw_.reads
  have hmx : d.L.length ≤ 4096 := by have := hO.len; have := hO.max; omega
  have hLL : d.L.length = (livesF d).L.length := rfl
  rw [hLL] at hlives hcl hmx
  generalize livesF d = d1 at *
  clear hk hLL hO hd
  generalize d.D.length = nd at *
  generalize d.W.length = nw at *
  replace hlives := Aside0.mk hlives
  replace hl := Aside0.mk hl
  go_enter Try.func34, Try.ntmps34
  go_wp2_with (go_at_call 25; refine hdead.out.mono ?_; rintro e w1 ⟨rfl, hq_⟩; obtain rfl := hq_.symm)
  refine hlives.out.mono ?_
  rintro e w1 ⟨rfl, hk1, hc1⟩
  have hc1 := Aside0.mk (hc1.mono (S2 := Rs) (fun k e => by rw [e]; exact hRg.out))
  obtain ⟨g0, g1, g2, _, _, _, f0, f1, f2, _⟩ := six_cells hk1.blk
  have hF := Aside0.mk hk1.rl
  replace hk1 := Aside0.mk hk1
  go_wp2_with fail
  refine (cloneS Al cl d1.L _ w1 hF.out (by omega)).mono ?_
  rintro e w2 ⟨v, rfl, hv, hlow, hb2⟩
  have hk := Aside0.mk (hk1.out.synced hb2 hv hlow)
  have hgl : g < w1.heap.size := hk1.out.lt
  have hb2' := (hb2.block g hgl).trans hk1.out.blk
  obtain ⟨h0, h1, h2, _, _, _, z0, z1, z2, _⟩ := six_cells hb2'
  obtain ⟨Av, cv, rfl⟩ := Kd.N_slice hv
  have hs1 := hc1.out.size
  clear hv hlow hb2'
  replace hb2 := Aside0.mk hb2
  go_wp2_with fail
  go_ret
  obtain ⟨Rs', Sec', k1, k2, k3, k4⟩ := hk.out
  exact ⟨rfl, Rs', Sec', ⟨_, _, _, k1⟩, fun k hk => (k2 k hk).elim .inl (fun a => .inr (by omega)), fun k hk => (k3 k hk).elim .inl (fun a => a.elim (fun b => .inr (.inl b)) (fun b => .inr (.inr (by omega)))), hc1.out.trans k4 (fun k hk => .inl hk)⟩
set_option maxHeartbeats 1000000 in
theorem sync_dead (p : Value) (w : World) (hp : Calls Try.prog 25 #[p] w fun e w' => e = .returned (.bool true) ∧ w' = w) :
    Calls Try.prog 34 #[p] w fun e w' => e = .returned (.int .i64 30) ∧ w' = w := by
  replace hp := Aside0.mk hp
  go_enter Try.func34, Try.ntmps34
  go_wp2_with (go_at_call 25; refine hp.out.mono ?_; rintro e w1 ⟨rfl, hq_⟩; obtain rfl := hq_.symm)
  go_ret
  exact ⟨rfl, rfl⟩
set_option maxHeartbeats 1000000 in
theorem sync_dies (p : Value) (w : World) (K : World → Prop) (hp : Calls Try.prog 25 #[p] w fun e w' => e = .returned (.bool false) ∧ w' = w)
    (hr : Calls Try.prog 27 #[p] w fun e w' => e = .returned (.bool false) ∧ K w') :
    Calls Try.prog 34 #[p] w fun e w' => e = .returned (.int .i64 30) ∧ Aside0 (K w') := by
  replace hp := Aside0.mk hp
  replace hr := Aside0.mk hr
  go_enter Try.func34, Try.ntmps34
  go_wp2_with (first | (go_at_call 25; refine hp.out.mono ?_; rintro e w1 ⟨rfl, hq_⟩; obtain rfl := hq_.symm) | (go_at_call 27; refine hr.out.mono ?_; rintro e w1 ⟨rfl, hK⟩; replace hK := Aside0.mk hK))
  go_ret
  exact ⟨rfl, hK⟩
/-- Sync, whatever the device. -/
theorem sync_any (g : Nat) (Rs Sec : Nat → Prop) (d : DS) (m : Nat) (w : World) (h : Dk w g Rs Sec d) (hO : d.Ok m) :
    Calls Try.prog 34 #[.pointer (some ⟨g, 0, none⟩)] w fun e w' => e = .returned (.int .i64 (syncE d)) ∧ DkPost g Rs Sec (syncD d) w w' := by
  have hdead := dead_any g Rs Sec d w h
  unfold syncE syncD
  by_cases hd : d.dead = true
  · rw [if_pos hd, if_pos hd]
    rw [hd] at hdead
    refine (sync_dead _ w hdead).mono ?_
    rintro e w' ⟨rfl, hw⟩
    obtain rfl := hw.symm
    exact ⟨rfl, Rs, Sec, h, fun _ h => .inl h, fun _ h => .inr (.inl h), .refl _ _⟩
  · have hd0 : d.dead = false := by simpa using hd
    rw [hd0] at hdead
    rw [if_neg hd, if_neg hd]
    by_cases hl : (livesF d).dead = true
    · rw [if_pos hl, if_pos hl]
      obtain ⟨vd, vl, vw, hk⟩ := h
      have hlv := lives_any g Rs Sec d vd vl vw w hk
      rw [hl] at hlv
      refine (sync_dies _ w (fun w' => DkAt w' g Rs Sec (livesF d) vd vl vw ∧ Chg (fun k => k = g) w w') hdead hlv).mono ?_
      rintro e w' ⟨rfl, ⟨hk1, hc1⟩⟩
      exact ⟨rfl, Rs, Sec, ⟨_, _, _, hk1⟩, fun _ h => .inl h, fun _ h => .inr (.inl h), hc1.mono (fun k e => by rw [e]; exact hk.rg)⟩
    · rw [if_neg hl, if_neg hl]
      exact sync_ok g Rs Sec d m w h hO hd0 (by simpa using hl)
/-- A sector of one byte's value. -/
def sect (b : Int) : List Int := List.replicate 256 b
def newD (n : Nat) : DS := ⟨List.replicate n (sect 0), List.replicate n (sect 0), [], false, false, 0⟩
set_option maxHeartbeats 1000000 in
theorem new_bad (n : Int) (w : World) (hn : n < 1 ∨ 4096 < n) : Calls Try.prog 10 #[.int .i64 n] w fun e w' => e = .returned (.tuple #[.pointer none, .int .i64 1]) ∧ w' = w := by
  by_cases h : n < 1
  · clear hn
    go_enter Try.func10, Try.ntmps10
    go_wp2_with fail
    go_ret2
    exact ⟨rfl, rfl⟩
  · have h1 : 4096 < n := by omega
    have h2 : 1 ≤ n := by omega
    clear hn h
    go_enter Try.func10, Try.ntmps10
    go_wp2_with fail
    go_ret2
    exact ⟨rfl, rfl⟩
end Go.Proofs.Ytfaflgdhffkaiaa.Print
