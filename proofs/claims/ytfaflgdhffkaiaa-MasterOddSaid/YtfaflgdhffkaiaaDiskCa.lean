/- disk.Crash: what a crash leaves, and what the loop over kept keeps. -/
import Derived.Test.YtfaflgdhffkaiaaDiskIt
import Derived.Test.YtfaflgdhffkaiaaDisk5
import Derived.Test.YtfaflgdhffkaiaaPrint3
namespace Go.Proofs.Ytfaflgdhffkaiaa.Print
open Go.RowKit Go.Shelf Go.Proofs.YtfaflgdhffkaiaaW.PrintWords Go.Proofs.YtfaflgdhffkaiaaW.PrintLast Go.Proofs.YtfaflgdhffkaiaaW.PrintMore
set_option linter.unusedVariables false
set_option linter.unusedSimpArgs false
/-- The first k bytes of s, behind them o's. -/
def partL (o s : List Int) (k : Int) : List Int := s.take k.toNat ++ o.drop k.toNat
theorem partL_len {o s : List Int} {k : Int} (h1 : o.length = 256) (h2 : s.length = 256) (h3 : 0 ≤ k) (h4 : k ≤ 256) : (partL o s k).length = 256 := by
  unfold partL
  rw [List.length_append, List.length_take, List.length_drop]
  omega
theorem part_f {o s : List Int} {k : Int} (h1 : o.length = 256) (h2 : s.length = 256) (h3 : 0 ≤ k) (h4 : k ≤ 256) : frame_Part.f o s k = some (partL o s k, 0) := by
  have hl := partL_len h1 h2 h3 h4
  unfold frame_Part.f
  rw [if_pos (by omega), if_pos (by omega), if_neg (by omega), if_neg (by omega), if_pos h3, if_pos (by omega), if_pos (by omega)]
  unfold slices_Concat_byte_byte.f
  have e : [s.take k.toNat, o.drop k.toNat].flatten = partL o s k := by simp [partL]
  rw [e, if_pos (by omega)]
  rfl
theorem part_any (P0 P1 : Nat → Prop) (A0 A1 : Option Addr) (c0 c1 : Nat) (o s : List Int) (k : Int) (w : World) (h1 : o.length = 256) (h2 : s.length = 256) (h3 : 0 ≤ k) (h4 : k ≤ 256) (l0 : 256 ≤ c0) (l1 : 256 ≤ c1)
    (hF0 : Kd.F (Kd.int .u8) w P0 A0 256 o) (hF1 : Kd.F (Kd.int .u8) w P1 A1 256 s) :
    Calls Try.prog 36 #[.slice A0 256 c0, .slice A1 256 c1, .int .i64 k] w fun e w' => ∃ A3 c3, e = .returned (.tuple #[.slice A3 256 c3, .int .i64 0]) ∧ 256 ≤ c3 ∧ Kd.F (Kd.int .u8) w' (fun j => w.heap.size ≤ j ∧ ∃ o, w'.heap[j]? = some o ∧ o.isCells = true) A3 256 (partL o s k) ∧ Below w.heap.size w w' := by
  have hl := partL_len h1 h2 h3 h4
  have e0 : Value.slice A0 256 c0 = .slice A0 o.length c0 := by rw [h1]
  have e1 : Value.slice A1 256 c1 = .slice A1 s.length c1 := by rw [h2]
  rw [e0, e1]
  refine (frame_Part.calls P0 A0 c0 o P1 A1 c1 s k _ _ w (Kd.V_mk (by omega) (by rw [h1]; exact hF0)) (Kd.V_mk (by omega) (by rw [h2]; exact hF1)) (part_f h1 h2 h3 h4)).mono ?_
  rintro e w' ⟨v, rfl, hR, hb⟩
  have hlow := Kd.R_base hR
  have hT := Kd.R_typed hR
  have hF := Kd.R_tight rfl hR
  obtain ⟨A3, c3, rfl, hl3, _⟩ := Kd.R_reads hR
  have hF := Kd.R_F hF
  rw [hl] at hF hl3 hlow hT ⊢
  refine ⟨A3, c3, rfl, hl3, Kd.F_mono hF (fun j hj => ?_), hb⟩
  obtain ⟨cur, hcur⟩ := hT j hj.symm
  exact ⟨hlow j hj.symm, _, hcur, rfl⟩
/-! #### what a crash leaves -/
def wAt (d : DS) (i : Nat) : Nat := (d.W.getD (min i (d.W.length - 1)) (0, [])).1.toNat
def wS (d : DS) (i : Nat) : List Int := (d.W.getD (min i (d.W.length - 1)) (0, [])).2
def crStep (d : DS) (f : Nat → Int) (D : List (List Int)) (i : Nat) : List (List Int) := D.set (wAt d i) (partL (D.getD (wAt d i) []) (wS d i) (f i))
def crL (d : DS) (f : Nat → Int) (pre : List Nat) : List (List Int) := pre.foldl (crStep d f) d.D
/-- A device behind a crash. -/
def crashD (d : DS) (f : Nat → Int) : DS := ⟨crL d f (List.range d.W.length), crL d f (List.range d.W.length), [], false, false, 0⟩
theorem crL_snoc (d : DS) (f : Nat → Int) (pre : List Nat) (x : Nat) : crL d f (pre ++ [x]) = (crL d f pre).set (wAt d x) (partL ((crL d f pre).getD (wAt d x) []) (wS d x) (f x)) := by
  unfold crL
  rw [List.foldl_append]
  rfl
theorem fold_keeps {β : Type} (p : β → Prop) (g : β → Nat → β) (hg : ∀ D x, p D → p (g D x)) (pre : List Nat) (D : β) (h : p D) : p (pre.foldl g D) := by
  induction pre generalizing D with
  | nil => exact h
  | cons x t ih => exact ih _ (hg D x h)
theorem crL_len (d : DS) (f : Nat → Int) (pre : List Nat) : (crL d f pre).length = d.D.length :=
  fold_keeps (fun D => D.length = d.D.length) (crStep d f) (fun D x h => by unfold crStep; rw [List.length_set, h]) pre d.D rfl
theorem w_ok {d : DS} {m : Nat} (hO : d.Ok m) (hW : 0 < d.W.length) (i : Nat) : wAt d i < d.D.length ∧ (wS d i).length = 256 ∧ ((wAt d i : Nat) : Int) = (d.W.getD (min i (d.W.length - 1)) (0, [])).1 := by
  have hl : min i (d.W.length - 1) < d.W.length := by omega
  have := hO.waits (d.W.getD (min i (d.W.length - 1)) (0, [])) (by rw [List.getD_eq_getElem?_getD, List.getElem?_eq_getElem hl]; exact List.getElem_mem hl)
  unfold wAt wS
  omega
theorem crL_256 {d : DS} {m : Nat} (f : Nat → Int) (hO : d.Ok m) (hW : 0 < d.W.length) (hf : ∀ i, 0 ≤ f i ∧ f i ≤ 256) (pre : List Nat) : ∀ s ∈ crL d f pre, s.length = 256 := by
  refine (fold_keeps (fun D => D.length = d.D.length ∧ ∀ s ∈ D, s.length = 256) (crStep d f) ?_ pre d.D ⟨rfl, hO.dur⟩).2
  rintro D x ⟨hD, ih⟩
  unfold crStep
  refine ⟨by rw [List.length_set, hD], fun s hs => ?_⟩
  rcases List.mem_or_eq_of_mem_set hs with h | rfl
  · exact ih s h
  · have hw := w_ok hO hW x
    refine partL_len ?_ hw.2.1 (hf x).1 (hf x).2
    have hl : wAt d x < D.length := by rw [hD]; exact hw.1
    rw [List.getD_eq_getElem?_getD, List.getElem?_eq_getElem hl]
    exact ih _ (List.getElem_mem hl)
theorem kf_ok (kb : Nat → Bool) (nk : Nat) (torn kk : Int) (i : Nat) : 0 ≤ kf kb nk torn kk i ∧ kf kb nk torn kk i ≤ 256 := by
  unfold kf
  split
  · unfold mn mx
    split <;> split <;> omega
  · split <;> omega
/-! #### the loop -/
/-- Between two rounds: the new device's row holds what the writes so far have left. -/
def CrI (d : DS) (f : Nat → Int) (w0 : World) (q B0 n c : Nat) (Sec0 : Nat → Prop) (pre : List Nat) (W : World) : Prop :=
  Kq q B0 w0 W ∧ ∃ Sec : Nat → Prop, (∀ k, Sec k → (Sec0 k ∧ k < B0) ∨ (B0 ≤ k ∧ ∃ o, W.heap[k]? = some o ∧ o.isCells = true)) ∧ Rw kS 22 W (.slice (some ⟨q, 0, none⟩) n c) Sec (crL d f pre)
theorem CrI.own (d : DS) (f : Nat → Int) (w0 : World) (q B0 n c : Nat) (Sec0 : Nat → Prop) (hq : q < B0) : OwnFrom B0 (CrI d f w0 q B0 n c Sec0) := by
  rintro pre W W1 row ⟨h1, Sec, h2, h3⟩ hg hr
  have hne : ∀ k, (Sec k ∨ k = q) → k < W.heap.size → some k ≠ row := by
    intro k hk hlt e
    obtain ⟨hB, o, ho, hc⟩ := hr k e.symm
    rcases hk with hk | rfl
    · rcases h2 k hk with hk | ⟨_, o1, ho1, hc1⟩
      · omega
      · rw [ho] at ho1
        cases ho1
        rw [hc] at hc1
        cases hc1
    · omega
  refine ⟨h1.trans (Chg.of_grown hg (fun k e => .inr (hr k e).1)), Sec, fun k hk => (h2 k hk).imp (fun a => a) (fun ⟨a, o, ho, hc⟩ => ⟨a, o, (hg.block k (Array.getElem?_eq_some_iff.1 ho).1 (hne k (.inl hk) (Array.getElem?_eq_some_iff.1 ho).1)).trans ho, hc⟩), ?_⟩
  · refine Kd.N_step h3 (fun k hk hlt => hg.block k hlt (hne k ?_ hlt))
    rcases hk with hk | hk
    · exact .inl hk
    · simp [Value.ownBlock] at hk
      exact .inr hk
/-- The round's store. -/
theorem CrI.next {d : DS} {m : Nat} {f : Nat → Int} {w0 : World} {q B0 n c : Nat} {Sec0 : Nat → Prop} {pre : List Nat} {x : Nat} {W W1 : World} {A3 : Option Addr} {c3 : Nat} (hO : d.Ok m) (hW : 0 < d.W.length) (hf : ∀ i, 0 ≤ f i ∧ f i ≤ 256) (hq : q < B0) (hS0 : ∀ k, Sec0 k → k ≠ q) (hn : n = d.D.length)
    (h : CrI d f w0 q B0 n c Sec0 pre W) (hb : Below W.heap.size W W1) (hB : B0 ≤ W.heap.size) (h3 : 256 ≤ c3)
    (hF : Kd.F (Kd.int .u8) W1 (fun j => W.heap.size ≤ j ∧ ∃ o, W1.heap[j]? = some o ∧ o.isCells = true) A3 256 (partL ((crL d f pre).getD (wAt d x) []) (wS d x) (f x))) :
    KeepsFrom B0 W (W1.setCell ⟨q, wAt d x, none⟩ (.slice A3 256 c3)) ∧ Kq q B0 W (W1.setCell ⟨q, wAt d x, none⟩ (.slice A3 256 c3)) ∧ CrI d f w0 q B0 n c Sec0 (pre ++ [x]) (W1.setCell ⟨q, wAt d x, none⟩ (.slice A3 256 c3)) := by
  obtain ⟨k1, Sec, k2, k3⟩ := h
  have hw := w_ok hO hW x
  have hl : wAt d x < (crL d f pre).length := by rw [crL_len]; exact hw.1
  have hp : (partL ((crL d f pre).getD (wAt d x) []) (wS d x) (f x)).length = 256 := by
    refine partL_len ?_ hw.2.1 (hf x).1 (hf x).2
    rw [List.getD_eq_getElem?_getD, List.getElem?_eq_getElem hl]
    exact crL_256 f hO hW hf pre _ (List.getElem_mem hl)
  generalize hP : partL ((crL d f pre).getD (wAt d x) []) (wS d x) (f x) = P at *
  have hk3 : Rw kS 22 W1 (.slice (some ⟨q, 0, none⟩) n c) (fun k => Sec k ∨ (W.heap.size ≤ k ∧ ∃ o, W1.heap[k]? = some o ∧ o.isCells = true)) (crL d f pre) := Rw.mono (Kd.N_below k3 hb) (fun k hk => .inl hk)
  rw [← hp] at hF
  have hs := Rw.set hk3 (wAt d x) (by omega) (by rw [hp]; exact h3) (Kd.F_mono hF (fun k hk => .inr hk)) (fun k hk => by
    rcases hk with hk | ⟨hk, _⟩
    · rcases k2 k hk with ⟨a, _⟩ | ⟨a, _⟩
      · exact hS0 k a
      · omega
    · omega)
  rw [hp] at hs
  obtain ⟨hs, hg⟩ := hs
  have hq2 : Kq q B0 W (W1.setCell ⟨q, wAt d x, none⟩ (.slice A3 256 c3)) := Kq.trans (Chg.of_new hb _) (Chg.of_grown hg (fun k e => by cases e; exact .inl rfl))
  have hcl : ∀ k o, k ≠ q → W1.heap[k]? = some o → (W1.setCell ⟨q, wAt d x, none⟩ (.slice A3 256 c3)).heap[k]? = some o := fun k o hk ho => (hg.block k (Array.getElem?_eq_some_iff.1 ho).1 (fun e => by cases e; exact hk rfl)).trans ho
  refine ⟨KeepsFrom.trans (Y := W1) ⟨hb.size, fun k o _ ho _ => (hb.block k (Array.getElem?_eq_some_iff.1 ho).1).trans ho⟩ (KeepsFrom.of_grownBy hg (fun j e => by cases e; exact hq)), hq2, k1.trans hq2, _, ?_, by rw [crL_snoc, hP]; exact hs⟩
  rintro k (hk | ⟨hk, o, ho, hc⟩)
  · rcases k2 k hk with a | ⟨a, o, ho, hc⟩
    · exact .inl a
    · exact .inr ⟨a, o, hcl k o (by omega) ((hb.block k (Array.getElem?_eq_some_iff.1 ho).1).trans ho), hc⟩
  · exact .inr ⟨by omega, o, hcl k o (by omega) ho, hc⟩
/-! #### what stands at the loop's head -/
theorem Rw.write {w : World} {A : Option Addr} {c n : Nat} {Sec : Nat → Prop} {xs : List (Int × List Int)} (h : Rw kWr 59 w (.slice A n c) Sec xs) (i : Nat) (hi : i < n) :
    ∃ q A1 c1, A = some ⟨q, 0, none⟩ ∧ w.cell? ⟨q, i * 2, none⟩ = some (.int .i64 (xs.getD i (0, [])).1) ∧ w.cell? ⟨q, i * 2 + 1, none⟩ = some (.slice A1 (xs.getD i (0, [])).2.length c1) ∧ (xs.getD i (0, [])).2.length ≤ c1 ∧ Kd.F (Kd.int .u8) w (fun k => Sec k ∧ k < w.heap.size) A1 (xs.getD i (0, [])).2.length (xs.getD i (0, [])).2 := by
  have hn : n = xs.length := (Kd.N_reads' h).1
  subst hn
  obtain ⟨q, cap, e, _⟩ := Kd.N_form h (by omega)
  injection e with e1 e2 e3
  subst e1 e3
  obtain ⟨cs, hcl, hFK, hcell, hfr⟩ := Kd.N_elem h (0, []) (i : Int) (by omega) (by omega)
  rw [show ((i : Int)).toNat = i by omega] at hFK hcell hfr
  obtain ⟨A1, c1, rfl, hl, hF⟩ := kWr_open hFK
  have hc0 := hcell 0 _ rfl
  have hc1 := hcell 1 _ rfl
  simp only [show kWr.sz = 2 from rfl, Nat.add_zero] at hc0 hc1
  exact ⟨q, A1, c1, rfl, hc0, hc1, hl, Kd.F_mono (Kd.F_bound hF) (fun k hk => ⟨hk.1.1.elim (fun a => a) (fun a => absurd (by simpa [Value.ownBlock] using a) hk.1.2), hk.2⟩)⟩
/-- The writes that wait, each with its sector's place. -/
theorem waits_at {w : World} {Aw : Option Addr} {cw m : Nat} {Sec : Nat → Prop} {d : DS} (h : Rw kWr 59 w (.slice Aw d.W.length cw) Sec d.W) (hO : d.Ok m) :
    ∃ (va : Nat → Option Addr) (vc : Nat → Nat), (∀ i, i < d.W.length → ∃ qw, Aw = some ⟨qw, 0, none⟩ ∧ w.cell? ⟨qw, i * 2, none⟩ = some (.int .i64 ((wAt d i : Nat) : Int)) ∧ w.cell? ⟨qw, i * 2 + 1, none⟩ = some (.slice (va i) 256 (vc i))) ∧
      ∀ i, 0 < d.W.length → 256 ≤ vc i ∧ Kd.F (Kd.int .u8) w (fun k => Sec k ∧ k < w.heap.size) (va i) 256 (wS d i) := by
  have hel : ∀ i, ∃ p : Option Addr × Nat, 0 < d.W.length → (∃ qw, Aw = some ⟨qw, 0, none⟩ ∧ w.cell? ⟨qw, min i (d.W.length - 1) * 2, none⟩ = some (.int .i64 ((wAt d i : Nat) : Int)) ∧ w.cell? ⟨qw, min i (d.W.length - 1) * 2 + 1, none⟩ = some (.slice p.1 256 p.2)) ∧ 256 ≤ p.2 ∧ Kd.F (Kd.int .u8) w (fun k => Sec k ∧ k < w.heap.size) p.1 256 (wS d i) := by
    intro i
    by_cases hp : 0 < d.W.length
    · obtain ⟨q, A1, c1, h1, h2, h3, h4, h5⟩ := Rw.write h (min i (d.W.length - 1)) (by omega)
      obtain ⟨_, k2, k3⟩ := w_ok hO hp i
      unfold wS at k2 ⊢
      rw [k2] at h3 h4 h5
      rw [← k3] at h2
      exact ⟨(A1, c1), fun _ => ⟨⟨q, h1, h2, h3⟩, h4, h5⟩⟩
    · exact ⟨(none, 0), fun h => absurd h hp⟩
  obtain ⟨p, hp⟩ := Classical.axiomOfChoice hel
  refine ⟨fun i => (p i).1, fun i => (p i).2, fun i hi => ?_, fun i hi => (hp i hi).2⟩
  have := (hp i (by omega)).1
  rwa [show min i (d.W.length - 1) = i by omega] at this
theorem cloneQ (n : Nat) (Ad : Option Addr) (cd : Nat) (l : List (List Int)) (Sec : Nat → Prop) (w : World) (h : Rw kS 22 w (.slice Ad n cd) Sec l) (hn : l.length = n) (h0 : 0 < n) (h1 : n ≤ 4096) :
    Calls Try.prog 24 #[.slice Ad n cd] w fun e w' => ∃ q c, e = .returned (.slice (some ⟨q, 0, none⟩) n c) ∧ w.heap.size ≤ q ∧ q < w'.heap.size ∧ Rw kS 22 w' (.slice (some ⟨q, 0, none⟩) n c) (fun k => (Sec k ∨ w.heap.size ≤ k) ∧ k ≠ q) l ∧ Below w.heap.size w w' := by
  subst hn
  refine (cloneS Ad cd l Sec w h (by omega)).mono ?_
  rintro e w' ⟨v, rfl, hR, hlow, hb⟩
  obtain ⟨q, c, rfl, _, hq, _⟩ := Kd.N_form hR h0
  exact ⟨q, c, rfl, hlow q rfl, hq, Rw.mono hR (fun k hk => ⟨hk.1, fun e => hk.2 (by rw [e]; rfl)⟩), hb⟩
theorem four_allocs (w : World) (o0 o1 o2 o3 : Obj) {W : World} (hW : (((w.alloc o0).alloc o1).alloc o2).alloc o3 = W) :
    W.heap[w.heap.size]? = some o0 ∧ W.heap[w.heap.size + 1]? = some o1 ∧ W.heap[w.heap.size + 1 + 1]? = some o2 ∧ W.heap[w.heap.size + 1 + 1 + 1]? = some o3 ∧ W.heap.size = w.heap.size + 4 ∧ Below w.heap.size w W := by
  subst hW
  refine ⟨?_, ?_, ?_, ?_, by simp, (((below_alloc (Below.refl _ w) _).alloc (by simp) _).alloc (by simp; omega) _).alloc (by simp; omega) _⟩
  · rw [Below.heap_alloc _ _ _ (by simp; omega), Below.heap_alloc _ _ _ (by simp; omega), Below.heap_alloc _ _ _ (by simp)]; exact World.alloc_heap_new _ _
  · rw [Below.heap_alloc _ _ _ (by simp), Below.heap_alloc _ _ _ (by simp)]
    have := World.alloc_heap_new (w.alloc o0) o1; rwa [World.size_alloc] at this
  · rw [Below.heap_alloc _ _ _ (by simp)]
    have := World.alloc_heap_new ((w.alloc o0).alloc o1) o2; simpa only [World.size_alloc] using this
  · have := World.alloc_heap_new (((w.alloc o0).alloc o1).alloc o2) o3; simpa only [World.size_alloc] using this
theorem DkAt.made2 {B : Nat} {wr w2 : World} {g : Nat} {D : List (List Int)} {vd v : Value} {Sec : Nat → Prop} (hb : wr.heap[g]? = some (.cells #[vd, .slice none 0 0, .slice none 0 0, .bool false, .bool false, .int .i64 0] 55 (0, 0))) (hg : B ≤ g)
    (hR : Rw kS 22 wr vd Sec D) (hsg : ¬ Sec g) (hsd : ∀ k, Sec k → vd.ownBlock ≠ some k) (hlow : ∀ j, vd.ownBlock = some j → B ≤ j ∧ j ≠ g)
    (hb2 : Below wr.heap.size wr w2) (hv : Rw kS 22 w2 v (fun k => (Sec k ∨ wr.heap.size ≤ k) ∧ v.ownBlock ≠ some k) D) (hvl : ∀ k, v.ownBlock = some k → wr.heap.size ≤ k) (hB : B ≤ wr.heap.size) :
    ∃ Rs Sec', DkAt (w2.setCell ⟨g, 1, none⟩ v) g Rs Sec' ⟨D, D, [], false, false, 0⟩ vd v (.slice none 0 0) ∧ (∀ k, Rs k → k = g ∨ vd.ownBlock = some k ∨ v.ownBlock = some k) ∧ (∀ k, Sec' k → Sec k ∨ wr.heap.size ≤ k) := by
  have hgl : g < wr.heap.size := (Array.getElem?_eq_some_iff.1 hb).1
  have hc2 : Chg (fun _ => False) wr w2 := Chg.of_new hb2 _
  have hc5 : Chg (fun k => k = g) w2 (w2.setCell ⟨g, 1, none⟩ v) := (Chg.refl (fun k => k = g) w2).set (p := ⟨g, 1, none⟩) (.inl rfl) _
  have hbb := hc2.obj hb (fun x => x)
  have hvlt := Kd.N_lt hv
  have hdl := Kd.N_lt hR
  have hvg : ∀ k, v.ownBlock = some k → ¬ k = g := fun k hk e => by have := hvl k hk; omega
  refine ⟨fun k => k = g ∨ vd.ownBlock = some k ∨ v.ownBlock = some k, fun k => (Sec k ∨ wr.heap.size ≤ k) ∧ k < w2.heap.size ∧ ¬ (k = g ∨ vd.ownBlock = some k ∨ v.ownBlock = some k), ⟨(six_set hbb v).2.1, ?_, ?_, Kd.N_nil _ _ _ _ _, ?_, ?_, .inl rfl, fun k hk => .inr (.inl hk), fun k hk => .inr (.inr hk), (fun k e => by cases e), fun k hk => hk.2.2⟩, ?_, fun k hk => hk.1⟩
  · refine Rw.step (Rw.renew hR hc2 (fun _ _ x => x) (fun _ _ x => x) (fun k hk hlt => ⟨.inl hk, Nat.lt_of_lt_of_le hlt hb2.size, ?_⟩)) hc5 (fun k hk e => hk.2.2 (.inl e)) (fun k hk e => (hlow k hk).2 e)
    rintro (rfl | q | q)
    · exact hsg hk
    · exact hsd k hk q
    · have := hvl k q; omega
  · refine Rw.step (Kd.N_mono (Kd.N_bound hv) (fun k hk => ?_)) hc5 (fun k hk e => hk.2.2 (.inl e)) hvg
    rcases hk.1 with a | a
    · refine .inl ⟨a.1, hk.2, ?_⟩
      rintro (rfl | q | q)
      · rcases a.1 with b | b
        · exact hsg b
        · omega
      · rcases a.1 with b | b
        · exact hsd k b q
        · have := hdl k q; omega
      · exact a.2 q
    · exact .inr a
  · exact fun k hk e => by have := hdl k hk; have := hvl k e; omega
  · have := hb2.size
    have := hc5.size
    rintro k (rfl | e | e)
    · omega
    · have := hdl k e; omega
    · have := hvlt k e; omega
  · exact fun k hk => hk
end Go.Proofs.Ytfaflgdhffkaiaa.Print
