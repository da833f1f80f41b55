/- disk.Crash: the walk. -/
import Derived.Test.YtfaflgdhffkaiaaDiskCa
import Derived.Test.YtfaflgdhffkaiaaHeldIn
import Derived.Stop.RegionWithIn
import Derived.Shelf.RegionOpen
namespace Go.Proofs.Ytfaflgdhffkaiaa.Print
open Go.RowKit Go.Shelf Go.Proofs.YtfaflgdhffkaiaaW.PrintWords Go.Proofs.YtfaflgdhffkaiaaW.PrintLast Go.Proofs.YtfaflgdhffkaiaaW.PrintMore
attribute [local go_sem] Oper.semAt_some
set_option linter.unusedVariables false
set_option linter.unusedSimpArgs false
set_option maxHeartbeats 1000000 in
theorem kept_mk (F : Fence) (n : Nat) (hf : F.fn 35) (hro : F.round = none) (g : Nat) (Ak : Option Addr) (nk ck : Nat) (torn kk : Int) (w : World) :
    CallsIn F n Try.prog 35 #[.pointer (some ⟨g, 0, none⟩), .agg #[.slice Ak nk ck, .int .i64 torn, .int .i64 kk]] w fun e w' => e = .returned (.func (.func 48) #[] #[.pointer (some ⟨w.heap.size, 0, none⟩), .pointer (some ⟨w.heap.size + 1, 0, none⟩)]) ∧
      w' = (w.alloc (.cells #[.pointer (some ⟨g, 0, none⟩)] 24)).alloc (.cells #[.slice Ak nk ck, .int .i64 torn, .int .i64 kk] 46) := by
  refine callsIn_of_wp Try.func35 rfl hf ?_ hro
  simp only [Try.ntmps35, List.size_toArray, List.length_cons, List.length_nil, Nat.reduceAdd, Nat.reduceSub, Array.replicate_succ, Array.replicate_zero, List.push_toArray, List.append_toArray, List.nil_append, List.cons_append]
  gi_wp2
  go_ret
  exact ⟨by simp, rfl⟩
open HeldIn in
set_option maxHeartbeats 400000 in
set_option maxRecDepth 100000 in
theorem crash_walk (g : Nat) (Rs Sec : Nat → Prop) (d : DS) (m : Nat) (Ak : Option Addr) (nk ck : Nat) (kb : Nat → Bool) (torn kk : Int) (w : World) (h : Dk w g Rs Sec d) (hO : d.Ok m) (hm : m ≤ 100000) (h1 : 0 < d.D.length) (hnk : nk ≤ 9223372036854775807)
    (hK : ∀ j, j < nk → ∃ ak, Ak = some ak ∧ w.cell? (ak.add j) = some (.bool (kb j))) :
    CallsIn Fence.wide 5 Try.prog 18 #[.pointer (some ⟨g, 0, none⟩), .agg #[.slice Ak nk ck, .int .i64 torn, .int .i64 kk]] w fun e w' => ∃ g2 Rs2 Sec2, e = .returned (.pointer (some ⟨g2, 0, none⟩)) ∧ w.heap.size ≤ g2 ∧ Dk w' g2 Rs2 Sec2 (crashD d (kf kb nk torn kk)) ∧
      (∀ k, Rs2 k → w.heap.size ≤ k) ∧ (∀ k, Sec2 k → Sec k ∨ w.heap.size ≤ k) ∧ Below w.heap.size w w' := by
  obtain ⟨vd, vl, vw, hk⟩ := h
  obtain ⟨Ad, cd, rfl, _, _⟩ := hk.rd.reads
  obtain ⟨Aw, cw, rfl, _, _⟩ := hk.rw_.reads
  have hmx := hO.max
  have hnw := hO.many
  have hCl : ∀ W, Below w.heap.size w W → _ := fun W hb => cloneQ _ Ad cd d.D Sec W (Kd.N_below hk.rd hb) rfl h1 hmx
  obtain ⟨va, vc, hel, hwF⟩ := waits_at hk.rw_ hO
  have hgl := hk.lt
  have hblk := Aside0.mk hk.blk
  obtain ⟨b0, b1, b2, _⟩ := six_cells hk.blk
  replace hCl := Aside0.mk hCl
  replace hK := Aside0.mk hK
  replace hel := Aside0.mk hel
  replace hwF := Aside0.mk hwF
  generalize hn : d.D.length = n at *
  generalize hnwe : d.W.length = nw at *
  have hO := Aside0.mk hO
  replace hn := Aside0.mk hn
  replace hnwe := Aside0.mk hnwe
  replace hk := Aside0.mk hk
  refine callsIn_of_wp_marks Try.func18 rfl trivial ?_ rfl
  simp only [Try.ntmps18, List.size_toArray, List.length_cons, List.length_nil, Nat.reduceAdd, Nat.reduceSub, Array.replicate_succ, Array.replicate_zero, List.push_toArray, List.append_toArray, List.nil_append, List.cons_append]
  gi_wp2
  refine ⟨trivial, CallsIn.mono (callsIn_wide.2 (hCl.out _ (below_alloc (Below.refl _ _) _))) ?_⟩
  rintro e w2 ⟨q, c, rfl, hq, hq2, hR, hb2⟩
  have hs2 := hb2.size
  rw [World.size_alloc] at hq hR hb2 hs2
  have y0 := (hb2.block w.heap.size (by omega)).trans (World.alloc_heap_new w _)
  have hb2' : Below w.heap.size w w2 := (below_alloc (Below.refl _ w) _).trans (hb2.mono (by omega))
  replace hR := Aside0.mk hR
  replace hb2' := Aside0.mk hb2'
  clear hb2
  have z0 : w2.cell? ⟨w.heap.size, 0, none⟩ = some (.slice Ak nk ck) := (blk_cell y0 0).trans rfl
  have z1 : w2.cell? ⟨w.heap.size, 1, none⟩ = some (.int .i64 torn) := (blk_cell y0 1).trans rfl
  have z2 : w2.cell? ⟨w.heap.size, 2, none⟩ = some (.int .i64 kk) := (blk_cell y0 2).trans rfl
  have al : ∀ {a : Addr} {v : Value}, w2.cell? a = some v → ((w2.alloc (.cells #[.slice (some ⟨q, 0, none⟩) n c, .slice none 0 0, .slice none 0 0, .bool false, .bool false, .int .i64 0] 55)).alloc (.cells #[.pointer (some ⟨w2.heap.size, 0, none⟩)] 24)).cell? a = some v := fun h => pw_cell_below (below_alloc (below_alloc (Below.refl _ _) _) _) h
  have z0 := al z0
  have z1 := al z1
  have z2 := al z2
  clear al
  gi_wp2
  refine ⟨trivial, (kept_mk Fence.wide _ trivial rfl _ _ _ _ _ _ _).mono ?_⟩
  rintro e w' ⟨rfl, rfl⟩
  gi_wp2
  obtain ⟨W0, hW0⟩ : ∃ W0, (((w2.alloc (.cells #[.slice (some ⟨q, 0, none⟩) n c, .slice none 0 0, .slice none 0 0, .bool false, .bool false, .int .i64 0] 55)).alloc (.cells #[.pointer (some ⟨w2.heap.size, 0, none⟩)] 24)).alloc (.cells #[.pointer (some ⟨g, 0, none⟩)] 24)).alloc (.cells #[.slice Ak nk ck, .int .i64 torn, .int .i64 kk] 46) = W0 := ⟨_, rfl⟩
  obtain ⟨x0, x1, x2, x3, sz, hb0⟩ := four_allocs _ _ _ _ _ hW0
  rw [hW0]
  clear hW0 z0 z1 z2 y0
  have hbw0 : Below w.heap.size w W0 := hb2'.out.trans (hb0.mono (by omega))
  have hI0 : CrI d (kf kb nk torn kk) W0 q W0.heap.size n c (fun k => (Sec k ∨ w.heap.size + 1 ≤ k) ∧ k ≠ q ∧ k < w2.heap.size) [] W0 :=
    ⟨Chg.refl _ _, _, fun k hk => .inl hk, Rw.renew hR.out (Chg.of_new hb0 (fun _ => False)) (fun _ _ x => x) (fun _ _ x => x) (fun k hk hlt => ⟨⟨hk.1, hk.2, hlt⟩, by omega⟩)⟩
  generalize w2.heap.size = G at *
  have hF0 : ∀ X, Kq q W0.heap.size W0 X → ItF (G + 1 + 1) g (G + 1 + 1 + 1) nw cw nk ck Aw Ak (fun i => ((wAt d i : Nat) : Int)) va (fun _ => 256) vc kb torn kk X := by
    intro X hX
    have hwX : Below w.heap.size w X := hbw0.trans (Chg.below hX (fun k hk => by omega) (by omega))
    have e2 := Chg.obj hX x2 (by omega)
    have e3 := Chg.obj hX x3 (by omega)
    refine ⟨(one_cell e2).1, pw_cell_below hwX b2, fun i hi => ?_, (blk_cell e3 0).trans rfl, (blk_cell e3 1).trans rfl, (blk_cell e3 2).trans rfl, fun j hj => ?_⟩
    · obtain ⟨qw, h1, h2, h3⟩ := hel.out i hi
      exact ⟨qw, h1, pw_cell_below hwX h2, pw_cell_below hwX h3⟩
    · obtain ⟨ak, h1, h2⟩ := hK.out j hj
      exact ⟨ak, h1, pw_cell_below hwX h2⟩
  generalize hf : kf kb nk torn kk = f at *
  replace hf := Aside0.mk hf
  refine wpIn_rangeFunc_ownH (α := Nat) rfl (by omega) (gf := 48) (lb := #[.pointer (some ⟨G + 1 + 1, 0, none⟩), .pointer (some ⟨G + 1 + 1 + 1, 0, none⟩)]) rfl trivial (enters_of Try.func48 (by kernel_rfl) rfl)
    (encs := fun x : Nat => #[.agg #[.int .i64 ((wAt d x : Nat) : Int), .slice (va x) 256 (vc x)], .int .i64 (f x)]) (Kp := Kq q W0.heap.size) (S := fun xs => xs = List.range nw) (Sp := fun _ => True) (N := nw) (w0 := W0) ?seq (fun h k => Kq.trans h k) (fun W l o o' hl ho a b => Kq.put W l o o' hl ho a b) (Below.refl _ _) (fun _ => rfl)
    (CrI d f W0 q W0.heap.size n c (fun k => (Sec k ∨ w.heap.size + 1 ≤ k) ∧ k ≠ q ∧ k < G)) (fun _ _ _ => False) (CrI.own _ _ _ _ _ _ _ _ (by omega)) (fun _ _ _ _ _ h => h.elim) hI0
    (fun x a' W => ∃ b, W0.heap.size ≤ b ∧ W.heap[b]? = some (.cells #[.int .i64 ((wAt d x : Nat) : Int), .slice (va x) 256 (vc x)] 59 (0, 0)) ∧ a' = { tmps := #[.pointer (some ⟨g, 0, none⟩), .agg #[.slice Ak nk ck, .int .i64 torn, .int .i64 kk], undef, .pointer (some ⟨w.heap.size, 0, none⟩), .pointer none, .pointer (some ⟨G + 1, 0, none⟩), .pointer (some ⟨b, 0, none⟩), .int .i64 (f x),
      .pointer (some ⟨g, 0, none⟩), .bool false, .pointer (some ⟨g, 0, none⟩), .pointer (some ⟨g, 0, none⟩), .pointer (some ⟨g, 0, none⟩), .slice Ad n cd, .slice (some ⟨q, 0, none⟩) n c, .agg #[.slice (some ⟨q, 0, none⟩) n c, .slice none 0 0, .slice none 0 0, .bool false, .bool false, .int .i64 0], .pointer (some ⟨G, 0, none⟩), .pointer (some ⟨g, 0, none⟩), .agg #[.slice Ak nk ck, .int .i64 torn, .int .i64 kk],
      .func (.func 48) #[] #[.pointer (some ⟨G + 1 + 1, 0, none⟩), .pointer (some ⟨G + 1 + 1 + 1, 0, none⟩)], .agg #[.int .i64 ((wAt d x : Nat) : Int), .slice (va x) 256 (vc x)], .int .i64 (f x), undef, undef, undef, undef, undef, undef, undef, undef, undef, undef, undef, undef, undef, undef, undef, undef, undef, undef, undef, undef, undef, undef, undef, undef, undef, undef, undef, undef, undef, undef, undef], defers := [] })
    ?ax ?assign ?body ?done ?stop
  case seq =>
    intro l J Jx W hbW hJ hJx hY h0
    rw [← hf.out] at hY
    exact kept_it Fence.wide _ trivial rfl (by omega) q W0.heap.size (G + 1 + 1) g (G + 1 + 1 + 1) nw cw nk ck Aw Ak _ va _ vc kb torn kk l J Jx W (fun s A o h => hJ s A _ none h (World.grownBy_alloc A o none) (fun r e => by cases e)) (fun s A m h => hJ s A _ none h ⟨rfl, rfl, rfl, Nat.le_refl _, fun _ _ _ => rfl⟩ (fun r e => by cases e)) hbW.size (by omega) hnk (fun X hX => hF0 X (Kq.trans (Chg.of_new hbW _) hX)) hY h0
  case ax =>
    rintro x a' _ W W' row ⟨b, hb, hh, e⟩ hg hr
    refine ⟨b, hb, (hg.block b (Array.getElem?_eq_some_iff.1 hh).1 (fun e => ?_)).trans hh, e⟩
    obtain ⟨_, o, ho, hc⟩ := hr b e.symm
    rw [hh] at ho
    cases ho
    cases hc
  case assign =>
    intro l pre x W K hI hK2
    have hW1 := hI.1.size
    replace hI := Aside0.mk hI
    replace hK2 := Aside0.mk hK2
    gi_wp2
    exact hK2.out _ _ (KeepsFrom.of_grownBy (World.grownBy_alloc W _ none) (fun j e => by cases e)) (Chg.of_new (below_alloc (Below.refl _ _) _) _) ((CrI.own d f W0 q _ n c _ (by omega)).alloc _ hI.out) ⟨_, hW1, World.alloc_heap_new W _, rfl⟩
  case body =>
    rintro l pre x a' W hl hlr hI ⟨b, hB, hbb, rfl⟩ hN
    have hnw0 : 0 < nw := by omega
    have hff : ∀ i, 0 ≤ f i ∧ f i ≤ 256 := fun i => by rw [← hf.out]; exact kf_ok kb nk torn kk i
    have hW1 := hI.1.size
    have e1 := (one_cell (Chg.obj hI.1 x1 (by omega))).1
    have e0 := (six_cells (Chg.obj hI.1 x0 (by omega))).1
    have c0 : W.cell? ⟨b, 0, none⟩ = some (.int .i64 ((wAt d x : Nat) : Int)) := (blk_cell hbb 0).trans rfl
    have c1 : W.cell? ⟨b, 1, none⟩ = some (.slice (va x) 256 (vc x)) := (blk_cell hbb 1).trans rfl
    obtain ⟨hw1, hw2, -⟩ := w_ok hO.out (by rw [hnwe.out]; exact hnw0) x
    rw [hn.out] at hw1
    obtain ⟨hv1, hv2⟩ := hwF.out x hnw0
    have hnext := Aside0.mk (fun W1 A3 c3 => CrI.next (x := x) (W1 := W1) (A3 := A3) (c3 := c3) hO.out (by rw [hnwe.out]; exact hnw0) hff (by omega) (fun k hk => hk.2.1) hn.out.symm hI)
    have hP := hff x
    have hwW : Below w.heap.size w W := hbw0.trans (Chg.below hI.1 (fun k hk => by omega) (by omega))
    obtain ⟨-, Sec2, -, hRw⟩ := hI
    have hDl : ((crL d f pre).getD (wAt d x) []).length = 256 := by
      have hl2 : wAt d x < (crL d f pre).length := by rw [crL_len, hn.out]; exact hw1
      rw [List.getD_eq_getElem?_getD, List.getElem?_eq_getElem hl2]
      exact crL_256 f hO.out (by rw [hnwe.out]; exact hnw0) hff pre _ (List.getElem_mem hl2)
    obtain ⟨q', A1, cc1, eq', hsc, hsf, hsl, hsF⟩ := Rw.sector hRw (wAt d x) hw1
    obtain rfl : q = q' := by injection eq' with a; injection a
    rw [hDl] at hsc hsl hsF
    have hpart := Aside0.mk (part_any Sec2 _ A1 (va x) cc1 (vc x) _ _ (f x) W.drew hDl hw2 hP.1 hP.2 hsl hv1 (Kd.F_drew hsF) (Kd.F_below hv2 (hwW.trans (below_drew (Below.refl _ _)))))
    clear hRw hsF hv2 hff hN hw2 hDl eq' hI0 hF0
    generalize wAt d x = ix at *
    generalize f x = fx at *
    have hqW : q < W.heap.size := by omega
    gi_wp2
    refine wpIn_held_round (S := (fun w' => w'.cell? ⟨G + 1, 0, none⟩ = some (.pointer (some ⟨G, 0, none⟩)) ∧ w'.cell? ⟨G, 0, none⟩ = some (.slice (some ⟨q, 0, none⟩) n c) ∧ w'.cell? ⟨b, 0, none⟩ = some (.int .i64 ((ix : Nat) : Int)) ∧ w'.cell? ⟨b, 1, none⟩ = some (.slice (va x) 256 (vc x)))) (by kernel_rfl) (by kernel_rfl) ⟨e1, e0, c0, c1⟩ (fun hHeld => ?_)
    refine wpAnyH_take (i := 0) (v := ?_) rfl (by kernel_rfl) (by kernel_rfl) (by kernel_rfl) (fun _ _ _ h => h) (Or.inl ⟨by rfl, ?_⟩) (by assumption) ?_
    rotate_left
    · intro w hSw
      (try dsimp only at hSw)
      go_simp
      try with_reducible rfl
    try simp only [Act.put, List.setIfInBounds_toArray, List.set_cons_zero, List.set_cons_succ]
    refine wpAnyH_take (i := 1) (v := ?_) rfl (by kernel_rfl) (by kernel_rfl) (by kernel_rfl) (fun _ _ _ h => h) (Or.inl ⟨by rfl, ?_⟩) (by assumption) ?_
    rotate_left
    · intro w hSw
      (try dsimp only at hSw)
      go_simp
      try with_reducible rfl
    try simp only [Act.put, List.setIfInBounds_toArray, List.set_cons_zero, List.set_cons_succ]
    refine wpAnyH_take (i := 2) (v := ?_) rfl (by kernel_rfl) (by kernel_rfl) (by kernel_rfl) (fun _ _ _ h => h) (Or.inl ⟨by rfl, ?_⟩) (by assumption) ?_
    rotate_left
    · intro w hSw
      (try dsimp only at hSw)
      go_simp
      try with_reducible rfl
    try simp only [Act.put, List.setIfInBounds_toArray, List.set_cons_zero, List.set_cons_succ]
    refine wpAnyH_take (i := 3) (v := ?_) rfl (by kernel_rfl) (by kernel_rfl) (by kernel_rfl) (fun _ _ _ h => h) (Or.inl ⟨by rfl, ?_⟩) (by assumption) ?_
    rotate_left
    · intro w hSw
      (try dsimp only at hSw)
      go_simp
      try with_reducible rfl
    try simp only [Act.put, List.setIfInBounds_toArray, List.set_cons_zero, List.set_cons_succ]
    refine wpAnyH_take (i := 4) (v := ?_) rfl (by kernel_rfl) (by kernel_rfl) (by kernel_rfl) (fun _ _ _ h => h) (Or.inl ⟨by rfl, ?_⟩) (by assumption) ?_
    rotate_left
    · intro w hSw
      (try dsimp only at hSw)
      go_simp
      try with_reducible rfl
    try simp only [Act.put, List.setIfInBounds_toArray, List.set_cons_zero, List.set_cons_succ]
    refine wpAnyH_take (i := 5) (v := ?_) rfl (by kernel_rfl) (by kernel_rfl) (by kernel_rfl) (fun _ _ _ h => h) (Or.inl ⟨by rfl, ?_⟩) (by assumption) ?_
    rotate_left
    · intro w hSw
      (try dsimp only at hSw)
      go_simp
      try with_reducible rfl
    try simp only [Act.put, List.setIfInBounds_toArray, List.set_cons_zero, List.set_cons_succ]
    refine wpAnyH_take (i := 6) (v := ?_) rfl (by kernel_rfl) (by kernel_rfl) (by kernel_rfl) (fun _ _ _ h => h) (Or.inl ⟨by rfl, ?_⟩) (by assumption) ?_
    rotate_left
    · intro w hSw
      (try dsimp only at hSw)
      go_simp
      try with_reducible rfl
    try simp only [Act.put, List.setIfInBounds_toArray, List.set_cons_zero, List.set_cons_succ]
    refine wpAnyH_take (i := 7) (v := ?_) rfl (by kernel_rfl) (by kernel_rfl) (by kernel_rfl) (fun _ _ _ h => h) (Or.inl ⟨by rfl, ?_⟩) (by assumption) ?_
    rotate_left
    · intro w hSw
      (try dsimp only at hSw)
      go_simp
      try with_reducible rfl
    try simp only [Act.put, List.setIfInBounds_toArray, List.set_cons_zero, List.set_cons_succ]
    refine wpAnyH_take (i := 8) (v := ?_) rfl (by kernel_rfl) (by kernel_rfl) (by kernel_rfl) (fun _ _ _ h => h) (Or.inl ⟨by rfl, ?_⟩) (by assumption) ?_
    rotate_left
    · intro w hSw
      (try dsimp only at hSw)
      go_simp
      try with_reducible rfl
    try simp only [Act.put, List.setIfInBounds_toArray, List.set_cons_zero, List.set_cons_succ]
    refine wpAnyH_take (i := 9) (v := ?_) rfl (by kernel_rfl) (by kernel_rfl) (by kernel_rfl) (fun _ _ _ h => h) (Or.inl ⟨by rfl, ?_⟩) (by assumption) ?_
    rotate_left
    · intro w hSw
      (try dsimp only at hSw)
      go_simp
      try with_reducible rfl
    try simp only [Act.put, List.setIfInBounds_toArray, List.set_cons_zero, List.set_cons_succ]
    refine wpAnyH_take (i := 10) (v := ?_) rfl (by kernel_rfl) (by kernel_rfl) (by kernel_rfl) (fun _ _ _ h => h) (Or.inl ⟨by rfl, ?_⟩) (by assumption) ?_
    rotate_left
    · intro w hSw
      (try dsimp only at hSw)
      go_simp
      try with_reducible rfl
    try simp only [Act.put, List.setIfInBounds_toArray, List.set_cons_zero, List.set_cons_succ]
    refine wpAnyH_take (i := 11) (v := ?_) rfl (by kernel_rfl) (by kernel_rfl) (by kernel_rfl) (fun _ _ _ h => h) (Or.inl ⟨by rfl, ?_⟩) (by assumption) ?_
    rotate_left
    · intro w hSw
      (try dsimp only at hSw)
      go_simp
      try with_reducible rfl
    try simp only [Act.put, List.setIfInBounds_toArray, List.set_cons_zero, List.set_cons_succ]
    refine wpAnyH_take (i := 12) (v := ?_) rfl (by kernel_rfl) (by kernel_rfl) (by kernel_rfl) (fun _ _ _ h => h) (Or.inl ⟨by rfl, ?_⟩) (by assumption) ?_
    rotate_left
    · intro w hSw
      (try dsimp only at hSw)
      go_simp
      try with_reducible rfl
    try simp only [Act.put, List.setIfInBounds_toArray, List.set_cons_zero, List.set_cons_succ]
    refine wpAnyH_take (i := 14) (v := ?_) rfl (by kernel_rfl) (by kernel_rfl) (by kernel_rfl) (fun _ _ _ h => h) (Or.inl ⟨by rfl, ?_⟩) (by assumption) ?_
    rotate_left
    · intro w hSw
      (try dsimp only at hSw)
      go_simp
      try with_reducible rfl
    try simp only [Act.put, List.setIfInBounds_toArray, List.set_cons_zero, List.set_cons_succ]
    refine wpAnyH_take (i := 15) (v := ?_) rfl (by kernel_rfl) (by kernel_rfl) (by kernel_rfl) (fun _ _ _ h => h) (Or.inl ⟨by rfl, ?_⟩) (by assumption) ?_
    rotate_left
    · intro w hSw
      (try dsimp only at hSw)
      go_simp
      try with_reducible rfl
    try simp only [Act.put, List.setIfInBounds_toArray, List.set_cons_zero, List.set_cons_succ]
    refine wpAnyH_take (i := 16) (v := ?_) rfl (by kernel_rfl) (by kernel_rfl) (by kernel_rfl) (fun _ _ _ h => h) (Or.inl ⟨by rfl, ?_⟩) (by assumption) ?_
    rotate_left
    · intro w hSw
      (try dsimp only at hSw)
      go_simp
      try with_reducible rfl
    try simp only [Act.put, List.setIfInBounds_toArray, List.set_cons_zero, List.set_cons_succ]
    refine wpAnyH_ready (rs := [13]) (by kernel_rfl) (by simp) (AllReadyH.cons rfl (fun K hK => ?_) AllReadyH.nil)
    go_simp
    refine hK.out _ _ ⟨e1, e0, c0, c1⟩ (fun hHeld => ?_)
    clear hK K
    try simp only [Act.put, List.setIfInBounds_toArray, List.set_cons_zero, List.set_cons_succ]
    refine wpAnyH_ready (rs := [17]) (by kernel_rfl) (by simp) (AllReadyH.cons rfl (fun K hK => ?_) AllReadyH.nil)
    go_simp
    go_at_call 36
    refine hpart.out.mono ?_
    rintro e W1 ⟨A3, c3, rfl, hl3, hF3, hb3⟩
    replace hF3 := Aside0.mk hF3
    have k1 := pw_cell_below hb3 e1
    have k0 := pw_cell_below hb3 e0
    have d0 := pw_cell_below hb3 c0
    have d1 := pw_cell_below hb3 c1
    have m0 := pw_cell_below hb3 hsc
    have m1 := (hb3.frozen (p := ⟨q, ix, none⟩) hqW).trans hsf
    replace hb3 := Aside0.mk hb3
    have s1 := fun u => (Go.Proofs.YtfaflgdhffkaiaaW.PrintWords.cell_far (W := W1) (p := ⟨q, ix, none⟩) (a := ⟨G + 1, 0, none⟩) (by show G + 1 ≠ q; omega) u).trans k1
    have s0 := fun u => (Go.Proofs.YtfaflgdhffkaiaaW.PrintWords.cell_far (W := W1) (p := ⟨q, ix, none⟩) (a := ⟨G, 0, none⟩) (by show G ≠ q; omega) u).trans k0
    have t0 := fun u => (Go.Proofs.YtfaflgdhffkaiaaW.PrintWords.cell_far (W := W1) (p := ⟨q, ix, none⟩) (a := ⟨b, 0, none⟩) (by show b ≠ q; omega) u).trans d0
    have t1 := fun u => (Go.Proofs.YtfaflgdhffkaiaaW.PrintWords.cell_far (W := W1) (p := ⟨q, ix, none⟩) (a := ⟨b, 1, none⟩) (by show b ≠ q; omega) u).trans d1
    go_wp2_with fail
    refine hK.out _ _ ⟨k1, k0, d0, d1⟩ (fun hHeld => ?_)
    clear hK K
    try simp only [Act.put, List.setIfInBounds_toArray, List.set_cons_zero, List.set_cons_succ]
    refine wpAnyH_take (i := 18) (v := ?_) rfl (by kernel_rfl) (by kernel_rfl) (by kernel_rfl) (fun _ _ _ h => h) (Or.inl ⟨by rfl, ?_⟩) (by assumption) ?_
    rotate_left
    · intro w hSw
      (try dsimp only at hSw)
      go_simp
      try with_reducible rfl
    try simp only [Act.put, List.setIfInBounds_toArray, List.set_cons_zero, List.set_cons_succ]
    refine wpAnyH_take (i := 19) (v := ?_) rfl (by kernel_rfl) (by kernel_rfl) (by kernel_rfl) (fun _ _ _ h => h) (Or.inl ⟨by rfl, ?_⟩) (by assumption) ?_
    rotate_left
    · intro w hSw
      (try dsimp only at hSw)
      go_simp
      try with_reducible rfl
    try simp only [Act.put, List.setIfInBounds_toArray, List.set_cons_zero, List.set_cons_succ]
    refine wpAnyH_take (i := 20) (v := ?_) rfl (by kernel_rfl) (by kernel_rfl) (by kernel_rfl) (fun _ _ _ h => h) (Or.inl ⟨by rfl, ?_⟩) (by assumption) ?_
    rotate_left
    · intro w hSw
      (try dsimp only at hSw)
      go_simp
      try with_reducible rfl
    try simp only [Act.put, List.setIfInBounds_toArray, List.set_cons_zero, List.set_cons_succ]
    refine wpAnyH_take (i := 21) (v := ?_) rfl (by kernel_rfl) (by kernel_rfl) (by kernel_rfl) (fun _ _ _ h => h) (Or.inl ⟨by rfl, ?_⟩) (by assumption) ?_
    rotate_left
    · intro w hSw
      (try dsimp only at hSw)
      go_simp
      try with_reducible rfl
    try simp only [Act.put, List.setIfInBounds_toArray, List.set_cons_zero, List.set_cons_succ]
    refine wpAnyH_ready (rs := [22]) (by kernel_rfl) (by simp) (AllReadyH.cons rfl (fun K hK => ?_) AllReadyH.nil)
    go_simp
    refine hK.out _ _ ⟨s1 _, s0 _, t0 _, t1 _⟩ (fun hHeld => ?_)
    clear hK K
    try simp only [Act.put, List.setIfInBounds_toArray, List.set_cons_zero, List.set_cons_succ]
    refine wpAnyH_done (by kernel_rfl) ?_ _
    all_goals (unfold OnlyN; gi_wp2)
    all_goals exact hnext.out W1 A3 c3 ((below_drew (Below.refl _ _)).trans hb3.out) hW1 hl3 hF3.out
  case done =>
    rintro D xs W hD rfl hI hKD
    have hW1 := hI.1.size
    have hDl : D < W.heap.size := (Array.getElem?_eq_some_iff.1 hKD).1
    have e1 := (one_cell (Chg.obj hI.1 x1 (by omega))).1
    have hG := Chg.obj hI.1 x0 (by omega)
    obtain ⟨e0, f4, _, _, _, _, _, f1, _⟩ := six_cells hG
    have hwW : Below w.heap.size w W := hbw0.trans (Chg.below hI.1 (fun k hk => by omega) (by omega))
    obtain ⟨-, Sec2, hS2, hRw⟩ := hI
    have hln : (crL d f (List.range nw)).length = n := by rw [crL_len, hn.out]
    have hRd := Kd.N_below hRw (below_drew (Below.refl _ _))
    have hcl := cloneS (some ⟨q, 0, none⟩) c (crL d f (List.range nw)) Sec2 W.drew (by rw [hln]; exact hRd) (by omega)
    have hfin := Aside0.mk (fun w2 v hb2 hv hvl => DkAt.made2 (B := w.heap.size) (wr := W.drew) (w2 := w2) (v := v) hG (by omega) hRd (fun k => by
        rcases hS2 G k with a | a
        · have := a.1.2.2; omega
        · omega) (fun k hk e => by
        simp [Value.ownBlock] at e
        rcases hS2 k hk with a | a
        · exact a.1.2.1 e.symm
        · omega) (fun j e => by simp [Value.ownBlock] at e; omega) hb2 hv hvl (by show w.heap.size ≤ W.heap.size; omega))
    have hsec := Aside0.mk (show ∀ k, Sec2 k → (Sec k ∨ w.heap.size ≤ k) ∧ k ≠ D from fun k hk => by
      rcases hS2 k hk with a | ⟨a, o, ho, hc⟩
      · exact ⟨a.1.1.imp (fun x => x) (fun x => by omega), by omega⟩
      · refine ⟨.inr (by omega), fun e => ?_⟩
        subst e
        rw [hKD] at ho
        cases ho
        cases hc)
    rw [hln] at hcl
    replace hcl := Aside0.mk hcl
    replace hS2 := Aside0.mk hS2
    clear hRw hRd hF0 hI0
    generalize hP : crL d f (List.range nw) = P at *
    have hQG : G < W.heap.size := by omega
    have hGa := Aside0.mk (show W.drew.heap[G]? = _ from hG)
    clear hG
    have hGG : G + 1 ≠ G := by omega
    gi_wp2
    refine wpIn_held_plain (S := (fun w' => w'.cell? ⟨G + 1, 0, none⟩ = some (.pointer (some ⟨G, 0, none⟩)) ∧ w'.cell? ⟨G, 0, none⟩ = some (.slice (some ⟨q, 0, none⟩) n c))) (by kernel_rfl) (by kernel_rfl) ⟨e1, e0⟩ (fun hHeld => ?_)
    refine wpAnyH_take (i := 0) (v := ?_) rfl (by kernel_rfl) (by kernel_rfl) (by kernel_rfl) (fun _ _ _ h => h) (Or.inl ⟨by rfl, ?_⟩) (by assumption) ?_
    rotate_left
    · intro w hSw
      (try dsimp only at hSw)
      go_simp
      try with_reducible rfl
    try simp only [Act.put, List.setIfInBounds_toArray, List.set_cons_zero, List.set_cons_succ]
    refine wpAnyH_take (i := 1) (v := ?_) rfl (by kernel_rfl) (by kernel_rfl) (by kernel_rfl) (fun _ _ _ h => h) (Or.inl ⟨by rfl, ?_⟩) (by assumption) ?_
    rotate_left
    · intro w hSw
      (try dsimp only at hSw)
      go_simp
      try with_reducible rfl
    try simp only [Act.put, List.setIfInBounds_toArray, List.set_cons_zero, List.set_cons_succ]
    refine wpAnyH_take (i := 2) (v := ?_) rfl (by kernel_rfl) (by kernel_rfl) (by kernel_rfl) (fun _ _ _ h => h) (Or.inl ⟨by rfl, ?_⟩) (by assumption) ?_
    rotate_left
    · intro w hSw
      (try dsimp only at hSw)
      go_simp
      try with_reducible rfl
    try simp only [Act.put, List.setIfInBounds_toArray, List.set_cons_zero, List.set_cons_succ]
    refine wpAnyH_take (i := 3) (v := ?_) rfl (by kernel_rfl) (by kernel_rfl) (by kernel_rfl) (fun _ _ _ h => h) (Or.inl ⟨by rfl, ?_⟩) (by assumption) ?_
    rotate_left
    · intro w hSw
      (try dsimp only at hSw)
      go_simp
      try with_reducible rfl
    try simp only [Act.put, List.setIfInBounds_toArray, List.set_cons_zero, List.set_cons_succ]
    refine wpAnyH_take (i := 4) (v := ?_) rfl (by kernel_rfl) (by kernel_rfl) (by kernel_rfl) (fun _ _ _ h => h) (Or.inl ⟨by rfl, ?_⟩) (by assumption) ?_
    rotate_left
    · intro w hSw
      (try dsimp only at hSw)
      go_simp
      try with_reducible rfl
    try simp only [Act.put, List.setIfInBounds_toArray, List.set_cons_zero, List.set_cons_succ]
    refine wpAnyH_ready (rs := [5]) (by kernel_rfl) (by simp) (AllReadyH.cons rfl (fun K hK => ?_) AllReadyH.nil)
    go_simp
    go_at_call 24
    refine hcl.out.mono ?_
    rintro e W2 ⟨v, rfl, hv, hvl, hb3⟩
    obtain ⟨A5, c5, rfl⟩ := Kd.N_slice hv
    replace hv := Aside0.mk hv
    replace hvl := Aside0.mk hvl
    have k1 := pw_cell_below hb3 e1
    have k0 := pw_cell_below hb3 e0
    have f2 := (hb3.frozen (p := ⟨G, 1, none⟩) hQG).trans f1
    have f3 := pw_cell_below hb3 f4
    have s1 := fun u => (Go.Proofs.YtfaflgdhffkaiaaW.PrintWords.cell_far (W := W2) (p := ⟨G, 1, none⟩) (a := ⟨G + 1, 0, none⟩) hGG u).trans k1
    have s0 := fun u => (six_cells (six_set (((hb3.block G hQG)).trans hGa.out) u).2.1).1
    replace hb3 := Aside0.mk hb3
    go_wp2_with fail
    refine hK.out _ _ ⟨k1, k0⟩ (fun hHeld => ?_)
    clear hK K
    try simp only [Act.put, List.setIfInBounds_toArray, List.set_cons_zero, List.set_cons_succ]
    refine wpAnyH_take (i := 6) (v := ?_) rfl (by kernel_rfl) (by kernel_rfl) (by kernel_rfl) (fun _ _ _ h => h) (Or.inl ⟨by rfl, ?_⟩) (by assumption) ?_
    rotate_left
    · intro w hSw
      (try dsimp only at hSw)
      go_simp
      try with_reducible rfl
    try simp only [Act.put, List.setIfInBounds_toArray, List.set_cons_zero, List.set_cons_succ]
    refine wpAnyH_take (i := 7) (v := ?_) rfl (by kernel_rfl) (by kernel_rfl) (by kernel_rfl) (fun _ _ _ h => h) (Or.inl ⟨by rfl, ?_⟩) (by assumption) ?_
    rotate_left
    · intro w hSw
      (try dsimp only at hSw)
      go_simp
      try with_reducible rfl
    try simp only [Act.put, List.setIfInBounds_toArray, List.set_cons_zero, List.set_cons_succ]
    refine wpAnyH_ready (rs := [8]) (by kernel_rfl) (by simp) (AllReadyH.cons rfl (fun K hK => ?_) AllReadyH.nil)
    go_simp
    refine hK.out _ _ ⟨s1 _, s0 _⟩ (fun hHeld => ?_)
    clear hK K
    try simp only [Act.put, List.setIfInBounds_toArray, List.set_cons_zero, List.set_cons_succ]
    refine wpAnyH_done (by kernel_rfl) ?_ _
    all_goals
      unfold OnlyN
      have r1 := s1 (.slice A5 n c5)
      gi_wp2
      rw [hln] at hv hvl
      obtain ⟨Rs2, Sec3, m1, m2, m3⟩ := hfin.out W2 (.slice A5 n c5) hb3.out hv.out hvl.out
      have hDS : crashD d f = ⟨P, P, [], false, false, 0⟩ := by unfold crashD; rw [hnwe.out, hP]
      have hDG : D ≠ G := by omega
      have hb4 := (below_drew (Below.refl W.heap.size W)).trans hb3.out
      have hK2 : (W2.setCell ⟨G, 1, none⟩ (.slice A5 n c5)).heap[D]? = some (.deferred (some [])) := (Below.heap_setCell W2 ⟨G, 1, none⟩ _ D hDG).trans ((hb4.block D hDl).trans hKD)
      have hD2 : D < (W2.setCell ⟨G, 1, none⟩ (.slice A5 n c5)).heap.size := (Array.getElem?_eq_some_iff.1 hK2).1
      have hbz : Below w.heap.size w (W2.setCell ⟨G, 1, none⟩ (.slice A5 n c5)) := (hwW.trans (hb4.mono (by omega))).trans (Chg.below ((Chg.refl (fun k => k = G) W2).set (p := ⟨G, 1, none⟩) (.inl rfl) _) (fun k e => by omega) (by have := hb4.size; omega))
      have hcD : Chg (fun k => k = D) (W2.setCell ⟨G, 1, none⟩ (.slice A5 n c5)) ((W2.setCell ⟨G, 1, none⟩ (.slice A5 n c5)).putObj D (.deferred none)) := Chg.of_grown (grownBy_putObj' _ D _) (fun k e => by cases e; rfl)
      have hst : Dk ((W2.setCell ⟨G, 1, none⟩ (.slice A5 n c5)).putObj D (.deferred none)) G Rs2 Sec3 (crashD d (kf kb nk torn kk)) := by
        rw [hf.out, hDS]
        refine ⟨_, _, _, m1.step hcD ?_ ?_⟩
        · rintro k hk rfl
          rcases m2 k hk with e | e | e
          · omega
          · simp [Value.ownBlock] at e; omega
          · have := hvl.out k e; have e2 : W.drew.heap.size = W.heap.size := rfl; omega
        · rintro k hk rfl
          rcases m3 k hk with e | e
          · exact (hsec.out k e).2 rfl
          · have e2 : W.drew.heap.size = W.heap.size := rfl; omega
      refine ⟨by simp, .inl ⟨_, _, rfl, run_takeDeferred hK2, ?_⟩⟩
      refine ⟨.pointer (some ⟨G, 0, none⟩), by simp [results, Try.results18, go_sem], ⟨G, Rs2, Sec3, rfl, by omega, hst, ?_, ?_, hbz.trans (Chg.below hcD (fun k e => by omega) (by have := hbz.size; omega))⟩⟩
      · intro k hk
        rcases m2 k hk with e | e | e
        · omega
        · simp [Value.ownBlock] at e; omega
        · have := hvl.out k e; have e2 : W.drew.heap.size = W.heap.size := rfl; omega
      · intro k hk
        rcases m3 k hk with e | e
        · exact (hsec.out k e).1
        · have e2 : W.drew.heap.size = W.heap.size := rfl; exact .inr (by omega)
  case stop =>
    rintro D cd pre W hD hS h
    exact h.elim
theorem crash_any (g : Nat) (Rs Sec : Nat → Prop) (d : DS) (m : Nat) (Ak : Option Addr) (nk ck : Nat) (kb : Nat → Bool) (torn kk : Int) (w : World) (h : Dk w g Rs Sec d) (hO : d.Ok m) (hm : m ≤ 100000) (h1 : 0 < d.D.length) (hnk : nk ≤ 9223372036854775807)
    (hK : ∀ j, j < nk → ∃ ak, Ak = some ak ∧ w.cell? (ak.add j) = some (.bool (kb j))) :
    Calls Try.prog 18 #[.pointer (some ⟨g, 0, none⟩), .agg #[.slice Ak nk ck, .int .i64 torn, .int .i64 kk]] w fun e w' => ∃ g2 Rs2 Sec2, e = .returned (.pointer (some ⟨g2, 0, none⟩)) ∧ w.heap.size ≤ g2 ∧ Dk w' g2 Rs2 Sec2 (crashD d (kf kb nk torn kk)) ∧
      (∀ k, Rs2 k → w.heap.size ≤ k) ∧ (∀ k, Sec2 k → Sec k ∨ w.heap.size ≤ k) ∧ Below w.heap.size w w' := callsIn_wide.1 (crash_walk g Rs Sec d m Ak nk ck kb torn kk w h hO hm h1 hnk hK)
set_option maxHeartbeats 1000000 in
theorem crash_nil (Ak : Option Addr) (nk ck : Nat) (torn kk : Int) (w : World) :
    Calls Try.prog 18 #[.pointer none, .agg #[.slice Ak nk ck, .int .i64 torn, .int .i64 kk]] w fun e w' => e = .returned (.pointer none) ∧ Below w.heap.size w w' := by
  go_enter Try.func18, Try.ntmps18
  go_wp2_with fail
  go_ret
  exact ⟨rfl, below_alloc (Below.refl _ _) _⟩
end Go.Proofs.Ytfaflgdhffkaiaa.Print
