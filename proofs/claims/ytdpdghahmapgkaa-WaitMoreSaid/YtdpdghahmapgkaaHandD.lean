/- wait.Reach: whether one is reached. -/
import Derived.Test.YtdpdghahmapgkaaHandC
namespace Go.Proofs.Ytdpdghahmapgkaa.Hand
open Go.RowKit Go.Shelf Go.Proofs.YtdpdghahmapgkaaW.PrintWords Go.Proofs.YtdpdghahmapgkaaW.PrintLast Go.Proofs.Ytdpdghahmapgkaa.Print
attribute [local go_sem] Oper.semAt_some
set_option linter.unusedVariables false
set_option linter.unusedSimpArgs false
set_option maxHeartbeats 1000000 in
theorem mk15 (F : Fence) (n : Nat) (h15 : F.fn 15) (hro : F.round = none) (v : Value) (fr : Int) (A : Option Addr) (m c : Nat) (w : World) :
    CallsIn F n Try.prog 15 #[.slice A m c, .int .i64 fr] w fun e w' => e = .returned (.func (.func 20) #[] #[.pointer (some ⟨w.heap.size + 1, 0, none⟩), .pointer (some ⟨w.heap.size, 0, none⟩)]) ∧ w' = (w.alloc (.cells #[.slice A m c] 22)).alloc (.cells #[.int .i64 fr] 3) := by
  refine callsIn_of_wp Try.func15 rfl h15 ?_ hro
  simp only [Try.ntmps15, List.size_toArray, List.length_cons, List.length_nil, Nat.reduceAdd, Nat.reduceSub, Array.replicate_succ, Array.replicate_zero, List.push_toArray, List.append_toArray, List.nil_append, List.cons_append]
  gi_wp2
  go_ret
  exact ⟨by simp, rfl⟩
theorem cell_new_c (W : World) (v : Value) (t : TypeId) : (W.alloc (.cells #[v] t)).cell? ⟨W.heap.size, 0, none⟩ = some v := by
  have := World.alloc_heap_new W (.cells #[v] t)
  simp only [World.cell?, this]
  rfl
theorem box_cell {W : World} {B : Nat} {v : Value} {t : TypeId} (h : W.heap[B]? = some (.cells #[v] t (0, 0))) : W.cell? ⟨B, 0, none⟩ = some v := by simp [World.cell?, h]
theorem box_frozen {W : World} {B : Nat} {v : Value} {t : TypeId} (h : W.heap[B]? = some (.cells #[v] t (0, 0))) : W.frozen? ⟨B, 0, none⟩ = false := by simp [World.frozen?, h]
set_option maxRecDepth 100000 in
set_option maxHeartbeats 2000000 in
theorem reach10 (F : Fence) (n : Nat) (h10 : F.fn 10) (h15 : F.fn 15) (h20 : F.fn 20) (hro : F.round = none) (hn : 3 ≤ n) (ll : WL) (fr tt : Int) (A : Option Addr) (c : Nat) (w : World)
    (hC : dW.C w A ll.length ll) (hwf : ∀ z ∈ flat ll, (Lit.int .i64 z).wf = true) (hN : (flat ll).length ≤ 1000000) (hL : ll.length ≤ 1000000) :
    CallsIn F n Try.prog 10 #[.slice A ll.length c, .int .i64 fr,   .int .i64 tt] w fun e w' => (∃ b : Bool, e = .returned (.bool b) ∧ (b = true ↔ Rch ll fr tt)) ∧ Below w.heap.size w w' := by
  have h1 : 1 ≤ n := by omega
  refine callsIn_of_wp_marks Try.func10 rfl h10 ?_ hro
  simp only [Try.ntmps10, List.size_toArray, List.length_cons, List.length_nil, Nat.reduceAdd, Nat.reduceSub, Array.replicate_succ, Array.replicate_zero, List.push_toArray, List.append_toArray, List.nil_append, List.cons_append]
  gi_wp2_with (gi_at_call 15; refine (mk15 F (n - 1) h15 hro .nilFunc _ _ _ _ _).mono ?_; rintro e w' ⟨rfl, rfl⟩)
  obtain ⟨W0, hW0⟩ : ∃ W0, (((w.alloc (.cells #[.int .i64 tt] 3)).alloc (.cells #[.bool false] 4)).alloc (.cells #[.slice A ll.length c] 22)).alloc (.cells #[.int .i64 fr] 3) = W0 := ⟨_, rfl⟩
  have sz : W0.heap.size = w.heap.size + 4 := by rw [← hW0]; simp
  have hb0 : Below w.heap.size w W0 := by
    rw [← hW0]; exact ((((Below.refl _ w).alloc (Nat.le_refl _) _).alloc (by simp) _).alloc (by simp; omega) _).alloc (by simp; omega) _
  have x0 : W0.heap[w.heap.size]? = some (.cells #[.int .i64 tt] 3) := by
    rw [← hW0]; rw [Below.heap_alloc _ _ _ (by simp; omega), Below.heap_alloc _ _ _ (by simp; omega), Below.heap_alloc _ _ _ (by simp)]; exact World.alloc_heap_new _ _
  have x1 : W0.heap[w.heap.size + 1]? = some (.cells #[.bool false] 4) := by
    rw [← hW0]; rw [Below.heap_alloc _ _ _ (by simp), Below.heap_alloc _ _ _ (by simp)]
    have := World.alloc_heap_new (w.alloc (.cells #[.int .i64 tt] 3)) (.cells #[.bool false] 4); rwa [World.size_alloc] at this
  have x2 : W0.heap[w.heap.size + 1 + 1]? = some (.cells #[.slice A ll.length c] 22) := by
    rw [← hW0]; rw [Below.heap_alloc _ _ _ (by simp)]
    have := World.alloc_heap_new ((w.alloc (.cells #[.int .i64 tt] 3)).alloc (.cells #[.bool false] 4)) (.cells #[.slice A ll.length c] 22); simpa only [World.size_alloc] using this
  have x3 : W0.heap[w.heap.size + 1 + 1 + 1]? = some (.cells #[.int .i64 fr] 3) := by
    rw [← hW0]
    have := World.alloc_heap_new (((w.alloc (.cells #[.int .i64 tt] 3)).alloc (.cells #[.bool false] 4)).alloc (.cells #[.slice A ll.length c] 22)) (.cells #[.int .i64 fr] 3); simpa only [World.size_alloc] using this
  rw [hW0]
  clear hW0
  refine wpIn_rangeQ hro h1 (gf := 20) rfl h20 (enters_of Try.func20 (by kernel_rfl) rfl)
    (it20 F (n - 1) h20 hro (by omega) ll fr A c (w.heap.size + 1 + 1 + 1) (w.heap.size + 1 + 1) W0 (box_cell x3) (box_cell x2) (by omega) (by omega) (Kd.C_below hC hb0) hwf hN hL) (fun _ => rfl)
    (fun pre W => Below W0.heap.size W0 W ∧ tt ∉ pre)
    (fun cd pre W => cd = .ret ∧ tt ∈ pre ∧ Below w.heap.size w W ∧ W.heap[w.heap.size + 1]? = some (.cells #[.bool true] 4))
    (fun s X Y h hb => ⟨h.1.trans hb, h.2⟩)
    (fun cd s X Y h hb => ⟨h.1, h.2.1, h.2.2.1.trans (hb.mono (by omega)), (hb.block _ (by omega)).trans h.2.2.2⟩)
    ⟨Below.refl _ _, by simp⟩
    (fun x => { tmps := #[.slice A ll.length c, .int .i64 fr, .int .i64 tt, undef, undef, .pointer (some ⟨w.heap.size, 0, none⟩), .pointer (some ⟨w.heap.size + 1, 0, none⟩), .int .i64 x, .slice A ll.length c, .int .i64 fr,
      .func (.func 20) #[] #[.pointer (some ⟨w.heap.size + 1 + 1 + 1, 0, none⟩), .pointer (some ⟨w.heap.size + 1 + 1, 0, none⟩)], .int .i64 x, undef, undef, undef], defers := [] }) ?assign ?body ?done ?stop
  case assign =>
    intro l x W K hK
    gi_wp2
    exact hK
  case body =>
    rintro l pre x W ⟨hb, hn⟩
    have c0 := box_cell ((hb.block w.heap.size (by omega)).trans x0)
    have y1 := (hb.block (w.heap.size + 1) (by omega)).trans x1
    have c1 := box_cell y1
    have f1 := box_frozen y1
    by_cases e : x = tt
    · subst e
      have e1 : (x == x) = true := beq_iff_eq.mpr rfl
      gi_wp2
      have hg := grownBy_setCell' W (w.heap.size + 1) (.bool true)
      exact ⟨KeepsFrom.of_grownBy hg (fun j q => by cases q; omega), rfl, by simp, (hb0.trans (hb.mono (by omega))).grown hg (by have := hb.size; omega) (fun k q => by cases q; omega), blk_put y1 0 _ rfl⟩
    · have e1 : (x == tt) = false := beq_eq_false_iff_ne.mpr e
      gi_wp2
      exact ⟨World.grownBy.refl _ _, hb, by simp [hn]; exact fun q => e q.symm⟩
  case done =>
    rintro D xs W hD hS ⟨hb, hn⟩ hK
    have y1 := (hb.block (w.heap.size + 1) (by omega)).trans x1
    have c1 := box_cell y1
    have f1 := box_frozen y1
    gi_wp2
    have hg := grownBy_setCell' W (w.heap.size + 1) (.bool false)
    have hK2 : (W.setCell ⟨w.heap.size + 1, 0, none⟩ (.bool false)).heap[D]? = some (.deferred (some [])) := (hg.block D (Array.getElem?_eq_some_iff.1 hK).1 (fun q => by cases q; omega)).trans hK
    have y2 : (W.setCell ⟨w.heap.size + 1, 0, none⟩ (.bool false)).heap[w.heap.size + 1]? = some (.cells #[.bool false] 4) := blk_put y1 0 _ rfl
    have hD2 : D < (W.setCell ⟨w.heap.size + 1, 0, none⟩ (.bool false)).heap.size := (Array.getElem?_eq_some_iff.1 hK2).1
    have b2 : Below w.heap.size w (W.setCell ⟨w.heap.size + 1, 0, none⟩ (.bool false)) := (hb0.trans (hb.mono (by omega))).grown hg (by have := hb.size; omega) (fun k q => by cases q; omega)
    refine ⟨by simp, .inl ⟨_, _, rfl, run_takeDeferred hK2, ?_⟩⟩
    have y3 : ((W.setCell ⟨w.heap.size + 1, 0, none⟩ (.bool false)).putObj D (.deferred none)).cell? ⟨w.heap.size + 1, 0, none⟩ = some (.bool false) := box_cell ((World.putObj_heap_other (by omega)).trans y2)
    refine ⟨.bool false, by simp [results, Try.results10, go_sem, y3], ⟨false, rfl, by simp; exact fun q => hn ((hS tt).2 q)⟩, b2.trans (below_put _ _ _ (by omega) hD2)⟩
  case stop =>
    rintro D cd pre W hD hS ⟨rfl, hm, hb, hx⟩ hK
    gi_wp2
    have hD2 : D < W.heap.size := (Array.getElem?_eq_some_iff.1 hK).1
    refine ⟨by simp, .inl ⟨_, _, rfl, run_takeDeferred hK, ?_⟩⟩
    have y3 : (W.putObj D (.deferred none)).cell? ⟨w.heap.size + 1, 0, none⟩ = some (.bool true) := box_cell ((World.putObj_heap_other (by omega)).trans hx)
    refine ⟨.bool true, by simp [results, Try.results10, go_sem, y3], ⟨true, rfl, by simp; exact hS tt hm⟩, hb.trans (below_put _ _ _ (by omega) hD2)⟩
end Go.Proofs.Ytdpdghahmapgkaa.Hand
