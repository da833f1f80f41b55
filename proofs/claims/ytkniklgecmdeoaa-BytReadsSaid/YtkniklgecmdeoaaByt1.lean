/- What layer 1's statements share: the chapter's examples, how many calls there may be. -/
import Derived.Test.YtkniklgecmdeoaaRefB
import Derived.Test.YtkniklgecmdeoaaPrint1
namespace Go.Proofs.Ytkniklgecmdeoaa.Print
open Go.RowKit Go.Proofs.YtkniklgecmdeoaaW.PrintWords Go.Proofs.YtkniklgecmdeoaaW.PrintLast Go.Proofs.YtkniklgecmdeoaaW.PrintMore Go.Proofs.Ytkniklgecmdeoaa.Pure
set_option linter.unusedVariables false
set_option linter.unusedSimpArgs false
theorem reads_block {W : World} {b : Nat} {xs : List Int} {t : TypeId} (h : W.heap[b]? = some (.cells (nums .u8 xs).toArray t (0, 0))) (hm : xs.length ≤ 9223372036854775807) : Kd.C (Kd.int .u8) W (some ⟨b, 0, none⟩) xs.length xs :=
  C_of_block h rfl hm (fun j hj => by simp [nums, List.getElem?_eq_getElem hj, List.getD_eq_getElem?_getD])
theorem wr_new (w : World) : Wr (w.alloc (.cells #[.slice none 0 0] 28)) w.heap.size none [] := ⟨_, heap_alloc_new w _, rfl, own_nil _ _ _ _⟩
set_option maxHeartbeats 1000000 in
set_option maxRecDepth 100000 in
theorem awake_calls (w : World) : Calls Try.prog 9 #[] w fun e w' => e = .returned (.bool true) ∧ Below w.heap.size w w' := by
  go_enter Try.func9, Try.ntmps9
  go_wp2_with fail
  refine (put_ok w.heap.size none [] 258 2 _ (wr_new w) (by decide) (by decide)).mono ?_
  rintro e w1 ⟨rfl, r1, hw1, hr1, hc1⟩
  have hb1 := Aside0.mk (Chg.then_ (B := w.heap.size) (below_alloc (Below.refl _ w) _) hc1 (fun k hk => by rcases hk with rfl | e; exact Nat.le_refl _; cases e) (by simp))
  have hr1 := Aside0.mk (fun k (hk : r1 = some k) => show w.heap.size ≤ k by rcases hr1 with rfl | ⟨b, rfl, hb⟩; cases hk; obtain rfl := Option.some.inj hk; simp at hb; omega)
  replace hw1 := Aside0.mk hw1
  clear hc1
  go_wp2_with fail
  refine (lay_any w.heap.size r1 [2, 1] (some ⟨w1.heap.size, 0, none⟩) 2 [7, 8] _ (hw1.out.below (below_alloc (Below.refl _ _) _)) ?_ (by decide) (by decide)).mono ?_
  · intro W1 hc
    have hlt := hw1.out.lt
    refine reads_of_C (reads_block (t := 5) (hc.obj (heap_alloc_new w1 _) ?_) (by decide))
    rintro (e | e)
    · omega
    · have := hlt.2 _ e.symm; omega
  rintro e w2 ⟨rfl, r2, hw2, hr2, hc2⟩
  have hb2 := Aside0.mk (Chg.then_ (B := w.heap.size) (below_then hb1.out hb1.out.size (below_alloc (Below.refl _ w1) _)) hc2 (fun k hk => by rcases hk with rfl | e; exact Nat.le_refl _; exact hr1.out k e.symm) (by have := hb1.out.size; simp; omega))
  replace hw2 := Aside0.mk hw2
  clear hc2 hr2
  rw [show layE [7, 8] = 0 by decide]
  go_wp2_with fail
  refine (put_bad _ 256 1 _ (by decide)).mono ?_
  rintro e w3 ⟨rfl, hd3⟩
  have hb3 := Aside0.mk (below_then hb2.out hb2.out.size hd3)
  have hw3 := Aside0.mk (hw2.out.below hd3)
  clear hd3
  go_wp2_with fail
  refine (bytes_any w.heap.size r2 [2, 1, 2, 7, 8] _ hw3.out (by decide)).mono ?_
  rintro e w4 ⟨v0, rfl, hR, hd4⟩
  obtain ⟨A4, c4, rfl, hl4, hC4⟩ := Kd.R_reads hR
  have hb4 := Aside0.mk (below_then hb3.out hb3.out.size hd4)
  replace hC4 := Aside0.mk hC4
  clear hR hd4
  go_wp2_with fail
  refine (ref_same A4 (some ⟨w4.heap.size, 0, none⟩) c4 5 [2, 1, 2, 7, 8] [2, 1, 2, 7, 8] _ (Kd.C_below hC4.out (below_alloc (Below.refl _ _) _)) hl4 (reads_block (t := 5) (heap_alloc_new w4 _) (by decide)) (by decide) (by decide) true (by decide)).mono ?_
  rintro e w5 ⟨rfl, hd5⟩
  have hb5 := Aside0.mk (below_then hb4.out hb4.out.size (below_then (below_alloc (Below.refl _ w4) _) (by simp) hd5.below))
  clear hd5
  go_wp2_with fail
  refine (newReader_any (some ⟨w5.heap.size, 0, none⟩) 1 [5] _ (reads_block (t := 5) (heap_alloc_new w5 _) (by decide)) (by decide) (by decide)).mono ?_
  rintro e w6 ⟨g6, rfl, hg6, hR6, hd6⟩
  have hb6 := Aside0.mk (below_then hb5.out hb5.out.size (below_then (below_alloc (Below.refl _ w5) _) (by simp) hd6))
  replace hR6 := Aside0.mk hR6
  clear hd6 hg6
  go_wp2_with fail
  refine (left_any g6 _ [5] _ hR6.out).mono ?_
  rintro e w7 ⟨rfl, rfl⟩
  go_wp2_with fail
  go_ret
  exact ⟨rfl, hb6.out⟩
abbrev go_ (l : List S30) (i : Nat) : S30 := l.getD i z30
/-- What the law lets in. -/
structure Small (l : List S30) : Prop where
  len : l.length ≤ 60
  each : ∀ i, i < l.length → (go_ l i).f3.length ≤ 600
theorem few_loop (l : List S30) (hl : l.length ≤ 60) (d : Nat) : ∀ i : Nat, i ≤ l.length → l.length - i = d → (Ev (fun k => bobbinlaw01_few.l0 k l (i : Int)) false) ∨ (Ev (fun k => bobbinlaw01_few.l0 k l (i : Int)) true ∧ ∀ j, i ≤ j → j < l.length → (go_ l j).f3.length ≤ 600) := by
  induction d with
  | zero =>
    intro i hi hd
    exact .inr ⟨Ev.step (fun k => bobbinlaw01_few.l0_eq k _ _) (Ev.ifn (by omega) (Ev.now _)), fun j a b => by omega⟩
  | succ d ih =>
    intro i hi hd
    by_cases c : (go_ l i).f3.length ≤ 600
    · have st : ∀ {b}, Ev (fun k => bobbinlaw01_few.l0 k l ((i + 1 : Nat) : Int)) b → Ev (fun k => bobbinlaw01_few.l0 k l (i : Int)) b := fun h => by
        refine Ev.step (fun k => bobbinlaw01_few.l0_eq k _ _) (Ev.ifp (by omega) (Ev.ifp (by omega) (Ev.ifn (by show ¬ ((go_ l i).f3.length : Int) > 600; omega) ?_)))
        rw [w64 (by omega) (by omega)]
        exact h
      rcases ih (i + 1) (by omega) (by omega) with h | ⟨h, k⟩
      · exact .inl (st h)
      · refine .inr ⟨st h, fun j a b => ?_⟩
        rcases Nat.lt_or_ge i j with q | q
        · exact k j q b
        · obtain rfl : j = i := by omega
          exact c
    · exact .inl (Ev.step (fun k => bobbinlaw01_few.l0_eq k _ _) (Ev.ifp (by omega) (Ev.ifp (by omega) (Ev.ifp (by show ((go_ l i).f3.length : Int) > 600; omega) (Ev.now _)))))
theorem few_cases (l : List S30) : Ev (fun k => bobbinlaw01_few.f k l) false ∨ (Ev (fun k => bobbinlaw01_few.f k l) true ∧ Small l) := by
  unfold bobbinlaw01_few.f
  by_cases c : (l.length : Int) > 60
  · exact .inl (Ev.ifp c (Ev.now _))
  · rcases few_loop l (by omega) l.length 0 (by omega) (by omega) with h | ⟨h, k⟩
    · exact .inl (Ev.ifn c h)
    · exact .inr ⟨Ev.ifn c h, by omega, fun i hi => k i (Nat.zero_le _) hi⟩
/-- few, as a contract. -/
theorem few_calls (l : List S30) : ∃ b : Bool, (b = true → Small l) ∧ ∀ (A0 : Option Addr) (c0 : Nat) (w : World), Kd.C k30 w A0 l.length l → l.length ≤ c0 → Calls Try.prog 10 #[.slice A0 l.length c0] w fun e w' => e = .returned (.bool b) ∧ Below w.heap.size w w' := by
  rcases few_cases l with h | ⟨h, hS⟩
  · obtain ⟨k, hk⟩ := Ev.rounds h
    exact ⟨false, (fun e => by cases e), fun A0 c0 w hr hc => (bobbinlaw01_few.calls k A0 c0 l false w hr hc hk).mono fun e w' ⟨he, hd⟩ => ⟨he, hd.below⟩⟩
  · obtain ⟨k, hk⟩ := Ev.rounds h
    exact ⟨true, fun _ => hS, fun A0 c0 w hr hc => (bobbinlaw01_few.calls k A0 c0 l true w hr hc hk).mono fun e w' ⟨he, hd⟩ => ⟨he, hd.below⟩⟩
end Go.Proofs.Ytkniklgecmdeoaa.Print
