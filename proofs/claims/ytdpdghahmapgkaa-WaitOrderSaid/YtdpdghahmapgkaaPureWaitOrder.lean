/- The pure statement of WaitOrder: in which order those that wait stand does not matter, nor whether one that waits for two stands twice. No condition. -/
import Derived.Test.YtdpdghahmapgkaaWait
import Derived.Test.YtdpdghahmapgkaaPrint6
namespace Go.Proofs.Ytdpdghahmapgkaa.Pure
open Go.RowKit Go.Proofs.Ytdpdghahmapgkaa.Print Go.Proofs.YtdpdghahmapgkaaW.PrintWords Go.Proofs.YtdpdghahmapgkaaW.PrintLast Go.Proofs.Ytdpdghahmapgkaa.Hand
set_option linter.unusedVariables false
set_option linter.unusedSimpArgs false
theorem still_o {l : List S29} (h : fits (wl l) = true) : wait_Still.f l = some (!l.any (fun x => rch (wl l) x.f0 x.f0)) := by unfold wait_Still.f; rw [if_pos h]
/-- One that waits for some, as so many that wait for one. -/
def ex (x : S29) : List S29 := x.f1.map fun b => ⟨x.f0, [b]⟩
def exs (l : List S29) : List S29 := l.reverse.flatMap ex
theorem exs_len : ∀ (l : List S29), (∀ a ∈ l, a.f1.length ≤ 20) → (exs l).length ≤ 20 * l.length
  | [], _ => by simp [exs]
  | x :: r, h => by
    have := exs_len r (fun a ha => h a (by simp [ha]))
    have hx := h x (by simp)
    have e : (exs (x :: r)).length = (exs r).length + x.f1.length := by simp [exs, ex]
    rw [e, List.length_cons]
    omega
theorem exs_cons (x : S29) (r : List S29) : exs (x :: r) = exs r ++ ex x := by simp [exs]
theorem mem_exs {l : List S29} {y : S29} : y ∈ exs l ↔ ∃ x ∈ l, ∃ b ∈ x.f1, y = ⟨x.f0, [b]⟩ := by
  unfold exs ex
  rw [List.mem_flatMap]
  constructor
  · rintro ⟨x, hx, hy⟩
    obtain ⟨b, hb, e⟩ := List.mem_map.1 hy
    exact ⟨x, List.mem_reverse.1 hx, b, hb, e.symm⟩
  · rintro ⟨x, hx, b, hb, e⟩
    exact ⟨x, List.mem_reverse.2 hx, List.mem_map.2 ⟨b, hb, e.symm⟩⟩
theorem adj_exs {l : List S29} {a b : Int} : Adj (wl (exs l)) a b ↔ Adj (wl l) a b := by
  constructor
  · rintro ⟨e, he, h1, h2⟩
    obtain ⟨y, hy, rfl⟩ := List.mem_map.1 he
    obtain ⟨x, hx, c, hc, rfl⟩ := mem_exs.1 hy
    obtain rfl : b = c := by simpa using h2
    exact ⟨(x.f0, x.f1), List.mem_map.2 ⟨x, hx, rfl⟩, h1, hc⟩
  · rintro ⟨e, he, h1, h2⟩
    obtain ⟨x, hx, rfl⟩ := List.mem_map.1 he
    exact ⟨(x.f0, [b]), List.mem_map.2 ⟨⟨x.f0, [b]⟩, mem_exs.2 ⟨x, hx, b, h2, rfl⟩, rfl⟩, h1, by simp⟩
theorem rch_exs {l : List S29} {a b : Int} : Rch (wl (exs l)) a b ↔ Rch (wl l) a b := by
  constructor
  · intro h
    induction h with
    | one q => exact .one (adj_exs.1 q)
    | more _ q ih => exact .more ih (adj_exs.1 q)
  · intro h
    induction h with
    | one q => exact .one (adj_exs.2 q)
    | more _ q ih => exact .more ih (adj_exs.2 q)
theorem rchb_exs (l : List S29) (a b : Int) : rch (wl (exs l)) a b = rch (wl l) a b := by rw [Bool.eq_iff_iff, rch_iff, rch_iff, rch_exs]
theorem any_exs (l : List S29) : (exs l).any (fun x => rch (wl (exs l)) x.f0 x.f0) = l.any (fun x => rch (wl l) x.f0 x.f0) := by
  rw [Bool.eq_iff_iff, List.any_eq_true, List.any_eq_true]
  constructor
  · rintro ⟨y, hy, h⟩
    obtain ⟨x, hx, c, hc, rfl⟩ := mem_exs.1 hy
    exact ⟨x, hx, by rw [rchb_exs] at h; exact h⟩
  · rintro ⟨x, hx, h⟩
    obtain ⟨z, ⟨e, he, h1, h2⟩, _⟩ := Rch.head.1 (rch_iff.1 h)
    obtain ⟨y, hy, rfl⟩ := List.mem_map.1 he
    refine ⟨⟨y.f0, [z]⟩, mem_exs.2 ⟨y, hy, z, h2, rfl⟩, ?_⟩
    show rch (wl (exs l)) y.f0 y.f0 = true
    rw [rchb_exs, show y.f0 = x.f0 from h1]
    exact h
theorem drop_g {l : List S29} {n : Nat} (h : n < l.length) : l.drop n = g l n :: l.drop (n + 1) := by
  rw [List.drop_eq_getElem_cons h, show g l n = l[n] by simp [g, List.getD_eq_getElem?_getD, List.getElem?_eq_getElem h]]
theorem fits_exs {l : List S29} (hS : Small l) (hw : Wf l) : fits (wl (exs l)) = true := by
  have he : ∀ a ∈ l, a.f1.length ≤ 20 := fun a ha => by obtain ⟨i, hi, rfl⟩ := mem_g ha; exact hS.each i hi
  have := exs_len l he
  have hl := hS.len
  refine fits_of 800 1 (by omega) (fun a ha => ?_) (by decide) (by decide) (fun a ha => ?_)
  · obtain ⟨x, hx, c, hc, rfl⟩ := mem_exs.1 ha
    simp
  · obtain ⟨x, hx, c, hc, rfl⟩ := mem_exs.1 ha
    refine ⟨(hw x hx).1, fun z hz => ?_⟩
    obtain rfl : z = c := by simpa using hz
    exact (hw x hx).2 z hc
theorem order_end {l : List S29} (hS : Small l) (hw : Wf l) (a b : Int) (i : Int) (hi : ¬ i ≥ 0) : Ev (fun k => bobbinlaw13_WaitOrder.l0 k l a b (exs l) i) true := by
  have hf := hS.fits hw
  have hg := fits_exs hS hw
  refine Ev.step (fun k => bobbinlaw13_WaitOrder.l0_eq k _ _ _ _ _) (Ev.ifn hi (Ev.bnd (reach_f hf a b) (Ev.bnd (reach_f hg a b) ?_)))
  rw [rchb_exs]
  refine Ev.ifp (by simp) (Ev.bnd (still_o hf) (Ev.bnd (still_o hg) (Ev.const ?_)))
  rw [any_exs]
  simp
theorem getD_at {xs : List Int} {j : Nat} (h : j < xs.length) : xs.getD j 0 = xs[j] := by simp [List.getD_eq_getElem?_getD, List.getElem?_eq_getElem h]
theorem order_in {l : List S29} (hS : Small l) (a b : Int) (n : Nat) (hn : n < l.length) (next : Ev (fun k => bobbinlaw13_WaitOrder.l0 k l a b (exs (l.drop n)) ((n : Int) - 1)) true)
    (d : Nat) : ∀ (j : Nat), j ≤ (g l n).f1.length → (g l n).f1.length - j = d → Ev (fun k => bobbinlaw13_WaitOrder.l1 k l a b (exs (l.drop (n + 1)) ++ ((g l n).f1.take j).map (fun b => ⟨(g l n).f0, [b]⟩)) (n : Int) (j : Int)) true := by
  have hl := hS.len
  have he := hS.each n hn
  have hlen : (exs (l.drop (n + 1))).length ≤ 800 := by
    have := exs_len (l.drop (n + 1)) (fun a ha => by obtain ⟨i, hi, rfl⟩ := mem_g (List.mem_of_mem_drop ha); exact hS.each i hi)
    rw [List.length_drop] at this
    omega
  induction d with
  | zero =>
    intro j hj hd
    obtain rfl : j = (g l n).f1.length := by omega
    refine Ev.step (fun k => bobbinlaw13_WaitOrder.l1_eq k _ _ _ _ _ _) (Ev.ifp (by omega) (Ev.ifp (by omega) (Ev.ifn (by rw [rdT]; omega) ?_)))
    rw [w64 (by omega) (by omega), List.take_length]
    have e : exs (l.drop n) = exs (l.drop (n + 1)) ++ (g l n).f1.map (fun b => ⟨(g l n).f0, [b]⟩) := by rw [drop_g hn, exs_cons]; rfl
    rw [← e]
    exact next
  | succ d ih =>
    intro j hj hd
    have hjl : j < (g l n).f1.length := by omega
    refine Ev.step (fun k => bobbinlaw13_WaitOrder.l1_eq k _ _ _ _ _ _) (Ev.ifp (by omega) (Ev.ifp (by omega) (Ev.ifp (by rw [rdT]; omega) (Ev.ifp (by omega) (Ev.ifp ?_ ?_)))))
    · rw [List.length_append, List.length_map, List.length_take]
      omega
    · rw [w64 (x := (j : Int) + 1) (by omega) (by omega), rdT, rdI]
      have := ih (j + 1) (by omega) (by omega)
      rw [List.take_succ_eq_append_getElem hjl, List.map_append, ← List.append_assoc] at this
      rw [getD_at hjl]
      exact this
theorem order_loop {l : List S29} (hS : Small l) (hw : Wf l) (a b : Int) : ∀ n : Nat, n ≤ l.length → Ev (fun k => bobbinlaw13_WaitOrder.l0 k l a b (exs (l.drop n)) ((n : Int) - 1)) true
  | 0, _ => by
    have := order_end hS hw a b ((0 : Nat) - 1 : Int) (by omega)
    simpa using this
  | n + 1, hn => by
    have hl := hS.len
    refine Ev.step (fun k => bobbinlaw13_WaitOrder.l0_eq k _ _ _ _ _) (Ev.ifp (by omega) ?_)
    rw [show ((n + 1 : Nat) : Int) - 1 = (n : Int) by omega]
    have := order_in hS a b n (by omega) (order_loop hS hw a b n (by omega)) _ 0 (by omega) rfl
    simpa using this
theorem WaitOrder (x0 : List S29) (x1 x2 : Int) (w0 : x0.length * 32 ≤ reachBytes ∧ x0.length ≤ maxLen ∧ ∀ a ∈ x0, ((Lit.int .i64 a.f0).wf = true) ∧ (a.f1.length * 8 ≤ reachBytes ∧ a.f1.length ≤ maxLen ∧ ∀ b ∈ a.f1, (Lit.int .i64 b).wf = true))
    (w1 : (Lit.int .i64 x1).wf = true) (w2 : (Lit.int .i64 x2).wf = true) : ∃ k, bobbinlaw13_WaitOrder.f k x0 x1 x2 = some true := by
  have hw : Wf x0 := fun a ha => ⟨(w0.2.2 a ha).1, (w0.2.2 a ha).2.2.2⟩
  refine Ev.rounds ?_
  unfold bobbinlaw13_WaitOrder.f
  refine Ev.bnd (show bobbinlaw13_awake.f = some true from rfl) ?_
  rcases few_cases x0 with h | ⟨h, hS⟩
  · exact Ev.bind h (Ev.ifp rfl (Ev.step (fun k => bobbinlaw13_WaitOrder.j0_eq k _ _ _ _ _) (Ev.ifp rfl (Ev.now _))))
  · have hl := hS.len
    refine Ev.bind h (Ev.ifp rfl (Ev.step (fun k => bobbinlaw13_WaitOrder.j0_eq k _ _ _ _ _) (Ev.ifn (by decide) ?_)))
    rw [w64 (by omega) (by omega)]
    have := order_loop hS hw x1 x2 x0.length (Nat.le_refl _)
    rw [List.drop_length] at this
    exact this
end Go.Proofs.Ytdpdghahmapgkaa.Pure
