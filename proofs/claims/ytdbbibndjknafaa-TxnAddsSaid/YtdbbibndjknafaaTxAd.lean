/- TxnAdds: a row of structs that are read, appended whole. -/
import Derived.Test.YtdbbibndjknafaaTxnKept
import Derived.Test.YtdbbibndjknafaaTxBk
namespace Go.Proofs.Ytdbbibndjknafaa.Print
open Go.RowKit Go.Proofs.YtdbbibndjknafaaW.PrintWords Go.Proofs.YtdbbibndjknafaaW.PrintLast Go.Proofs.YtdbbibndjknafaaW.PrintMore
set_option linter.unusedVariables false
set_option linter.unusedSimpArgs false
theorem heap25 : Kd.Heap k25 := Kd.heap_iso _ (Kd.heap_pair (Kd.heap_int _) (Kd.heap_pair (Kd.heap_int _) (Kd.heap_pair (Kd.heap_int _) (Kd.heap_pair (Kd.heap_int _) (Kd.heap_pair (Kd.heap_slice _ heap30) (Kd.heap_slice _ (Kd.heap_int _)))))))
/-- The elements' cells, of a row that is read. -/
theorem C_rows {α : Type} {d : Kd α} {W : World} {ok : Nat → Prop} {A : Option Addr} {n : Nat} {xs : List α} (h : Kd.F d W ok A n xs) :
    ∃ rows : List (List Value), rows.length = xs.length ∧ ReadsRow (fun x cs => cs = x ∧ cs.length = d.sz ∧ ∀ u ∈ cs, u.oneCell' = true) d.sz W A n rows ∧ ∀ (j : Nat) (x : α) (c : List Value), xs[j]? = some x → rows[j]? = some c → Kd.FK d W ok x c := by
  have hn := (Kd.F_now h).1
  have key : ∀ j : Fin xs.length, ∃ c : List Value, Kd.FK d W ok xs[j.1] c ∧ ∀ ad, A = some ad → ∀ i u, c[i]? = some u → W.cell? (ad.add (j.1 * d.sz + i)) = some u := by
    intro j
    obtain ⟨ad, c, e, _, hK, hc, _⟩ := Kd.F_get h xs[j.1] (j.1 : Int) (by omega) (by omega)
    rw [show ((j.1 : Int)).toNat = j.1 from rfl] at hK hc
    rw [List.getD_eq_getElem?_getD, List.getElem?_eq_getElem j.2] at hK
    refine ⟨c, hK, fun ad' e' => ?_⟩
    rw [e] at e'
    obtain rfl := Option.some.inj e'
    exact hc
  obtain ⟨f, hf⟩ := Classical.axiomOfChoice key
  refine ⟨List.ofFn f, by simp, ⟨by simp [hn], (Kd.F_now h).2.1, fun h0 => ?_⟩, fun j x c hx hc => ?_⟩
  · obtain ⟨ad, e, _⟩ := (Kd.F_now h).2.2 h0
    refine ⟨ad, e, fun j p hj => ?_⟩
    obtain ⟨hlt, rfl⟩ := List.getElem?_eq_some_iff.1 hj
    rw [List.length_ofFn] at hlt
    have hjf := hf ⟨j, hlt⟩
    refine ⟨_, d.K_len (Kd.FK_now hjf.1), ⟨by simp, d.K_len (Kd.FK_now hjf.1), d.K_one (Kd.FK_now hjf.1)⟩, fun i u hu => hjf.2 ad e i u hu⟩
  · obtain ⟨hlt, rfl⟩ := List.getElem?_eq_some_iff.1 hx
    rw [List.getElem?_ofFn] at hc
    simp only [hlt, dite_true, Option.some.injEq] at hc
    rw [← hc]
    exact (hf ⟨j, hlt⟩).1
section
variable {P : Program} {ops : Array Oper} {rest : List Oper} {o : Oper} {a : Act} {Q : Exit → Act → World → Prop} {α : Type}
theorem N_append_rows (d : Kd α) {w0 W : World} (base : Nat) (hgd : o.guard = none) (s x : Operand) (t e : TypeId) (z : Value) (bytes : Nat)
    (ho : o.op = .call { callee := .builtin .append, args := #[s, x], argTypes := #[t, t] })
    (ht : P.underlying t = some (.slice e)) (hinfo : (P.info? e).map (fun i => (i.zero, i.size, i.bytes)) = some (some z, d.sz, bytes)) (hz : z.cells.size = d.sz) (hs0 : 0 < d.sz) (hb0 : 0 < bytes)
    (v : Value) (xs ys : List α) (A : Option Addr) (m c : Nat) (ok okp : Nat → Prop) (hs : a.eval s = v) (hx : a.eval x = .slice A m c) (HO : Kd.N d e W base ok v xs) (HY : Kd.F d W okp A m ys) (hokp : ∀ k, okp k → ok k ∧ some k ≠ v.ownBlock) (hfresh : ∀ k, W.heap.size ≤ k → ok k)
    (HB : Below base w0 W) (hbase : base ≤ W.heap.size) (hl : (xs.length + m) * bytes ≤ 140737488355328)
    (h : ∀ v1 w1, Kd.N d e w1 base ok v1 (xs ++ ys) → Below base w0 w1 → W.grownBy w1 v.ownBlock → (v1.ownBlock = v.ownBlock ∨ ∃ b, v1.ownBlock = some b ∧ W.heap.size ≤ b) → wpList P ops Q rest (a.put o.dst v1) w1) :
    wpList P ops Q (o :: rest) a W := by
  obtain ⟨h0, rows, hlr, hR, hf⟩ := HO
  obtain ⟨news, hl2, hRR, hf2⟩ := C_rows HY
  refine Kd.R_append_rows (Kd.raw d.sz) base hgd s x t e z bytes ho ht hinfo hz hs0 hb0 v rows news A m c (fun _ => True) (fun _ => False) hs hx (Kd.raw_any hR) hRR (fun _ _ h => h) (fun _ h => h.elim) (fun _ _ => trivial) HB hbase (by rw [hlr]; exact hl) ?_
  intro v1 w1 hr hb hg hat
  exact h v1 w1 (Kd.N_appended h0 hlr hf hl2 hf2 hokp hfresh hr hg hat) hb hg hat
end
theorem keptT_app (p : Int) (a b : List S25) : keptT p (a ++ b) = keptT p a + keptT p b := by
  unfold keptT
  rw [List.map_append, List.sum_append]
/-- A transaction of one change. -/
def oneT (c : S30) : S25 := ⟨0, 0, 0, 0, [c], []⟩
theorem keptT_oneT (p : Int) (c : S30) : keptT p [oneT c] = moreT p c := by
  rw [keptT_one]
  unfold oneT keptC
  simp
theorem oneT_light {c : S30} (h : c.f3.f1.length ≤ 100 ∧ c.f4.f1.length ≤ 100) : LightP (oneT c) :=
  ⟨by simp [oneT], by simp [oneT], fun x hx => by
    have : x = c := by simpa [oneT] using hx
    rw [this]; exact h⟩
theorem chg_one {W : World} {P : Nat → Prop} {c : S30} {B4 : Option Addr} {d4 : Nat} {B6 : Option Addr} {d6 : Nat} (h : CF W P c B4 d4 B6 d6) (g : Nat) (hg : W.heap[g]? = some (.cells #[.int .i64 c.f0, .int .i64 c.f1, .int .i64 c.f2, .bool c.f3.f0, .slice B4 c.f3.f1.length d4, .bool c.f4.f0, .slice B6 c.f4.f1.length d6] 30)) : Kd.C k30 W (some ⟨g, 0, none⟩) 1 [c] := by
  refine ⟨rfl, by decide, fun _ => ⟨_, rfl, fun j p hj => ?_⟩⟩
  have hj0 : j = 0 := by
    rcases j with _ | j
    · rfl
    · simp at hj
  subst hj0
  simp only [List.getElem?_cons_zero, Option.some.injEq] at hj
  subst hj
  refine ⟨_, rfl, k30_mk W c h.l4 (Kd.F_now h.g4) h.l6 (Kd.F_now h.g6), fun i u hu => ?_⟩
  rw [Nat.zero_mul, Nat.zero_add, add_plain]
  have := blk_cell hg i
  rw [this]
  rw [← hu]
  simp
/-- What a change, alone in a transaction, keeps. -/
theorem own_any1 (c : S30) (p : Int) (hv : c.f3.f1.length ≤ 100 ∧ c.f4.f1.length ≤ 100) {P : Nat → Prop} {W : World} {B4 : Option Addr} {d4 : Nat} {B6 : Option Addr} {d6 : Nat} (h : CF W P c B4 d4 B6 d6) (g g2 : Nat) (hg : W.heap[g]? = some (.cells #[.int .i64 c.f0, .int .i64 c.f1, .int .i64 c.f2, .bool c.f3.f0, .slice B4 c.f3.f1.length d4, .bool c.f4.f0, .slice B6 c.f4.f1.length d6] 30))
    (hg2 : W.heap[g2]? = some (.cells #[.int .i64 0, .int .i64 0, .int .i64 0, .int .i64 0, .slice (some ⟨g, 0, none⟩) 1 1, .slice none 0 0] 25)) :
    Calls Try.prog 25 #[.slice (some ⟨g2, 0, none⟩) 1 1, .int .i64 p] W fun e w' => e = .returned (.int .i64 (moreT p c)) ∧ Below W.heap.size W w' := by
  rw [← keptT_oneT]
  have hT : TF W (fun k => k < W.heap.size) (oneT c) (some ⟨g, 0, none⟩) 1 none 0 := ⟨Nat.le_refl _, Kd.C_F heap30 (chg_one h g hg), Nat.le_refl _, Kd.F_nil _ _ _⟩
  exact txn_Kept.calls 1000 _ 1 [oneT c] p _ _ (kept_one hT g2 hg2) (Nat.le_refl _) (kept_f p [oneT c] (fun x hx => by simp at hx; rw [hx]; exact oneT_light hv) (by simp))
end Go.Proofs.Ytdbbibndjknafaa.Print
