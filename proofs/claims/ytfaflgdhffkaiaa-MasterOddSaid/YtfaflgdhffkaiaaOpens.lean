/- What came in, of any type out of numbers, bools, strings, slices and structs, is read as a Lean value of its kind. -/
import Derived.Test.YtfaflgdhffkaiaaWWords
import Derived.Test.YtfaflgdhffkaiaaBase
import Derived.ChangeArms
import Derived.ChangeShapes
import Derived.ChangeMaps5
import Derived.SizedLaws
import Derived.DataReads
import Derived.Carry
namespace Go.Proofs.Ytfaflgdhffkaiaa.Opens
open Go.RowKit Go.Proofs.YtfaflgdhffkaiaaW.PrintWords Go.Proofs.Ytfaflgdhffkaiaa.Print
set_option linter.unusedVariables false
set_option linter.unusedSimpArgs false
/-- What reads as type t is of kind d, and Q is told of it. -/
def Op {α : Type} (P : Program) (t : TypeId) (d : Kd α) (Q : α → Prop) : Prop :=
  ∀ {H : Type} {enc : TypeId × Value → H} {w : World} {base : Nat} {sp : Nat → Bool} {held : Bool} {fuel : Nat} {cs : List Value} {x : DataW H × List MemPlace}, DataW.trod enc P w base sp held fuel t cs = some x →
    (∀ n ∈ x.1.weights P t, n ≤ reachBytes) → ∃ a, d.K w a cs ∧ Q a
theorem Op.imp {α : Type} {P : Program} {t : TypeId} {d : Kd α} {Q Q' : α → Prop} (h : Op P t d Q) (hQ : ∀ a, Q a → Q' a) : Op P t d Q' := fun {_ _ _ _ _ _ _ _ _} hx hw => by
  obtain ⟨a, ha, hq⟩ := h hx hw
  exact ⟨a, ha, hQ a hq⟩
theorem Op.iso {α β : Type} {P : Program} {t : TypeId} {d : Kd α} {Q : α → Prop} (f : β → α) (g : α → β) (hfg : ∀ a, f (g a) = a) (h : Op P t d Q) : Op P t (Kd.iso d f) (fun b => Q (f b)) := fun {_ _ _ _ _ _ _ _ _} hx hw => by
  obtain ⟨a, ha, hq⟩ := h hx hw
  refine ⟨g a, ?_, ?_⟩
  · show d.K _ (f (g a)) _
    rw [hfg]; exact ha
  · show Q (f (g a))
    rw [hfg]; exact hq
theorem Op.int {P : Program} {t : TypeId} {k : IntKind} (ht : P.underlying t = some (.int k)) : Op P t (Kd.int k) (fun n => (Lit.int k n).wf = true) := fun {_ _ _ _ _ _ fuel cs x} hx _ => by
  cases fuel with
  | zero => simp [DataW.trod] at hx
  | succ n =>
    unfold DataW.trod at hx
    rw [ht] at hx
    split at hx <;> simp_all
    obtain ⟨⟨rfl, hh⟩, _⟩ := hx
    exact ⟨_, rfl, hh⟩
theorem Op.bool {P : Program} {t : TypeId} (ht : P.underlying t = some .bool) : Op P t Kd.bool (fun _ => True) := fun {_ _ _ _ _ _ fuel cs x} hx _ => by
  cases fuel with
  | zero => simp [DataW.trod] at hx
  | succ n =>
    unfold DataW.trod at hx
    rw [ht] at hx
    split at hx <;> simp_all
    rename_i b
    cases b
    · exact .inl rfl
    · exact .inr rfl
theorem Op.string {P : Program} {t : TypeId} (ht : P.underlying t = some .string) : Op P t Kd.string (fun s => s.size ≤ reachBytes) := fun {_ _ _ _ _ _ fuel cs x} hx hw => by
  cases fuel with
  | zero => simp [DataW.trod] at hx
  | succ n =>
    unfold DataW.trod at hx
    rw [ht] at hx
    split at hx <;> simp_all
    rename_i s
    obtain ⟨_, rfl⟩ := hx
    refine ⟨s, rfl, ?_⟩
    have := hw _ (by simp [DataW.weights]; rfl)
    simpa using this
theorem weights_all {H : Type} {P : Program} {e : TypeId} : ∀ {l : List (DataW H)} {i : Nat} {d : DataW H}, l[i]? = some d → ∀ n ∈ d.weights P e, n ∈ DataW.weightsAll P e l
  | [], _, _, h, _, _ => by simp at h
  | d0 :: r, 0, d, h, n, hn => by
    simp only [List.getElem?_cons_zero, Option.some.injEq] at h
    subst h
    simp only [DataW.weightsAll, List.mem_append]
    exact .inl hn
  | d0 :: r, i + 1, d, h, n, hn => by
    simp only [List.getElem?_cons_succ] at h
    simp only [DataW.weightsAll, List.mem_append]
    exact .inr (weights_all h n hn)
theorem choose_list {α : Type} {p : Nat → α → Prop} : ∀ n : Nat, (∀ i, i < n → ∃ a, p i a) → ∃ l : List α, l.length = n ∧ ∀ i a, l[i]? = some a → p i a
  | 0, _ => ⟨[], rfl, fun i a h => by simp at h⟩
  | n + 1, h => by
    obtain ⟨l, hl, hp⟩ := choose_list n (fun i hi => h i (by omega))
    obtain ⟨a, ha⟩ := h n (by omega)
    refine ⟨l ++ [a], by simp [hl], fun i b hb => ?_⟩
    by_cases hi : i < n
    · rw [List.getElem?_append_left (by omega)] at hb
      exact hp i b hb
    · have : i < (l ++ [a]).length := (List.getElem?_eq_some_iff.1 hb).1
      simp [hl] at this
      obtain rfl : i = n := by omega
      rw [List.getElem?_append_right (by omega), hl, Nat.sub_self] at hb
      simp at hb
      subst hb
      exact ha
theorem Op.slice {α : Type} {P : Program} {t e : TypeId} {d : Kd α} {Q : α → Prop} {B : Nat} (q : Nat) (ht : P.underlying t = some (.slice e)) (hc : P.cellsOf e = d.sz) (hB : P.bytesOf e = B) (h : Op P e d Q) :
    Op P t (Kd.slice q d) (fun l => l.length * B ≤ reachBytes ∧ l.length ≤ maxLen ∧ ∀ a ∈ l, Q a) := fun {H enc w base sp held fuel cs x} hx hw => by
  rcases DataW.trod_slice ht hx with ⟨rfl, _⟩ | ⟨a, len, cap, elems, rest, n, _, rfl, rfl, _, hl, hm, hlen, hel, _, _⟩
  · exact ⟨[], ⟨none, 0, rfl, Nat.le_refl _, rfl, Nat.zero_le _, fun h => by simp at h⟩, by simp, by simp, by simp⟩
  · have each : ∀ i, i < len → ∃ y : α, Q y ∧ ∃ c, c.length = d.sz ∧ d.K w y c ∧ ∀ j u, c[j]? = some u → w.cell? (a.add (i * d.sz + j)) = some u := fun i hi => by
      have hE := hel i hi
      cases hy : elems[i]? with
      | none => rw [List.getElem?_eq_none_iff] at hy; omega
      | some y =>
        rw [hy] at hE
        obtain ⟨c, hc1, hy1⟩ := Option.bind_eq_some_iff.1 hE
        obtain ⟨b, hb, hq⟩ := h hy1 (fun m hm => hw m (by
          simp only [DataW.weights, ht, List.mem_cons, List.mem_append]
          exact .inr (.inl (weights_all (by rw [List.getElem?_map, hy]; rfl) m hm))))
        obtain ⟨_, hn, hcell⟩ := World.cells?_some hc1
        refine ⟨b, hq, c, by rw [← hc]; exact hn, hb, fun j u hj => ?_⟩
        have := hcell j (by have := (List.getElem?_eq_some_iff.1 hj).1; omega)
        rw [hj, hc] at this
        rw [addr_add_add] at this
        exact this
    obtain ⟨l, hll, hp⟩ := choose_list len each
    have hwl := hw _ (by simp only [DataW.weights, ht, List.mem_cons]; exact .inl rfl)
    refine ⟨l, ⟨some a, cap, by rw [hll], by omega, rfl, ?_, fun _ => ⟨a, rfl, fun j p hj => (hp j p hj).2⟩⟩, ?_, by omega, fun b hb => ?_⟩
    · unfold maxLen at hm; omega
    · simp only [List.length_map] at hwl
      rw [hB] at hwl
      exact Nat.le_trans (Nat.mul_le_mul_right _ (by omega)) hwl
    · obtain ⟨j, hj, rfl⟩ := List.mem_iff_getElem.1 hb
      exact (hp j _ (List.getElem?_eq_getElem hj)).1
/-- A struct's fields, from the o-th cell on. -/
def Fs {α : Type} (P : Program) (fs : List Field) (o : Nat) (d : Kd α) (Q : α → Prop) : Prop :=
  ∀ {H : Type} {enc : TypeId × Value → H} {w : World} {base : Nat} {sp : Nat → Bool} {held : Bool} {fuel : Nat} {cs : List Value} {xs : List (DataW H × List MemPlace)},
    xs.length = fs.length → (∀ (i : Nat) (f : Field), fs[i]? = some f → DataW.trod enc P w base sp held fuel f.type ((cs.drop f.offset).take (P.cellsOf f.type)) = xs[i]?) → cs.length = o + d.sz →
    (∀ n ∈ DataW.weightsEach P (fs.map (·.type)) (xs.map (·.1)), n ≤ reachBytes) → ∃ a, d.K w a (cs.drop o) ∧ Q a
theorem Fs.one {α : Type} {P : Program} {f : Field} {o : Nat} {d : Kd α} {Q : α → Prop} (ho : f.offset = o) (hc : P.cellsOf f.type = d.sz) (h : Op P f.type d Q) : Fs P [f] o d Q := fun {_ _ _ _ _ _ _ cs xs} hx hf hl hw => by
  match xs, hx with
  | [x], _ =>
    have h0 := hf 0 f rfl
    rw [ho, hc, List.take_of_length_le (by rw [List.length_drop]; omega)] at h0
    exact h h0 (fun n hn => hw n (by simp [DataW.weightsEach]; exact hn))
theorem Fs.cons {α β : Type} {P : Program} {f : Field} {fs : List Field} {o o' : Nat} {d : Kd α} {d' : Kd β} {Q : α → Prop} {Q' : β → Prop} (ho : f.offset = o) (hc : P.cellsOf f.type = d.sz) (hs : o' = o + d.sz) (h : Op P f.type d Q) (hr : Fs P fs o' d' Q') :
    Fs P (f :: fs) o (Kd.pair d d') (fun x => Q x.1 ∧ Q' x.2) := fun {_ _ _ _ _ _ _ cs xs} hx hf hl hw => by
  match xs, hx with
  | x :: xs, hx =>
    subst hs
    have hl' : cs.length = o + (d.sz + d'.sz) := hl
    have h0 := hf 0 f rfl
    rw [ho, hc] at h0
    simp only [List.map_cons, DataW.weightsEach, List.mem_append] at hw
    obtain ⟨a, ha, hq⟩ := h h0 (fun n hn => hw n (.inl hn))
    obtain ⟨b, hb, hq'⟩ := hr (xs := xs) (cs := cs) (by simpa using hx) (fun i g hg => hf (i + 1) g hg) (by omega) (fun n hn => hw n (.inr hn))
    refine ⟨(a, b), ⟨(cs.drop o).take d.sz, cs.drop (o + d.sz), ?_, ha, hb⟩, hq, hq'⟩
    rw [← List.drop_drop, List.take_append_drop]
theorem Op.struct {α : Type} {P : Program} {t : TypeId} {fs : Array Field} {d : Kd α} {Q : α → Prop} (ht : P.underlying t = some (.struct fs)) (hc : P.cellsOf t = d.sz) (h : Fs P fs.toList 0 d Q) : Op P t d Q := fun {_ _ _ _ _ _ _ cs x} hx hw => by
  obtain ⟨xs, n, _, rfl, hl, hlen, hf⟩ := DataW.trod_struct ht hx
  have := h (xs := xs) (cs := cs) (by simpa using hlen) (fun i f hi => hf i f (by simpa using hi)) (by omega) (fun n hn => hw n (by simpa only [DataW.weights, ht] using hn))
  simpa using this
/-- A row's j-th argument. -/
theorem Op.arg {α : Type} {P : Program} {t : TypeId} {d : Kd α} {Q : α → Prop} (h : Op P t d Q) {H : Type} {enc : TypeId × Value → H} {w : World} {base : Nat} {sp : Nat → Bool} {held : Bool} {v : Value} {x : DataW H} {ps : List MemPlace} {ts : List TypeId} {ds : List (DataW H)} {j : Nat}
    (hx : DataW.Trod enc P w base sp held t v x ps) (hsz : (DataW.weightsEach P ts ds).all (· ≤ reachBytes) = true) (ht : ts[j]? = some t) (hd : ds[j]? = some x) : ∃ a, d.K w a v.cells.toList ∧ Q a := by
  obtain ⟨fuel, hf⟩ := hx
  exact h hf (fun n hn => by simpa using List.all_eq_true.1 hsz _ (DataW.weights_mem_each ht hd n hn))
theorem agg_of {P : Program} {w : World} {r : Reach} {base : Nat} {t : TypeId} {fs : Array Field} {v : Value} (ht : P.underlying t = some (.struct fs)) (h : Value.okWide P w r base t v) {l : List Value} (hl : v.cells.toList = l) : v = .agg l.toArray := by
  simp only [Value.okWide, ht] at h
  obtain ⟨cs, rfl, _⟩ := h
  subst hl
  simp [Value.cells]
theorem one_of {P : Program} {w : World} {r : Reach} {base : Nat} {t e : TypeId} {v : Value} (ht : P.underlying t = some (.slice e)) (h : Value.okWide P w r base t v) {u : Value} (hl : v.cells.toList = [u]) : v = u := by
  obtain ⟨a, n, c, rfl⟩ : ∃ a n c, v = .slice a n c := by
    simp only [Value.okWide, ht, Cell.okWide] at h
    cases v <;> simp_all [Cell.ok]
  simpa [Value.cells] using hl
end Go.Proofs.Ytfaflgdhffkaiaa.Opens
