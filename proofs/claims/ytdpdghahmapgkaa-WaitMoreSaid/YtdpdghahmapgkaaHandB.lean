/- wait.reached's closure: it hands on all that one reaches, each once. -/
import Derived.Test.YtdpdghahmapgkaaHand
import Derived.KernelRfl
import Derived.Test.YtdpdghahmapgkaaBase
namespace Go.Proofs.Ytdpdghahmapgkaa.Hand
open Go.RowKit Go.Shelf Go.Proofs.YtdpdghahmapgkaaW.PrintWords Go.Proofs.YtdpdghahmapgkaaW.PrintLast Go.Proofs.Ytdpdghahmapgkaa.Print
attribute [local go_sem] Oper.semAt_some
set_option linter.unusedVariables false
set_option linter.unusedSimpArgs false
/-! ### who reaches whom -/
abbrev WL := List (Int × List Int)
def Adj (l : WL) (y z : Int) : Prop := ∃ e, e ∈ l ∧ e.1 = y ∧ z ∈ e.2
inductive Rch (l : WL) : Int → Int → Prop where
  | one {a b : Int} : Adj l a b → Rch l a b
  | more {a b c : Int} : Rch l a b → Adj l b c → Rch l a c
def flat (l : WL) : List Int := l.flatMap (·.2)
theorem flat_adj {l : WL} {y z : Int} (h : Adj l y z) : z ∈ flat l := by
  obtain ⟨e, he, _, hz⟩ := h
  exact List.mem_flatMap.2 ⟨e, he, hz⟩
theorem nodup_le : ∀ {a b : List Int}, a.Nodup → (∀ x ∈ a, x ∈ b) → a.length ≤ b.length
  | [], _, _, _ => Nat.zero_le _
  | x :: a, b, hn, hs => by
    have hx : x ∈ b := hs x (by simp)
    have := nodup_le (a := a) (b := b.erase x) (List.nodup_cons.1 hn).2 (fun y hy => by
      have : y ≠ x := fun e => (List.nodup_cons.1 hn).1 (e ▸ hy)
      rw [List.mem_erase_of_ne this]
      exact hs y (by simp [hy]))
    rw [List.length_erase_of_mem hx] at this
    have := List.length_pos_of_mem hx
    simp only [List.length_cons]
    omega
/-- Between two steps: pre has come, todo is to be seen through; of tx's, what D tells has come. -/
structure Inv (l : WL) (fr : Int) (D : Int → Prop) (tx : Int) (pre todo : List Int) : Prop where
  sound : ∀ x ∈ pre, Rch l fr x
  open_ : ∀ x ∈ todo, x = fr ∨ x ∈ pre
  closed : ∀ y, (y = fr ∨ y ∈ pre) → y ∈ todo ∨ (∀ z, Adj l y z → z ∈ pre) ∨ (y = tx ∧ ∀ z, D z → z ∈ pre)
  nodup : pre.Nodup
  cur : tx = fr ∨ tx ∈ pre
theorem Inv.len {l : WL} {fr tx : Int} {D : Int → Prop} {pre todo : List Int} (h : Inv l fr D tx pre todo) : pre.length ≤ (flat l).length :=
  nodup_le h.nodup (fun x hx => by
    cases h.sound x hx with
    | one a => exact flat_adj a
    | more _ a => exact flat_adj a)
theorem Inv.done {l : WL} {fr tx : Int} {D : Int → Prop} {pre : List Int} (h : Inv l fr D tx pre []) (hD : ∀ z, Adj l tx z → D z) (x : Int) : x ∈ pre ↔ Rch l fr x := by
  have cl : ∀ y, (y = fr ∨ y ∈ pre) → ∀ z, Adj l y z → z ∈ pre := fun y hy z hz => by
    rcases h.closed y hy with a | a | ⟨rfl, a⟩
    · simp at a
    · exact a z hz
    · exact a z (hD z hz)
  refine ⟨h.sound x, fun r => ?_⟩
  induction r with
  | one a => exact cl _ (.inl rfl) _ a
  | more _ a ih => exact cl _ (.inr ih) _ a
theorem Inv.start (l : WL) (fr : Int) : Inv l fr (Adj l fr) fr [] [fr] := ⟨by simp, by simp, fun y hy => .inl (by simpa using hy), by simp, .inl rfl⟩
theorem Inv.pop {l : WL} {fr tx t : Int} {D : Int → Prop} {pre todo : List Int} (h : Inv l fr D tx pre (todo ++ [t])) (hD : ∀ z, Adj l tx z → D z) : Inv l fr (fun _ => False) t pre todo :=
  ⟨h.sound, fun x hx => h.open_ x (by simp [hx]), fun y hy => by
    rcases h.closed y hy with a | a | ⟨rfl, a⟩
    · rcases List.mem_append.1 a with b | b
      · exact .inl b
      · exact .inr (.inr ⟨by simpa using b, fun z hz => hz.elim⟩)
    · exact .inr (.inl a)
    · exact .inr (.inl fun z hz => a z (hD z hz)), h.nodup, h.open_ t (by simp)⟩
theorem Inv.old {l : WL} {fr tx x : Int} {D D' : Int → Prop} {pre todo : List Int} (h : Inv l fr D tx pre todo) (hx : x ∈ pre) (hD : ∀ z, D' z → D z ∨ z = x) : Inv l fr D' tx pre todo :=
  ⟨h.sound, h.open_, fun y hy => by
    rcases h.closed y hy with a | a | ⟨e, a⟩
    · exact .inl a
    · exact .inr (.inl a)
    · exact .inr (.inr ⟨e, fun z hz => by rcases hD z hz with c | c; exact a z c; exact c ▸ hx⟩), h.nodup, h.cur⟩
theorem Inv.less {l : WL} {fr tx : Int} {D D' : Int → Prop} {pre todo : List Int} (h : Inv l fr D tx pre todo) (hD : ∀ z, D' z → D z) : Inv l fr D' tx pre todo :=
  ⟨h.sound, h.open_, fun y hy => by
    rcases h.closed y hy with a | a | ⟨e, a⟩
    · exact .inl a
    · exact .inr (.inl a)
    · exact .inr (.inr ⟨e, fun z hz => a z (hD z hz)⟩), h.nodup, h.cur⟩
theorem Inv.reach {l : WL} {fr tx x : Int} {D : Int → Prop} {pre todo : List Int} (h : Inv l fr D tx pre todo) (ha : Adj l tx x) : Rch l fr x := by
  rcases h.cur with e | e
  · exact .one (e ▸ ha)
  · exact .more (h.sound tx e) ha
theorem Inv.new {l : WL} {fr tx x : Int} {D D' : Int → Prop} {pre todo : List Int} (h : Inv l fr D tx pre todo) (hx : x ∉ pre) (ha : Adj l tx x) (hD : ∀ z, D' z → D z ∨ z = x) : Inv l fr D' tx (pre ++ [x]) (todo ++ [x]) :=
  ⟨fun y hy => by
    rcases List.mem_append.1 hy with a | a
    · exact h.sound y a
    · obtain rfl : y = x := by simpa using a
      exact h.reach ha,
   fun y hy => by
    rcases List.mem_append.1 hy with a | a
    · rcases h.open_ y a with b | b
      · exact .inl b
      · exact .inr (by simp [b])
    · exact .inr (by simp at a; simp [a]),
   fun y hy => by
    have hy' : (y = fr ∨ y ∈ pre) ∨ y = x := by
      rcases hy with a | a
      · exact .inl (.inl a)
      · rcases List.mem_append.1 a with b | b
        · exact .inl (.inr b)
        · exact .inr (by simpa using b)
    rcases hy' with a | a
    · rcases h.closed y a with b | b | ⟨e, b⟩
      · exact .inl (by simp [b])
      · exact .inr (.inl fun z hz => by simp [b z hz])
      · exact .inr (.inr ⟨e, fun z hz => by
          rcases hD z hz with c | c
          · simp [b z c]
          · simp [c]⟩)
    · exact .inl (by simp [a]),
   by
    rw [List.nodup_append]
    refine ⟨h.nodup, by simp, fun q hq b hb e => ?_⟩
    have hb' : b = x := by simpa using hb
    exact hx (hb' ▸ e ▸ hq),
   by
    rcases h.cur with e | e
    · exact .inl e
    · exact .inr (by simp [e])⟩
/-! ### the map of what was seen -/
def seenD (xs : List Int) : DataW Unit := xs.foldl (fun D x => D.put (.int .i64 x) (.lit (.bool true))) (.map [])
theorem seenD_snoc (pre : List Int) (x : Int) : seenD (pre ++ [x]) = (seenD pre).put (.int .i64 x) (.lit (.bool true)) := by simp [seenD]
theorem seenD_map (xs : List Int) : Maps.IsMap (seenD xs) := by
  have : ∀ (xs : List Int) (D : DataW Unit), Maps.IsMap D → Maps.IsMap (xs.foldl (fun D x => D.put (.int .i64 x) (.lit (.bool true))) D) := fun xs => by
    induction xs with
    | nil => intro D h; exact h
    | cons x xs ih => intro D h; exact ih _ (h.put _ _)
  exact this xs _ ⟨_, rfl⟩
def Seen (W : World) (b : Nat) (pre : List Int) : Prop := W.ownsMap (H := Unit) Try.prog 3 (plainElem Try.prog 4) b pre.length (seenD pre)
theorem seenD_at (pre : List Int) (x : Int) : (seenD pre).atKey (.int .i64 x) (.lit (.bool false)) = .lit (.bool (decide (x ∈ pre))) := by
  rw [← List.reverse_reverse pre]
  generalize pre.reverse = l
  induction l with
  | nil => simp [seenD, DataW.atKey]
  | cons y l ih =>
    rw [List.reverse_cons, seenD_snoc]
    by_cases e : x = y
    · subst e
      rw [Maps.atKey_put_same (seenD_map _) (k := .int .i64 x) trivial]
      simp
    · rw [Maps.atKey_put_other (by simpa using e), ih]
      simp [e]
theorem Seen.look {W : World} {b : Nat} {pre : List Int} (h : Seen W b pre) {x : Int} (hx : (Lit.int .i64 x).wf = true) (hz : (zeroValue 4).run Try.prog W = .ok (.bool false) W) :
    (Instr.lookup 40 (.map (some b)) (.int .i64 x) false).run Try.prog W = .ok (.bool (decide (x ∈ pre))) W := by
  obtain ⟨v, ps, hrun, hv⟩ := World.ownsMap.lookup h (Maps.int_keyed Try.underlying3) Try.underlying40 hz (plainElem_bool Try.underlying4 false) (Maps.keyOf_int_mk Try.underlying3 hx)
  rw [seenD_at] at hv
  have : v = .bool (decide (x ∈ pre)) := by
    unfold plainElem at hv
    rw [Try.underlying4] at hv
    cases v <;> simp_all
  rw [← this]
  exact hrun
theorem Seen.put {W : World} {b : Nat} {pre : List Int} (h : Seen W b pre) (hn : pre.length < maxLen) {x : Int} (hx : (Lit.int .i64 x).wf = true) :
    ∃ W', (Instr.mapUpdate 40 (.map (some b)) (.int .i64 x) (.bool true)).run Try.prog W = .ok () W' ∧ Seen W' b (pre ++ [x]) ∧ W.grownBy W' (some b) := by
  obtain ⟨W', hrun, ho, hg⟩ := World.ownsMap.update h (Maps.int_keyed Try.underlying3) Try.underlying40 hn (Maps.keyOf_int_mk Try.underlying3 hx) (plainElem_bool Try.underlying4 true)
  refine ⟨W', hrun, ?_, hg⟩
  unfold Seen
  rw [seenD_snoc, List.length_append]
  exact ho
end Go.Proofs.Ytdpdghahmapgkaa.Hand
