/- DiskDoes: the document's device, in plain lists, beside the program's. -/
import Derived.Test.YtghhmbagjhmgfaaDevMore
import Derived.Test.YtghhmbagjhmgfaaPrint2
import Derived.Test.YtghhmbagjhmgfaaPrint3
import Derived.Test.YtghhmbagjhmgfaaPrint4
import Derived.Test.YtghhmbagjhmgfaaPrint5
namespace Go.Proofs.Ytghhmbagjhmgfaa.Print
open Go.RowKit Go.Proofs.YtghhmbagjhmgfaaW.PrintWords Go.Proofs.YtghhmbagjhmgfaaW.PrintLast Go.Proofs.YtghhmbagjhmgfaaW.PrintMore
set_option linter.unusedVariables false
set_option linter.unusedSimpArgs false
def toP (x : S75) : Int × List Int := (x.f0, x.f1)
/-- The document's device. -/
structure PD where
  D : List (List Int)
  W : List S75
  armed : Bool
  dead : Bool
  left : Int
/-- The last write that waits at a place. -/
def PD.last (r : PD) (i : Int) : Option S75 := r.W.reverse.find? (fun x => x.f0 == i)
def PD.readB (r : PD) (i : Int) : List Int := if r.dead = true ∨ ¬ (0 ≤ i ∧ i < r.D.length) then [] else match r.last i with | some x => x.f1 | none => r.D.getD i.toNat []
def PD.readE (r : PD) (i : Int) : Int := if r.dead = true then 30 else if 0 ≤ i ∧ i < r.D.length then 0 else 3
def PD.stops (r : PD) : Bool := r.armed && r.left == 0
def PD.write (r : PD) (i : Int) (s : List Int) : PD := if r.dead = true ∨ ¬ (0 ≤ i ∧ i < r.D.length) ∨ s.length ≠ 256 then r else if r.stops = true then { r with dead := true } else { r with W := r.W ++ [⟨i, s⟩], left := wrap64 (r.left - 1) }
def PD.writeE (r : PD) (i : Int) (s : List Int) : Int := if r.dead = true then 30 else if ¬ (0 ≤ i ∧ i < r.D.length) then 3 else if s.length ≠ 256 then 1 else if r.stops = true then 30 else 0
def PD.sync (r : PD) : PD := if r.dead = true then r else if r.stops = true then { r with dead := true } else { r with D := (r.W.map toP).foldl setW r.D, W := [], left := wrap64 (r.left - 1) }
def PD.syncE (r : PD) : Int := if r.dead = true then 30 else if r.stops = true then 30 else 0
def PD.arm (r : PD) (n : Int) : PD := { r with armed := decide (0 ≤ n), left := n }
/-- The two are alike. -/
structure Alk (d : DS) (r : PD) : Prop where
  D : r.D = d.D
  W : r.W.map toP = d.W
  dead : r.dead = d.dead
  armed : d.dead = false → r.armed = d.armed
  left : d.dead = false → r.left = d.left
  lw : d.L = d.W.foldl setW d.D
theorem Alk.new (n : Nat) : Alk (newD n) ⟨List.replicate n (sect 0), [], false, false, 0⟩ := ⟨rfl, rfl, rfl, fun _ => rfl, fun _ => rfl, rfl⟩
theorem Alk.stops {d : DS} {r : PD} (h : Alk d r) (hd : d.dead = false) : r.stops = (livesF d).dead := by
  unfold PD.stops livesF
  simp [h.armed hd, h.left hd, hd]
theorem Alk.write {d : DS} {r : PD} (h : Alk d r) (i : Int) (s : List Int) : Alk (writeD d i s) (r.write i s) ∧ writeE d i s = r.writeE i s := by
  unfold writeD PD.write writeE PD.writeE
  rw [h.D, h.dead]
  by_cases h1 : d.dead = true
  · simp only [h1, true_or, if_true]
    exact ⟨h, trivial⟩
  have h1' : d.dead = false := by simpa using h1
  rw [h.stops h1', if_neg h1]
  by_cases h2 : ¬ (0 ≤ i ∧ i < (d.D.length : Int))
  · rw [if_pos (.inr (.inl h2)), if_pos (.inr (.inl h2)), if_pos h2]
    exact ⟨h, rfl⟩
  rw [if_neg h2]
  by_cases h3 : s.length ≠ 256
  · rw [if_pos (.inr (.inr h3)), if_pos (.inr (.inr h3)), if_pos h3]
    exact ⟨h, rfl⟩
  have hn : ¬ (d.dead = true ∨ ¬ (0 ≤ i ∧ i < (d.D.length : Int)) ∨ s.length ≠ 256) := by rintro (a | a | a); exact h1 a; exact h2 a; exact h3 a
  rw [if_neg h3, if_neg hn, if_neg hn]
  by_cases h4 : (livesF d).dead = true
  · rw [if_pos h4, if_pos h4, if_pos h4]
    exact ⟨⟨by first | rfl | exact h.D, h.W, h4.symm, fun e => (by rw [h4] at e; cases e), fun e => (by rw [h4] at e; cases e), h.lw⟩, rfl⟩
  · rw [if_neg h4, if_neg h4, if_neg h4]
    refine ⟨⟨by first | rfl | exact h.D, by show (r.W ++ [(⟨i, s⟩ : S75)]).map toP = d.W ++ [(i, s)]; rw [List.map_append, h.W]; rfl, ?_, fun _ => h.armed h1', fun _ => ?_, ?_⟩, rfl⟩
    · show d.dead = (livesF d).dead
      rw [h1']
      exact (Bool.eq_false_iff.2 h4).symm
    · show wrap64 (r.left - 1) = wrap64 (d.left - 1)
      rw [h.left h1']
    · show d.L.set i.toNat s = (d.W ++ [(i, s)]).foldl setW d.D
      rw [List.foldl_append, ← h.lw]
      rfl
theorem Alk.sync {d : DS} {r : PD} (h : Alk d r) : Alk (syncD d) r.sync ∧ syncE d = r.syncE := by
  unfold syncD PD.sync syncE PD.syncE
  rw [h.dead]
  by_cases h1 : d.dead = true
  · simp only [h1, if_true]
    exact ⟨h, trivial⟩
  have h1' : d.dead = false := by simpa using h1
  rw [h.stops h1', if_neg h1, if_neg h1, if_neg h1]
  by_cases h4 : (livesF d).dead = true
  · rw [if_pos h4, if_pos h4, if_pos h4]
    exact ⟨⟨by first | rfl | exact h.D, h.W, h4.symm, fun e => (by rw [h4] at e; cases e), fun e => (by rw [h4] at e; cases e), h.lw⟩, rfl⟩
  · rw [if_neg h4, if_neg h4, if_neg h4]
    refine ⟨⟨by show (r.W.map toP).foldl setW r.D = d.L; rw [h.W, h.D, h.lw], rfl, ?_, fun _ => h.armed h1', fun _ => ?_, rfl⟩, rfl⟩
    · show d.dead = (livesF d).dead
      rw [h1']
      exact (Bool.eq_false_iff.2 h4).symm
    · show wrap64 (r.left - 1) = wrap64 (d.left - 1)
      rw [h.left h1']
theorem Alk.arm {d : DS} {r : PD} (h : Alk d r) (n : Int) : Alk (armF d n) (r.arm n) := ⟨h.D, h.W, h.dead, fun _ => rfl, fun _ => rfl, h.lw⟩
theorem Alk.crash (d : DS) (f : Nat → Int) : Alk (crashD d f) ⟨(crashD d f).D, [], false, false, 0⟩ := ⟨rfl, rfl, rfl, fun _ => rfl, fun _ => rfl, rfl⟩
theorem last_get : ∀ (W : List (Int × List Int)) (D : List (List Int)) (i : Int), 0 ≤ i → i < D.length → (∀ x ∈ W, 0 ≤ x.1 ∧ x.1 < D.length) → (W.foldl setW D).getD i.toNat [] = match W.reverse.find? (fun x => x.1 == i) with | some x => x.2 | none => D.getD i.toNat []
  | [], _, _, _, _, _ => rfl
  | x :: W, D, i, h0, h1, hW => by
    have hx := hW x (List.mem_cons_self ..)
    have hl : (setW D x).length = D.length := by unfold setW; rw [List.length_set]
    have ih := last_get W (setW D x) i h0 (by rw [hl]; exact h1) (fun y hy => by rw [hl]; exact hW y (List.mem_cons_of_mem _ hy))
    rw [List.foldl_cons, ih, List.reverse_cons, List.find?_append]
    cases hf : W.reverse.find? (fun x => x.1 == i) with
    | some y => rfl
    | none =>
      by_cases e : x.1 = i
      · have e1 : (x.1 == i) = true := by simpa using e
        simp only [List.find?_cons, e1, Option.none_or]
        unfold setW
        rw [e, List.getD_eq_getElem?_getD, List.getElem?_set_self (by omega)]
        rfl
      · have e1 : (x.1 == i) = false := by simpa using e
        simp only [List.find?_cons, e1, List.find?_nil, Option.none_or]
        unfold setW
        rw [List.getD_eq_getElem?_getD, List.getElem?_set_ne (by omega), List.getD_eq_getElem?_getD]
theorem Alk.read {d : DS} {r : PD} {m : Nat} (h : Alk d r) (hO : d.Ok m) (i : Int) : readB d i = r.readB i ∧ readE d i = r.readE i := by
  refine ⟨?_, by unfold readE PD.readE; rw [h.dead, h.D]⟩
  unfold readB PD.readB
  rw [h.dead, h.D]
  by_cases h1 : d.dead = true
  · rw [if_neg (fun q : readOk d i => absurd q.1 (by rw [h1]; decide)), if_pos (.inl h1)]
  have h1' : d.dead = false := by simpa using h1
  by_cases h2 : (0 ≤ i ∧ i < (d.D.length : Int))
  · rw [if_neg (show ¬ (d.dead = true ∨ ¬ (0 ≤ i ∧ i < (d.D.length : Int))) from by rintro (a | a); exact h1 a; exact a h2)]
    have hl := last_get d.W d.D i h2.1 h2.2 (fun x hx => ⟨(hO.waits x hx).1, (hO.waits x hx).2.1⟩)
    rw [if_pos (show readOk d i from ⟨h1', h2.1, h2.2⟩), h.lw, hl]
    unfold PD.last
    rw [← h.W, ← List.map_reverse, List.find?_map]
    show (match Option.map toP (r.W.reverse.find? ((fun x => x.1 == i) ∘ toP)) with | some x => x.2 | none => d.D.getD i.toNat []) = _
    rw [show ((fun x : Int × List Int => x.1 == i) ∘ toP) = (fun x : S75 => x.f0 == i) from rfl]
    cases r.W.reverse.find? (fun x : S75 => x.f0 == i) <;> rfl
  · rw [if_neg (fun q : readOk d i => h2 ⟨q.2.1, q.2.2⟩), if_pos (.inr h2)]
/-! #### the document's functions, printed -/
theorem step_pd (r : PD) (hd : r.dead = false) : bobbinref03_step.f r.D r.W r.armed r.dead r.left = if r.stops = true then some (r.D, r.W, r.armed, true, r.left, false) else some (r.D, r.W, r.armed, false, wrap64 (r.left - 1), true) := by
  unfold bobbinref03_step.f PD.stops
  rw [hd]
  cases r.armed
  · rfl
  · by_cases h : r.left = 0
    · rw [if_pos rfl, if_pos h, if_pos (by simp [h])]
    · rw [if_pos rfl, if_neg h, if_neg (by simp [h])]
theorem write_pd (r : PD) (i : Int) (s : List Int) (hW : r.W.length ≤ 100000) (hs : s.length ≤ 256) (hD : r.D.length ≤ 4096) (k : Nat) : bobbinref03_Write.f (k + 1) r.D r.W r.armed r.dead r.left i s = some ((r.write i s).D, (r.write i s).W, (r.write i s).armed, (r.write i s).dead, (r.write i s).left, r.writeE i s) := by
  by_cases h1 : r.dead = true
  · have hw : r.write i s = r := by unfold PD.write; rw [if_pos (.inl h1)]
    have he : r.writeE i s = 30 := by unfold PD.writeE; rw [if_pos h1]
    rw [hw, he]
    unfold bobbinref03_Write.f
    rw [if_pos h1]
  have h1' : r.dead = false := by simpa using h1
  by_cases h2 : ¬ (0 ≤ i ∧ i < (r.D.length : Int))
  · have hw : r.write i s = r := by unfold PD.write; rw [if_pos (.inr (.inl h2))]
    have he : r.writeE i s = 3 := by unfold PD.writeE; rw [if_neg h1, if_pos h2]
    rw [hw, he]
    have bad : bobbinref03_Write.j0 (k + 1) i s true r.D r.W r.armed r.dead r.left = some (r.D, r.W, r.armed, r.dead, r.left, 3) := by rw [bobbinref03_Write.j0_eq, if_pos rfl]
    unfold bobbinref03_Write.f
    rw [if_neg h1]
    by_cases h0 : i < 0
    · rw [if_pos h0]; exact bad
    · rw [if_neg h0, decide_eq_true (by omega)]; exact bad
  have h2' := Decidable.not_not.1 h2
  have hf : bobbinref03_Write.f (k + 1) r.D r.W r.armed r.dead r.left i s = bobbinref03_Write.j0 (k + 1) i s false r.D r.W r.armed r.dead r.left := by
    unfold bobbinref03_Write.f
    rw [if_neg h1, if_neg (show ¬ i < 0 by omega), decide_eq_false (by omega)]
  rw [hf, bobbinref03_Write.j0_eq, if_neg (show ¬ false = true by decide)]
  by_cases h3 : s.length ≠ 256
  · have hw : r.write i s = r := by unfold PD.write; rw [if_pos (.inr (.inr h3))]
    have he : r.writeE i s = 1 := by unfold PD.writeE; rw [if_neg h1, if_neg h2, if_pos h3]
    rw [hw, he, if_neg (by omega)]
  have h3' : s.length = 256 := Decidable.not_not.1 h3
  have hn : ¬ (r.dead = true ∨ ¬ (0 ≤ i ∧ i < (r.D.length : Int)) ∨ s.length ≠ 256) := by rintro (a | a | a); exact h1 a; exact h2 a; exact h3 a
  rw [if_pos (show (s.length : Int) = 256 by omega), step_pd r h1']
  by_cases h4 : r.stops = true
  · have hw : r.write i s = { r with dead := true } := by unfold PD.write; rw [if_neg hn, if_pos h4]
    have he : r.writeE i s = 30 := by unfold PD.writeE; rw [if_neg h1, if_neg h2, if_neg h3, if_pos h4]
    rw [hw, he, if_pos h4]
    rfl
  · have hw : r.write i s = { r with W := r.W ++ [⟨i, s⟩], left := wrap64 (r.left - 1) } := by unfold PD.write; rw [if_neg hn, if_neg h4]
    have he : r.writeE i s = 0 := by unfold PD.writeE; rw [if_neg h1, if_neg h2, if_neg h3, if_neg h4]
    rw [hw, he, if_neg h4]
    simp only [Option.bind_some, List.nil_append, List.length_nil, Nat.zero_add, if_true]
    rw [if_pos (by omega), if_pos (by omega), if_pos (by omega), h1']
theorem arm_pd (r : PD) (n : Int) : bobbinref03_Arm.f r.D r.W r.armed r.dead r.left n = some ((r.arm n).D, (r.arm n).W, (r.arm n).armed, (r.arm n).dead, (r.arm n).left) := rfl
theorem sync_l0 (o : List (List Int)) (W : List S75) (a dd : Bool) (lf : Int) (hW : W.length ≤ 100000) : ∀ (n i : Nat) (D : List (List Int)), i + n = W.length → (∀ x ∈ W, 0 ≤ x.f0 ∧ x.f0 < D.length) → bobbinref03_Sync.l0 (n + 1) D i o W a dd lf = some (((W.drop i).map toP).foldl setW D, [], a, dd, lf, 0)
  | 0, i, D, h, hx => by
    rw [bobbinref03_Sync.l0_eq, if_neg (by omega), List.drop_eq_nil_of_le (by omega)]
    rfl
  | n + 1, i, D, h, hx => by
    have hi : i < W.length := by omega
    have hg : rd_T75 W (i : Int) = W[i] := by
      unfold rd_T75
      rw [show ((i : Int)).toNat = i from rfl, List.getD_eq_getElem?_getD, List.getElem?_eq_getElem hi]
      rfl
    have hr := hx W[i] (List.getElem_mem hi)
    rw [bobbinref03_Sync.l0_eq, if_pos (by omega), if_pos (by omega), hg, if_pos hr.1, if_pos hr.2, show wrap64 ((i : Int) + 1) = ((i + 1 : Nat) : Int) by unfold wrap64; omega]
    rw [sync_l0 o W a dd lf hW n (i + 1) _ (by omega) (fun x hm => by rw [List.length_set]; exact hx x hm), List.drop_eq_getElem_cons hi]
    rfl
theorem sync_pd (r : PD) (hW : r.W.length ≤ 100000) (hD : r.D.length ≤ 4096) (hx : ∀ x ∈ r.W, 0 ≤ x.f0 ∧ x.f0 < r.D.length) : bobbinref03_Sync.f (r.W.length + 1) r.D r.W r.armed r.dead r.left = some (r.sync.D, r.sync.W, r.sync.armed, r.sync.dead, r.sync.left, r.syncE) := by
  by_cases h1 : r.dead = true
  · have hw : r.sync = r := by unfold PD.sync; rw [if_pos h1]
    have he : r.syncE = 30 := by unfold PD.syncE; rw [if_pos h1]
    rw [hw, he]
    unfold bobbinref03_Sync.f
    rw [if_pos h1]
  have h1' : r.dead = false := by simpa using h1
  have hf : bobbinref03_Sync.f (r.W.length + 1) r.D r.W r.armed r.dead r.left = (bobbinref03_step.f r.D r.W r.armed r.dead r.left).bind fun bt158 => (if bt158.2.2.2.2.2 = true then (if ([] : List (List Int)).length + bt158.1.length < 5864062014805 then (bobbinref03_Sync.l0 (r.W.length + 1) (([] : List (List Int)) ++ bt158.1) 0 bt158.1 bt158.2.1 bt158.2.2.1 bt158.2.2.2.1 bt158.2.2.2.2.1) else (none)) else (some (bt158.1, bt158.2.1, bt158.2.2.1, bt158.2.2.2.1, bt158.2.2.2.2.1, 30))) := by
    unfold bobbinref03_Sync.f
    rw [if_neg h1]
  rw [hf, step_pd r h1']
  by_cases h4 : r.stops = true
  · have hw : r.sync = { r with dead := true } := by unfold PD.sync; rw [if_neg h1, if_pos h4]
    have he : r.syncE = 30 := by unfold PD.syncE; rw [if_neg h1, if_pos h4]
    rw [hw, he, if_pos h4]
    rfl
  · have hw : r.sync = { r with D := (r.W.map toP).foldl setW r.D, W := [], left := wrap64 (r.left - 1) } := by unfold PD.sync; rw [if_neg h1, if_neg h4]
    have he : r.syncE = 0 := by unfold PD.syncE; rw [if_neg h1, if_neg h4]
    rw [hw, he, if_neg h4]
    simp only [Option.bind_some, List.nil_append, List.length_nil, Nat.zero_add, if_true]
    rw [if_pos (by omega)]
    have := sync_l0 r.D r.W r.armed false (wrap64 (r.left - 1)) hW r.W.length 0 r.D (by omega) hx
    rw [List.drop_zero] at this
    rw [h1']
    exact this
theorem find_take {W : List S75} {i : Nat} (h : i < W.length) (p : S75 → Bool) : ((W.take (i + 1)).reverse.find? p) = if p W[i] = true then some W[i] else (W.take i).reverse.find? p := by
  rw [List.take_succ_eq_append_getElem h, List.reverse_append, List.reverse_singleton, List.singleton_append, List.find?_cons]
  cases p W[i] <;> rfl
theorem read_l0 (r : PD) (i : Int) (hW : r.W.length ≤ 100000) (h0 : 0 ≤ i) (h1 : i < r.D.length) : ∀ (n : Nat), n ≤ r.W.length → bobbinref03_Read.l0 (n + 1) i ((n : Int) - 1) r.D r.W r.armed r.dead r.left = some ((match (r.W.take n).reverse.find? (fun x => x.f0 == i) with | some x => x.f1 | none => r.D.getD i.toNat []), 0)
  | 0, _ => by
    rw [bobbinref03_Read.l0_eq, if_neg (by omega), if_pos h0, if_pos h1]
    rfl
  | n + 1, h => by
    have hn : n < r.W.length := by omega
    have hg : rd_T75 r.W (n : Int) = r.W[n] := by
      unfold rd_T75
      rw [show ((n : Int)).toNat = n from rfl, List.getD_eq_getElem?_getD, List.getElem?_eq_getElem hn]
      rfl
    rw [show (((n + 1 : Nat)) : Int) - 1 = (n : Int) by omega, bobbinref03_Read.l0_eq, if_pos (by omega), if_pos (by omega), if_pos (by omega), hg, find_take hn]
    by_cases e : r.W[n].f0 = i
    · rw [if_pos e, if_pos (by simpa using e)]
    · rw [if_neg e, if_neg (by simpa using e), show wrap64 ((n : Int) - 1) = (n : Int) - 1 by unfold wrap64; omega]
      exact read_l0 r i hW h0 h1 n (by omega)
theorem read_pd (r : PD) (i : Int) (hW : r.W.length ≤ 100000) : bobbinref03_Read.f (r.W.length + 2) r.D r.W r.armed r.dead r.left i = some (r.readB i, r.readE i) := by
  by_cases h1 : r.dead = true
  · have hb : r.readB i = [] := by unfold PD.readB; rw [if_pos (.inl h1)]
    have he : r.readE i = 30 := by unfold PD.readE; rw [if_pos h1]
    rw [hb, he]
    unfold bobbinref03_Read.f
    rw [if_pos h1]
  by_cases h2 : ¬ (0 ≤ i ∧ i < (r.D.length : Int))
  · have hb : r.readB i = [] := by unfold PD.readB; rw [if_pos (.inr h2)]
    have he : r.readE i = 3 := by unfold PD.readE; rw [if_neg h1, if_neg h2]
    rw [hb, he]
    have bad : bobbinref03_Read.j0 (r.W.length + 2) i true r.D r.W r.armed r.dead r.left = some ([], 3) := by rw [bobbinref03_Read.j0_eq, if_pos rfl]
    unfold bobbinref03_Read.f
    rw [if_neg h1]
    by_cases h0 : i < 0
    · rw [if_pos h0]; exact bad
    · rw [if_neg h0, decide_eq_true (by omega)]; exact bad
  have h2' := Decidable.not_not.1 h2
  have hb : r.readB i = match r.last i with | some x => x.f1 | none => r.D.getD i.toNat [] := by
    unfold PD.readB
    rw [if_neg (by rintro (a | a); exact h1 a; exact h2 a)]
  have he : r.readE i = 0 := by unfold PD.readE; rw [if_neg h1, if_pos h2']
  have hf : bobbinref03_Read.f (r.W.length + 2) r.D r.W r.armed r.dead r.left i = bobbinref03_Read.j0 (r.W.length + 2) i false r.D r.W r.armed r.dead r.left := by
    unfold bobbinref03_Read.f
    rw [if_neg h1, if_neg (show ¬ i < 0 by omega), decide_eq_false (by omega)]
  rw [hf, hb, he, bobbinref03_Read.j0_eq, if_neg (show ¬ false = true by decide), show wrap64 ((r.W.length : Int) - 1) = (r.W.length : Int) - 1 by unfold wrap64; omega, read_l0 r i hW h2'.1 h2'.2 r.W.length (Nat.le_refl _), List.take_length]
  rfl
theorem new_l0 (n : Nat) (hn : n ≤ 4096) : ∀ (j i : Nat), i + j = n → bobbinref03_New.l0 (j + 1) n i (List.replicate i (List.replicate 256 0)) false false 0 = some (List.replicate n (List.replicate 256 0), [], false, false, 0, 0)
  | 0, i, h => by
    obtain rfl : i = n := by omega
    rw [bobbinref03_New.l0_eq, if_neg (by omega)]
  | j + 1, i, h => by
    rw [bobbinref03_New.l0_eq, if_pos (by omega), if_pos (by decide), if_pos (by rw [List.length_replicate]; omega), show wrap64 ((i : Int) + 1) = ((i + 1 : Nat) : Int) by unfold wrap64; omega, ← List.replicate_succ']
    exact new_l0 n hn j (i + 1) (by omega)
theorem new_pd (n : Nat) (h1 : 1 ≤ n) (hn : n ≤ 4096) : bobbinref03_New.f (n + 2) n = some (List.replicate n (sect 0), [], false, false, 0, 0) := by
  unfold bobbinref03_New.f
  rw [if_neg (by omega), decide_eq_false (by omega), bobbinref03_New.j0_eq, if_neg (by decide)]
  exact new_l0 n hn n 0 (by omega)
end Go.Proofs.Ytghhmbagjhmgfaa.Print
namespace Go.Proofs.Ytghhmbagjhmgfaa.Print
open Go.RowKit Go.Proofs.YtghhmbagjhmgfaaW.PrintWords Go.Proofs.YtghhmbagjhmgfaaW.PrintLast Go.Proofs.YtghhmbagjhmgfaaW.PrintMore
set_option linter.unusedVariables false
set_option linter.unusedSimpArgs false
theorem evp {α : Type} {c : Prop} [Decidable c] {g f : Nat → Option α} {r : α} (hc : c) (h : Ev g r) : Ev (fun k => if c then g k else f k) r := by simpa [hc] using h
theorem evn {α : Type} {c : Prop} [Decidable c] {g f : Nat → Option α} {r : α} (hc : ¬ c) (h : Ev f r) : Ev (fun k => if c then g k else f k) r := by simpa [hc] using h
theorem part_get {o s : List Int} {n : Int} (h1 : o.length = 256) (h2 : s.length = 256) (h3 : 0 ≤ n) (h4 : n ≤ 256) {i : Nat} (hi : i < 256) : (partL o s n).take (i + 1) = (partL o s n).take i ++ [if (i : Int) < n then rd s i else rd o i] := by
  have hl := partL_len h1 h2 h3 h4
  rw [List.take_succ_eq_append_getElem (by omega)]
  congr 2
  unfold partL rd
  rw [show ((i : Int)).toNat = i from rfl]
  have ht : (s.take n.toNat).length = n.toNat := by rw [List.length_take]; omega
  by_cases c : (i : Int) < n
  · rw [if_pos c, List.getElem_append_left (by omega), List.getElem_take, List.getD_eq_getElem?_getD, List.getElem?_eq_getElem (by omega)]
    rfl
  · rw [if_neg c, List.getElem_append_right (by omega), List.getElem_drop, List.getD_eq_getElem?_getD, List.getElem?_eq_getElem (by omega)]
    simp only [ht, show n.toNat + (i - n.toNat) = i by omega]
    rfl
theorem rpart_l0 {o s : List Int} {n : Int} (h1 : o.length = 256) (h2 : s.length = 256) (h3 : 0 ≤ n) (h4 : n ≤ 256) (d : Nat) : ∀ i : Nat, i + d = 256 → Ev (fun k => bobbinref02_Part.l0 k o s n ((partL o s n).take i) (i : Int)) (partL o s n, 0) := by
  have hl := partL_len h1 h2 h3 h4
  induction d with
  | zero =>
    intro i hi
    refine Ev.step (fun k => bobbinref02_Part.l0_eq k _ _ _ _ _) (evn (by omega) ?_)
    rw [List.take_of_length_le (by omega)]
    exact Ev.now _
  | succ d ih =>
    intro i hi
    have nx := ih (i + 1) (by omega)
    rw [part_get h1 h2 h3 h4 (by omega)] at nx
    refine Ev.step (fun k => bobbinref02_Part.l0_eq k _ _ _ _ _) (evp (by omega) ?_)
    rw [show wrap64 ((i : Int) + 1) = ((i + 1 : Nat) : Int) by unfold wrap64; omega]
    by_cases c : (i : Int) < n
    · rw [if_pos c] at nx
      exact evp c (evp (by omega) (evp (by omega) (evp (by rw [List.length_take]; omega) nx)))
    · rw [if_neg c] at nx
      exact evn c (evp (by omega) (evp (by omega) (evp (by rw [List.length_take]; omega) nx)))
theorem rpart {o s : List Int} {n : Int} (h1 : o.length = 256) (h2 : s.length = 256) (h3 : 0 ≤ n) (h4 : n ≤ 256) : Ev (fun k => bobbinref02_Part.f k o s n) (partL o s n, 0) := by
  unfold bobbinref02_Part.f
  refine evp (by omega) (evp (by omega) (evn (by omega) ?_))
  rw [decide_eq_false (by omega)]
  refine Ev.step (fun k => bobbinref02_Part.j0_eq k _ _ _ _) (evn (by decide) ?_)
  exact rpart_l0 h1 h2 h3 h4 256 0 rfl
end Go.Proofs.Ytghhmbagjhmgfaa.Print
namespace Go.Proofs.Ytghhmbagjhmgfaa.Print
open Go.RowKit Go.Proofs.YtghhmbagjhmgfaaW.PrintWords Go.Proofs.YtghhmbagjhmgfaaW.PrintLast Go.Proofs.YtghhmbagjhmgfaaW.PrintMore
set_option linter.unusedVariables false
set_option linter.unusedSimpArgs false
theorem j3_step (D : List (List Int)) (W : List S75) (i : Nat) (hi : i < W.length) (hm : W.length ≤ 100000) (kv v : Int) (hk : v = if kv < 0 then 0 else if kv > 256 then 256 else kv) (hx1 : 0 ≤ (rd_T75 W (i : Int)).f0) (hx2 : (rd_T75 W (i : Int)).f0 < (D.length : Int)) (o : List (List Int)) (a dd : Bool) (lf : Int) (kp : List Bool) (torn kk : Int) (k : Nat) :
    bobbinref03_Crash.j3 (k + 1) D (i : Int) kv o W a dd lf kp torn kk = (bobbinref02_Part.f k (rd_L1 D (rd_T75 W (i : Int)).f0) (rd_T75 W (i : Int)).f1 v).bind fun bt => bobbinref03_Crash.l0 k (D.set ((rd_T75 W (i : Int)).f0).toNat bt.1) ((i + 1 : Nat) : Int) o W a dd lf kp torn kk := by
  have hwr : wrap64 ((i : Int) + 1) = ((i + 1 : Nat) : Int) := by unfold wrap64; omega
  have h0 : 0 ≤ (i : Int) := by omega
  have h1 : (i : Int) < (W.length : Int) := by omega
  rw [bobbinref03_Crash.j3_eq, hwr]
  by_cases c1 : kv < 0
  · rw [if_pos c1] at hk
    rw [if_pos c1, if_neg (show ¬ (0 : Nat) > 256 by omega), if_pos h0, if_pos h1, if_pos hx1, if_pos hx2, hk]
  · rw [if_neg c1] at hk
    rw [if_neg c1]
    by_cases c2 : kv > 256
    · rw [if_pos c2] at hk
      rw [if_pos c2, if_pos h0, if_pos h1, if_pos hx1, if_pos hx2, hk]
    · rw [if_neg c2] at hk
      rw [if_neg c2, if_pos h0, if_pos h1, if_pos hx1, if_pos hx2, hk]
section
variable {d : DS} {m : Nat} (hO : d.Ok m) (W : List S75) (hW : W.map toP = d.W) (hm : W.length ≤ 100000) (o : List (List Int)) (a dd : Bool) (lf : Int) (kp : List Bool) (torn kk : Int) (hkp : kp.length ≤ 9223372036854775807)
include hO hW hm
theorem crash_j3 (f : Nat → Int) (hf : ∀ i, 0 ≤ f i ∧ f i ≤ 256) {i : Nat} (hi : i < W.length) (kv : Int) (hk : f i = if kv < 0 then 0 else if kv > 256 then 256 else kv) {r : List (List Int) × List S75 × Bool × Bool × Int}
    (nx : Ev (fun k => bobbinref03_Crash.l0 k (crL d f (List.range (i + 1))) ((i + 1 : Nat) : Int) o W a dd lf kp torn kk) r) :
    Ev (fun k => bobbinref03_Crash.j3 k (crL d f (List.range i)) (i : Int) kv o W a dd lf kp torn kk) r := by
  have hg : rd_T75 W (i : Int) = W[i] := by
    unfold rd_T75
    rw [show ((i : Int)).toNat = i from rfl, List.getD_eq_getElem?_getD, List.getElem?_eq_getElem hi]
    rfl
  have hl : d.W.length = W.length := by rw [← hW, List.length_map]
  have hdw : d.W.getD (min i (d.W.length - 1)) (0, []) = toP W[i] := by
    rw [show min i (d.W.length - 1) = i by omega, ← hW, List.getD_eq_getElem?_getD, List.getElem?_map, List.getElem?_eq_getElem hi]
    rfl
  have hx := hO.waits (toP W[i]) (by rw [← hW]; exact List.mem_map_of_mem (List.getElem_mem hi))
  have hx1 : 0 ≤ W[i].f0 := hx.1
  have hx2 : W[i].f0 < (d.D.length : Int) := hx.2.1
  have hx3 : W[i].f1.length = 256 := hx.2.2
  have hcl : (crL d f (List.range i)).length = d.D.length := crL_len d f _
  have h6 : ((crL d f (List.range i)).getD W[i].f0.toNat []).length = 256 := by
    rw [List.getD_eq_getElem?_getD, List.getElem?_eq_getElem (by omega)]
    exact crL_256 f hO (by omega) hf _ _ (List.getElem_mem _)
  have hs : crL d f (List.range (i + 1)) = (crL d f (List.range i)).set W[i].f0.toNat (partL ((crL d f (List.range i)).getD W[i].f0.toNat []) W[i].f1 (f i)) := by
    rw [List.range_succ, crL_snoc]
    unfold wAt wS
    rw [hdw]
    rfl
  rw [hs] at nx
  obtain ⟨K1, q1⟩ := rpart h6 hx3 (hf i).1 (hf i).2
  obtain ⟨K2, q2⟩ := nx
  refine ⟨max K1 K2 + 1, fun k hk' => ?_⟩
  obtain ⟨k, rfl⟩ : ∃ q, k = q + 1 := ⟨k - 1, by omega⟩
  show bobbinref03_Crash.j3 (k + 1) (crL d f (List.range i)) (i : Int) kv o W a dd lf kp torn kk = some r
  rw [j3_step _ W i hi hm kv (f i) hk (by rw [hg]; exact hx1) (by rw [hg, hcl]; exact hx2), hg]
  have e1 : bobbinref02_Part.f k ((crL d f (List.range i)).getD W[i].f0.toNat []) W[i].f1 (f i) = _ := q1 k (by omega)
  have e2 := q2 k (by omega)
  unfold rd_L1
  rw [e1]
  exact e2
theorem crash_l0 (n : Nat) : ∀ i : Nat, i + n = W.length → Ev (fun k => bobbinref03_Crash.l0 k (crL d (kf (fun j => kp.getD j false) kp.length torn kk) (List.range i)) (i : Int) o W a dd lf kp torn kk) (crL d (kf (fun j => kp.getD j false) kp.length torn kk) (List.range W.length), [], false, false, 0) := by
  induction n with
  | zero =>
    intro i hi
    refine Ev.step (fun k => bobbinref03_Crash.l0_eq k _ _ _ _ _ _ _ _ _ _) (evn (by omega) ?_)
    rw [show i = W.length by omega]
    exact Ev.now _
  | succ n ih =>
    intro i hi
    have nx := ih (i + 1) (by omega)
    have hf : ∀ i, 0 ≤ kf (fun j => kp.getD j false) kp.length torn kk i ∧ kf (fun j => kp.getD j false) kp.length torn kk i ≤ 256 := fun i => by
      unfold kf mn mx
      split <;> split <;> (try split) <;> omega
    have hj2 : ∀ b : Bool, (b = true ↔ 0 < kp.length ∧ kp.getD (i % kp.length) false = true) → Ev (fun k => bobbinref03_Crash.j1 k (crL d (kf (fun j => kp.getD j false) kp.length torn kk) (List.range i)) (i : Int) 0 b o W a dd lf kp torn kk) (crL d (kf (fun j => kp.getD j false) kp.length torn kk) (List.range W.length), [], false, false, 0) := fun b hb => by
      refine Ev.step (fun k => bobbinref03_Crash.j1_eq k _ _ _ _ _ _ _ _ _ _ _ _) ?_
      have h2 : ∀ v : Int, (v = if 0 < kp.length ∧ kp.getD (i % kp.length) false = true then 256 else 0) → Ev (fun k => bobbinref03_Crash.j2 k (crL d (kf (fun j => kp.getD j false) kp.length torn kk) (List.range i)) (i : Int) v o W a dd lf kp torn kk) (crL d (kf (fun j => kp.getD j false) kp.length torn kk) (List.range W.length), [], false, false, 0) := fun v hv => by
        refine Ev.step (fun k => bobbinref03_Crash.j2_eq k _ _ _ _ _ _ _ _ _ _ _) ?_
        by_cases c : (i : Int) = torn
        · refine evp c (crash_j3 hO W hW hm o a dd lf kp torn kk _ hf (by omega) kk ?_ nx)
          unfold kf mn mx
          rw [if_pos c]
          split <;> split <;> (try split) <;> omega
        · refine evn c (crash_j3 hO W hW hm o a dd lf kp torn kk _ hf (by omega) v ?_ nx)
          unfold kf
          rw [if_neg c, hv]
          split <;> rfl
      by_cases c : b = true
      · exact evp c (h2 256 (by rw [if_pos (hb.1 c)]))
      · exact evn c (h2 0 (by rw [if_neg (fun q => c (hb.2 q))]))
    refine Ev.step (fun k => bobbinref03_Crash.l0_eq k _ _ _ _ _ _ _ _ _ _) (evp (by omega) ?_)
    by_cases c : (kp.length : Int) > 0
    · have hmod : Int.tmod (i : Int) (kp.length : Int) = ((i % kp.length : Nat) : Int) := by rw [Int.tmod_eq_emod_of_nonneg (by omega)]; rfl
      have hlt : i % kp.length < kp.length := Nat.mod_lt _ (by omega)
      refine evp c (evn (by omega) ?_)
      rw [hmod]
      refine evp (by omega) (evp (by omega) (hj2 _ ?_))
      unfold rdOf
      rw [show (((i % kp.length : Nat) : Int)).toNat = i % kp.length from rfl]
      constructor
      · intro q; exact ⟨by omega, q⟩
      · intro q; exact q.2
    · exact evn c (hj2 false (by constructor; intro q; cases q; intro q; omega))
end
/-- The document's crash, and the program's. -/
theorem crash_pd {d : DS} {m : Nat} (hO : d.Ok m) (r : PD) (hA : Alk d r) (hm : r.W.length ≤ 100000) (kp : List Bool) (torn kk : Int) : Ev (fun k => bobbinref03_Crash.f k r.D r.W r.armed r.dead r.left kp torn kk) ((crashD d (kf (fun j => kp.getD j false) kp.length torn kk)).D, [], false, false, 0) := by
  have hl : d.W.length = r.W.length := by rw [← hA.W, List.length_map]
  have h0 := crash_l0 hO r.W hA.W hm d.D r.armed r.dead r.left kp torn kk r.W.length 0 (by omega)
  unfold bobbinref03_Crash.f
  rw [hA.D]
  refine evp (by have := hO.max; rw [List.length_nil]; omega) ?_
  rw [List.nil_append]
  show Ev _ (crL d _ (List.range d.W.length), [], false, false, 0)
  rw [hl]
  exact h0
end Go.Proofs.Ytghhmbagjhmgfaa.Print
