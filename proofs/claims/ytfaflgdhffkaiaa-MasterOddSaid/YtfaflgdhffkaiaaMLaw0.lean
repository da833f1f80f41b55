/- law09: a device that lives and is synced; what is read of it; one, awake. -/
import Derived.Test.YtfaflgdhffkaiaaMRead
import Derived.Test.YtfaflgdhffkaiaaMWrite
import Derived.Test.YtfaflgdhffkaiaaMastP
import Derived.Deep.QuietTactic
import Derived.BigQuiet
namespace Go.Proofs.Ytfaflgdhffkaiaa.Print
open Go.RowKit Go.Proofs.YtfaflgdhffkaiaaW.PrintWords Go.Proofs.YtfaflgdhffkaiaaW.PrintLast Go.Proofs.YtfaflgdhffkaiaaW.PrintMore
set_option linter.unusedVariables false
set_option linter.unusedSimpArgs false
structure St (d : DS) (n : Nat) : Prop where
  ok : d.Ok 0
  armed : d.armed = false
  dead : d.dead = false
  len : d.D.length = n
theorem St.new (n : Nat) (h : n ≤ 4096) : St (newD n) n := ⟨newD_ok n h, rfl, rfl, by simp [newD]⟩
theorem mw_step {d : DS} {n : Nat} (h : St d n) (i : Int) (h0 : 0 ≤ i) (h1 : i < n) (s : List Int) (hs : s.length = 256) :
    writeE d i s = 0 ∧ writeD d i s = writeF (livesF d) i s ∧ (livesF d).dead = false := by
  have hl : (livesF d).dead = false := by simp [livesF, h.armed, h.dead]
  have hd : ¬ (d.dead = true) := by rw [h.dead]; decide
  have hr : ¬ ¬ (0 ≤ i ∧ i < (d.D.length : Int)) := fun q => q ⟨h0, by rw [h.len]; exact h1⟩
  refine ⟨?_, ?_, hl⟩
  · unfold writeE
    rw [if_neg hd, if_neg hr, if_neg (by omega), if_neg (by rw [hl]; decide)]
  · unfold writeD
    rw [if_neg (by rintro (q | q | q); exact hd q; exact hr q; exact q hs), if_neg (by rw [hl]; decide)]
theorem mw_st {d : DS} {n : Nat} (h : St d n) (h2 : 2 ≤ n) (m : MS) (hm : m.mayP) : mwE d m = 0 ∧ St (mwD d m) n ∧ (mwD d m).L = d.L.set (m.no % 2).toNat m.sect ∧ (mwD d m).W = [] ∧ (mwD d m).D = (mwD d m).L := by
  have h0 : 0 ≤ m.no % 2 := by have := hm.1; omega
  have h1 : m.no % 2 < 2 := by omega
  obtain ⟨e1, e2, e3⟩ := mw_step h (m.no % 2) h0 (by omega) m.sect m.sect_len
  have ho := writeD_ok h.ok (m.no % 2) m.sect
  have hD : mwD d m = syncD (writeD d (m.no % 2) m.sect) := if_pos e1
  have hE : mwE d m = syncE (writeD d (m.no % 2) m.sect) := if_pos e1
  rw [hD, hE]
  have hso := syncD_ok ho
  have hsl := (syncD_len ho).trans ((writeD_len d (m.no % 2) m.sect).trans h.len)
  rw [e2] at hso hsl ⊢
  have hd1 : (writeF (livesF d) (m.no % 2) m.sect).dead = false := e3
  have ha1 : (writeF (livesF d) (m.no % 2) m.sect).armed = false := h.armed
  have hl1 : (livesF (writeF (livesF d) (m.no % 2) m.sect)).dead = false := by simp [livesF, writeF, h.armed, h.dead]
  have hs : syncD (writeF (livesF d) (m.no % 2) m.sect) = syncF (livesF (writeF (livesF d) (m.no % 2) m.sect)) := by
    unfold syncD
    rw [if_neg (by rw [hd1]; decide), if_neg (by rw [hl1]; decide)]
  have hse : syncE (writeF (livesF d) (m.no % 2) m.sect) = 0 := by
    unfold syncE
    rw [if_neg (by rw [hd1]; decide), if_neg (by rw [hl1]; decide)]
  refine ⟨hse, ⟨?_, ?_, ?_, hsl⟩, ?_, ?_, ?_⟩
  · have hk := hso
    exact ⟨hk.len, hk.max, hk.dur, hk.last, hk.waits, by rw [hs]; exact Nat.le_refl _⟩
  · rw [hs]; exact ha1
  · rw [hs]; exact hl1
  · rw [hs]; rfl
  · rw [hs]; rfl
  · rw [hs]; rfl
/-! #### what is read of two sectors -/
def secO : Option MS → List Int
  | none => sect 0
  | some m => m.sect
def Good (x : Option MS) (p : Int) : Prop := ∀ m, x = some m → m.mayP ∧ m.no % 2 = p
theorem secO_bytes (x : Option MS) : Bytes (secO x) := by
  cases x with
  | none => exact fun v hv => by rw [List.eq_of_mem_replicate hv]; omega
  | some m => exact m.sect_bytes
theorem pick_none (b : MS) (p : Int) : pickM b (sect 0) p = b := by
  unfold pickM
  rw [if_neg]
  intro q
  have := told_zero p
  have h : toldB (sect 0) p = false := this
  rw [h] at q
  cases q.1
theorem pick_some (b m : MS) (p : Int) (hm : m.mayP) (hp : m.no % 2 = p) : pickM b m.sect p = if b.no < m.no then m else b := by
  unfold pickM
  obtain ⟨h1, h2⟩ := told_sect m hm p
  rw [h1, h2]
  by_cases h : b.no < m.no
  · rw [if_pos ⟨by simpa using hp, h⟩, if_pos h]
  · rw [if_neg (fun q => h q.2), if_neg h]
structure Two (L : List (List Int)) (x y : Option MS) : Prop where
  l0 : L.getD 0 [] = secO x
  l1 : L.getD 1 [] = secO y
  g0 : Good x 0
  g1 : Good y 1
  len : 2 ≤ L.length
theorem Two.bytes {L : List (List Int)} {x y : Option MS} (h : Two L x y) : ∀ k, k < 2 → Bytes (L.getD k []) := fun k hk => by
  match k, hk with
  | 0, _ => rw [h.l0]; exact secO_bytes x
  | 1, _ => rw [h.l1]; exact secO_bytes y
def betterO (b : MS) : Option MS → MS
  | none => b
  | some m => if b.no < m.no then m else b
theorem pickO (b : MS) (x : Option MS) (p : Int) (h : Good x p) : pickM b (secO x) p = betterO b x := by
  cases x with
  | none => exact pick_none b p
  | some m => exact pick_some b m p (h m rfl).1 (h m rfl).2
theorem Two.best {L : List (List Int)} {x y : Option MS} (h : Two L x y) : bestL L 2 = betterO (betterO mz x) y := by
  show pickM (pickM mz (L.getD 0 []) ((0 : Nat) : Int)) (L.getD 1 []) ((1 : Nat) : Int) = _
  rw [h.l0, h.l1, show (((0 : Nat)) : Int) = 0 from rfl, show (((1 : Nat)) : Int) = 1 from rfl, pickO _ _ _ h.g0, pickO _ _ _ h.g1]
theorem Two.new : Two (newD 2).L none none := ⟨rfl, rfl, fun m e => (by cases e), fun m e => (by cases e), by decide⟩
theorem Two.new4 : Two (newD 4).L none none := ⟨rfl, rfl, fun m e => (by cases e), fun m e => (by cases e), by decide⟩
def putX (x : Option MS) (m : MS) : Option MS := if m.no % 2 = 0 then some m else x
def putY (y : Option MS) (m : MS) : Option MS := if m.no % 2 = 0 then y else some m
theorem Two.put {L : List (List Int)} {x y : Option MS} (h : Two L x y) (m : MS) (hm : m.mayP) : Two (L.set (m.no % 2).toNat m.sect) (putX x m) (putY y m) := by
  have hl := h.len
  unfold putX putY
  by_cases hp : m.no % 2 = 0
  · rw [if_pos hp, if_pos hp, hp]
    refine ⟨?_, ?_, fun q e => by (injection e with e; subst e; exact ⟨hm, hp⟩), h.g1, by rw [List.length_set]; exact hl⟩
    · rw [show (0 : Int).toNat = 0 from rfl, List.getD_eq_getElem?_getD, List.getElem?_set_self (by omega)]; rfl
    · rw [show (0 : Int).toNat = 0 from rfl, getD_set_ne _ _ _ _ _ (by omega)]; exact h.l1
  · have hp1 : m.no % 2 = 1 := by have := hm.1; omega
    rw [if_neg hp, if_neg hp, hp1]
    refine ⟨?_, ?_, h.g0, fun q e => by (injection e with e; subst e; exact ⟨hm, hp1⟩), by rw [List.length_set]; exact hl⟩
    · rw [show (1 : Int).toNat = 1 from rfl, getD_set_ne _ _ _ _ _ (by omega)]; exact h.l0
    · rw [show (1 : Int).toNat = 1 from rfl, List.getD_eq_getElem?_getD, List.getElem?_set_self (by omega)]; rfl
/-- All that stands there is elder: the last one is read. -/
theorem Two.last {L : List (List Int)} {x y : Option MS} (h : Two L x y) (m : MS) (hm : m.mayP) (hx : ∀ a, x = some a → a.no < m.no) (hy : ∀ a, y = some a → a.no < m.no) : mrM (L.set (m.no % 2).toNat m.sect) = m ∧ mrE (L.set (m.no % 2).toNat m.sect) = 0 := by
  have h1 := hm.1
  have hb : bestL (L.set (m.no % 2).toNat m.sect) 2 = m := by
    rw [(h.put m hm).best]
    unfold putX putY
    by_cases hp : m.no % 2 = 0
    · rw [if_pos hp, if_pos hp]
      have e0 : betterO mz (some m) = m := if_pos (show mz.no < m.no from by show (0 : Int) < m.no; omega)
      rw [e0]
      cases y with
      | none => rfl
      | some a => exact if_neg (by have := hy a rfl; omega)
    · rw [if_neg hp, if_neg hp]
      cases x with
      | none => exact if_pos (show mz.no < m.no from by show (0 : Int) < m.no; omega)
      | some a =>
        show (if (betterO mz (some a)).no < m.no then m else _) = m
        rw [if_pos]
        have := hx a rfl
        show (if mz.no < a.no then a else mz).no < m.no
        split
        · exact this
        · show (0 : Int) < m.no; omega
  unfold mrM mrE
  rw [hb, if_neg (by omega), if_neg (by omega)]
  exact ⟨rfl, rfl⟩
/-! #### one, awake -/
end Go.Proofs.Ytfaflgdhffkaiaa.Print
