/- MasterEither: what a crash leaves of a writing that was armed (plain lists). -/
import Derived.Test.YtfaflgdhffkaiaaRTold
import Derived.Test.YtfaflgdhffkaiaaMLaw1
namespace Go.Proofs.Ytfaflgdhffkaiaa.Print
open Go.RowKit Go.Proofs.YtfaflgdhffkaiaaW.PrintWords Go.Proofs.YtfaflgdhffkaiaaW.PrintLast Go.Proofs.YtfaflgdhffkaiaaW.PrintMore
set_option linter.unusedVariables false
set_option linter.unusedSimpArgs false
/-- A master's sector that was written in part over noughts tells nothing, or is whole. -/
theorem torn_told (m : MS) (hm : m.mayP) (kk : Nat) (hk : kk ≤ 256) (p : Int) (h : toldB (m.sect.take kk ++ List.replicate (256 - kk) 0) p = true) : m.sect.take kk ++ List.replicate (256 - kk) 0 = m.sect ∧ 0 < kk := by
  have hml := m.sect_len
  have htl : (m.sect.take kk).length = kk := by rw [List.length_take]; omega
  have hl : (m.sect.take kk ++ List.replicate (256 - kk) 0).length = 256 := by rw [List.length_append, htl, List.length_replicate]; omega
  unfold toldB at h
  simp only [Bool.and_eq_true, decide_eq_true_eq, Bool.not_eq_true', beq_iff_eq] at h
  obtain ⟨h1, ⟨⟨h2, h3⟩, h4⟩, h5⟩ := h
  have h2' : (rdM (body (m.sect.take kk ++ List.replicate (256 - kk) 0))).mayP := of_decide_eq_true h2
  have hn := h2'.1
  rw [h3, stamp_leN hl] at hn
  by_cases hc : kk ≤ 252
  · have hd : (m.sect.take kk ++ List.replicate (256 - kk) 0).drop 252 = List.replicate 4 0 := by
      rw [List.drop_append, List.drop_eq_nil_of_le (by omega), htl, List.nil_append, List.drop_replicate]
      congr 1
      omega
    rw [hd] at hn
    exact absurd hn (by decide)
  · refine ⟨?_, by omega⟩
    have hs := (sect_ok m).1.2
    have ht4 : (m.sect.take kk ++ List.replicate (256 - kk) 0).take 4 = m.sect.take 4 := by
      rw [List.take_append_of_le_length (by omega), List.take_take, Nat.min_eq_left (by omega)]
    have ht252 : (m.sect.take kk ++ List.replicate (256 - kk) 0).take 252 = m.sect.take 252 := by
      rw [List.take_append_of_le_length (by omega), List.take_take, Nat.min_eq_left (by omega)]
    have ho := h1.2
    rw [ht4, hs] at ho
    rw [← List.take_append_drop 252 (m.sect.take kk ++ List.replicate (256 - kk) 0), ht252, ← ho, List.take_append_drop]
theorem pick_false (b : MS) (s : List Int) (p : Int) (h : toldB s p = false) : pickM b s p = b := by
  unfold pickM
  rw [if_neg (fun q => by rw [h] at q; cases q.1)]
def zz : List (List Int) := (newD 4).L
theorem either_read (a b : MS) (ha : a.mayP) (hb : b.mayP) (hn : b.no = a.no + 1) (s : List Int) (hs : toldB s (b.no % 2) = true → s = b.sect) :
    (toldB s (b.no % 2) = true ∧ mrM ((zz.set (a.no % 2).toNat a.sect).set (b.no % 2).toNat s) = b ∨ toldB s (b.no % 2) = false ∧ mrM ((zz.set (a.no % 2).toNat a.sect).set (b.no % 2).toNat s) = a) ∧ mrE ((zz.set (a.no % 2).toNat a.sect).set (b.no % 2).toNat s) = 0 := by
  have h1 := ha.1
  have T1 := Two.new4.put a ha
  cases ht : toldB s (b.no % 2) with
  | true =>
    have e := hs ht
    subst e
    have hl := T1.last b hb (fun c hc => ?_) (fun c hc => ?_)
    · exact ⟨.inl ⟨rfl, hl.1⟩, hl.2⟩
    · unfold putX at hc
      split at hc
      · injection hc with hc; subst hc; omega
      · cases hc
    · unfold putY at hc
      split at hc
      · cases hc
      · injection hc with hc; subst hc; omega
  | false =>
    have hbest : bestL ((zz.set (a.no % 2).toNat a.sect).set (b.no % 2).toNat s) 2 = a := by
      show pickM (pickM mz (((zz.set (a.no % 2).toNat a.sect).set (b.no % 2).toNat s).getD 0 []) ((0 : Nat) : Int)) (((zz.set (a.no % 2).toNat a.sect).set (b.no % 2).toNat s).getD 1 []) ((1 : Nat) : Int) = a
      have hzl : zz.length = 4 := rfl
      have e0 : pickM mz a.sect (a.no % 2) = a := by rw [pick_some mz a _ ha rfl, if_pos (show mz.no < a.no from by show (0 : Int) < a.no; omega)]
      by_cases hp : a.no % 2 = 0
      · have hq : b.no % 2 = 1 := by omega
        have e0' : pickM mz a.sect 0 = a := by rw [← hp]; exact e0
        have ht' : toldB s 1 = false := by rw [← hq]; exact ht
        rw [hp, hq]
        rw [show (0 : Int).toNat = 0 from rfl, show (1 : Int).toNat = 1 from rfl, getD_set_ne _ _ _ _ _ (by omega), List.getD_eq_getElem?_getD, List.getElem?_set_self (by omega), List.getD_eq_getElem?_getD, List.getElem?_set_self (by rw [List.length_set]; omega)]
        show pickM (pickM mz a.sect 0) s 1 = a
        rw [e0', pick_false _ _ _ ht']
      · have hp1 : a.no % 2 = 1 := by omega
        have hq : b.no % 2 = 0 := by omega
        have e0' : pickM mz a.sect 1 = a := by rw [← hp1]; exact e0
        have ht' : toldB s 0 = false := by rw [← hq]; exact ht
        rw [hp1, hq]
        rw [show (0 : Int).toNat = 0 from rfl, show (1 : Int).toNat = 1 from rfl, List.getD_eq_getElem?_getD, List.getElem?_set_self (by rw [List.length_set]; omega), getD_set_ne _ _ _ _ _ (by omega), List.getD_eq_getElem?_getD, List.getElem?_set_self (by omega)]
        show pickM (pickM mz s 0) a.sect 1 = a
        rw [pick_false _ _ _ ht', e0']
    unfold mrM mrE
    rw [hbest, if_neg (by omega), if_neg (by omega)]
    exact ⟨.inr ⟨rfl, rfl⟩, rfl⟩
theorem mwD_ok {d : DS} {q : Nat} (h : d.Ok q) (m : MS) : (mwD d m).Ok (q + 1) := by
  unfold mwD
  split
  · exact syncD_ok (writeD_ok h _ _)
  · exact writeD_ok h _ _
theorem mwD_len {d : DS} {q : Nat} (h : d.Ok q) (m : MS) : (mwD d m).D.length = d.D.length := by
  unfold mwD
  split
  · rw [syncD_len (writeD_ok h _ _), writeD_len]
  · rw [writeD_len]
/-- The armed writing: it dies at once, or behind the sector's. -/
theorem armed_write {d : DS} (h : St d 4) (hW : d.W = []) (b : MS) (hb : b.mayP) (die : Int) (hd : die = 0 ∨ die = 1) :
    mwE (armF d die) b = 30 ∧ (mwD (armF d die) b).D = d.D ∧ (mwD (armF d die) b).W = if die = 0 then [] else [(b.no % 2, b.sect)] := by
  have hb1 := hb.1
  have hr : ¬ ¬ (0 ≤ b.no % 2 ∧ b.no % 2 < ((armF d die).D.length : Int)) := fun q => q ⟨by omega, by show b.no % 2 < (d.D.length : Int); rw [h.len]; omega⟩
  have hdd : ¬ (armF d die).dead = true := by show ¬ d.dead = true; rw [h.dead]; decide
  have hsl := b.sect_len
  rcases hd with rfl | rfl
  · have hl : (livesF (armF d 0)).dead = true := by simp [livesF, armF]
    have e1 : writeE (armF d 0) (b.no % 2) b.sect = 30 := by
      unfold writeE
      rw [if_neg hdd, if_neg hr, if_neg (by omega), if_pos hl]
    have e2 : writeD (armF d 0) (b.no % 2) b.sect = livesF (armF d 0) := by
      unfold writeD
      rw [if_neg (by rintro (q | q | q); exact hdd q; exact hr q; exact q hsl), if_pos hl]
    have hne : ¬ writeE (armF d 0) (b.no % 2) b.sect = 0 := by rw [e1]; decide
    have hmE : mwE (armF d 0) b = writeE (armF d 0) (b.no % 2) b.sect := if_neg hne
    have hmD : mwD (armF d 0) b = writeD (armF d 0) (b.no % 2) b.sect := if_neg hne
    rw [hmE, hmD, e1, e2]
    exact ⟨rfl, rfl, by show d.W = _; rw [hW]; rfl⟩
  · have hl : (livesF (armF d 1)).dead = false := by
      simp [livesF, armF, h.dead]
    have e1 : writeE (armF d 1) (b.no % 2) b.sect = 0 := by
      unfold writeE
      rw [if_neg hdd, if_neg hr, if_neg (by omega), if_neg (by rw [hl]; decide)]
    have e2 : writeD (armF d 1) (b.no % 2) b.sect = writeF (livesF (armF d 1)) (b.no % 2) b.sect := by
      unfold writeD
      rw [if_neg (by rintro (q | q | q); exact hdd q; exact hr q; exact q hsl), if_neg (by rw [hl]; decide)]
    have hmE : mwE (armF d 1) b = syncE (writeD (armF d 1) (b.no % 2) b.sect) := if_pos e1
    have hmD : mwD (armF d 1) b = syncD (writeD (armF d 1) (b.no % 2) b.sect) := if_pos e1
    have hl2 : (livesF (writeF (livesF (armF d 1)) (b.no % 2) b.sect)).dead = true := by
      have hw : wrap64 (0 : Int) = 0 := by unfold wrap64; omega
      simp [livesF, armF, writeF, hw]
    have hd2 : ¬ (writeF (livesF (armF d 1)) (b.no % 2) b.sect).dead = true := by
      show ¬ (livesF (armF d 1)).dead = true
      rw [hl]; decide
    rw [hmE, hmD, e2]
    unfold syncE syncD
    rw [if_neg hd2, if_neg hd2, if_pos hl2, if_pos hl2]
    refine ⟨rfl, rfl, ?_⟩
    show d.W ++ [(b.no % 2, b.sect)] = _
    rw [hW, if_neg (by decide)]
    rfl
theorem crL_none {d : DS} (f : Nat → Int) (h : d.W = []) : (crashD d f).L = d.D := by
  show crL d f (List.range d.W.length) = d.D
  rw [h]
  rfl
theorem crL_one {d : DS} (f : Nat → Int) (i : Int) (s : List Int) (h : d.W = [(i, s)]) : (crashD d f).L = d.D.set i.toNat (partL (d.D.getD i.toNat []) s (f 0)) := by
  show crL d f (List.range d.W.length) = _
  have hw : wAt d 0 = i.toNat ∧ wS d 0 = s := by
    unfold wAt wS
    rw [h]
    exact ⟨rfl, rfl⟩
  rw [h]
  show crStep d f d.D 0 = _
  unfold crStep
  rw [hw.1, hw.2]
theorem either_dev (a b : MS) (ha : a.mayP) (hb : b.mayP) (hn : b.no = a.no + 1) (die k : Int) (hd : die = 0 ∨ die = 1) :
    mwE (newD 4) a = 0 ∧ St (mwD (newD 4) a) 4 ∧ mwE (armF (mwD (newD 4) a) die) b = 30 ∧ (armF (mwD (newD 4) a) die).Ok 0 ∧ (armF (mwD (newD 4) a) die).D.length = 4 ∧ (mwD (armF (mwD (newD 4) a) die) b).Ok 1 ∧ (mwD (armF (mwD (newD 4) a) die) b).D.length = 4 ∧
    (crashD (mwD (armF (mwD (newD 4) a) die) b) (kf (fun _ => false) 0 0 k)).Ok 0 ∧ (crashD (mwD (armF (mwD (newD 4) a) die) b) (kf (fun _ => false) 0 0 k)).D.length = 4 ∧ (crashD (mwD (armF (mwD (newD 4) a) die) b) (kf (fun _ => false) 0 0 k)).dead = false ∧
    (∀ j, j < 2 → Bytes ((crashD (mwD (armF (mwD (newD 4) a) die) b) (kf (fun _ => false) 0 0 k)).L.getD j [])) ∧ mrE (crashD (mwD (armF (mwD (newD 4) a) die) b) (kf (fun _ => false) 0 0 k)).L = 0 ∧
    (mrM (crashD (mwD (armF (mwD (newD 4) a) die) b) (kf (fun _ => false) 0 0 k)).L = a ∨ mrM (crashD (mwD (armF (mwD (newD 4) a) die) b) (kf (fun _ => false) 0 0 k)).L = b ∧ die = 1 ∧ 0 < k) := by
  obtain ⟨E1, S1, L1, W1, D1⟩ := mw_st (St.new 4 (by decide)) (by decide) a ha
  generalize mwD (newD 4) a = d1 at *
  obtain ⟨E2, D2, W2⟩ := armed_write S1 W1 b hb die hd
  have hO2 : (armF d1 die).Ok 0 := armF_ok S1.ok die
  have hl2 : (armF d1 die).D.length = 4 := S1.len
  have hO3 := mwD_ok hO2 b
  have hl3 := (mwD_len hO2 b).trans hl2
  generalize mwD (armF d1 die) b = d3 at *
  have hO4 := crashD_ok hO3 (kf (fun _ => false) 0 0 k) (kf_ok _ _ _ _)
  have hl4 := (crashD_len d3 (kf (fun _ => false) 0 0 k)).trans hl3
  refine ⟨E1, S1, E2, hO2, hl2, hO3, hl3, hO4, hl4, rfl, ?_⟩
  have h1 := ha.1
  have hD3 : d3.D = zz.set (a.no % 2).toNat a.sect := by rw [D2, D1, L1]; rfl
  have hzl : zz.length = 4 := rfl
  have T1 := Two.new4.put a ha
  rcases hd with rfl | rfl
  · rw [if_pos rfl] at W2
    have hL : (crashD d3 (kf (fun _ => false) 0 0 k)).L = zz.set (a.no % 2).toNat a.sect := (crL_none _ W2).trans hD3
    rw [hL]
    have hr := Two.new4.last a ha (fun c e => by cases e) (fun c e => by cases e)
    exact ⟨T1.bytes, hr.2, .inl hr.1⟩
  · rw [if_neg (by decide)] at W2
    have hL := crL_one (kf (fun _ => false) 0 0 k) _ _ W2
    have hgz : d3.D.getD (b.no % 2).toNat [] = sect 0 := by
      rw [hD3, getD_set_ne _ _ _ _ _ (by omega)]
      have hm : (b.no % 2).toNat = 0 ∨ (b.no % 2).toNat = 1 := by omega
      rcases hm with e | e <;> rw [e] <;> rfl
    rw [hgz, hD3] at hL
    obtain ⟨kk, hkk, hk256, hkp⟩ : ∃ kk : Nat, kf (fun _ => false) 0 0 k 0 = (kk : Int) ∧ kk ≤ 256 ∧ (0 < kk → 0 < k) := by
      have h6 := kf_ok (fun _ => false) 0 0 k 0
      refine ⟨(kf (fun _ => false) 0 0 k 0).toNat, by omega, by omega, fun q => ?_⟩
      have hv : kf (fun _ => false) 0 0 k 0 = mn (mx k 0) 256 := if_pos rfl
      rw [hv] at q h6
      unfold mn mx at q
      split at q <;> split at q <;> omega
    have hp : partL (sect 0) b.sect (kf (fun _ => false) 0 0 k 0) = b.sect.take kk ++ List.replicate (256 - kk) 0 := by
      rw [hkk]
      unfold partL sect
      rw [Int.toNat_natCast, List.drop_replicate]
    rw [hp] at hL
    rw [hL]
    have ht := torn_told b hb kk hk256 (b.no % 2)
    generalize b.sect.take kk ++ List.replicate (256 - kk) 0 = s at *
    have hr := either_read a b ha hb hn s (fun q => (ht q).1)
    refine ⟨fun j hj => ?_, hr.2, ?_⟩
    · have hBs : Bytes s := by
        rw [← hp]
        intro x hx
        unfold partL at hx
        rcases List.mem_append.1 hx with q | q
        · exact b.sect_bytes x (List.mem_of_mem_take q)
        · have := List.mem_of_mem_drop q
          rw [List.eq_of_mem_replicate this]
          omega
      by_cases hj2 : (b.no % 2).toNat = j
      · rw [← hj2, List.getD_eq_getElem?_getD, List.getElem?_set_self (by rw [List.length_set]; omega)]
        exact hBs
      · rw [getD_set_ne _ _ _ _ _ hj2]
        exact T1.bytes j hj
    · rcases hr.1 with ⟨q1, q2⟩ | ⟨q1, q2⟩
      · exact .inr ⟨q2, rfl, hkp (ht q1).2⟩
      · exact .inl q2
end Go.Proofs.Ytfaflgdhffkaiaa.Print
