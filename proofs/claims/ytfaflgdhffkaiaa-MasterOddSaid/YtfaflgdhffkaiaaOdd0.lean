/- MasterOdd: a master's sector with one byte that is another (plain lists). -/
import Derived.Test.YtfaflgdhffkaiaaRTold
import Derived.Test.YtfaflgdhffkaiaaMLaw1
namespace Go.Proofs.Ytfaflgdhffkaiaa.Print
open Go.RowKit Go.Proofs.YtfaflgdhffkaiaaW.PrintWords Go.Proofs.YtfaflgdhffkaiaaW.PrintLast Go.Proofs.YtfaflgdhffkaiaaW.PrintMore
set_option linter.unusedVariables false
set_option linter.unusedSimpArgs false
def mk8 : Nat → Int
  | 0 => 1
  | i + 1 => mk8 i * 2 % 256
theorem xor_byte : ∀ (b : Fin 8) (x : Fin 256), bits .xor .u8 (x.val : Int) (mk8 b.val) ≠ (x.val : Int) ∧ 0 ≤ bits .xor .u8 (x.val : Int) (mk8 b.val) ∧ bits .xor .u8 (x.val : Int) (mk8 b.val) ≤ 255 := by decide +kernel
theorem xor_b (b : Nat) (hb : b ≤ 7) (x : Int) (h0 : 0 ≤ x) (h1 : x ≤ 255) : bits .xor .u8 x (mk8 b) ≠ x ∧ 0 ≤ bits .xor .u8 x (mk8 b) ∧ bits .xor .u8 x (mk8 b) ≤ 255 := by
  have := xor_byte ⟨b, by omega⟩ ⟨x.toNat, by omega⟩
  rwa [show ((x.toNat : Nat) : Int) = x by omega] at this
set_option maxRecDepth 100000 in
theorem sect_no {a b : MS} (h : a.no = b.no) (i : Nat) (hi : i < 8 ∨ 252 ≤ i ∧ i < 256) : a.sect.getD i 0 = b.sect.getD i 0 := by
  rcases hi with hi | ⟨hi, hi2⟩
  · have key : ∀ c : MS, c.sect.getD i 0 = (Pure.b4 c.no ++ Pure.b4 c.no).getD i 0 := fun c => by
      have e : c.sect = Pure.b4 c.no ++ (Pure.pad c.bytes ++ Pure.b4 c.no) := Pure.bytes_eq _ _
      obtain ⟨R, hR⟩ : ∃ R, c.sect = (Pure.b4 c.no ++ Pure.b4 c.no) ++ R := ⟨(Pure.b4 c.ep ++ (Pure.b4 c.st ++ Pure.b4 c.ck)) ++ (List.replicate (248 - c.bytes.length) 0 ++ Pure.b4 c.no), by rw [e]; unfold Pure.pad; rw [show c.bytes = Pure.b4 c.no ++ (Pure.b4 c.ep ++ (Pure.b4 c.st ++ Pure.b4 c.ck)) from rfl]; simp only [List.append_assoc]⟩
      rw [hR, List.getD_eq_getElem?_getD, List.getElem?_append_left (by show i < 8; omega), ← List.getD_eq_getElem?_getD]
    rw [key a, key b, h]
  · have key : ∀ c : MS, c.sect.getD i 0 = (Pure.b4 c.no).getD (i - 252) 0 := fun c => by
      have e : c.sect = Pure.b4 c.no ++ (Pure.pad c.bytes ++ Pure.b4 c.no) := Pure.bytes_eq _ _
      have hp : (Pure.pad c.bytes).length = 248 := Pure.pad_len (by rw [c.bytes_len]; decide)
      have hd := Pure.sect_drop (x := Pure.b4 c.no) (y := Pure.b4 c.no) rfl hp
      rw [← e] at hd
      rw [← hd, List.getD_eq_getElem?_getD, List.getD_eq_getElem?_getD, List.getElem?_drop]
      congr 2
      omega
    rw [key a, key b, h]
theorem odd_told (m : MS) (hm : m.mayP) (i : Nat) (hi : i < 256) (y : Int) (hy : y ≠ m.sect.getD i 0) (h0 : 0 ≤ y) (h1 : y ≤ 255) (p : Int) (h : toldB (m.sect.set i y) p = true) :
    (rdM (body (m.sect.set i y))).no = m.no ∧ rdM (body (m.sect.set i y)) ≠ m ∧ 8 ≤ i ∧ i < 252 ∧ (rdM (body (m.sect.set i y))).mayP ∧ toldM (m.sect.set i y) = rdM (body (m.sect.set i y)) := by
  have hl : (m.sect.set i y).length = 256 := by rw [List.length_set]; exact m.sect_len
  have hB : Bytes (m.sect.set i y) := fun x hx => by
    rcases List.mem_or_eq_of_mem_set hx with q | q
    · exact m.sect_bytes x q
    · rw [q]; exact ⟨h0, h1⟩
  have hg : (m.sect.set i y).getD i 0 = y := by
    rw [List.getD_eq_getElem?_getD, List.getElem?_set_self (by rw [m.sect_len]; exact hi)]
    rfl
  rw [told_r hl hB] at h
  unfold rTold at h
  obtain ⟨k1, k2, k3, k4⟩ := of_decide_eq_true h
  have ht : toldM (m.sect.set i y) = rdM (body (m.sect.set i y)) := if_pos k1
  have hno : (rdM (body (m.sect.set i y))).no = m.no := by
    by_cases hc : i < 252
    · have hd : (m.sect.set i y).drop 252 = m.sect.drop 252 := by rw [List.drop_set_of_lt (by omega)]
      have s1 := stamp_sect m hm
      rw [stamp_leN m.sect_len] at s1
      have s2 := stamp_sect _ k2
      rw [k4, stamp_leN hl, hd, s1] at s2
      exact s2.symm
    · have hd : (m.sect.set i y).take 4 = m.sect.take 4 := by rw [List.take_set_of_le (by omega)]
      have e1 : (rdM (body (m.sect.set i y))).sect.take 4 = Pure.b4 (rdM (body (m.sect.set i y))).no := rfl
      have e2 : m.sect.take 4 = Pure.b4 m.no := rfl
      rw [k4, hd, e2] at e1
      exact (Pure.b4_inj (by have := hm.1; omega) hm.2.1 (by have := k2.1; omega) k2.2.1 e1).symm
  have hne : ¬ (i < 8 ∨ 252 ≤ i ∧ i < 256) := fun q => by
    have := sect_no hno i q
    rw [k4, hg] at this
    exact hy this
  refine ⟨hno, fun q => ?_, by omega, by omega, k2, ht⟩
  rw [q] at k4
  rw [← k4] at hg
  exact hy hg.symm
/-- What is read of a device whose one sector is that, and the other noughts. -/
theorem odd_read (p : Int) (hp : p = 0 ∨ p = 1) (s0 s : List Int) :
    (toldB s p = false → mrE (((newD 2).L.set p.toNat s0).set p.toNat s) = 3) ∧
    (toldB s p = true → 1 ≤ (toldM s).no → mrM (((newD 2).L.set p.toNat s0).set p.toNat s) = toldM s ∧ mrE (((newD 2).L.set p.toNat s0).set p.toNat s) = 0) := by
  have hb : bestL (((newD 2).L.set p.toNat s0).set p.toNat s) 2 = if toldB s p = true ∧ mz.no < (toldM s).no then toldM s else mz := by
    rcases hp with rfl | rfl
    · show pickM (pickM mz s 0) (sect 0) 1 = _
      rw [pick_none]
      rfl
    · show pickM (pickM mz (sect 0) 0) s 1 = _
      rw [pick_none]
      rfl
  constructor
  · intro h
    have hbz := hb.trans (if_neg (fun q => by rw [h] at q; cases q.1))
    unfold mrE
    rw [hbz]
    rfl
  · intro h h1
    have hbt := hb.trans (if_pos ⟨h, by show (0 : Int) < _; omega⟩)
    unfold mrM mrE
    rw [hbt, if_neg (by omega), if_neg (by omega)]
    exact ⟨rfl, rfl⟩
theorem set_F {W : World} {q c : Nat} {l : List Int} (hl : l.length = 256) (hq : q < W.heap.size) (hc : ∀ j, j < 256 → W.cell? ⟨q, j, none⟩ = some (.int .u8 (l.getD j 0)) ∧ W.frozen? ⟨q, j, none⟩ = false) (i : Nat) (hi : i < 256) (y : Int) :
    Kd.F (Kd.int .u8) (W.setCell ⟨q, i, none⟩ (.int .u8 y)) (fun k => k = q) (some ⟨q, 0, none⟩) (l.set i y).length (l.set i y) := by
  intro W' hW
  have hsz : q < (W.setCell ⟨q, i, none⟩ (.int .u8 y)).heap.size := by simpa [World.setCell] using hq
  have hblk := hW q rfl hsz
  refine Kd.C_of_reads (d := (0 : Int)) (h1 := fun _ => rfl) ⟨rfl, by rw [List.length_set, hl]; decide, fun _ => ⟨⟨q, 0, none⟩, rfl, fun j hj => ?_⟩⟩
  rw [List.length_set, hl] at hj
  have e : (⟨q, 0, none⟩ : Addr).add j = ⟨q, j, none⟩ := add_plain q j
  rw [e, World.cell?_of_block (w := W.setCell ⟨q, i, none⟩ (.int .u8 y)) (w' := W') (a := ⟨q, j, none⟩) hblk]
  by_cases hji : j = i
  · subst hji
    rw [List.getD_eq_getElem?_getD, List.getElem?_set_self (by omega)]
    exact World.cell?_setCell_same W ⟨q, j, none⟩ _ (hc j hj).1
  · rw [World.cell?_setCell_other W ⟨q, i, none⟩ ⟨q, j, none⟩ _ (fun e => hji (by have := congrArg Addr.off e; first | exact this | exact this.symm))]
    rw [List.getD_eq_getElem?_getD, List.getElem?_set_ne (by omega), ← List.getD_eq_getElem?_getD]
    exact (hc j hj).1
theorem odd_dev (m : MS) (hm : m.mayP) (i : Nat) (hi : i < 256) (y : Int) (hy : y ≠ m.sect.getD i 0) (h0 : 0 ≤ y) (h1 : y ≤ 255) :
    mwE (newD 2) m = 0 ∧ St (mwD (newD 2) m) 2 ∧ readB (mwD (newD 2) m) (m.no % 2) = m.sect ∧ readE (mwD (newD 2) m) (m.no % 2) = 0 ∧
    (writeD (mwD (newD 2) m) (m.no % 2) (m.sect.set i y)).Ok 1 ∧ (writeD (mwD (newD 2) m) (m.no % 2) (m.sect.set i y)).dead = false ∧ (writeD (mwD (newD 2) m) (m.no % 2) (m.sect.set i y)).D.length = 2 ∧
    (∀ j, j < 2 → Bytes ((writeD (mwD (newD 2) m) (m.no % 2) (m.sect.set i y)).L.getD j [])) ∧
    (mrE (writeD (mwD (newD 2) m) (m.no % 2) (m.sect.set i y)).L = 3 ∨ mrE (writeD (mwD (newD 2) m) (m.no % 2) (m.sect.set i y)).L = 0 ∧ (mrM (writeD (mwD (newD 2) m) (m.no % 2) (m.sect.set i y)).L).no = m.no ∧ mrM (writeD (mwD (newD 2) m) (m.no % 2) (m.sect.set i y)).L ≠ m ∧ 8 ≤ i ∧ i < 252) := by
  obtain ⟨E1, S1, L1, W1, D1⟩ := mw_st (St.new 2 (by decide)) (by decide) m hm
  have hn := hm.1
  have hp0 : 0 ≤ m.no % 2 := by omega
  have hp2 : m.no % 2 < 2 := by omega
  have hp : m.no % 2 = 0 ∨ m.no % 2 = 1 := by omega
  have hsl : (m.sect.set i y).length = 256 := by rw [List.length_set]; exact m.sect_len
  have hB : Bytes (m.sect.set i y) := fun x hx => by
    rcases List.mem_or_eq_of_mem_set hx with q | q
    · exact m.sect_bytes x q
    · rw [q]; exact ⟨h0, h1⟩
  have hzl : (newD 2).L.length = 2 := rfl
  obtain ⟨w1, w2, w3⟩ := mw_step S1 (m.no % 2) hp0 hp2 (m.sect.set i y) hsl
  have hO := writeD_ok S1.ok (m.no % 2) (m.sect.set i y)
  have hln := (writeD_len (mwD (newD 2) m) (m.no % 2) (m.sect.set i y)).trans S1.len
  have hL2 : (writeD (mwD (newD 2) m) (m.no % 2) (m.sect.set i y)).L = ((newD 2).L.set (m.no % 2).toNat m.sect).set (m.no % 2).toNat (m.sect.set i y) := by
    rw [w2]
    show (mwD (newD 2) m).L.set _ _ = _
    rw [L1]
  have hdd : (writeD (mwD (newD 2) m) (m.no % 2) (m.sect.set i y)).dead = false := by rw [w2]; exact w3
  refine ⟨E1, S1, ?_, readE_live' S1.dead hp0 (by rw [S1.len]; exact hp2), hO, hdd, hln, ?_, ?_⟩
  · unfold readB
    rw [if_pos ⟨S1.dead, hp0, by rw [S1.len]; exact hp2⟩, L1, List.getD_eq_getElem?_getD, List.getElem?_set_self (by omega)]
    rfl
  · intro j hj
    rw [hL2]
    by_cases hj2 : (m.no % 2).toNat = j
    · rw [← hj2, List.getD_eq_getElem?_getD, List.getElem?_set_self (by rw [List.length_set]; omega)]
      exact hB
    · rw [getD_set_ne _ _ _ _ _ hj2]
      exact (Two.new.put m hm).bytes j hj
  · rw [hL2]
    obtain ⟨r1, r2⟩ := odd_read (m.no % 2) hp m.sect (m.sect.set i y)
    cases ht : toldB (m.sect.set i y) (m.no % 2) with
    | false => exact .inl (r1 ht)
    | true =>
      obtain ⟨q1, q2, q3, q4, q5, q6⟩ := odd_told m hm i hi y hy h0 h1 (m.no % 2) ht
      obtain ⟨s1, s2⟩ := r2 ht (by rw [q6]; exact q5.1)
      exact .inr ⟨s2, by rw [s1, q6]; exact q1, by rw [s1, q6]; exact q2, q3, q4⟩
end Go.Proofs.Ytfaflgdhffkaiaa.Print
