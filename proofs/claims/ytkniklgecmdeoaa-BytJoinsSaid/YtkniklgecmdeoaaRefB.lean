/- The document's Put, Lay, Get, Take, Same: what they answer, and what calls of them do. -/
import Derived.Test.YtkniklgecmdeoaaBytR
import Derived.Test.YtkniklgecmdeoaaRef01
import Derived.Test.YtkniklgecmdeoaaPrint1
import Derived.Test.YtkniklgecmdeoaaPrint2
namespace Go.Proofs.Ytkniklgecmdeoaa.Print
open Go.RowKit Go.Proofs.YtkniklgecmdeoaaW.PrintWords Go.Proofs.YtkniklgecmdeoaaW.PrintLast Go.Proofs.YtkniklgecmdeoaaW.PrintMore Go.Proofs.Ytkniklgecmdeoaa.Pure
set_option linter.unusedVariables false
set_option linter.unusedSimpArgs false
theorem ref_put_loop (m : Int) (hm : m ≤ 100) (d : Nat) : ∀ (k : Nat) (n : Int) (out : List Int) (i : Int), 0 ≤ n → n < 9223372036854775808 → 0 ≤ i → i + d = m → out.length ≤ i → d < k → bobbinref01_Put.l0 k n m out i = some (out ++ le d n, 0) := by
  induction d with
  | zero =>
    intro k n out i h0 h1 hi hd ho hk
    obtain ⟨k, rfl⟩ : ∃ q, k = q + 1 := ⟨k - 1, by omega⟩
    rw [bobbinref01_Put.l0_eq, if_neg (by omega)]
    simp [le]
  | succ d ih =>
    intro k n out i h0 h1 hi hd ho hk
    obtain ⟨k, rfl⟩ : ∃ q, k = q + 1 := ⟨k - 1, by omega⟩
    rw [put_round k n m out i h0 h1 (by omega) hi hm (by omega), ih k (n / 256) (out ++ [n % 256]) (i + 1) (by omega) (by omega) (by omega) (by omega) (by simp; omega) (by omega)]
    simp [le]
theorem power_top (m : Int) (h : okWide m) : Ev (fun k => bobbinref01_power.f k m) (top m) := by
  rcases h with rfl | rfl | rfl
  · exact power1
  · exact power2
  · exact power4
theorem ref_put_f (n m : Int) (hn : n < 9223372036854775808) : Ev (fun k => bobbinref01_Put.f k n m) (putB n m, putE n m) := by
  by_cases hW : okWide m
  · have key : ∀ k, bobbinref01_Put.f k n m = if n < 0 then bobbinref01_Put.j0 k n m true else (bobbinref01_power.f k m).bind fun t => bobbinref01_Put.j0 k n m (decide (n ≥ t)) := fun k => by
      unfold bobbinref01_Put.f
      rcases hW with rfl | rfl | rfl <;> simp
    refine Ev.congr key ?_
    by_cases h0 : n < 0
    · have e : ¬ mayPut n m := fun c => by have := c.2.1; omega
      unfold putB putE
      simp only [if_neg e]
      exact Ev.ifp h0 (Ev.step (fun k => bobbinref01_Put.j0_eq k _ _ _) (Ev.ifp rfl (Ev.now _)))
    · refine Ev.ifn h0 (Ev.bind (power_top m hW) ?_)
      by_cases h1 : n < top m
      · have e : mayPut n m := ⟨hW, by omega, h1⟩
        unfold putB putE
        simp only [if_pos e]
        rw [show decide (n ≥ top m) = false by simp; omega]
        refine Ev.step (fun k => bobbinref01_Put.j0_eq k _ _ _) (Ev.ifn (by decide) (Ev.ex (m.toNat + 1) fun k hk => ?_))
        have hm : 0 ≤ m ∧ m ≤ 4 := by rcases hW with rfl | rfl | rfl <;> omega
        rw [ref_put_loop m (by omega) m.toNat k n [] 0 (by omega) hn (by omega) (by omega) (by simp) (by omega)]
        simp
      · have e : ¬ mayPut n m := fun c => h1 c.2.2
        unfold putB putE
        simp only [if_neg e]
        rw [show decide (n ≥ top m) = true by simp; omega]
        exact Ev.step (fun k => bobbinref01_Put.j0_eq k _ _ _) (Ev.ifp rfl (Ev.now _))
  · have e : ¬ mayPut n m := fun c => hW c.1
    unfold putB putE
    simp only [if_neg e]
    have key : ∀ k, bobbinref01_Put.f k n m = bobbinref01_Put.j0 k n m true := fun k => by
      unfold bobbinref01_Put.f
      rw [if_neg (fun c => hW (.inl c)), if_neg (fun c => hW (.inr (.inl c))), if_neg (fun c => hW (.inr (.inr c)))]
    exact Ev.congr key (Ev.step (fun k => bobbinref01_Put.j0_eq k _ _ _) (Ev.ifp rfl (Ev.now _)))
theorem ref_put (n m : Int) (w : World) (hn : n < 9223372036854775808) : Calls Try.prog 14 #[.int .i64 n, .int .i64 m] w fun e w' => ∃ v0_ : Value, e = .returned (.tuple #[v0_, .int .i64 (putE n m)]) ∧ Kd.R (Kd.int .u8) 5 w' w.heap.size (fun _ => True) v0_ (putB n m) ∧ Below w.heap.size w w' := by
  obtain ⟨k, hk⟩ := Ev.rounds (ref_put_f n m hn)
  exact bobbinref01_Put.calls k n m _ _ w hk
theorem ref_lay_f (l : List Int) (hl : l.length ≤ 140737488351232) : bobbinref01_Lay.f l = some (layB l, layE l) := by
  unfold bobbinref01_Lay.f layB layE
  by_cases h : l.length ≤ 255
  · rw [if_neg (by omega), if_pos h, if_pos h]
    have e : (l.length : Int) % 256 = l.length := by omega
    simp only [Option.bind_some, e]
    rw [if_pos (by simp; omega)]
    rfl
  · rw [if_pos (by omega), if_neg h, if_neg h]
theorem ref_lay (A : Option Addr) (c : Nat) (l : List Int) (w : World) (hC : Kd.C (Kd.int .u8) w A l.length l) (hc : l.length ≤ c) (hl : l.length ≤ 140737488351232) : Calls Try.prog 12 #[.slice A l.length c] w fun e w' => ∃ v0_ : Value, e = .returned (.tuple #[v0_, .int .i64 (layE l)]) ∧ Kd.R (Kd.int .u8) 5 w' w.heap.size (fun _ => True) v0_ (layB l) ∧ Below w.heap.size w w' :=
  bobbinref01_Lay.calls A c l _ _ w hC hc (ref_lay_f l hl)
theorem ref_same (A B : Option Addr) (c d : Nat) (l m : List Int) (w : World) (hC : Kd.C (Kd.int .u8) w A l.length l) (hc : l.length ≤ c) (hD : Kd.C (Kd.int .u8) w B m.length m) (hd : m.length ≤ d) (hl : l.length ≤ 140737488355328) (b : Bool) (hb : decide (l = m) = b) : Calls Try.prog 15 #[.slice A l.length c, .slice B m.length d] w fun e w' => e = .returned (.bool b) ∧ Drawn0 w w' := by
  obtain ⟨k, hk⟩ := Ev.rounds (same_ev l m hl)
  rw [hb] at hk
  exact bobbinref01_Same.calls k A c l B d m b w hC hc hD hd hk
theorem pow_ev (j : Nat) (h : j ≤ 3) : Ev (fun k => bobbinref01_power.f k (j : Int)) (256 ^ j) := by
  match j, h with
  | 0, _ => exact power0
  | 1, _ => exact power1
  | 2, _ => exact power2
  | 3, _ => exact power3
theorem rd_bound {l : List Int} (h : Bytes l) (i : Nat) (hi : i < l.length) : 0 ≤ rd l (i : Int) ∧ rd l (i : Int) ≤ 255 := by
  have : rd l (i : Int) = l[i] := by simp [rd, List.getD_eq_getElem?_getD, List.getElem?_eq_getElem hi]
  rw [this]
  exact h _ (List.getElem_mem hi)
theorem leN_snoc : ∀ (l : List Int) (x : Int), leN (l ++ [x]) = leN l + x * 256 ^ l.length
  | [], x => by simp [leN]
  | a :: l, x => by
    simp only [List.cons_append, leN, leN_snoc l x, List.length_cons, Int.pow_succ]
    rw [Int.mul_add, ← Int.add_assoc, Int.mul_comm 256 (x * _), Int.mul_assoc]
theorem leN_lt (l : List Int) (h : Bytes l) (hl : l.length ≤ 4) : 0 ≤ leN l ∧ leN l < 4294967296 := by
  match l, hl with
  | [], _ => exact ⟨by decide, by decide⟩
  | x :: r, hl =>
    have := leN_lt3 r (fun y hy => h y (by simp [hy])) (by simpa using hl)
    have := h x (by simp)
    simp only [leN]
    omega
theorem take_rd (l : List Int) (i : Nat) (hi : i < l.length) : l.take (i + 1) = l.take i ++ [rd l (i : Int)] := by
  rw [List.take_succ_eq_append_getElem hi]
  have : rd l (i : Int) = l[i] := by simp [rd, List.getD_eq_getElem?_getD, List.getElem?_eq_getElem hi]
  rw [this]
theorem ref_get_loop (l : List Int) (hB : Bytes l) (m : Nat) (hm : m ≤ 4) (hl : m ≤ l.length) (d : Nat) : ∀ i : Nat, i + d = m → Ev (fun k => bobbinref01_Get.l0 k l (m : Int) (leN (l.take i)) (i : Int)) (leN (l.take m), l.drop m, 0) := by
  induction d with
  | zero =>
    intro i hi
    obtain rfl : i = m := by omega
    exact Ev.step (fun k => bobbinref01_Get.l0_eq k _ _ _ _) (Ev.ifn (by omega) (Ev.ifp (by omega) (Ev.ifp (by omega) (Ev.const (by simp)))))
  | succ d ih =>
    intro i hi
    refine Ev.step (fun k => bobbinref01_Get.l0_eq k _ _ _ _) (Ev.ifp (by omega) (Ev.ifp (by omega) (Ev.ifp (by omega) (Ev.bind (pow_ev i (by omega)) ?_))))
    have hb := rd_bound hB i (by omega)
    have e : leN (l.take i) + rd l (i : Int) * 256 ^ i = leN (l.take (i + 1)) := by
      rw [take_rd l i (by omega), leN_snoc, List.length_take, Nat.min_eq_left (by omega)]
    have hr := leN_lt (l.take (i + 1)) (fun x hx => hB x (List.mem_of_mem_take hx)) (by rw [List.length_take]; omega)
    have hr0 := leN_lt (l.take i) (fun x hx => hB x (List.mem_of_mem_take hx)) (by rw [List.length_take]; omega)
    rw [w64 (x := rd l (i : Int)) (by omega) (by omega), w64 (x := rd l (i : Int) * 256 ^ i) (by omega) (by omega), w64 (x := leN (l.take i) + rd l (i : Int) * 256 ^ i) (by omega) (by omega), e, w64 (by omega) (by omega)]
    have := ih (i + 1) (by omega)
    rwa [show (((i + 1 : Nat)) : Int) = (i : Int) + 1 by omega] at this
theorem ref_get_f (l : List Int) (m : Int) (hB : Bytes l) : Ev (fun k => bobbinref01_Get.f k l m) (getV l m, getL l m, getE l m) := by
  by_cases hW : okWide m
  · have key : ∀ k, bobbinref01_Get.f k l m = bobbinref01_Get.j0 k l m false := fun k => by
      unfold bobbinref01_Get.f
      rcases hW with rfl | rfl | rfl <;> simp
    refine Ev.congr key (Ev.step (fun k => bobbinref01_Get.j0_eq k _ _ _) (Ev.ifn (by decide) ?_))
    obtain ⟨q, rfl⟩ : ∃ q : Nat, m = q := ⟨m.toNat, by rcases hW with rfl | rfl | rfl <;> rfl⟩
    have hq : q ≤ 4 := by rcases hW with e | e | e <;> omega
    by_cases hl : (q : Int) ≤ l.length
    · have e : getOk l q := ⟨hW, hl⟩
      unfold getV getL getE
      simp only [if_pos e, if_pos hW, if_pos hl, Int.toNat_natCast]
      have := ref_get_loop l hB q hq (by omega) q 0 (by omega)
      exact Ev.ifn (by omega) (by simpa [leN] using this)
    · have e : ¬ getOk l q := fun c => hl c.2
      unfold getV getL getE
      simp only [if_neg e, if_pos hW, if_neg hl]
      exact Ev.ifp (by omega) (Ev.now _)
  · have e : ¬ getOk l m := fun c => hW c.1
    have key : ∀ k, bobbinref01_Get.f k l m = bobbinref01_Get.j0 k l m true := fun k => by
      unfold bobbinref01_Get.f
      rw [if_neg (fun c => hW (.inl c)), if_neg (fun c => hW (.inr (.inl c))), show (m != 4) = true by simpa using (fun c => hW (.inr (.inr c)))]
    unfold getV getL getE
    simp only [if_neg e, if_neg hW]
    exact Ev.congr key (Ev.step (fun k => bobbinref01_Get.j0_eq k _ _ _) (Ev.ifp rfl (Ev.now _)))
theorem ref_get (P0 : Nat → Prop) (A : Option Addr) (c : Nat) (l : List Int) (m : Int) (w : World) (hV : Kd.V (Kd.int .u8) 5 w w.heap.size (fun k => P0 k) (.slice A l.length c) l) (hB : Bytes l) : Calls Try.prog 23 #[.slice A l.length c, .int .i64 m] w fun e w' => ∃ v1_ : Value, e = .returned (.tuple #[.int .i64 (getV l m), v1_, .int .i64 (getE l m)]) ∧ Kd.V (Kd.int .u8) 5 w' w.heap.size (fun k_ => (P0 k_ ∨ w.heap.size ≤ k_)) v1_ (getL l m) ∧ Below w.heap.size w w' := by
  obtain ⟨k, hk⟩ := Ev.rounds (ref_get_f l m hB)
  exact bobbinref01_Get.calls k P0 A c l m _ _ _ w hV hk
theorem ref_take_f (l : List Int) (hB : Bytes l) (hl : l.length ≤ 140737488351232) : bobbinref01_Take.f l = some (takeB l, takeL l, takeE l) := by
  unfold bobbinref01_Take.f takeB takeL takeE
  by_cases h0 : l.length = 0
  · have e : ¬ takeOk l := fun c => by have := c.1; omega
    rw [if_pos (by omega)]
    simp only [if_neg e]
  · have hb := rd_bound hB 0 (by omega)
    have hr : rd l ((0 : Nat) : Int) = l.getD 0 0 := rfl
    rw [show (((0 : Nat)) : Int) = 0 from rfl] at hb hr
    rw [if_neg (by omega), if_pos (by omega), w64 (x := (l.length : Int) - 1) (by omega) (by omega), w64 (x := rd l 0) (by omega) (by omega), w64 (x := 1 + rd l 0) (by omega) (by omega)]
    by_cases ht : (l.getD 0 0) < (l.length : Int)
    · have e : takeOk l := ⟨by omega, ht⟩
      rw [if_neg (by omega), if_pos (by omega), if_pos (by omega)]
      simp only [if_pos e, Option.bind_some]
      rw [if_pos (by simp; omega), if_pos (by omega)]
      have e2 : (1 + rd l 0).toNat = (l.getD 0 0).toNat + 1 := by omega
      rw [e2]
      simp
    · have e : ¬ takeOk l := fun c => ht c.2
      rw [if_pos (by omega)]
      simp only [if_neg e]
theorem ref_take (P0 : Nat → Prop) (A : Option Addr) (c : Nat) (l : List Int) (w : World) (hV : Kd.V (Kd.int .u8) 5 w w.heap.size (fun k => P0 k) (.slice A l.length c) l) (hB : Bytes l) (hl : l.length ≤ 140737488351232) :
    Calls Try.prog 22 #[.slice A l.length c] w fun e w' => ∃ v0_ v1_ : Value, e = .returned (.tuple #[v0_, v1_, .int .i64 (takeE l)]) ∧ Kd.R (Kd.int .u8) 5 w' w.heap.size (fun k_ => (w.heap.size ≤ k_)) v0_ (takeB l) ∧ Kd.V (Kd.int .u8) 5 w' w.heap.size (fun k_ => (P0 k_ ∨ w.heap.size ≤ k_) ∧ some k_ ≠ (v0_ : Value).ownBlock) v1_ (takeL l) ∧ Below w.heap.size w w' :=
  bobbinref01_Take.calls P0 A c l _ _ _ w hV (ref_take_f l hB hl)
end Go.Proofs.Ytkniklgecmdeoaa.Print
