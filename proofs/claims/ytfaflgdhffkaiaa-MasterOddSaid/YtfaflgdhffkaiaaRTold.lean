/- law09: the document's Get, Open, Sector, and what its Told says (plain lists). -/
import Derived.Test.YtfaflgdhffkaiaaMLaw0
import Derived.Test.YtfaflgdhffkaiaaPrint1
import Derived.Test.YtfaflgdhffkaiaaPrint2
import Derived.Test.YtfaflgdhffkaiaaPrint3
namespace Go.Proofs.Ytfaflgdhffkaiaa.Print
open Go.RowKit Go.Proofs.YtfaflgdhffkaiaaW.PrintWords Go.Proofs.YtfaflgdhffkaiaaW.PrintLast Go.Proofs.YtfaflgdhffkaiaaW.PrintMore Go.Proofs.Ytfaflgdhffkaiaa.Pure
set_option linter.unusedVariables false
set_option linter.unusedSimpArgs false
theorem ref_same (A B : Option Addr) (c d : Nat) (l m : List Int) (w : World) (hC : Kd.C (Kd.int .u8) w A l.length l) (hc : l.length ≤ c) (hD : Kd.C (Kd.int .u8) w B m.length m) (hd : m.length ≤ d) (hl : l.length ≤ 140737488355328) (b : Bool) (hb : decide (l = m) = b) : Calls Try.prog 21 #[.slice A l.length c, .slice B m.length d] w fun e w' => e = .returned (.bool b) ∧ Drawn0 w w' := by
  obtain ⟨k, hk⟩ := Ev.rounds (same_ev l m hl)
  rw [hb] at hk
  exact bobbinref01_Same.calls k A c l B d m b w hC hc hD hd hk
theorem pow_ev (j : Nat) (h : j ≤ 3) : Ev (fun k => bobbinref01_power.f k (j : Int)) (256 ^ j) := by
  match j, h with
  | 0, _ => exact power0
  | 1, _ => exact power1
  | 2, _ => exact power2
  | 3, _ => exact power3
theorem rd_bound {l : List Int} (h : Bytes l) (i : Nat) (hi : i < l.length) : 0 ≤ rd l (i : Int) ∧ rd l (i : Int) ≤ 255 := by
  have : rd l (i : Int) = l[i] := by simp [rd, List.getD_eq_getElem?_getD, List.getElem?_eq_getElem hi]
  rw [this]
  exact h _ (List.getElem_mem hi)
theorem leN_snoc : ∀ (l : List Int) (x : Int), leN (l ++ [x]) = leN l + x * 256 ^ l.length
  | [], x => by simp [leN]
  | a :: l, x => by
    simp only [List.cons_append, leN, leN_snoc l x, List.length_cons, Int.pow_succ]
    rw [Int.mul_add, ← Int.add_assoc, Int.mul_comm 256 (x * _), Int.mul_assoc]
theorem leN_lt (l : List Int) (h : Bytes l) (hl : l.length ≤ 4) : 0 ≤ leN l ∧ leN l < 4294967296 := by
  match l, hl with
  | [], _ => exact ⟨by decide, by decide⟩
  | x :: r, hl =>
    have := leN_lt3 r (fun y hy => h y (by simp [hy])) (by simpa using hl)
    have := h x (by simp)
    simp only [leN]
    omega
theorem take_rd (l : List Int) (i : Nat) (hi : i < l.length) : l.take (i + 1) = l.take i ++ [rd l (i : Int)] := by
  rw [List.take_succ_eq_append_getElem hi]
  have : rd l (i : Int) = l[i] := by simp [rd, List.getD_eq_getElem?_getD, List.getElem?_eq_getElem hi]
  rw [this]
theorem ref_get_loop (l : List Int) (hB : Bytes l) (m : Nat) (hm : m ≤ 4) (hl : m ≤ l.length) (d : Nat) : ∀ i : Nat, i + d = m → Ev (fun k => bobbinref01_Get.l0 k l (m : Int) (leN (l.take i)) (i : Int)) (leN (l.take m), l.drop m, 0) := by
  induction d with
  | zero =>
    intro i hi
    obtain rfl : i = m := by omega
    exact Ev.step (fun k => bobbinref01_Get.l0_eq k _ _ _ _) (Ev.ifn (by omega) (Ev.ifp (by omega) (Ev.ifp (by omega) (Ev.const (by simp)))))
  | succ d ih =>
    intro i hi
    refine Ev.step (fun k => bobbinref01_Get.l0_eq k _ _ _ _) (Ev.ifp (by omega) (Ev.ifp (by omega) (Ev.ifp (by omega) (Ev.bind (pow_ev i (by omega)) ?_))))
    have hb := rd_bound hB i (by omega)
    have e : leN (l.take i) + rd l (i : Int) * 256 ^ i = leN (l.take (i + 1)) := by
      rw [take_rd l i (by omega), leN_snoc, List.length_take, Nat.min_eq_left (by omega)]
    have hr := leN_lt (l.take (i + 1)) (fun x hx => hB x (List.mem_of_mem_take hx)) (by rw [List.length_take]; omega)
    have hr0 := leN_lt (l.take i) (fun x hx => hB x (List.mem_of_mem_take hx)) (by rw [List.length_take]; omega)
    rw [w64 (x := rd l (i : Int)) (by omega) (by omega), w64 (x := rd l (i : Int) * 256 ^ i) (by omega) (by omega), w64 (x := leN (l.take i) + rd l (i : Int) * 256 ^ i) (by omega) (by omega), e, w64 (by omega) (by omega)]
    have := ih (i + 1) (by omega)
    rwa [show (((i + 1 : Nat)) : Int) = (i : Int) + 1 by omega] at this
theorem ref_get_f (l : List Int) (m : Int) (hB : Bytes l) : Ev (fun k => bobbinref01_Get.f k l m) (getV l m, getL l m, getE l m) := by
  by_cases hW : okWide m
  · have key : ∀ k, bobbinref01_Get.f k l m = bobbinref01_Get.j0 k l m false := fun k => by
      unfold bobbinref01_Get.f
      rcases hW with rfl | rfl | rfl <;> simp
    refine Ev.congr key (Ev.step (fun k => bobbinref01_Get.j0_eq k _ _ _) (Ev.ifn (by decide) ?_))
    obtain ⟨q, rfl⟩ : ∃ q : Nat, m = q := ⟨m.toNat, by rcases hW with rfl | rfl | rfl <;> rfl⟩
    have hq : q ≤ 4 := by rcases hW with e | e | e <;> omega
    by_cases hl : (q : Int) ≤ l.length
    · have e : getOk l q := ⟨hW, hl⟩
      unfold getV getL getE
      simp only [if_pos e, if_pos hW, if_pos hl, Int.toNat_natCast]
      have := ref_get_loop l hB q hq (by omega) q 0 (by omega)
      exact Ev.ifn (by omega) (by simpa [leN] using this)
    · have e : ¬ getOk l q := fun c => hl c.2
      unfold getV getL getE
      simp only [if_neg e, if_pos hW, if_neg hl]
      exact Ev.ifp (by omega) (Ev.now _)
  · have e : ¬ getOk l m := fun c => hW c.1
    have key : ∀ k, bobbinref01_Get.f k l m = bobbinref01_Get.j0 k l m true := fun k => by
      unfold bobbinref01_Get.f
      rw [if_neg (fun c => hW (.inl c)), if_neg (fun c => hW (.inr (.inl c))), show (m != 4) = true by simpa using (fun c => hW (.inr (.inr c)))]
    unfold getV getL getE
    simp only [if_neg e, if_neg hW]
    exact Ev.congr key (Ev.step (fun k => bobbinref01_Get.j0_eq k _ _ _) (Ev.ifp rfl (Ev.now _)))
theorem ref_get (P0 : Nat → Prop) (A : Option Addr) (c : Nat) (l : List Int) (m : Int) (w : World) (hV : Kd.V (Kd.int .u8) 5 w w.heap.size (fun k => P0 k) (.slice A l.length c) l) (hB : Bytes l) : Calls Try.prog 45 #[.slice A l.length c, .int .i64 m] w fun e w' => ∃ v1_ : Value, e = .returned (.tuple #[.int .i64 (getV l m), v1_, .int .i64 (getE l m)]) ∧ Kd.V (Kd.int .u8) 5 w' w.heap.size (fun k_ => (P0 k_ ∨ w.heap.size ≤ k_)) v1_ (getL l m) ∧ Below w.heap.size w w' := by
  obtain ⟨k, hk⟩ := Ev.rounds (ref_get_f l m hB)
  exact bobbinref01_Get.calls k P0 A c l m _ _ _ w hV hk
theorem b4_leN {x : List Int} (hB : Bytes x) (h : x.length = 4) : b4 (leN x) = x := by
  match x, h with
  | [a, b, c, d], _ =>
    have h0 := hB a (by simp)
    have h1 := hB b (by simp)
    have h2 := hB c (by simp)
    have h3 := hB d (by simp)
    simp only [leN, b4, List.cons.injEq, and_true]
    refine ⟨?_, ?_, ?_, ?_⟩ <;> omega
theorem stamp_leN {l : List Int} (hl : l.length = 256) : frame_Open.stamp l = leN (l.drop 252) := by
  rw [(frame_Open.ends l hl).2]
  unfold frame_Open.stamp
  simp only [leN]
  omega
theorem get4 (l : List Int) (hB : Bytes l) (hl : 4 ≤ l.length) : Ev (fun k => bobbinref01_Get.f k l 4) (leN (l.take 4), l.drop 4, 0) := by
  have h := ref_get_f l 4 hB
  have ho : getOk l 4 := ⟨.inr (.inr rfl), by omega⟩
  have hw : okWide 4 := .inr (.inr rfl)
  unfold getV getL getE at h
  rw [if_pos ho, if_pos ho, if_pos hw, if_pos (by omega)] at h
  exact h
theorem ropen {l : List Int} (hl : l.length = 256) (hB : Bytes l) : Ev (fun k => bobbinref02_Open.f k l) (if okS l then (body l, leN (l.take 4), 0) else ([], 0, 20)) := by
  have hd : (l.drop 252).length = 4 := by rw [List.length_drop]; omega
  have ht : (l.take 4).length = 4 := by rw [List.length_take]; omega
  have hBd : Bytes (l.drop 252) := fun x hx => hB x (List.mem_of_mem_drop hx)
  have hBt : Bytes (l.take 4) := fun x hx => hB x (List.mem_of_mem_take hx)
  have g1 := get4 l hB (by omega)
  have g2 := get4 (l.drop 252) hBd (by omega)
  rw [List.take_of_length_le (by omega)] at g2
  unfold bobbinref02_Open.f
  refine Ev.ifn (by omega) (Ev.bind g1 (Ev.bind g2 ?_))
  by_cases h : okS l
  · rw [if_pos h]
    exact Ev.ifp (by show leN (l.take 4) = leN (l.drop 252); rw [h.2]) (Ev.now _)
  · rw [if_neg h]
    refine Ev.ifn (fun q => h ⟨hl, ?_⟩) (Ev.now _)
    have q' : leN (l.take 4) = leN (l.drop 252) := q
    rw [← b4_leN hBt ht, q', b4_leN hBd hd]
theorem rmay (m : MS) : bobbinref09_May.f m.no m.ep m.st m.ck = some m.may := by
  unfold bobbinref09_May.f MS.may MS.mayP
  by_cases h : 1 ≤ m.no ∧ m.no < 4294967296 ∧ 1 ≤ m.ep ∧ m.ep ≤ 255 ∧ 0 ≤ m.st ∧ m.st ≤ 16777215 ∧ 0 ≤ m.ck ∧ m.ck ≤ 4294967295
  · rw [if_pos (by omega), if_pos (by omega), if_pos (by omega), if_pos (by omega), if_pos (by omega), if_pos (by omega), if_pos (by omega), decide_eq_true h, decide_eq_true (by omega)]
  · rw [decide_eq_false h]
    repeat' split
    all_goals first
      | rfl
      | (rw [decide_eq_false]; omega)
theorem rsector_step (m : MS) (out : List Int) (i : Nat) (hi : i < 4) (v : Int) (hv : ([m.no, m.ep, m.st, m.ck] : List Int).getD i 0 = v) (h0 : 0 ≤ v) (h1 : v < 4294967296) (ho : out.length ≤ 100) {r : List Int} (nx : Ev (fun k => bobbinref09_Sector.l0 k (out ++ b4 v) [m.no, m.ep, m.st, m.ck] ((i + 1 : Nat) : Int) m.no m.ep m.st m.ck) r) :
    Ev (fun k => bobbinref09_Sector.l0 k out [m.no, m.ep, m.st, m.ck] (i : Int) m.no m.ep m.st m.ck) r := by
  have hr : rd [m.no, m.ep, m.st, m.ck] (i : Int) = v := by rw [rd_nat]; exact hv
  refine Ev.step (fun k => bobbinref09_Sector.l0_eq k _ _ _ _ _ _ _) (Ev.ifp (by omega) (Ev.ifp (by omega) (Ev.ifp (by show (i : Int) < 4; omega) ?_)))
  rw [hr]
  refine Ev.bind (put4_ok v h0 h1) (Ev.ifp (by show out.length + 4 < _; omega) ?_)
  rw [w64 (by omega) (by omega)]
  exact nx
theorem rsector (m : MS) (h : m.mayP) : Ev (fun k => bobbinref09_Sector.f k m.no m.ep m.st m.ck) m.sect := by
  obtain ⟨h0, h1, h2, h3, h4, h5, h6, h7⟩ := h
  unfold bobbinref09_Sector.f
  refine rsector_step m [] 0 (by decide) m.no rfl (by omega) (by omega) (by decide) ?_
  refine rsector_step m _ 1 (by decide) m.ep rfl (by omega) (by omega) (by simp [b4]) ?_
  refine rsector_step m _ 2 (by decide) m.st rfl (by omega) (by omega) (by simp [b4]) ?_
  refine rsector_step m _ 3 (by decide) m.ck rfl (by omega) (by omega) (by simp [b4]) ?_
  refine Ev.step (fun k => bobbinref09_Sector.l0_eq k _ _ _ _ _ _ _) (Ev.ifn (by decide) ?_)
  have hb : ([] ++ b4 m.no ++ b4 m.ep ++ b4 m.st ++ b4 m.ck : List Int) = m.bytes := by simp [MS.bytes]
  rw [hb]
  obtain ⟨r, hr, hE⟩ := refseal_ev m.no m.bytes (by rw [m.bytes_len]; decide)
  rw [seal_m m ⟨h0, h1, h2, h3, h4, h5, h6, h7⟩] at hr
  injection hr with hr
  subst hr
  exact Ev.bind hE (Ev.now _)
/-! #### what the document's Told says -/
def rTold (s : List Int) (at_ : Int) : Bool := decide (okS s ∧ (rdM (body s)).mayP ∧ Int.tmod (rdM (body s)).no 2 = at_ ∧ (rdM (body s)).sect = s)
def rToldM (s : List Int) (at_ : Int) : MS := if okS s ∧ (rdM (body s)).mayP ∧ Int.tmod (rdM (body s)).no 2 = at_ then rdM (body s) else mz
theorem chunks4 {b : List Int} (hl : b.length = 248) : b.take 16 = b.take 4 ++ ((b.drop 4).take 4 ++ ((b.drop 8).take 4 ++ (b.drop 12).take 4)) := by
  have e1 : b.take 16 = b.take 4 ++ (b.take 16).drop 4 := by
    have := (List.take_append_drop 4 (b.take 16)).symm
    rwa [List.take_take] at this
  have e2 : (b.take 16).drop 4 = (b.drop 4).take 12 := by rw [List.drop_take]
  have e3 : (b.drop 4).take 12 = (b.drop 4).take 4 ++ ((b.drop 4).take 12).drop 4 := by
    have := (List.take_append_drop 4 ((b.drop 4).take 12)).symm
    rwa [List.take_take] at this
  have e4 : ((b.drop 4).take 12).drop 4 = (b.drop 8).take 8 := by rw [List.drop_take, List.drop_drop]
  have e5 : (b.drop 8).take 8 = (b.drop 8).take 4 ++ ((b.drop 8).take 8).drop 4 := by
    have := (List.take_append_drop 4 ((b.drop 8).take 8)).symm
    rwa [List.take_take] at this
  have e6 : ((b.drop 8).take 8).drop 4 = (b.drop 12).take 4 := by rw [List.drop_take, List.drop_drop]
  rw [e1, e2, e3, e4, e5, e6]
theorem sect_back {s : List Int} (hl : s.length = 256) (hB : Bytes s) (ho : okS s) (hst : (rdM (body s)).no = frame_Open.stamp s) (hm : more (body s) = false) : (rdM (body s)).sect = s := by
  have hbl := body_len hl
  have hBb := body_bytes hB
  have hz : (body s).drop 16 = List.replicate 232 0 := by
    have hd : ¬ ¬ ∀ x ∈ (body s).drop 16, x = 0 := of_decide_eq_false hm
    have hd := Decidable.not_not.1 hd
    exact List.eq_replicate_iff.2 ⟨by rw [List.length_drop, hbl], hd⟩
  have hx : (s.drop 252).length = 4 := by rw [List.length_drop]; omega
  have hBx : Bytes (s.drop 252) := fun x hx => hB x (List.mem_of_mem_drop hx)
  have hno : b4 (rdM (body s)).no = s.drop 252 := by rw [hst, stamp_leN hl, b4_leN hBx hx]
  have hc : ∀ k, k ≤ 12 → b4 (leN (((body s).drop k).take 4)) = ((body s).drop k).take 4 := fun k hk => b4_leN (fun x hx => hBb x (List.mem_of_mem_drop (List.mem_of_mem_take hx))) (by rw [List.length_take, List.length_drop, hbl]; omega)
  have hb : (rdM (body s)).bytes = (body s).take 16 := by
    rw [chunks4 hbl]
    unfold MS.bytes rdM
    have h0 := hc 0 (by omega)
    rw [List.drop_zero] at h0
    show b4 (leN ((body s).take 4)) ++ (b4 (leN (((body s).drop 4).take 4)) ++ (b4 (leN (((body s).drop 8).take 4)) ++ b4 (leN (((body s).drop 12).take 4)))) = _
    rw [h0, hc 4 (by omega), hc 8 (by omega), hc 12 (by omega)]
  have hp : pad (rdM (body s)).bytes = body s := by
    unfold pad
    rw [MS.bytes_len, hb, ← hz, List.take_append_drop]
  have e : (rdM (body s)).sect = b4 (rdM (body s)).no ++ (pad (rdM (body s)).bytes ++ b4 (rdM (body s)).no) := bytes_eq _ _
  rw [e, hp, hno]
  have h3 := split3 hl
  have hbd : body s = (s.drop 4).take 248 := rfl
  rw [hbd]
  conv => rhs; rw [h3, ho.2]
theorem told_r {s : List Int} (hl : s.length = 256) (hB : Bytes s) (at_ : Int) : toldB s at_ = rTold s at_ := by
  unfold rTold
  by_cases h : okS s ∧ (rdM (body s)).mayP ∧ Int.tmod (rdM (body s)).no 2 = at_ ∧ (rdM (body s)).sect = s
  · rw [decide_eq_true h]
    obtain ⟨h1, h2, h3, h4⟩ := h
    have := (told_sect (rdM (body s)) h2 at_).2
    rw [h4] at this
    rw [this]
    rw [Int.tmod_eq_emod_of_nonneg (by have := h2.1; omega)] at h3
    simpa using h3
  · rw [decide_eq_false h]
    cases ht : toldB s at_ with
    | false => rfl
    | true =>
      unfold toldB at ht
      simp only [Bool.and_eq_true, decide_eq_true_eq, Bool.not_eq_true', beq_iff_eq] at ht
      obtain ⟨h1, ⟨⟨h2, h3⟩, h4⟩, h5⟩ := ht
      have h2' : (rdM (body s)).mayP := of_decide_eq_true h2
      exact absurd ⟨h1, h2', h4, sect_back hl hB h1 h3 h5⟩ h
/-- What the document reads. -/
def rrM (a b : List Int) : MS := if rTold a 0 = true ∧ (rTold b 1 = false ∨ (rToldM b 1).no < (rToldM a 0).no) then rToldM a 0 else if rTold b 1 = true then rToldM b 1 else mz
def rrE (a b : List Int) : Int := if rTold a 0 = true ∧ (rTold b 1 = false ∨ (rToldM b 1).no < (rToldM a 0).no) then 0 else if rTold b 1 = true then 0 else 3
theorem rToldM_of {s : List Int} {at_ : Int} (h : rTold s at_ = true) : rToldM s at_ = rdM (body s) ∧ toldM s = rdM (body s) ∧ (rdM (body s)).mayP ∧ Int.tmod (rdM (body s)).no 2 = at_ := by
  unfold rTold at h
  obtain ⟨h1, h2, h3, h4⟩ := of_decide_eq_true h
  exact ⟨if_pos ⟨h1, h2, h3⟩, if_pos h1, h2, h3⟩
theorem reads_same {L : List (List Int)} {a b : List Int} (ha : a.length = 256) (hb : b.length = 256) (hBa : Bytes a) (hBb : Bytes b) (h0 : L.getD 0 [] = a) (h1 : L.getD 1 [] = b) : mrM L = rrM a b ∧ mrE L = rrE a b := by
  have hbest : bestL L 2 = pickM (pickM mz a 0) b 1 := by
    show pickM (pickM mz (L.getD 0 []) ((0 : Nat) : Int)) (L.getD 1 []) ((1 : Nat) : Int) = _
    rw [h0, h1]
    rfl
  have ta := told_r ha hBa 0
  have tb := told_r hb hBb 1
  unfold mrM mrE rrM rrE
  rw [hbest]
  unfold pickM
  rw [ta, tb]
  cases ea : rTold a 0 with
  | false =>
    rw [if_neg (show ¬ (false = true ∧ mz.no < (toldM a).no) from fun q => by cases q.1)]
    cases eb : rTold b 1 with
    | false =>
      simp only [Bool.false_eq_true, false_and, if_false]
      exact ⟨rfl, rfl⟩
    | true =>
      obtain ⟨r1, r2, r3, r4⟩ := rToldM_of eb
      have hn := r3.1
      have hz : ¬ (rdM (body b)).no = 0 := by omega
      rw [if_pos (show true = true ∧ mz.no < (toldM b).no from ⟨rfl, by rw [r2]; show (0 : Int) < _; omega⟩), r1, r2, if_neg hz, if_neg hz]
      simp
  | true =>
    obtain ⟨r1, r2, r3, r4⟩ := rToldM_of ea
    have hn := r3.1
    have hz : ¬ (rdM (body a)).no = 0 := by omega
    rw [if_pos (show true = true ∧ mz.no < (toldM a).no from ⟨rfl, by rw [r2]; show (0 : Int) < _; omega⟩), r1, r2]
    cases eb : rTold b 1 with
    | false =>
      rw [if_neg (show ¬ (false = true ∧ (rdM (body a)).no < (toldM b).no) from fun q => by cases q.1), if_neg hz, if_neg hz]
      simp
    | true =>
      obtain ⟨s1, s2, s3, s4⟩ := rToldM_of eb
      have hm := s3.1
      have hy : ¬ (rdM (body b)).no = 0 := by omega
      rw [s1, s2]
      rw [Int.tmod_eq_emod_of_nonneg (by omega)] at r4 s4
      by_cases c : (rdM (body b)).no < (rdM (body a)).no
      · rw [if_neg (show ¬ (true = true ∧ (rdM (body a)).no < (rdM (body b)).no) from fun q => by have := q.2; omega), if_neg hz, if_neg hz]
        simp [c]
      · rw [if_pos (show true = true ∧ (rdM (body a)).no < (rdM (body b)).no from ⟨rfl, by omega⟩), if_neg hy, if_neg hy]
        simp [c]
end Go.Proofs.Ytfaflgdhffkaiaa.Print
