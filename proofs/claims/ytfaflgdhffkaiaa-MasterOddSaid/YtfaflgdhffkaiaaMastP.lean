/- A master: its bytes, its sector, what a sector tells (plain lists). -/
import Derived.Test.YtfaflgdhffkaiaaBytG
import Derived.Test.YtfaflgdhffkaiaaFrameS
import Derived.Test.YtfaflgdhffkaiaaWEqStruct
import Derived.Test.YtfaflgdhffkaiaaPrint1
namespace Go.Proofs.Ytfaflgdhffkaiaa.Print
open Go.RowKit Go.Proofs.YtfaflgdhffkaiaaW.PrintWords Go.Proofs.YtfaflgdhffkaiaaW.PrintLast Go.Proofs.YtfaflgdhffkaiaaW.PrintMore
set_option linter.unusedVariables false
set_option linter.unusedSimpArgs false
structure MS where
  no : Int
  ep : Int
  st : Int
  ck : Int
theorem MS.ext {a b : MS} (h1 : a.no = b.no) (h2 : a.ep = b.ep) (h3 : a.st = b.st) (h4 : a.ck = b.ck) : a = b := by
  cases a
  cases b
  simp_all
abbrev agM (m : MS) : Array Value := #[.int .i64 m.no, .int .i64 m.ep, .int .i64 m.st, .int .i64 m.ck]
def MS.mayP (m : MS) : Prop := 1 ≤ m.no ∧ m.no < 4294967296 ∧ 1 ≤ m.ep ∧ m.ep ≤ 255 ∧ 0 ≤ m.st ∧ m.st ≤ 16777215 ∧ 0 ≤ m.ck ∧ m.ck ≤ 4294967295
instance (m : MS) : Decidable m.mayP := by unfold MS.mayP; infer_instance
def MS.may (m : MS) : Bool := decide m.mayP
theorem may_f (m : MS) : master_May.f m.no m.ep m.st m.ck = some m.may := by
  unfold master_May.f MS.may MS.mayP
  by_cases h : 1 ≤ m.no ∧ m.no < 4294967296 ∧ 1 ≤ m.ep ∧ m.ep ≤ 255 ∧ 0 ≤ m.st ∧ m.st ≤ 16777215 ∧ 0 ≤ m.ck ∧ m.ck ≤ 4294967295
  · rw [if_pos (by omega), if_pos (by omega), if_pos (by omega), if_pos (by omega), if_pos (by omega), if_pos (by omega), if_pos (by omega), decide_eq_true h, decide_eq_true (by omega)]
  · rw [decide_eq_false h]
    repeat' split
    all_goals first
      | rfl
      | (rw [decide_eq_false]; omega)
theorem may_any (m : MS) (w : World) : Calls Try.prog 14 #[.agg #[.int .i64 m.no, .int .i64 m.ep, .int .i64 m.st, .int .i64 m.ck]] w fun e w' => e = .returned (.bool m.may) ∧ Below w.heap.size w w' := master_May.calls m.no m.ep m.st m.ck m.may w (may_f m)
/-! #### what a sector tells -/
def okS (l : List Int) : Prop := l.length = 256 ∧ l.take 4 = l.drop 252
instance (l : List Int) : Decidable (okS l) := by unfold okS; infer_instance
def body (l : List Int) : List Int := (l.drop 4).take 248
def rdM (b : List Int) : MS := ⟨leN (b.take 4), leN ((b.drop 4).take 4), leN ((b.drop 8).take 4), leN ((b.drop 12).take 4)⟩
def toldM (l : List Int) : MS := if okS l then rdM (body l) else ⟨0, 0, 0, 0⟩
def more (b : List Int) : Bool := decide (¬ ∀ x ∈ b.drop 16, x = 0)
def toldB (l : List Int) (at_ : Int) : Bool := decide (okS l) && ((rdM (body l)).may && ((rdM (body l)).no == frame_Open.stamp l) && (Int.tmod (rdM (body l)).no 2 == at_) && !more (body l))
theorem open_any {l : List Int} (hl : l.length = 256) (hB : Bytes l) : frame_Open.f l = if okS l then some (body l, frame_Open.stamp l, 0) else some ([], 0, 20) := by
  unfold frame_Open.f
  rw [if_neg (by omega)]
  by_cases h : okS l
  · rw [if_pos h, if_neg (by simpa using h.2), if_pos (show ∀ x ∈ l, 0 ≤ x ∧ x ≤ 255 from hB)]
    rfl
  · rw [if_neg h, if_pos (fun q => h ⟨hl, q⟩)]
theorem body_len {l : List Int} (hl : l.length = 256) : (body l).length = 248 := by unfold body; simp; omega
theorem body_bytes {l : List Int} (hB : Bytes l) : Bytes (body l) := fun x hx => hB x (List.mem_of_mem_drop (List.mem_of_mem_take hx))
/-! #### a master's sector -/
def MS.bytes (m : MS) : List Int := Pure.b4 m.no ++ (Pure.b4 m.ep ++ (Pure.b4 m.st ++ Pure.b4 m.ck))
def MS.sect (m : MS) : List Int := frame_Seal.bytes m.no m.bytes
theorem MS.bytes_len (m : MS) : m.bytes.length = 16 := rfl
theorem MS.sect_len (m : MS) : m.sect.length = 256 := frame_Seal.bytes_len _ _ (by rw [m.bytes_len]; decide)
theorem MS.sect_bytes (m : MS) : Bytes m.sect := Pure.Bytes.seal (((Pure.Bytes.b4 _).app ((Pure.Bytes.b4 _).app ((Pure.Bytes.b4 _).app (Pure.Bytes.b4 _))))) _
theorem le_b4 (n : Int) : le 4 n = Pure.b4 n := by
  show [n % 256, n / 256 % 256, n / 256 / 256 % 256, n / 256 / 256 / 256 % 256] = _
  unfold Pure.b4
  rw [Int.ediv_ediv_of_nonneg (by decide), Int.ediv_ediv_of_nonneg (by decide)]
  rfl
theorem leN_b4 (n : Int) (h0 : 0 ≤ n) (h1 : n < 4294967296) : leN (Pure.b4 n) = n := by
  simp only [Pure.b4, leN]
  omega
theorem sect_ok (m : MS) : okS m.sect ∧ body m.sect = Pure.pad m.bytes := by
  have e : m.sect = Pure.b4 m.no ++ (Pure.pad m.bytes ++ Pure.b4 m.no) := Pure.bytes_eq _ _
  have hp : (Pure.pad m.bytes).length = 248 := Pure.pad_len (by rw [m.bytes_len]; decide)
  refine ⟨⟨m.sect_len, ?_⟩, ?_⟩
  · rw [e, Pure.sect_take rfl, Pure.sect_drop rfl hp]
  · unfold body
    rw [e, Pure.sect_mid rfl hp]
theorem pad_drop (m : MS) : (Pure.pad m.bytes).drop 16 = List.replicate 232 0 := by
  unfold Pure.pad
  rw [List.drop_append_of_le_length (by rw [m.bytes_len]; decide), List.drop_eq_nil_of_le (by rw [m.bytes_len]; decide), m.bytes_len]
  rfl
theorem rdM_sect (m : MS) (h : m.mayP) : rdM (body m.sect) = m := by
  rw [(sect_ok m).2]
  have t0 : (Pure.pad m.bytes).take 4 = Pure.b4 m.no := rfl
  have t1 : ((Pure.pad m.bytes).drop 4).take 4 = Pure.b4 m.ep := rfl
  have t2 : ((Pure.pad m.bytes).drop 8).take 4 = Pure.b4 m.st := rfl
  have t3 : ((Pure.pad m.bytes).drop 12).take 4 = Pure.b4 m.ck := rfl
  obtain ⟨h0, h1, h2, h3, h4, h5, h6, h7⟩ := h
  unfold rdM
  rw [t0, t1, t2, t3, leN_b4 _ (by omega) (by omega), leN_b4 _ (by omega) (by omega), leN_b4 _ (by omega) (by omega), leN_b4 _ (by omega) (by omega)]
theorem stamp_sect (m : MS) (h : m.mayP) : frame_Open.stamp m.sect = m.no := by
  have e : m.sect = Pure.b4 m.no ++ (Pure.pad m.bytes ++ Pure.b4 m.no) := Pure.bytes_eq _ _
  have hp : (Pure.pad m.bytes).length = 248 := Pure.pad_len (by rw [m.bytes_len]; decide)
  rw [e, Pure.stamp_of rfl hp, Pure.b4_sum (by have := h.1; omega) h.2.1]
theorem more_sect (m : MS) : more (body m.sect) = false := by
  unfold more
  rw [(sect_ok m).2, pad_drop]
  refine decide_eq_false (fun q => q (fun x hx => ?_))
  rw [List.eq_of_mem_replicate hx]
/-- A master's sector tells it, at its own place. -/
theorem told_sect (m : MS) (h : m.mayP) (at_ : Int) : toldM m.sect = m ∧ toldB m.sect at_ = (m.no % 2 == at_) := by
  refine ⟨by unfold toldM; rw [if_pos (sect_ok m).1, rdM_sect m h], ?_⟩
  unfold toldB
  rw [rdM_sect m h, stamp_sect m h, more_sect, decide_eq_true (sect_ok m).1, Int.tmod_eq_emod_of_nonneg (by have := h.1; omega)]
  have : m.may = true := decide_eq_true h
  rw [this]
  simp
/-- A sector of noughts tells nothing. -/
theorem told_zero (at_ : Int) : toldB (List.replicate 256 0) at_ = false := by
  have h : (rdM (body (List.replicate 256 0))).may = false := by decide +kernel
  unfold toldB
  rw [h, Bool.false_and, Bool.false_and, Bool.false_and, Bool.and_false]
end Go.Proofs.Ytfaflgdhffkaiaa.Print
namespace Go.Proofs.Ytfaflgdhffkaiaa.Print
open Go.RowKit Go.Proofs.YtfaflgdhffkaiaaW.PrintWords Go.Proofs.YtfaflgdhffkaiaaW.PrintLast Go.Proofs.YtfaflgdhffkaiaaW.PrintMore
set_option linter.unusedVariables false
set_option linter.unusedSimpArgs false
def sameM (a b : MS) : Bool := a.no == b.no && (a.ep == b.ep && (a.st == b.st && a.ck == b.ck))
theorem sameM_self (a : MS) : sameM a a = true := by simp [sameM]
theorem sameM_ne {a b : MS} (h : a ≠ b) : sameM a b = false := by
  cases hs : sameM a b with
  | false => rfl
  | true =>
    simp [sameM] at hs
    exact absurd (MS.ext hs.1 hs.2.1 hs.2.2.1 hs.2.2.2) h
theorem equalM (a b : MS) (w : World) : (Op.equalIn 10000 30 (.agg (agM a)) (.agg (agM b))).run Try.prog w = .ok (sameM a b) w := by
  refine eqA_of (d := 9999) Try.underlying30 (by kernel_rfl) ?_
  refine eqf_cons (by rfl) (a := .int .i64 a.no) (b := .int .i64 b.no) (by go_simp) (by go_simp) (by go_simp) ?_
  refine eqf_cons (by rfl) (a := .int .i64 a.ep) (b := .int .i64 b.ep) (by go_simp) (by go_simp) (by go_simp) ?_
  refine eqf_cons (by rfl) (a := .int .i64 a.st) (b := .int .i64 b.st) (by go_simp) (by go_simp) (by go_simp) ?_
  exact eqf_last (by rfl) (a := .int .i64 a.ck) (b := .int .i64 b.ck) (by go_simp) (by go_simp) (by go_simp)
theorem eqM (a b : MS) (w : World) : (binOp .eql 30 (.agg #[.int .i64 a.no, .int .i64 a.ep, .int .i64 a.st, .int .i64 a.ck]) (.agg #[.int .i64 b.no, .int .i64 b.ep, .int .i64 b.st, .int .i64 b.ck])).run Try.prog w = .ok (.bool (sameM a b)) w := by
  rw [run_eql_struct, equalM]
  rfl
theorem neM (a b : MS) (w : World) : (binOp .neq 30 (.agg #[.int .i64 a.no, .int .i64 a.ep, .int .i64 a.st, .int .i64 a.ck]) (.agg #[.int .i64 b.no, .int .i64 b.ep, .int .i64 b.st, .int .i64 b.ck])).run Try.prog w = .ok (.bool (!sameM a b)) w := by
  rw [run_neq_struct, equalM]
  rfl
end Go.Proofs.Ytfaflgdhffkaiaa.Print
