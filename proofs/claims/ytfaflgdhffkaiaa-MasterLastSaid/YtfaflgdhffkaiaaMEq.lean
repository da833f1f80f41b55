/- '==' of two masters. -/
import Derived.Test.YtfaflgdhffkaiaaMastP
import Derived.Test.YtfaflgdhffkaiaaWEqStruct
namespace Go.Proofs.Ytfaflgdhffkaiaa.Print
open Go.RowKit Go.Proofs.YtfaflgdhffkaiaaW.PrintWords Go.Proofs.YtfaflgdhffkaiaaW.PrintLast Go.Proofs.YtfaflgdhffkaiaaW.PrintMore
set_option linter.unusedVariables false
set_option linter.unusedSimpArgs false
def sameM (a b : MS) : Bool := a.no == b.no && (a.ep == b.ep && (a.st == b.st && a.ck == b.ck))
theorem sameM_self (a : MS) : sameM a a = true := by simp [sameM]
theorem sameM_ne {a b : MS} (h : a ≠ b) : sameM a b = false := by
  cases hs : sameM a b with
  | false => rfl
  | true =>
    simp [sameM] at hs
    exact absurd (MS.ext hs.1 hs.2.1 hs.2.2.1 hs.2.2.2) h
theorem equalM (a b : MS) (w : World) : (Op.equalIn 10000 30 (.agg (agM a)) (.agg (agM b))).run Try.prog w = .ok (sameM a b) w := by
  refine eqA_of (d := 9999) Try.underlying30 (by kernel_rfl) ?_
  refine eqf_cons (by rfl) (a := .int .i64 a.no) (b := .int .i64 b.no) (by go_simp) (by go_simp) (by go_simp) ?_
  refine eqf_cons (by rfl) (a := .int .i64 a.ep) (b := .int .i64 b.ep) (by go_simp) (by go_simp) (by go_simp) ?_
  refine eqf_cons (by rfl) (a := .int .i64 a.st) (b := .int .i64 b.st) (by go_simp) (by go_simp) (by go_simp) ?_
  exact eqf_last (by rfl) (a := .int .i64 a.ck) (b := .int .i64 b.ck) (by go_simp) (by go_simp) (by go_simp)
theorem eqM (a b : MS) (w : World) : (binOp .eql 30 (.agg #[.int .i64 a.no, .int .i64 a.ep, .int .i64 a.st, .int .i64 a.ck]) (.agg #[.int .i64 b.no, .int .i64 b.ep, .int .i64 b.st, .int .i64 b.ck])).run Try.prog w = .ok (.bool (sameM a b)) w := by
  rw [run_eql_struct, equalM]
  rfl
theorem neM (a b : MS) (w : World) : (binOp .neq 30 (.agg #[.int .i64 a.no, .int .i64 a.ep, .int .i64 a.st, .int .i64 a.ck]) (.agg #[.int .i64 b.no, .int .i64 b.ep, .int .i64 b.st, .int .i64 b.ck])).run Try.prog w = .ok (.bool (!sameM a b)) w := by
  rw [run_neq_struct, equalM]
  rfl
end Go.Proofs.Ytfaflgdhffkaiaa.Print
