/- What the program's own opening and joining of sectors come to (numbers and lists alone). -/
import Derived.Test.YtckmagmfanemiaaRef02
import Derived.Test.YtckmagmfanemiaaPrint3
import Derived.Test.YtckmagmfanemiaaPrint4
namespace Go.Proofs.Ytckmagmfanemiaa.Pure
open Go.RowKit Go.Proofs.Ytckmagmfanemiaa.Print Go.Proofs.YtckmagmfanemiaaW.PrintWords Go.Proofs.YtckmagmfanemiaaW.PrintLast
set_option linter.unusedVariables false
set_option linter.unusedSimpArgs false
theorem wf_u8 {x : Int} (h : (Lit.int .u8 x).wf = true) : 0 ≤ x ∧ x ≤ 255 := by
  simp [Lit.wf, IntKind.min, IntKind.max, IntKind.bits, IntKind.signed] at h
  omega
theorem wf_i64 {x : Int} (h : (Lit.int .i64 x).wf = true) : -9223372036854775808 ≤ x ∧ x ≤ 9223372036854775807 := by
  simp [Lit.wf, IntKind.min, IntKind.max, IntKind.bits, IntKind.signed] at h
  omega
def Bytes (l : List Int) : Prop := ∀ x ∈ l, 0 ≤ x ∧ x ≤ 255
theorem bytes_of_wf {l : List Int} (h : ∀ x ∈ l, (Lit.int .u8 x).wf = true) : Bytes l := fun x hx => wf_u8 (h x hx)
theorem Bytes.app {l m : List Int} (h : Bytes l) (k : Bytes m) : Bytes (l ++ m) := fun x hx => (List.mem_append.1 hx).elim (h x) (k x)
theorem Bytes.take {l : List Int} (h : Bytes l) (n : Nat) : Bytes (l.take n) := fun x hx => h x (List.mem_of_mem_take hx)
theorem Bytes.drop {l : List Int} (h : Bytes l) (n : Nat) : Bytes (l.drop n) := fun x hx => h x (List.mem_of_mem_drop hx)
theorem Bytes.zeros (n : Nat) : Bytes (List.replicate n 0) := fun x hx => by rw [List.eq_of_mem_replicate hx]; omega
theorem Bytes.b4 (n : Int) : Bytes (b4 n) := fun x hx => by
  simp only [Pure.b4, List.mem_cons, List.not_mem_nil, or_false] at hx
  omega
def pad (l : List Int) : List Int := l ++ List.replicate (248 - l.length) 0
theorem pad_len {l : List Int} (h : l.length ≤ 248) : (pad l).length = 248 := by simp [pad]; omega
theorem bytes_eq (a : Int) (l : List Int) : frame_Seal.bytes a l = b4 a ++ (pad l ++ b4 a) := by simp [frame_Seal.bytes, pad, seal_b4]
theorem Bytes.sealed {l : List Int} (h : Bytes l) (a : Int) : Bytes (frame_Seal.bytes a l) := by
  rw [bytes_eq]
  exact (Bytes.b4 a).app ((h.app (Bytes.zeros _)).app (Bytes.b4 a))
theorem b4_inj {a c : Int} (h0 : 0 ≤ a) (h1 : a < 4294967296) (h2 : 0 ≤ c) (h3 : c < 4294967296) (h : b4 a = b4 c) : a = c := by
  simp only [b4, List.cons.injEq, and_true] at h
  omega
theorem sect_take {x m y : List Int} (hx : x.length = 4) : (x ++ (m ++ y)).take 4 = x := by rw [← hx, List.take_left]
theorem sect_drop {x m y : List Int} (hx : x.length = 4) (hm : m.length = 248) : (x ++ (m ++ y)).drop 252 = y := by
  rw [show 252 = x.length + m.length by omega, ← List.append_assoc, show x.length + m.length = (x ++ m).length by simp, List.drop_left]
theorem sect_mid {x m y : List Int} (hx : x.length = 4) (hm : m.length = 248) : ((x ++ (m ++ y)).drop 4).take 248 = m := by
  rw [← hx, List.drop_left, ← hm, List.take_left]
theorem four {y : List Int} (h : y.length = 4) : y = [y.getD 0 0, y.getD 1 0, y.getD 2 0, y.getD 3 0] := by
  match y, h with
  | [a, b, c, d], _ => rfl
theorem getD_app {x y : List Int} (n i : Nat) (hx : x.length = n) : (x ++ y).getD (n + i) 0 = y.getD i 0 := by
  subst hx
  simp only [List.getD_eq_getElem?_getD]
  rw [List.getElem?_append_right (by omega), Nat.add_sub_cancel_left]
theorem stamp_of {x m y : List Int} (hx : x.length = 4) (hm : m.length = 248) : frame_Open.stamp (x ++ (m ++ y)) = y.getD 0 0 + 256 * y.getD 1 0 + 65536 * y.getD 2 0 + 16777216 * y.getD 3 0 := by
  unfold frame_Open.stamp
  rw [← List.append_assoc]
  have e : (x ++ m).length = 252 := by simp; omega
  rw [show (252 : Nat) = 252 + 0 from rfl, getD_app 252 0 e, show (253 : Nat) = 252 + 1 from rfl, getD_app 252 1 e, show (254 : Nat) = 252 + 2 from rfl, getD_app 252 2 e, show (255 : Nat) = 252 + 3 from rfl, getD_app 252 3 e]
theorem b4_sum {a : Int} (h0 : 0 ≤ a) (h1 : a < 4294967296) : (b4 a).getD 0 0 + 256 * (b4 a).getD 1 0 + 65536 * (b4 a).getD 2 0 + 16777216 * (b4 a).getD 3 0 = a := by
  simp [b4]
  omega
/-- The opening, of a sector that is given in three parts. -/
theorem open_ok {x m y : List Int} (hx : x.length = 4) (hm : m.length = 248) (hxy : x = y) (hb : Bytes (x ++ (m ++ y))) :
    frame_Open.f (x ++ (m ++ y)) = some (m, y.getD 0 0 + 256 * y.getD 1 0 + 65536 * y.getD 2 0 + 16777216 * y.getD 3 0, 0) := by
  have hl : (x ++ (m ++ y)).length = 256 := by rw [← hxy]; simp; omega
  unfold frame_Open.f
  rw [if_neg (by omega), sect_take hx, sect_drop hx hm, if_neg (by simpa using hxy), if_pos (show ∀ z ∈ x ++ (m ++ y), 0 ≤ z ∧ z ≤ 255 from hb), sect_mid hx hm, stamp_of hx hm]
theorem open_torn {x m y : List Int} (hx : x.length = 4) (hm : m.length = 248) (hy : y.length = 4) (hxy : x ≠ y) : frame_Open.f (x ++ (m ++ y)) = some ([], 0, 20) := by
  have hl : (x ++ (m ++ y)).length = 256 := by simp; omega
  unfold frame_Open.f
  rw [if_neg (by omega), sect_take hx, sect_drop hx hm, if_pos hxy]
theorem open_seal {a : Int} {l : List Int} (h0 : 0 ≤ a) (h1 : a < 4294967296) (hl : l.length ≤ 248) (hb : Bytes l) : frame_Open.f (frame_Seal.bytes a l) = some (pad l, a, 0) := by
  have h := hb.sealed a
  rw [bytes_eq] at h ⊢
  rw [open_ok rfl (pad_len hl) rfl h, b4_sum h0 h1]
theorem part_ok {old new : List Int} {k : Nat} (ho : old.length = 256) (hn : new.length = 256) (hk : k ≤ 256) : frame_Part.f old new (k : Int) = some (new.take k ++ old.drop k, 0) := by
  unfold frame_Part.f
  rw [if_pos (by omega), if_pos (by omega), if_neg (by omega), if_neg (by omega), if_pos (by omega), if_pos (by omega), if_pos (by omega)]
  unfold slices_Concat_byte_byte.f
  rw [if_pos (by simp; omega)]
  simp
theorem part_bad {old new : List Int} {k : Int} (h : old.length ≠ 256 ∨ new.length ≠ 256 ∨ k < 0 ∨ 256 < k) : frame_Part.f old new k = some ([], 1) := by
  unfold frame_Part.f
  by_cases h1 : old.length = 256
  · rw [if_pos (by omega)]
    by_cases h2 : new.length = 256
    · rw [if_pos (by omega)]
      by_cases h3 : k < 0
      · rw [if_pos h3]
      · rw [if_neg h3, if_pos (by omega)]
    · rw [if_neg (by omega)]
  · rw [if_neg (by omega)]
theorem split3 {l : List Int} (h : l.length = 256) : l = l.take 4 ++ ((l.drop 4).take 248 ++ l.drop 252) := by
  have e := List.take_append_drop 4 l
  have e2 := List.take_append_drop 248 (l.drop 4)
  rw [List.drop_drop] at e2
  rw [e2, e]
end Go.Proofs.Ytckmagmfanemiaa.Pure
