/- byt.Writer: what its methods do to the bytes it holds. -/
import Derived.Test.YtfaflgdhffkaiaaFrames
import Derived.Test.YtfaflgdhffkaiaaPrint0
import Derived.Outline
import Derived.Lib.EndianBits
import Derived.Deep.QuietTactic
import Derived.BigQuiet
import Derived.IntWalk
import Derived.Test.YtfaflgdhffkaiaaPrint1
namespace Go.Proofs.Ytfaflgdhffkaiaa.Print
open Go.RowKit Go.Proofs.YtfaflgdhffkaiaaW.PrintWords Go.Proofs.YtfaflgdhffkaiaaW.PrintLast Go.Proofs.YtfaflgdhffkaiaaW.PrintMore
set_option linter.unusedVariables false
set_option linter.unusedSimpArgs false
/-- The Writer at block g holds the bytes l, in a row of block r. -/
def Wr (w : World) (g : Nat) (r : Option Nat) (l : List Int) : Prop :=
  ∃ v, w.heap[g]? = some (.cells #[v] 63 (0, 0)) ∧ v.ownBlock = r ∧ w.ownsRow 0 5 1 v l.length (nums .u8 l)
theorem Wr.ne {w : World} {g : Nat} {r : Option Nat} {l : List Int} (h : Wr w g r l) : ∀ k, r = some k → k ≠ g := by
  obtain ⟨v, hb, hv, ho⟩ := h
  rintro k hk rfl
  obtain ⟨cur, hc⟩ := own_typed ho (hv.trans hk)
  rw [hb] at hc
  simp at hc
theorem Wr.lt {w : World} {g : Nat} {r : Option Nat} {l : List Int} (h : Wr w g r l) : g < w.heap.size ∧ ∀ k, r = some k → k < w.heap.size := by
  obtain ⟨v, hb, hv, ho⟩ := h
  exact ⟨(Array.getElem?_eq_some_iff.1 hb).1, fun k hk => own_lt ho k (hv.trans hk)⟩
theorem Wr.step {w w1 : World} {g : Nat} {r : Option Nat} {l : List Int} {S : Nat → Prop} (h : Wr w g r l) (hc : Chg S w w1) (hg : ¬ S g) (hr : ∀ k, r = some k → ¬ S k) : Wr w1 g r l := by
  obtain ⟨v, hb, hv, ho⟩ := h
  exact ⟨v, hc.obj hb hg, hv, own_step ho hc (fun k hk => hr k (hv.symm.trans hk))⟩
theorem Wr.below {w w1 : World} {g : Nat} {r : Option Nat} {l : List Int} (h : Wr w g r l) (hb : Below w.heap.size w w1) : Wr w1 g r l := h.step (S := fun _ => False) (.of_new hb _) (fun x => x) (fun _ _ x => x)
/-- The Writer holds l now; nothing but its blocks was turned. -/
def WrPost (g : Nat) (r : Option Nat) (l : List Int) (w w' : World) : Prop := ∃ r', Wr w' g r' l ∧ (r' = r ∨ ∃ b, r' = some b ∧ w.heap.size ≤ b) ∧ Chg (fun k => k = g ∨ some k = r) w w'
theorem WrPost.refl {w : World} {g : Nat} {r : Option Nat} {l : List Int} (h : Wr w g r l) : WrPost g r l w w := ⟨r, h, .inl rfl, .refl _ _⟩
theorem WrPost.trans {w w1 w2 : World} {g : Nat} {r r1 : Option Nat} {l : List Int} (hr : r1 = r ∨ ∃ b, r1 = some b ∧ w.heap.size ≤ b) (hc : Chg (fun k => k = g ∨ some k = r) w w1) (h : WrPost g r1 l w1 w2) : WrPost g r l w w2 := by
  obtain ⟨r2, hw, h2, hc2⟩ := h
  refine ⟨r2, hw, ?_, hc.trans hc2 ?_⟩
  · rcases h2 with rfl | ⟨b, rfl, hb⟩
    · exact hr
    · exact .inr ⟨b, rfl, Nat.le_trans hc.size hb⟩
  · rintro j (rfl | h)
    · exact .inl (.inl rfl)
    · rcases hr with rfl | ⟨b, rfl, hb⟩
      · exact .inl (.inr h)
      · obtain rfl := Option.some.inj h
        exact .inr hb
theorem WrPost.drawn {w w1 w2 : World} {g : Nat} {r : Option Nat} {l : List Int} (hd : Below w.heap.size w w1) (h : WrPost g r l w1 w2) : WrPost g r l w w2 := WrPost.trans (.inl rfl) (.of_new hd _) h
theorem reads_of_C {w : World} {A : Option Addr} {n : Nat} {k : IntKind} {xs : List Int} (h : Kd.C (Kd.int k) w A n xs) : ReadsInt w k A n xs := ⟨h.1, h.2.1, fun hp => C_cells' h hp⟩
theorem C_of_reads_ {w : World} {A : Option Addr} {n : Nat} {k : IntKind} {xs : List Int} (h : ReadsInt w k A n xs) : Kd.C (Kd.int k) w A n xs := Kd.C_of_reads (d := (0 : Int)) (h1 := fun _ => rfl) h
theorem reads_one {w : World} {g : Nat} {k : IntKind} {x : Int} {t : TypeId} (h : w.heap[g]? = some (.cells #[.int k x] t (0, 0))) : ReadsInt w k (some ⟨g, 0, none⟩) 1 [x] :=
  ⟨rfl, by decide, fun _ => ⟨_, rfl, fun j hj => by obtain rfl : j = 0 := by omega
                                                    rw [add_plain]; exact (one_cell h).1⟩⟩
set_option maxHeartbeats 1000000 in
set_option maxRecDepth 100000 in
theorem byt_add (g : Nat) (r : Option Nat) (l : List Int) (A : Option Addr) (m c : Nat) (ys : List Int) (w : World) (hw : Wr w g r l) (hr : ReadsInt w .u8 A m ys) (hl : l.length + m ≤ 140737488355328) :
    Calls Try.prog 47 #[.pointer (some ⟨g, 0, none⟩), .slice A m c] w fun e w' => e = .returned (.tuple #[]) ∧ WrPost g r (l ++ ys) w w' := by
  have hne := hw.ne
  have hlt := hw.lt
  obtain ⟨v, hb, hv, ho⟩ := hw
  obtain ⟨hc, hf⟩ := one_cell hb
  replace hb := Aside0.mk hb
  replace hv := Aside0.mk hv
  replace ho := Aside0.mk ho
  replace hr := Aside0.mk hr
  replace hne := Aside0.mk hne
  replace hlt := Aside0.mk hlt
  replace hl := Aside0.mk hl
  go_enter Try.func47, Try.ntmps47
  go_wp2_with ((with_reducible refine gate_builtin (b := .append) (xs := #[.tmp 8, .tmp 9]) rfl ?_); at_builtin; refine print_append_row (w0 := w) 0 rfl (.tmp 8) (.tmp 9) 22 5 .u8 1 rfl Try.underlying22 info5 (by decide) v l ys A m c rfl rfl ho.out hr.out (Below.refl 0 w) (Nat.zero_le _) (by have := hl.out; omega) ?_; intro v1 w1 hown _ hg hat; obtain ⟨A1, c1, rfl⟩ := own_slice hown; generalize hLen : (l ++ ys).length = n1 at hown hat; replace hLen := Aside0.mk hLen; have hb1 : w1.heap[g]? = some (.cells #[v] 63 (0, 0)) := (hg.block g hlt.out.1 (fun e => hne.out g (hv.out.symm.trans e.symm) rfl)).trans hb.out; obtain ⟨hc1, hf1⟩ := one_cell hb1; replace hb1 := Aside0.mk hb1; replace hown := Aside0.mk hown; replace hg := Aside0.mk hg; replace hat := Aside0.mk hat)
  go_end0
  have hat := hat.out
  rw [hv.out] at hat
  have hne1 : ∀ k, (Value.slice A1 n1 c1).ownBlock = some k → k ≠ g := fun k hk => by
    rcases hat with e | ⟨b, e, hle⟩
    · exact hne.out k (e.symm.trans hk)
    · have := hlt.out.1
      rw [hk] at e
      obtain rfl := Option.some.inj e
      omega
  have hg0 := hg.out
  rw [hv.out] at hg0
  exact ⟨rfl, _, ⟨_, one_set hb1.out _, rfl, by rw [hLen.out]; exact own_step hown.out ((Chg.refl (fun k => k = g) _).set (p := ⟨g, 0, none⟩) (.inl rfl) _) (fun k hk e => hne1 k hk e)⟩, hat, (Chg.of_grown (S := fun k => k = g ∨ some k = r) hg0 (fun k e => .inr e.symm)).set (p := ⟨g, 0, none⟩) (.inl (.inl rfl)) _⟩
/-- A number's bytes, the lowest first. -/
def le : Nat → Int → List Int
  | 0, _ => []
  | k + 1, n => n % 256 :: le k (n / 256)
theorem le_length : ∀ (k : Nat) (n : Int), (le k n).length = k
  | 0, _ => rfl
  | k + 1, n => by simp [le, le_length k]
def okWide (m : Int) : Prop := m = 1 ∨ m = 2 ∨ m = 4
instance (m : Int) : Decidable (okWide m) := by unfold okWide; infer_instance
def top (m : Int) : Int := if m = 1 then 256 else if m = 2 then 65536 else 4294967296
/-- May a number be put? -/
def mayPut (n m : Int) : Prop := okWide m ∧ 0 ≤ n ∧ n < top m
instance (n m : Int) : Decidable (mayPut n m) := by unfold mayPut; infer_instance
/-- What a put adds, and its error. -/
def putB (n m : Int) : List Int := if mayPut n m then le m.toNat n else []
def putE (n m : Int) : Int := if mayPut n m then 0 else 1
theorem wide_f (m : Int) : byt_wide.f m = some (decide (okWide m)) := by
  unfold byt_wide.f okWide
  by_cases h1 : m = 1
  · simp [h1]
  · by_cases h2 : m = 2
    · simp [h2]
    · by_cases h4 : m = 4
      · simp [h4]
      · simp [h1, h2, h4]
theorem wide_calls (m : Int) (w : World) (b : Bool) (h : decide (okWide m) = b) : Calls Try.prog 46 #[.int .i64 m] w fun e w' => e = .returned (.bool b) ∧ Drawn0 w w' :=
  byt_wide.calls m b w (by rw [wide_f, h])
/-- Between two rounds of Put: d bytes of x are to come. -/
def PutI (g : Nat) (r : Option Nat) (T : List Int) (w : World) (d : Nat) (x : Int) (W : World) : Prop :=
  ∃ rk lk, Wr W g rk lk ∧ lk ++ le d x = T ∧ lk.length ≤ 1000000000 ∧ lk.length + d = T.length ∧ (rk = r ∨ ∃ b, rk = some b ∧ w.heap.size ≤ b) ∧ Chg (fun k => k = g ∨ some k = r) w W
theorem PutI.step {g : Nat} {r rk : Option Nat} {T lk : List Int} {w W W1 : World} {d : Nat} {x : Int} (ht : lk ++ le (d + 1) x = T) (hl : lk.length + (d + 1) = T.length) (hT : T.length ≤ 1000000000) (hr : rk = r ∨ ∃ b, rk = some b ∧ w.heap.size ≤ b)
    (hc : Chg (fun k => k = g ∨ some k = r) w W) (h : WrPost g rk (lk ++ [x % 256]) W W1) : PutI g r T w d (x / 256) W1 := by
  obtain ⟨r1, h1, h2, h3⟩ := WrPost.trans hr hc h
  exact ⟨r1, _, h1, by simpa [le] using ht, by simp; omega, by simp; omega, h2, h3⟩
set_option maxHeartbeats 2000000 in
set_option maxRecDepth 100000 in
theorem put_1 (g : Nat) (r : Option Nat) (l : List Int) (n : Int) (w : World) (hw : Wr w g r l) (h0 : 0 ≤ n) (h1 : n < 256) (hl : l.length ≤ 100000000) :
    Calls Try.prog 31 #[.pointer (some ⟨g, 0, none⟩), .int .i64 n, .int .i64 1] w fun e w' => e = .returned (.int .i64 0) ∧ WrPost g r (l ++ le 1 n) w w' := by
  obtain ⟨T, hT⟩ : ∃ T, l ++ le 1 n = T := ⟨_, rfl⟩
  have hTl : T.length = l.length + 1 := by rw [← hT]; simp [le_length]
  have hI0 : ∀ W, Below w.heap.size w W → PutI g r T w 1 n W := fun W hb => ⟨r, l, hw.below hb, hT, by omega, by omega, .inl rfl, .of_new hb _⟩
  rw [hT]
  replace hI0 := Aside0.mk hI0
  replace hTl := Aside0.mk (show T.length ≤ 1000000000 by omega)
  clear hw hl hT
  have hwc := Aside0.mk (fun w => wide_calls 1 w true (by decide))
  go_enter Try.func31, Try.ntmps31
  go_wp2_with (go_at_call 46; refine (hwc.out _).mono ?_; rintro e w1 ⟨rfl, hd1⟩; have hb1 := Aside0.mk hd1.below; clear hd1)
  go_loopw [1, 26] (fun v1 v26 wr => ∃ (k d : Nat) (x : Int), k + d = 1 ∧ v26 = .int .i64 k ∧ v1 = .int .i64 x ∧ 0 ≤ x ∧ x < 256 ∧ Aside0 (PutI g r T w d x wr)) (fun _ v26 _ => 1 - (intOf v26).toNat)
  case atStart => exact ⟨0, 1, n, rfl, rfl, rfl, h0, h1, ⟨hI0.out _ hb1.out⟩⟩
  case round =>
    obtain ⟨k, d, x, hkd, rfl, rfl, hx0, hx1, HI⟩ := hrel
    cases d with
    | zero =>
      obtain rfl : k = 1 := by omega
      clear hkd
      go_wp2_with fail
      go_ret
      obtain ⟨rk, lk, a, b, c, d, e, f⟩ := HI.out
      rw [show lk = T by simpa [le] using b] at a
      exact ⟨rfl, rk, a, e, f⟩
    | succ d =>
      obtain ⟨rk, lk, hW, hS, hL, hD, hR, hC⟩ := HI.out
      have hS' : Aside0 (∀ W1, WrPost g rk (lk ++ [x]) wr W1 → PutI g r T w d (x / 256) W1) := ⟨fun W1 h => PutI.step hS hD hTl.out hR hC (by rw [Int.emod_eq_of_lt hx0 hx1]; exact h)⟩
      have hk : k < 1 := by omega
      replace hW := Aside0.mk hW
      replace hL := Aside0.mk hL
      have hkd' := Aside0.mk hkd
      clear hS hD hR hC HI hkd
      go_wp2_with (go_at_call 47; refine (byt_add g rk lk _ 1 1 [x] _ (hW.out.below (below_alloc (Below.refl _ _) _)) (reads_one (heap_alloc_new _ _)) (by have := hL.out; omega)).mono ?_; rintro e w2 ⟨rfl, hp⟩; have hp2 := Aside0.mk (WrPost.drawn (below_alloc (Below.refl _ _) _) hp); clear hp)
      go_roundw
      case rel => exact ⟨k + 1, d, x / 256, by have := hkd'.out; omega, by go_num, by go_num, by omega, by omega, ⟨hS'.out _ hp2.out⟩⟩
      case measure => simp [intOf]; omega
set_option maxHeartbeats 2000000 in
set_option maxRecDepth 100000 in
theorem put_2 (g : Nat) (r : Option Nat) (l : List Int) (n : Int) (w : World) (hw : Wr w g r l) (h0 : 0 ≤ n) (h1 : n < 65536) (hl : l.length ≤ 100000000) :
    Calls Try.prog 31 #[.pointer (some ⟨g, 0, none⟩), .int .i64 n, .int .i64 2] w fun e w' => e = .returned (.int .i64 0) ∧ WrPost g r (l ++ le 2 n) w w' := by
  obtain ⟨T, hT⟩ : ∃ T, l ++ le 2 n = T := ⟨_, rfl⟩
  have hTl : T.length = l.length + 2 := by rw [← hT]; simp [le_length]
  have hI0 : ∀ W, Below w.heap.size w W → PutI g r T w 2 n W := fun W hb => ⟨r, l, hw.below hb, hT, by omega, by omega, .inl rfl, .of_new hb _⟩
  rw [hT]
  replace hI0 := Aside0.mk hI0
  replace hTl := Aside0.mk (show T.length ≤ 1000000000 by omega)
  clear hw hl hT
  have hwc := Aside0.mk (fun w => wide_calls 2 w true (by decide))
  go_enter Try.func31, Try.ntmps31
  go_wp2_with (go_at_call 46; refine (hwc.out _).mono ?_; rintro e w1 ⟨rfl, hd1⟩; have hb1 := Aside0.mk hd1.below; clear hd1)
  go_loopw [1, 26] (fun v1 v26 wr => ∃ (k d : Nat) (x : Int), k + d = 2 ∧ v26 = .int .i64 k ∧ v1 = .int .i64 x ∧ 0 ≤ x ∧ x < 65536 ∧ Aside0 (PutI g r T w d x wr)) (fun _ v26 _ => 2 - (intOf v26).toNat)
  case atStart => exact ⟨0, 2, n, rfl, rfl, rfl, h0, h1, ⟨hI0.out _ hb1.out⟩⟩
  case round =>
    obtain ⟨k, d, x, hkd, rfl, rfl, hx0, hx1, HI⟩ := hrel
    cases d with
    | zero =>
      obtain rfl : k = 2 := by omega
      clear hkd
      go_wp2_with fail
      go_ret
      obtain ⟨rk, lk, a, b, c, d, e, f⟩ := HI.out
      rw [show lk = T by simpa [le] using b] at a
      exact ⟨rfl, rk, a, e, f⟩
    | succ d =>
      obtain ⟨rk, lk, hW, hS, hL, hD, hR, hC⟩ := HI.out
      have hS' : Aside0 (∀ W1, WrPost g rk (lk ++ [x % 256]) wr W1 → PutI g r T w d (x / 256) W1) := ⟨fun W1 h => PutI.step hS hD hTl.out hR hC h⟩
      have hk : k < 2 := by omega
      replace hW := Aside0.mk hW
      replace hL := Aside0.mk hL
      have hkd' := Aside0.mk hkd
      clear hS hD hR hC HI hkd
      go_wp2_with (go_at_call 47; refine (byt_add g rk lk _ 1 1 [x % 256] _ (hW.out.below (below_alloc (Below.refl _ _) _)) (reads_one (heap_alloc_new _ _)) (by have := hL.out; omega)).mono ?_; rintro e w2 ⟨rfl, hp⟩; have hp2 := Aside0.mk (WrPost.drawn (below_alloc (Below.refl _ _) _) hp); clear hp)
      go_roundw
      case rel => exact ⟨k + 1, d, x / 256, by have := hkd'.out; omega, by go_num, by go_num, by omega, by omega, ⟨hS'.out _ hp2.out⟩⟩
      case measure => simp [intOf]; omega
set_option maxHeartbeats 2000000 in
set_option maxRecDepth 100000 in
theorem put_4 (g : Nat) (r : Option Nat) (l : List Int) (n : Int) (w : World) (hw : Wr w g r l) (h0 : 0 ≤ n) (h1 : n < 4294967296) (hl : l.length ≤ 100000000) :
    Calls Try.prog 31 #[.pointer (some ⟨g, 0, none⟩), .int .i64 n, .int .i64 4] w fun e w' => e = .returned (.int .i64 0) ∧ WrPost g r (l ++ le 4 n) w w' := by
  obtain ⟨T, hT⟩ : ∃ T, l ++ le 4 n = T := ⟨_, rfl⟩
  have hTl : T.length = l.length + 4 := by rw [← hT]; simp [le_length]
  have hI0 : ∀ W, Below w.heap.size w W → PutI g r T w 4 n W := fun W hb => ⟨r, l, hw.below hb, hT, by omega, by omega, .inl rfl, .of_new hb _⟩
  rw [hT]
  replace hI0 := Aside0.mk hI0
  replace hTl := Aside0.mk (show T.length ≤ 1000000000 by omega)
  clear hw hl hT
  have hwc := Aside0.mk (fun w => wide_calls 4 w true (by decide))
  go_enter Try.func31, Try.ntmps31
  go_wp2_with (go_at_call 46; refine (hwc.out _).mono ?_; rintro e w1 ⟨rfl, hd1⟩; have hb1 := Aside0.mk hd1.below; clear hd1)
  go_loopw [1, 26] (fun v1 v26 wr => ∃ (k d : Nat) (x : Int), k + d = 4 ∧ v26 = .int .i64 k ∧ v1 = .int .i64 x ∧ 0 ≤ x ∧ x < 4294967296 ∧ Aside0 (PutI g r T w d x wr)) (fun _ v26 _ => 4 - (intOf v26).toNat)
  case atStart => exact ⟨0, 4, n, rfl, rfl, rfl, h0, h1, ⟨hI0.out _ hb1.out⟩⟩
  case round =>
    obtain ⟨k, d, x, hkd, rfl, rfl, hx0, hx1, HI⟩ := hrel
    cases d with
    | zero =>
      obtain rfl : k = 4 := by omega
      clear hkd
      go_wp2_with fail
      go_ret
      obtain ⟨rk, lk, a, b, c, d, e, f⟩ := HI.out
      rw [show lk = T by simpa [le] using b] at a
      exact ⟨rfl, rk, a, e, f⟩
    | succ d =>
      obtain ⟨rk, lk, hW, hS, hL, hD, hR, hC⟩ := HI.out
      have hS' : Aside0 (∀ W1, WrPost g rk (lk ++ [x % 256]) wr W1 → PutI g r T w d (x / 256) W1) := ⟨fun W1 h => PutI.step hS hD hTl.out hR hC h⟩
      have hk : k < 4 := by omega
      replace hW := Aside0.mk hW
      replace hL := Aside0.mk hL
      have hkd' := Aside0.mk hkd
      clear hS hD hR hC HI hkd
      go_wp2_with (go_at_call 47; refine (byt_add g rk lk _ 1 1 [x % 256] _ (hW.out.below (below_alloc (Below.refl _ _) _)) (reads_one (heap_alloc_new _ _)) (by have := hL.out; omega)).mono ?_; rintro e w2 ⟨rfl, hp⟩; have hp2 := Aside0.mk (WrPost.drawn (below_alloc (Below.refl _ _) _) hp); clear hp)
      go_roundw
      case rel => exact ⟨k + 1, d, x / 256, by have := hkd'.out; omega, by go_num, by go_num, by omega, by omega, ⟨hS'.out _ hp2.out⟩⟩
      case measure => simp [intOf]; omega
/-- Put, whatever the number. -/
theorem put_ok (g : Nat) (r : Option Nat) (l : List Int) (n m : Int) (w : World) (hw : Wr w g r l) (hm : mayPut n m) (hl : l.length ≤ 100000000) :
    Calls Try.prog 31 #[.pointer (some ⟨g, 0, none⟩), .int .i64 n, .int .i64 m] w fun e w' => e = .returned (.int .i64 0) ∧ WrPost g r (l ++ le m.toNat n) w w' := by
  obtain ⟨hW, h0, h1⟩ := hm
  rcases hW with rfl | rfl | rfl
  · exact put_1 g r l n w hw h0 h1 hl
  · exact put_2 g r l n w hw h0 h1 hl
  · exact put_4 g r l n w hw h0 h1 hl
set_option maxHeartbeats 1000000 in
set_option maxRecDepth 100000 in
theorem put_bad_1 (p : Option Addr) (n : Int) (w : World) (h : n < 0 ∨ 256 ≤ n) :
    Calls Try.prog 31 #[.pointer p, .int .i64 n, .int .i64 1] w fun e w' => e = .returned (.int .i64 1) ∧ Below w.heap.size w w' := by
  have hwc := Aside0.mk (fun w => wide_calls 1 w true (by decide))
  cases p with
  | none =>
    clear h
    go_enter Try.func31, Try.ntmps31
    go_wp2_with fail
    go_ret
    exact ⟨rfl, Below.refl _ _⟩
  | some a =>
    by_cases h0 : n < 0
    · clear h
      go_enter Try.func31, Try.ntmps31
      go_wp2_with (go_at_call 46; refine (hwc.out _).mono ?_; rintro e w1 ⟨rfl, hd1⟩; have hb1 := Aside0.mk hd1.below; clear hd1)
      go_ret
      exact ⟨rfl, hb1.out⟩
    · have h1 : 256 ≤ n := by omega
      replace h0 : 0 ≤ n := by omega
      clear h
      go_enter Try.func31, Try.ntmps31
      go_wp2_with (go_at_call 46; refine (hwc.out _).mono ?_; rintro e w1 ⟨rfl, hd1⟩; have hb1 := Aside0.mk hd1.below; clear hd1)
      go_ret
      exact ⟨rfl, hb1.out⟩
set_option maxHeartbeats 1000000 in
set_option maxRecDepth 100000 in
theorem put_bad_2 (p : Option Addr) (n : Int) (w : World) (h : n < 0 ∨ 65536 ≤ n) :
    Calls Try.prog 31 #[.pointer p, .int .i64 n, .int .i64 2] w fun e w' => e = .returned (.int .i64 1) ∧ Below w.heap.size w w' := by
  have hwc := Aside0.mk (fun w => wide_calls 2 w true (by decide))
  cases p with
  | none =>
    clear h
    go_enter Try.func31, Try.ntmps31
    go_wp2_with fail
    go_ret
    exact ⟨rfl, Below.refl _ _⟩
  | some a =>
    by_cases h0 : n < 0
    · clear h
      go_enter Try.func31, Try.ntmps31
      go_wp2_with (go_at_call 46; refine (hwc.out _).mono ?_; rintro e w1 ⟨rfl, hd1⟩; have hb1 := Aside0.mk hd1.below; clear hd1)
      go_ret
      exact ⟨rfl, hb1.out⟩
    · have h1 : 65536 ≤ n := by omega
      replace h0 : 0 ≤ n := by omega
      clear h
      go_enter Try.func31, Try.ntmps31
      go_wp2_with (go_at_call 46; refine (hwc.out _).mono ?_; rintro e w1 ⟨rfl, hd1⟩; have hb1 := Aside0.mk hd1.below; clear hd1)
      go_ret
      exact ⟨rfl, hb1.out⟩
set_option maxHeartbeats 1000000 in
set_option maxRecDepth 100000 in
theorem put_bad_4 (p : Option Addr) (n : Int) (w : World) (h : n < 0 ∨ 4294967296 ≤ n) :
    Calls Try.prog 31 #[.pointer p, .int .i64 n, .int .i64 4] w fun e w' => e = .returned (.int .i64 1) ∧ Below w.heap.size w w' := by
  have hwc := Aside0.mk (fun w => wide_calls 4 w true (by decide))
  cases p with
  | none =>
    clear h
    go_enter Try.func31, Try.ntmps31
    go_wp2_with fail
    go_ret
    exact ⟨rfl, Below.refl _ _⟩
  | some a =>
    by_cases h0 : n < 0
    · clear h
      go_enter Try.func31, Try.ntmps31
      go_wp2_with (go_at_call 46; refine (hwc.out _).mono ?_; rintro e w1 ⟨rfl, hd1⟩; have hb1 := Aside0.mk hd1.below; clear hd1)
      go_ret
      exact ⟨rfl, hb1.out⟩
    · have h1 : 4294967296 ≤ n := by omega
      replace h0 : 0 ≤ n := by omega
      clear h
      go_enter Try.func31, Try.ntmps31
      go_wp2_with (go_at_call 46; refine (hwc.out _).mono ?_; rintro e w1 ⟨rfl, hd1⟩; have hb1 := Aside0.mk hd1.below; clear hd1)
      go_ret
      exact ⟨rfl, hb1.out⟩
set_option maxHeartbeats 1000000 in
set_option maxRecDepth 100000 in
/-- A number that may not be put; or no Writer. -/
theorem put_bad (p : Option Addr) (n m : Int) (w : World) (h : ¬ mayPut n m) :
    Calls Try.prog 31 #[.pointer p, .int .i64 n, .int .i64 m] w fun e w' => e = .returned (.int .i64 1) ∧ Below w.heap.size w w' := by
  by_cases hW : okWide m
  · have ht : n < 0 ∨ top m ≤ n := by
      by_cases h0 : n < 0
      · exact .inl h0
      · refine .inr ?_
        by_cases c : n < top m
        · exact absurd ⟨hW, by omega, c⟩ h
        · omega
    rcases hW with rfl | rfl | rfl
    · exact put_bad_1 p n w ht
    · exact put_bad_2 p n w ht
    · exact put_bad_4 p n w ht
  · have hwc := Aside0.mk (fun w => wide_calls m w false (decide_eq_false hW))
    clear h hW
    cases p with
    | none =>
      go_enter Try.func31, Try.ntmps31
      go_wp2_with fail
      go_ret
      exact ⟨rfl, Below.refl _ _⟩
    | some a =>
      go_enter Try.func31, Try.ntmps31
      go_wp2_with (go_at_call 46; refine (hwc.out _).mono ?_; rintro e w1 ⟨rfl, hd1⟩; have hb1 := Aside0.mk hd1.below; clear hd1)
      go_ret
      exact ⟨rfl, hb1.out⟩
/-- Put, whatever it is given. -/
theorem put_any (g : Nat) (r : Option Nat) (l : List Int) (n m : Int) (w : World) (hw : Wr w g r l) (hl : l.length ≤ 100000000) :
    Calls Try.prog 31 #[.pointer (some ⟨g, 0, none⟩), .int .i64 n, .int .i64 m] w fun e w' => e = .returned (.int .i64 (putE n m)) ∧ WrPost g r (l ++ putB n m) w w' := by
  unfold putE putB
  by_cases h : mayPut n m
  · rw [if_pos h, if_pos h]
    exact put_ok g r l n m w hw h hl
  · rw [if_neg h, if_neg h]
    refine (put_bad _ n m w h).mono ?_
    rintro e w1 ⟨he, hb⟩
    refine ⟨he, r, ?_, .inl rfl, .of_new hb _⟩
    rw [List.append_nil]
    exact hw.below hb
set_option maxHeartbeats 1000000 in
set_option maxRecDepth 100000 in
/-- All bytes, in a row of their own. -/
theorem bytes_any (g : Nat) (r : Option Nat) (l : List Int) (w : World) (hw : Wr w g r l) (hl : l.length ≤ 200000000) :
    Calls Try.prog 33 #[.pointer (some ⟨g, 0, none⟩)] w fun e w' => ∃ v0 : Value, e = .returned v0 ∧ Kd.R (Kd.int .u8) 5 w' w.heap.size (fun _ => True) v0 l ∧ Below w.heap.size w w' := by
  obtain ⟨v, hb, hv, ho⟩ := hw
  obtain ⟨hc, hf⟩ := one_cell hb
  obtain ⟨A1, c1, rfl⟩ := own_slice ho
  have hle : l.length ≤ c1 := by
    rcases ho.2 with ⟨e, h0⟩ | ⟨q, cap, cur, e, _, _, h0, _⟩
    · rw [h0]; exact Nat.zero_le _
    · injection e with e1 e2 e3; omega
  have hR := own_reads ho
  obtain ⟨A2, c2, e2, hR⟩ := hR
  obtain rfl : A1 = A2 := by injection e2
  have hC : Kd.C (Kd.int .u8) w A1 l.length l := C_of_reads_ hR
  clear e2 hR ho hv
  replace hC := Aside0.mk hC
  replace hb := Aside0.mk hb
  replace hle := Aside0.mk hle
  replace hl := Aside0.mk hl
  go_enter Try.func33, Try.ntmps33
  go_wp2_with (go_at_call 28; refine (slices_Clone_byte_byte_28.calls_n _ A1 c1 l _ hC.out hle.out (by have := hl.out; omega)).mono ?_; rintro e w1 ⟨v0, rfl, hR, hb⟩; obtain ⟨A3, c3, rfl⟩ := Kd.R_slice hR; replace hR := Aside0.mk hR; replace hb := Aside0.mk hb)
  go_ret
  exact ⟨_, rfl, hR.out, hb.out⟩
end Go.Proofs.Ytfaflgdhffkaiaa.Print
namespace Go.Proofs.Ytfaflgdhffkaiaa.Print
open Go.RowKit Go.Proofs.YtfaflgdhffkaiaaW.PrintWords Go.Proofs.YtfaflgdhffkaiaaW.PrintLast Go.Proofs.YtfaflgdhffkaiaaW.PrintMore
set_option linter.unusedVariables false
set_option linter.unusedSimpArgs false
/-- The Reader at block g has the bytes l left; they lie in ok. -/
def Rd (w : World) (g : Nat) (ok : Nat → Prop) (l : List Int) : Prop :=
  ∃ A c, w.heap[g]? = some (.cells #[.slice A l.length c] 95 (0, 0)) ∧ l.length ≤ c ∧ Kd.F (Kd.int .u8) w (fun k => ok k ∧ k ≠ g) A l.length l
theorem Rd.step {w w1 : World} {g : Nat} {ok S : Nat → Prop} {l : List Int} (h : Rd w g ok l) (hc : Chg S w w1) (hg : ¬ S g) (ho : ∀ k, ok k → ¬ S k) : Rd w1 g ok l := by
  obtain ⟨A, c, hb, hl, hf⟩ := h
  exact ⟨A, c, hc.obj hb hg, hl, Kd.F_step hf (fun k hk hlt => hc.block k hlt (ho k hk.1))⟩
theorem Rd.below {w w1 : World} {g : Nat} {ok : Nat → Prop} {l : List Int} (h : Rd w g ok l) (hb : Below w.heap.size w w1) : Rd w1 g ok l := h.step (S := fun _ => False) (.of_new hb _) (fun x => x) (fun _ _ x => x)
theorem Rd.lt {w : World} {g : Nat} {ok : Nat → Prop} {l : List Int} (h : Rd w g ok l) : g < w.heap.size := by
  obtain ⟨A, c, hb, _⟩ := h
  exact (Array.getElem?_eq_some_iff.1 hb).1
theorem Rd.len {w : World} {g : Nat} {ok : Nat → Prop} {l : List Int} (h : Rd w g ok l) : l.length ≤ 9223372036854775807 := by
  obtain ⟨A, c, _, _, hf⟩ := h
  exact Kd.F_max hf
/-- So many are left now; nothing but the Reader was turned. -/
def RdPost (g : Nat) (ok : Nat → Prop) (l : List Int) (w w' : World) : Prop := Rd w' g ok l ∧ Chg (fun k => k = g) w w'
set_option maxHeartbeats 1000000 in
theorem left_walk (g : Nat) (A : Option Addr) (n c : Nat) (w : World) (hb : w.heap[g]? = some (.cells #[.slice A n c] 95 (0, 0))) (hm : n ≤ 9223372036854775807) :
    Calls Try.prog 51 #[.pointer (some ⟨g, 0, none⟩)] w fun e w' => e = .returned (.int .i64 n) ∧ w' = w := by
  obtain ⟨hc, hz⟩ := one_cell hb
  clear hb
  go_enter Try.func51, Try.ntmps51
  go_wp2_with fail
  go_ret
  exact ⟨rfl, rfl⟩
theorem left_any (g : Nat) (ok : Nat → Prop) (l : List Int) (w : World) (h : Rd w g ok l) :
    Calls Try.prog 51 #[.pointer (some ⟨g, 0, none⟩)] w fun e w' => e = .returned (.int .i64 l.length) ∧ w' = w := by
  obtain ⟨A, c, hb, hl, hf⟩ := h
  exact left_walk g A l.length c w hb (Kd.F_max hf)
set_option maxHeartbeats 1000000 in
theorem left_nil (w : World) : Calls Try.prog 51 #[.pointer none] w fun e w' => e = .returned (.int .i64 0) ∧ w' = w := by
  go_enter Try.func51, Try.ntmps51
  go_wp2_with fail
  go_ret
  exact ⟨rfl, rfl⟩
/-- The number that bytes make, the lowest first. -/
def leN : List Int → Int
  | [] => 0
  | x :: r => x + 256 * leN r
def Bytes (l : List Int) : Prop := ∀ x ∈ l, 0 ≤ x ∧ x ≤ 255
theorem leN_lt3 (l : List Int) (h : Bytes l) (hl : l.length ≤ 3) : 0 ≤ leN l ∧ leN l < 16777216 := by
  match l, hl with
  | [], _ => exact ⟨by decide, by decide⟩
  | [a], _ => have := h a (by simp); simp [leN]; omega
  | [a, b], _ => have := h a (by simp); have := h b (by simp); simp [leN]; omega
  | [a, b, c], _ => have := h a (by simp); have := h b (by simp); have := h c (by simp); simp [leN]; omega
theorem bits_or_hi (x b : Int) (h0 : 0 ≤ x) (h1 : x < 16777216) (b0 : 0 ≤ b) (b1 : b ≤ 255) : bits .or .i64 (x * 256) b = b + 256 * x := by
  rw [bits_join .i64 63 (by decide) wraps_i64 8 (x * 256) b (by omega) (by omega) (by omega) b0 (by omega) (by omega)]
  omega
/-- What a get leaves, tells, and its error. -/
def getOk (l : List Int) (m : Int) : Prop := okWide m ∧ m ≤ l.length
instance (l : List Int) (m : Int) : Decidable (getOk l m) := by unfold getOk; infer_instance
theorem cut_run (A : Option Addr) (n c m : Nat) (hm : m ≤ n) (W : World) : (Instr.slice 22 (.slice A n c) (some (.int .i64 (m : Int))) none none).run Try.prog W = .ok (.slice (if c = m then A else A.map (·.add m)) (n - m) (c - m)) W := by
  have hel : Try.prog.elem 22 = 5 := by simp [Program.elem, Try.underlying22]
  have hu : Try.prog.underlying 22 = some (.slice (Try.prog.elem 22)) := by rw [hel]; exact Try.underlying22
  obtain ⟨i0, hi, hz0, hz1, hz2⟩ := info_parts info5
  rw [run_slice_l W 22 A n c hu .i64 (m : Int) (Int.natCast_nonneg _) (by omega), hel]
  simp [sizeOf, typeInfo, hi, hz1, sliced, Result.andThen]
/-- At the head of Get's loop: j bytes are to come. -/
def GetV (V : List Int) (j : Nat) (x i : Value) : Prop := x = .int .i64 (leN (V.drop j)) ∧ ((j = 0 ∧ i = .int .i64 (-1)) ∨ ∃ q : Nat, j = q + 1 ∧ i = .int .i64 q)
set_option maxHeartbeats 2000000 in
set_option maxRecDepth 100000 in
theorem get_walk (g : Nat) (A A1 : Option Addr) (n c m : Nat) (l V : List Int) (w : World) (hb : w.heap[g]? = some (.cells #[.slice A n c] 95 (0, 0))) (h63 : n ≤ 9223372036854775807) (hnc : n ≤ c) (hm1 : 1 ≤ m) (hm4 : m ≤ 4) (hml : m ≤ n) (hW : okWide (m : Int))
    (hcell : ∀ {X : World}, Below w.heap.size w X → ∀ j, j < n → ∃ ad, A = some ad ∧ X.cell? (ad.add j) = some (.int .u8 (l.getD j 0)))
    (hcut : ∀ W, (Instr.slice 22 (.slice A n c) (some (.int .i64 (m : Int))) none none).run Try.prog W = .ok (.slice A1 (n - m) (c - m)) W)
    (hVl : V.length = m) (hVB : Bytes V) (hVd : ∀ j, j < m → V.drop j = l.getD j 0 :: V.drop (j + 1)) (hbj : ∀ j, j < n → 0 ≤ l.getD j 0 ∧ l.getD j 0 ≤ 255) :
    Calls Try.prog 41 #[.pointer (some ⟨g, 0, none⟩), .int .i64 (m : Int)] w fun e w' => e = .returned (.tuple #[.int .i64 (leN V), .int .i64 0]) ∧ ∃ W, Below w.heap.size w W ∧ w' = W.setCell ⟨g, 0, none⟩ (.slice A1 (n - m) (c - m)) := by
  have hwc := Aside0.mk (fun w => wide_calls (m : Int) w true (decide_eq_true hW))
  obtain ⟨hc, hz⟩ := one_cell hb
  have hgl : g < w.heap.size := World.block_lt_of_cell? w _ hc
  have hcX : ∀ {X : World}, Below w.heap.size w X → X.cell? ⟨g, 0, none⟩ = some (.slice A n c) ∧ X.frozen? ⟨g, 0, none⟩ = false := fun h => ⟨(h.cell (p := ⟨g, 0, none⟩) hgl).trans hc, (h.frozen (p := ⟨g, 0, none⟩) hgl).trans hz⟩
  have hleft : Aside0 (∀ X, Below w.heap.size w X → Calls Try.prog 51 #[.pointer (some ⟨g, 0, none⟩)] X fun e w' => e = .returned (.int .i64 n) ∧ w' = X) := ⟨fun X hX => left_walk g A n c X ((hX.block g hgl).trans hb) h63⟩
  replace hcX := Aside0.mk @hcX
  replace hcell := Aside0.mk @hcell
  replace hVl := Aside0.mk hVl
  replace hVB := Aside0.mk hVB
  replace hVd := Aside0.mk hVd
  replace hbj := Aside0.mk hbj
  clear hb hc hz hW
  have e1 : decide (n < m) = false := by simp; omega
  have e2 : decide ((n : Int) < (m : Int)) = false := by simp; omega
  go_enter Try.func41, Try.ntmps41
  go_wp2_with (first | (go_at_call 46; refine (hwc.out _).mono ?_; rintro e w1 ⟨rfl, hd1⟩; have hb1 := Aside0.mk hd1.below; clear hd1) | (go_at_call 51; refine (hleft.out _ hb1.out).mono ?_; rintro e w2 ⟨rfl, rfl⟩))
  rename_i w2
  go_loopw [6, 7] (fun v6 v7 wr => ∃ j : Nat, j ≤ m ∧ Aside0 (GetV V j v6 v7) ∧ Aside0 (Below w.heap.size w wr)) (fun _ v7 _ => (intOf v7 + 1).toNat)
  case atStart => 
    refine ⟨m, Nat.le_refl _, ⟨?_, .inr ⟨m - 1, by omega, ?_⟩⟩, hb1⟩
    · rw [List.drop_eq_nil_of_le (by rw [hVl.out]; exact Nat.le_refl _)]; rfl
    · congr 1; omega
  case round =>
    obtain ⟨j, hj, ⟨rfl, hi⟩, HB⟩ := hrel
    obtain ⟨hcr, hzr⟩ := hcX.out HB.out
    rcases hi with ⟨rfl, rfl⟩ | ⟨q, rfl, rfl⟩
    · go_wp2_with fail
      go_ret2
      exact ⟨rfl, wr, HB.out, rfl⟩
    · obtain ⟨ad, rfl, hq⟩ := hcell.out HB.out q (by omega)
      have hb2 := hbj.out q (by omega)
      have hd := hVd.out q (by omega)
      have h3 := leN_lt3 (V.drop (q + 1)) (fun x hx => hVB.out x (List.mem_of_mem_drop hx)) (by rw [List.length_drop, hVl.out]; omega)
      have hnew : leN (V.drop q) = l.getD q 0 + 256 * leN (V.drop (q + 1)) := by rw [hd]; rfl
      generalize leN (V.drop (q + 1)) = x at *
      have hor := Aside0.mk (bits_or_hi x (l.getD q 0) h3.1 h3.2 hb2.1 hb2.2)
      replace hnew := Aside0.mk hnew
      generalize l.getD q 0 = b at *
      obtain ⟨b0, b1⟩ := hb2
      obtain ⟨x0, x1⟩ := h3
      clear hd
      go_wp2_with fail
      go_roundw
      case rel =>
        refine ⟨q, by omega, ⟨?_, ?_⟩, HB⟩
        · rw [hnew.out, hor.out]
        · cases q with
          | zero => exact .inl ⟨rfl, rfl⟩
          | succ q => exact .inr ⟨q, rfl, by congr 1; omega⟩
      case measure => simp [intOf]
theorem get_ok (g : Nat) (ok : Nat → Prop) (l : List Int) (m : Nat) (w : World) (h : Rd w g ok l) (hW : okWide (m : Int)) (hml : m ≤ l.length) (hB : Bytes l) :
    Calls Try.prog 41 #[.pointer (some ⟨g, 0, none⟩), .int .i64 (m : Int)] w fun e w' => e = .returned (.tuple #[.int .i64 (leN (l.take m)), .int .i64 0]) ∧ RdPost g ok (l.drop m) w w' := by
  have hm4 : 1 ≤ m ∧ m ≤ 4 := by rcases hW with e | e | e <;> omega
  obtain ⟨hm1, hm4⟩ := hm4
  have hlen := h.len
  obtain ⟨A, c, hb, hl, hf⟩ := h
  have hfin : Kd.F (Kd.int .u8) w (fun k => ok k ∧ k ≠ g) (if c = m then A else A.map (·.add m)) (l.drop m).length (l.drop m) := by
    have := Kd.F_cut hf hml hl
    simpa [show (Kd.int .u8).sz = 1 from rfl] using this
  have hVl : (l.take m).length = m := by rw [List.length_take]; omega
  refine (get_walk g A _ l.length c m l (l.take m) w hb hlen hl hm1 hm4 hml hW ?_ (cut_run A l.length c m hml) hVl (fun x hx => hB x (List.mem_of_mem_take hx)) ?_ ?_).mono ?_
  · intro X hX j hj
    obtain ⟨ad, e, hq⟩ := C_cells' (Kd.F_now (Kd.F_below hf hX)) (by omega)
    exact ⟨ad, e, hq j hj⟩
  · intro j hj
    rw [List.drop_eq_getElem_cons (by omega)]
    congr 1
    have : l.getD j 0 = l[j]'(by omega) := by simp [List.getD_eq_getElem?_getD, List.getElem?_eq_getElem (show j < l.length by omega)]
    rw [this]
    simp
  · intro j hj
    have : l.getD j 0 = l[j] := by simp [List.getD_eq_getElem?_getD, List.getElem?_eq_getElem hj]
    rw [this]
    exact hB _ (List.getElem_mem hj)
  · rintro e w' ⟨rfl, W, hW, rfl⟩
    have hgl : g < w.heap.size := (Array.getElem?_eq_some_iff.1 hb).1
    refine ⟨rfl, ⟨_, c - m, ?_, by rw [List.length_drop]; omega, Kd.F_far (Kd.F_below hfin hW) (fun k hk => hk.2) _⟩, (Chg.of_new hW (fun k => k = g)).set (p := ⟨g, 0, none⟩) (.inl rfl) _⟩
    rw [one_set ((hW.block g hgl).trans hb), List.length_drop]
set_option maxHeartbeats 1000000 in
theorem get_arg (p : Value) (m : Int) (w : World) (hW : ¬ okWide m) :
    Calls Try.prog 41 #[p, .int .i64 m] w fun e w' => e = .returned (.tuple #[.int .i64 0, .int .i64 1]) ∧ Below w.heap.size w w' := by
  have hwc := Aside0.mk (fun w => wide_calls m w false (decide_eq_false hW))
  clear hW
  go_enter Try.func41, Try.ntmps41
  go_wp2_with (go_at_call 46; refine (hwc.out _).mono ?_; rintro e w1 ⟨rfl, hd1⟩; have hb1 := Aside0.mk hd1.below; clear hd1)
  go_ret2
  exact ⟨rfl, hb1.out⟩
set_option maxHeartbeats 1000000 in
theorem get_short (p : Value) (n m : Nat) (w : World) (hW : okWide (m : Int)) (hn : n < m) (hp : ∀ X, Below w.heap.size w X → Calls Try.prog 51 #[p] X fun e w' => e = .returned (.int .i64 n) ∧ w' = X) :
    Calls Try.prog 41 #[p, .int .i64 (m : Int)] w fun e w' => e = .returned (.tuple #[.int .i64 0, .int .i64 6]) ∧ Below w.heap.size w w' := by
  have hm4 : m ≤ 4 := by rcases hW with e | e | e <;> omega
  have hwc := Aside0.mk (fun w => wide_calls (m : Int) w true (decide_eq_true hW))
  have e1 : decide (n < m) = true := by simp; omega
  replace hp := Aside0.mk hp
  clear hW
  go_enter Try.func41, Try.ntmps41
  go_wp2_with (first | (go_at_call 46; refine (hwc.out _).mono ?_; rintro e w1 ⟨rfl, hd1⟩; have hb1 := Aside0.mk hd1.below; clear hd1) | (go_at_call 51; refine (hp.out _ hb1.out).mono ?_; rintro e w2 ⟨rfl, rfl⟩))
  go_ret2
  exact ⟨rfl, hb1.out⟩
def getV (l : List Int) (m : Int) : Int := if getOk l m then leN (l.take m.toNat) else 0
def getL (l : List Int) (m : Int) : List Int := if getOk l m then l.drop m.toNat else l
def getE (l : List Int) (m : Int) : Int := if okWide m then (if m ≤ l.length then 0 else 6) else 1
/-- Get, whatever it is asked for. -/
theorem get_any (g : Nat) (ok : Nat → Prop) (l : List Int) (m : Int) (w : World) (h : Rd w g ok l) (hB : Bytes l) :
    Calls Try.prog 41 #[.pointer (some ⟨g, 0, none⟩), .int .i64 m] w fun e w' => e = .returned (.tuple #[.int .i64 (getV l m), .int .i64 (getE l m)]) ∧ RdPost g ok (getL l m) w w' := by
  unfold getV getL getE
  by_cases hW : okWide m
  · obtain ⟨q, rfl⟩ : ∃ q : Nat, m = q := ⟨m.toNat, by rcases hW with rfl | rfl | rfl <;> rfl⟩
    by_cases hl : (q : Int) ≤ l.length
    · have e : getOk l q := ⟨hW, hl⟩
      simp only [if_pos e, if_pos hW, if_pos hl]
      exact get_ok g ok l q w h hW (by omega) hB
    · have e : ¬ getOk l q := fun c => hl c.2
      simp only [if_neg e, if_pos hW, if_neg hl]
      refine (get_short _ l.length q w hW (by omega) (fun X hX => left_any g ok l X (h.below hX))).mono ?_
      rintro e w' ⟨he, hb⟩
      exact ⟨he, h.below hb, .of_new hb _⟩
  · have e : ¬ getOk l m := fun c => hW c.1
    simp only [if_neg e, if_neg hW]
    refine (get_arg _ m w hW).mono ?_
    rintro e w' ⟨he, hb⟩
    exact ⟨he, h.below hb, .of_new hb _⟩
theorem get_nil (m : Nat) (w : World) (hW : okWide (m : Int)) :
    Calls Try.prog 41 #[.pointer none, .int .i64 (m : Int)] w fun e w' => e = .returned (.tuple #[.int .i64 0, .int .i64 6]) ∧ Below w.heap.size w w' :=
  get_short _ 0 m w hW (by rcases hW with e | e | e <;> omega) (fun X _ => left_nil X)
theorem made_row (n : Nat) : madeCells #[Value.int .u8 0] n = (nums .u8 (List.replicate n 0)).toArray := by
  apply Array.ext'
  apply List.ext_getElem
  · simp [nums, madeCells]
  · intro i h1 h2
    simp [nums, madeCells, Nat.mod_one]
theorem splice_all (l : List Int) : splice (nums .u8 (List.replicate l.length 0)) 0 (nums .u8 l) = nums .u8 l := by
  unfold splice
  rw [List.take_zero, List.drop_eq_nil_of_le (by simp [nums])]
  simp
set_option maxHeartbeats 1000000 in
set_option maxRecDepth 100000 in
/-- NewReader: a Reader of its own. -/
theorem newReader_any (A : Option Addr) (c : Nat) (l : List Int) (w : World) (hC : Kd.C (Kd.int .u8) w A l.length l) (hc : l.length ≤ c) (hl : l.length ≤ 140737488351232) :
    Calls Try.prog 40 #[.slice A l.length c] w fun e w' => ∃ g, e = .returned (.pointer (some ⟨g, 0, none⟩)) ∧ w.heap.size < g ∧ Rd w' g (fun k => k = w.heap.size) l ∧ Below w.heap.size w w' := by
  obtain ⟨n, hn⟩ : ∃ n, l.length = n := ⟨_, rfl⟩
  rw [hn] at hC hc hl ⊢
  have hmk := print_make (P := Try.prog) 22 5 .u8 1 Try.underlying22 info5 (by decide) n (by omega)
  replace hC := Aside0.mk hC
  replace hn := Aside0.mk hn
  have hX := Aside0.mk hl
  go_enter Try.func40, Try.ntmps40
  go_wp2_with (with_reducible refine wpList_copy_splice rfl (.tmp 7) (.tmp 8) 22 22 rfl 5 Try.underlying22 (by kernel_rfl) _ _ _ _ _ _ rfl rfl w.heap.size 0 (nums .u8 (List.replicate n 0)) 5 ?hg (nums .u8 l) ?hn ?hpos ?hfit ?h1 w.heap.size w ?hb (Nat.le_refl _) ?_)
  case hg => rw [made_row]; exact heap_alloc_new w _
  case hn => rw [nums_length, hn.out]; simp
  case hpos =>
    intro hp
    have hp' : 0 < l.length := by simpa [nums] using hp
    have hCw : Kd.C (Kd.int .u8) (w.alloc (.cells (madeCells #[.int .u8 0] n) 5)) A n l := Kd.C_below hC.out (below_alloc (Below.refl _ _) _)
    rw [← hn.out] at hCw
    have := C_cells hCw hp'
    rwa [hn.out] at this
  case hfit => rw [nums_length, nums_length, List.length_replicate, hn.out]; omega
  case h1 => intro v hv; obtain ⟨x, _, rfl⟩ := List.mem_map.1 hv; rfl
  case hb => exact below_alloc (Below.refl _ _) _
  intro w' hw hb
  have hw := Aside0.mk hw.out
  replace hb := Aside0.mk hb
  go_wp2_with fail
  go_ret
  have hs := hw.out
  rw [show List.replicate n (0 : Int) = List.replicate l.length 0 by rw [hn.out], splice_all] at hs
  have hsz := hb.out.size
  have hlt : w.heap.size < w'.heap.size := (Array.getElem?_eq_some_iff.1 hs).1
  have hV := V_of_block (e := 5) (base' := 0) (c := l.length) (W := w') hs (Nat.le_refl _) (by rw [hn.out]; omega) (Nat.le_refl _)
  refine ⟨w'.heap.size, rfl, hlt, ⟨some ⟨w.heap.size, 0, none⟩, n, ?_, by rw [hn.out]; exact Nat.le_refl _, ?_⟩, hb.out.alloc (by omega) _⟩
  · rw [hn.out]; exact heap_alloc_new w' _
  · refine Kd.F_alloc (fun W' hW => C_of_block ((hW w.heap.size ⟨rfl, by omega⟩ hlt).trans hs) rfl (by rw [hn.out]; omega) (fun j hj => ?_)) _
    simp [nums, List.getElem?_eq_getElem hj, List.getD_eq_getElem?_getD]
end Go.Proofs.Ytfaflgdhffkaiaa.Print
