/- byt.Writer: what its methods do to the bytes it holds. -/
import Derived.Test.YtfaflgdhffkaiaaFrames
import Derived.Test.YtfaflgdhffkaiaaPrint0
import Derived.Test.YtfaflgdhffkaiaaPrint1
import Derived.Outline
namespace Go.Proofs.Ytfaflgdhffkaiaa.Print
open Go.RowKit Go.Proofs.YtfaflgdhffkaiaaW.PrintWords Go.Proofs.YtfaflgdhffkaiaaW.PrintLast Go.Proofs.YtfaflgdhffkaiaaW.PrintMore
set_option linter.unusedVariables false
set_option linter.unusedSimpArgs false
/-- The Writer at block g holds the bytes l, in a row of block r. -/
def Wr (w : World) (g : Nat) (r : Option Nat) (l : List Int) : Prop :=
  ∃ v, w.heap[g]? = some (.cells #[v] 63 (0, 0)) ∧ v.ownBlock = r ∧ w.ownsRow 0 5 1 v l.length (nums .u8 l)
theorem Wr.ne {w : World} {g : Nat} {r : Option Nat} {l : List Int} (h : Wr w g r l) : ∀ k, r = some k → k ≠ g := by
  obtain ⟨v, hb, hv, ho⟩ := h
  rintro k hk rfl
  obtain ⟨cur, hc⟩ := own_typed ho (hv.trans hk)
  rw [hb] at hc
  simp at hc
theorem Wr.lt {w : World} {g : Nat} {r : Option Nat} {l : List Int} (h : Wr w g r l) : g < w.heap.size ∧ ∀ k, r = some k → k < w.heap.size := by
  obtain ⟨v, hb, hv, ho⟩ := h
  exact ⟨(Array.getElem?_eq_some_iff.1 hb).1, fun k hk => own_lt ho k (hv.trans hk)⟩
theorem Wr.step {w w1 : World} {g : Nat} {r : Option Nat} {l : List Int} {S : Nat → Prop} (h : Wr w g r l) (hc : Chg S w w1) (hg : ¬ S g) (hr : ∀ k, r = some k → ¬ S k) : Wr w1 g r l := by
  obtain ⟨v, hb, hv, ho⟩ := h
  exact ⟨v, hc.obj hb hg, hv, own_step ho hc (fun k hk => hr k (hv.symm.trans hk))⟩
theorem Wr.below {w w1 : World} {g : Nat} {r : Option Nat} {l : List Int} (h : Wr w g r l) (hb : Below w.heap.size w w1) : Wr w1 g r l := h.step (S := fun _ => False) (.of_new hb _) (fun x => x) (fun _ _ x => x)
/-- The Writer holds l now; nothing but its blocks was turned. -/
def WrPost (g : Nat) (r : Option Nat) (l : List Int) (w w' : World) : Prop := ∃ r', Wr w' g r' l ∧ (r' = r ∨ ∃ b, r' = some b ∧ w.heap.size ≤ b) ∧ Chg (fun k => k = g ∨ some k = r) w w'
theorem WrPost.refl {w : World} {g : Nat} {r : Option Nat} {l : List Int} (h : Wr w g r l) : WrPost g r l w w := ⟨r, h, .inl rfl, .refl _ _⟩
theorem WrPost.trans {w w1 w2 : World} {g : Nat} {r r1 : Option Nat} {l : List Int} (hr : r1 = r ∨ ∃ b, r1 = some b ∧ w.heap.size ≤ b) (hc : Chg (fun k => k = g ∨ some k = r) w w1) (h : WrPost g r1 l w1 w2) : WrPost g r l w w2 := by
  obtain ⟨r2, hw, h2, hc2⟩ := h
  refine ⟨r2, hw, ?_, hc.trans hc2 ?_⟩
  · rcases h2 with rfl | ⟨b, rfl, hb⟩
    · exact hr
    · exact .inr ⟨b, rfl, Nat.le_trans hc.size hb⟩
  · rintro j (rfl | h)
    · exact .inl (.inl rfl)
    · rcases hr with rfl | ⟨b, rfl, hb⟩
      · exact .inl (.inr h)
      · obtain rfl := Option.some.inj h
        exact .inr hb
theorem WrPost.drawn {w w1 w2 : World} {g : Nat} {r : Option Nat} {l : List Int} (hd : Below w.heap.size w w1) (h : WrPost g r l w1 w2) : WrPost g r l w w2 := WrPost.trans (.inl rfl) (.of_new hd _) h
theorem reads_of_C {w : World} {A : Option Addr} {n : Nat} {k : IntKind} {xs : List Int} (h : Kd.C (Kd.int k) w A n xs) : ReadsInt w k A n xs := ⟨h.1, h.2.1, fun hp => C_cells' h hp⟩
theorem C_of_reads_ {w : World} {A : Option Addr} {n : Nat} {k : IntKind} {xs : List Int} (h : ReadsInt w k A n xs) : Kd.C (Kd.int k) w A n xs := Kd.C_of_reads (d := (0 : Int)) (h1 := fun _ => rfl) h
theorem reads_one {w : World} {g : Nat} {k : IntKind} {x : Int} {t : TypeId} (h : w.heap[g]? = some (.cells #[.int k x] t (0, 0))) : ReadsInt w k (some ⟨g, 0, none⟩) 1 [x] :=
  ⟨rfl, by decide, fun _ => ⟨_, rfl, fun j hj => by obtain rfl : j = 0 := by omega
                                                    rw [add_plain]; exact (one_cell h).1⟩⟩
set_option maxHeartbeats 1000000 in
set_option maxRecDepth 100000 in
theorem byt_add (g : Nat) (r : Option Nat) (l : List Int) (A : Option Addr) (m c : Nat) (ys : List Int) (w : World) (hw : Wr w g r l) (hr : ReadsInt w .u8 A m ys) (hl : l.length + m ≤ 140737488355328) :
    Calls Try.prog 47 #[.pointer (some ⟨g, 0, none⟩), .slice A m c] w fun e w' => e = .returned (.tuple #[]) ∧ WrPost g r (l ++ ys) w w' := by
  have hne := hw.ne
  have hlt := hw.lt
  obtain ⟨v, hb, hv, ho⟩ := hw
  obtain ⟨hc, hf⟩ := one_cell hb
  replace hb := Aside0.mk hb
  replace hv := Aside0.mk hv
  replace ho := Aside0.mk ho
  replace hr := Aside0.mk hr
  replace hne := Aside0.mk hne
  replace hlt := Aside0.mk hlt
  replace hl := Aside0.mk hl
  go_enter Try.func47, Try.ntmps47
  go_wp2_with ((with_reducible refine gate_builtin (b := .append) (xs := #[.tmp 8, .tmp 9]) rfl ?_); at_builtin; refine print_append_row (w0 := w) 0 rfl (.tmp 8) (.tmp 9) 22 5 .u8 1 rfl Try.underlying22 info5 (by decide) v l ys A m c rfl rfl ho.out hr.out (Below.refl 0 w) (Nat.zero_le _) (by have := hl.out; omega) ?_; intro v1 w1 hown _ hg hat; obtain ⟨A1, c1, rfl⟩ := own_slice hown; generalize hLen : (l ++ ys).length = n1 at hown hat; replace hLen := Aside0.mk hLen; have hb1 : w1.heap[g]? = some (.cells #[v] 63 (0, 0)) := (hg.block g hlt.out.1 (fun e => hne.out g (hv.out.symm.trans e.symm) rfl)).trans hb.out; obtain ⟨hc1, hf1⟩ := one_cell hb1; replace hb1 := Aside0.mk hb1; replace hown := Aside0.mk hown; replace hg := Aside0.mk hg; replace hat := Aside0.mk hat)
  go_end0
  have hat := hat.out
  rw [hv.out] at hat
  have hne1 : ∀ k, (Value.slice A1 n1 c1).ownBlock = some k → k ≠ g := fun k hk => by
    rcases hat with e | ⟨b, e, hle⟩
    · exact hne.out k (e.symm.trans hk)
    · have := hlt.out.1
      rw [hk] at e
      obtain rfl := Option.some.inj e
      omega
  have hg0 := hg.out
  rw [hv.out] at hg0
  exact ⟨rfl, _, ⟨_, one_set hb1.out _, rfl, by rw [hLen.out]; exact own_step hown.out ((Chg.refl (fun k => k = g) _).set (p := ⟨g, 0, none⟩) (.inl rfl) _) (fun k hk e => hne1 k hk e)⟩, hat, (Chg.of_grown (S := fun k => k = g ∨ some k = r) hg0 (fun k e => .inr e.symm)).set (p := ⟨g, 0, none⟩) (.inl (.inl rfl)) _⟩
/-- A number's bytes, the lowest first. -/
def le : Nat → Int → List Int
  | 0, _ => []
  | k + 1, n => n % 256 :: le k (n / 256)
theorem le_length : ∀ (k : Nat) (n : Int), (le k n).length = k
  | 0, _ => rfl
  | k + 1, n => by simp [le, le_length k]
def okWide (m : Int) : Prop := m = 1 ∨ m = 2 ∨ m = 4
instance (m : Int) : Decidable (okWide m) := by unfold okWide; infer_instance
def top (m : Int) : Int := if m = 1 then 256 else if m = 2 then 65536 else 4294967296
/-- May a number be put? -/
def mayPut (n m : Int) : Prop := okWide m ∧ 0 ≤ n ∧ n < top m
instance (n m : Int) : Decidable (mayPut n m) := by unfold mayPut; infer_instance
/-- What a put adds, and its error. -/
def putB (n m : Int) : List Int := if mayPut n m then le m.toNat n else []
def putE (n m : Int) : Int := if mayPut n m then 0 else 1
theorem wide_f (m : Int) : byt_wide.f m = some (decide (okWide m)) := by
  unfold byt_wide.f okWide
  by_cases h1 : m = 1
  · simp [h1]
  · by_cases h2 : m = 2
    · simp [h2]
    · by_cases h4 : m = 4
      · simp [h4]
      · simp [h1, h2, h4]
theorem wide_calls (m : Int) (w : World) (b : Bool) (h : decide (okWide m) = b) : Calls Try.prog 46 #[.int .i64 m] w fun e w' => e = .returned (.bool b) ∧ Drawn0 w w' :=
  byt_wide.calls m b w (by rw [wide_f, h])
/-- Between two rounds of Put: d bytes of x are to come. -/
def PutI (g : Nat) (r : Option Nat) (T : List Int) (w : World) (d : Nat) (x : Int) (W : World) : Prop :=
  ∃ rk lk, Wr W g rk lk ∧ lk ++ le d x = T ∧ lk.length ≤ 1000000000 ∧ lk.length + d = T.length ∧ (rk = r ∨ ∃ b, rk = some b ∧ w.heap.size ≤ b) ∧ Chg (fun k => k = g ∨ some k = r) w W
theorem PutI.step {g : Nat} {r rk : Option Nat} {T lk : List Int} {w W W1 : World} {d : Nat} {x : Int} (ht : lk ++ le (d + 1) x = T) (hl : lk.length + (d + 1) = T.length) (hT : T.length ≤ 1000000000) (hr : rk = r ∨ ∃ b, rk = some b ∧ w.heap.size ≤ b)
    (hc : Chg (fun k => k = g ∨ some k = r) w W) (h : WrPost g rk (lk ++ [x % 256]) W W1) : PutI g r T w d (x / 256) W1 := by
  obtain ⟨r1, h1, h2, h3⟩ := WrPost.trans hr hc h
  exact ⟨r1, _, h1, by simpa [le] using ht, by simp; omega, by simp; omega, h2, h3⟩
set_option maxHeartbeats 2000000 in
set_option maxRecDepth 100000 in
theorem put_1 (g : Nat) (r : Option Nat) (l : List Int) (n : Int) (w : World) (hw : Wr w g r l) (h0 : 0 ≤ n) (h1 : n < 256) (hl : l.length ≤ 100000000) :
    Calls Try.prog 31 #[.pointer (some ⟨g, 0, none⟩), .int .i64 n, .int .i64 1] w fun e w' => e = .returned (.int .i64 0) ∧ WrPost g r (l ++ le 1 n) w w' := by
  obtain ⟨T, hT⟩ : ∃ T, l ++ le 1 n = T := ⟨_, rfl⟩
  have hTl : T.length = l.length + 1 := by rw [← hT]; simp [le_length]
  have hI0 : ∀ W, Below w.heap.size w W → PutI g r T w 1 n W := fun W hb => ⟨r, l, hw.below hb, hT, by omega, by omega, .inl rfl, .of_new hb _⟩
  rw [hT]
  replace hI0 := Aside0.mk hI0
  replace hTl := Aside0.mk (show T.length ≤ 1000000000 by omega)
  clear hw hl hT
  have hwc := Aside0.mk (fun w => wide_calls 1 w true (by decide))
  go_enter Try.func31, Try.ntmps31
  go_wp2_with (go_at_call 46; refine (hwc.out _).mono ?_; rintro e w1 ⟨rfl, hd1⟩; have hb1 := Aside0.mk hd1.below; clear hd1)
  go_loopw [1, 26] (fun v1 v26 wr => ∃ (k d : Nat) (x : Int), k + d = 1 ∧ v26 = .int .i64 k ∧ v1 = .int .i64 x ∧ 0 ≤ x ∧ x < 256 ∧ Aside0 (PutI g r T w d x wr)) (fun _ v26 _ => 1 - (intOf v26).toNat)
  case atStart => exact ⟨0, 1, n, rfl, rfl, rfl, h0, h1, ⟨hI0.out _ hb1.out⟩⟩
  case round =>
    obtain ⟨k, d, x, hkd, rfl, rfl, hx0, hx1, HI⟩ := hrel
    cases d with
    | zero =>
      obtain rfl : k = 1 := by omega
      clear hkd
      go_wp2_with fail
      go_ret
      obtain ⟨rk, lk, a, b, c, d, e, f⟩ := HI.out
      rw [show lk = T by simpa [le] using b] at a
      exact ⟨rfl, rk, a, e, f⟩
    | succ d =>
      obtain ⟨rk, lk, hW, hS, hL, hD, hR, hC⟩ := HI.out
      have hS' : Aside0 (∀ W1, WrPost g rk (lk ++ [x]) wr W1 → PutI g r T w d (x / 256) W1) := ⟨fun W1 h => PutI.step hS hD hTl.out hR hC (by rw [Int.emod_eq_of_lt hx0 hx1]; exact h)⟩
      have hk : k < 1 := by omega
      replace hW := Aside0.mk hW
      replace hL := Aside0.mk hL
      have hkd' := Aside0.mk hkd
      clear hS hD hR hC HI hkd
      go_wp2_with (go_at_call 47; refine (byt_add g rk lk _ 1 1 [x] _ (hW.out.below (below_alloc (Below.refl _ _) _)) (reads_one (heap_alloc_new _ _)) (by have := hL.out; omega)).mono ?_; rintro e w2 ⟨rfl, hp⟩; have hp2 := Aside0.mk (WrPost.drawn (below_alloc (Below.refl _ _) _) hp); clear hp)
      go_roundw
      case rel => exact ⟨k + 1, d, x / 256, by have := hkd'.out; omega, by go_num, by go_num, by omega, by omega, ⟨hS'.out _ hp2.out⟩⟩
      case measure => simp [intOf]; omega
set_option maxHeartbeats 2000000 in
set_option maxRecDepth 100000 in
theorem put_2 (g : Nat) (r : Option Nat) (l : List Int) (n : Int) (w : World) (hw : Wr w g r l) (h0 : 0 ≤ n) (h1 : n < 65536) (hl : l.length ≤ 100000000) :
    Calls Try.prog 31 #[.pointer (some ⟨g, 0, none⟩), .int .i64 n, .int .i64 2] w fun e w' => e = .returned (.int .i64 0) ∧ WrPost g r (l ++ le 2 n) w w' := by
  obtain ⟨T, hT⟩ : ∃ T, l ++ le 2 n = T := ⟨_, rfl⟩
  have hTl : T.length = l.length + 2 := by rw [← hT]; simp [le_length]
  have hI0 : ∀ W, Below w.heap.size w W → PutI g r T w 2 n W := fun W hb => ⟨r, l, hw.below hb, hT, by omega, by omega, .inl rfl, .of_new hb _⟩
  rw [hT]
  replace hI0 := Aside0.mk hI0
  replace hTl := Aside0.mk (show T.length ≤ 1000000000 by omega)
  clear hw hl hT
  have hwc := Aside0.mk (fun w => wide_calls 2 w true (by decide))
  go_enter Try.func31, Try.ntmps31
  go_wp2_with (go_at_call 46; refine (hwc.out _).mono ?_; rintro e w1 ⟨rfl, hd1⟩; have hb1 := Aside0.mk hd1.below; clear hd1)
  go_loopw [1, 26] (fun v1 v26 wr => ∃ (k d : Nat) (x : Int), k + d = 2 ∧ v26 = .int .i64 k ∧ v1 = .int .i64 x ∧ 0 ≤ x ∧ x < 65536 ∧ Aside0 (PutI g r T w d x wr)) (fun _ v26 _ => 2 - (intOf v26).toNat)
  case atStart => exact ⟨0, 2, n, rfl, rfl, rfl, h0, h1, ⟨hI0.out _ hb1.out⟩⟩
  case round =>
    obtain ⟨k, d, x, hkd, rfl, rfl, hx0, hx1, HI⟩ := hrel
    cases d with
    | zero =>
      obtain rfl : k = 2 := by omega
      clear hkd
      go_wp2_with fail
      go_ret
      obtain ⟨rk, lk, a, b, c, d, e, f⟩ := HI.out
      rw [show lk = T by simpa [le] using b] at a
      exact ⟨rfl, rk, a, e, f⟩
    | succ d =>
      obtain ⟨rk, lk, hW, hS, hL, hD, hR, hC⟩ := HI.out
      have hS' : Aside0 (∀ W1, WrPost g rk (lk ++ [x % 256]) wr W1 → PutI g r T w d (x / 256) W1) := ⟨fun W1 h => PutI.step hS hD hTl.out hR hC h⟩
      have hk : k < 2 := by omega
      replace hW := Aside0.mk hW
      replace hL := Aside0.mk hL
      have hkd' := Aside0.mk hkd
      clear hS hD hR hC HI hkd
      go_wp2_with (go_at_call 47; refine (byt_add g rk lk _ 1 1 [x % 256] _ (hW.out.below (below_alloc (Below.refl _ _) _)) (reads_one (heap_alloc_new _ _)) (by have := hL.out; omega)).mono ?_; rintro e w2 ⟨rfl, hp⟩; have hp2 := Aside0.mk (WrPost.drawn (below_alloc (Below.refl _ _) _) hp); clear hp)
      go_roundw
      case rel => exact ⟨k + 1, d, x / 256, by have := hkd'.out; omega, by go_num, by go_num, by omega, by omega, ⟨hS'.out _ hp2.out⟩⟩
      case measure => simp [intOf]; omega
set_option maxHeartbeats 2000000 in
set_option maxRecDepth 100000 in
theorem put_4 (g : Nat) (r : Option Nat) (l : List Int) (n : Int) (w : World) (hw : Wr w g r l) (h0 : 0 ≤ n) (h1 : n < 4294967296) (hl : l.length ≤ 100000000) :
    Calls Try.prog 31 #[.pointer (some ⟨g, 0, none⟩), .int .i64 n, .int .i64 4] w fun e w' => e = .returned (.int .i64 0) ∧ WrPost g r (l ++ le 4 n) w w' := by
  obtain ⟨T, hT⟩ : ∃ T, l ++ le 4 n = T := ⟨_, rfl⟩
  have hTl : T.length = l.length + 4 := by rw [← hT]; simp [le_length]
  have hI0 : ∀ W, Below w.heap.size w W → PutI g r T w 4 n W := fun W hb => ⟨r, l, hw.below hb, hT, by omega, by omega, .inl rfl, .of_new hb _⟩
  rw [hT]
  replace hI0 := Aside0.mk hI0
  replace hTl := Aside0.mk (show T.length ≤ 1000000000 by omega)
  clear hw hl hT
  have hwc := Aside0.mk (fun w => wide_calls 4 w true (by decide))
  go_enter Try.func31, Try.ntmps31
  go_wp2_with (go_at_call 46; refine (hwc.out _).mono ?_; rintro e w1 ⟨rfl, hd1⟩; have hb1 := Aside0.mk hd1.below; clear hd1)
  go_loopw [1, 26] (fun v1 v26 wr => ∃ (k d : Nat) (x : Int), k + d = 4 ∧ v26 = .int .i64 k ∧ v1 = .int .i64 x ∧ 0 ≤ x ∧ x < 4294967296 ∧ Aside0 (PutI g r T w d x wr)) (fun _ v26 _ => 4 - (intOf v26).toNat)
  case atStart => exact ⟨0, 4, n, rfl, rfl, rfl, h0, h1, ⟨hI0.out _ hb1.out⟩⟩
  case round =>
    obtain ⟨k, d, x, hkd, rfl, rfl, hx0, hx1, HI⟩ := hrel
    cases d with
    | zero =>
      obtain rfl : k = 4 := by omega
      clear hkd
      go_wp2_with fail
      go_ret
      obtain ⟨rk, lk, a, b, c, d, e, f⟩ := HI.out
      rw [show lk = T by simpa [le] using b] at a
      exact ⟨rfl, rk, a, e, f⟩
    | succ d =>
      obtain ⟨rk, lk, hW, hS, hL, hD, hR, hC⟩ := HI.out
      have hS' : Aside0 (∀ W1, WrPost g rk (lk ++ [x % 256]) wr W1 → PutI g r T w d (x / 256) W1) := ⟨fun W1 h => PutI.step hS hD hTl.out hR hC h⟩
      have hk : k < 4 := by omega
      replace hW := Aside0.mk hW
      replace hL := Aside0.mk hL
      have hkd' := Aside0.mk hkd
      clear hS hD hR hC HI hkd
      go_wp2_with (go_at_call 47; refine (byt_add g rk lk _ 1 1 [x % 256] _ (hW.out.below (below_alloc (Below.refl _ _) _)) (reads_one (heap_alloc_new _ _)) (by have := hL.out; omega)).mono ?_; rintro e w2 ⟨rfl, hp⟩; have hp2 := Aside0.mk (WrPost.drawn (below_alloc (Below.refl _ _) _) hp); clear hp)
      go_roundw
      case rel => exact ⟨k + 1, d, x / 256, by have := hkd'.out; omega, by go_num, by go_num, by omega, by omega, ⟨hS'.out _ hp2.out⟩⟩
      case measure => simp [intOf]; omega
/-- Put, whatever the number. -/
theorem put_ok (g : Nat) (r : Option Nat) (l : List Int) (n m : Int) (w : World) (hw : Wr w g r l) (hm : mayPut n m) (hl : l.length ≤ 100000000) :
    Calls Try.prog 31 #[.pointer (some ⟨g, 0, none⟩), .int .i64 n, .int .i64 m] w fun e w' => e = .returned (.int .i64 0) ∧ WrPost g r (l ++ le m.toNat n) w w' := by
  obtain ⟨hW, h0, h1⟩ := hm
  rcases hW with rfl | rfl | rfl
  · exact put_1 g r l n w hw h0 h1 hl
  · exact put_2 g r l n w hw h0 h1 hl
  · exact put_4 g r l n w hw h0 h1 hl
set_option maxHeartbeats 1000000 in
set_option maxRecDepth 100000 in
theorem put_bad_1 (p : Option Addr) (n : Int) (w : World) (h : n < 0 ∨ 256 ≤ n) :
    Calls Try.prog 31 #[.pointer p, .int .i64 n, .int .i64 1] w fun e w' => e = .returned (.int .i64 1) ∧ Below w.heap.size w w' := by
  have hwc := Aside0.mk (fun w => wide_calls 1 w true (by decide))
  cases p with
  | none =>
    clear h
    go_enter Try.func31, Try.ntmps31
    go_wp2_with fail
    go_ret
    exact ⟨rfl, Below.refl _ _⟩
  | some a =>
    by_cases h0 : n < 0
    · clear h
      go_enter Try.func31, Try.ntmps31
      go_wp2_with (go_at_call 46; refine (hwc.out _).mono ?_; rintro e w1 ⟨rfl, hd1⟩; have hb1 := Aside0.mk hd1.below; clear hd1)
      go_ret
      exact ⟨rfl, hb1.out⟩
    · have h1 : 256 ≤ n := by omega
      replace h0 : 0 ≤ n := by omega
      clear h
      go_enter Try.func31, Try.ntmps31
      go_wp2_with (go_at_call 46; refine (hwc.out _).mono ?_; rintro e w1 ⟨rfl, hd1⟩; have hb1 := Aside0.mk hd1.below; clear hd1)
      go_ret
      exact ⟨rfl, hb1.out⟩
set_option maxHeartbeats 1000000 in
set_option maxRecDepth 100000 in
theorem put_bad_2 (p : Option Addr) (n : Int) (w : World) (h : n < 0 ∨ 65536 ≤ n) :
    Calls Try.prog 31 #[.pointer p, .int .i64 n, .int .i64 2] w fun e w' => e = .returned (.int .i64 1) ∧ Below w.heap.size w w' := by
  have hwc := Aside0.mk (fun w => wide_calls 2 w true (by decide))
  cases p with
  | none =>
    clear h
    go_enter Try.func31, Try.ntmps31
    go_wp2_with fail
    go_ret
    exact ⟨rfl, Below.refl _ _⟩
  | some a =>
    by_cases h0 : n < 0
    · clear h
      go_enter Try.func31, Try.ntmps31
      go_wp2_with (go_at_call 46; refine (hwc.out _).mono ?_; rintro e w1 ⟨rfl, hd1⟩; have hb1 := Aside0.mk hd1.below; clear hd1)
      go_ret
      exact ⟨rfl, hb1.out⟩
    · have h1 : 65536 ≤ n := by omega
      replace h0 : 0 ≤ n := by omega
      clear h
      go_enter Try.func31, Try.ntmps31
      go_wp2_with (go_at_call 46; refine (hwc.out _).mono ?_; rintro e w1 ⟨rfl, hd1⟩; have hb1 := Aside0.mk hd1.below; clear hd1)
      go_ret
      exact ⟨rfl, hb1.out⟩
set_option maxHeartbeats 1000000 in
set_option maxRecDepth 100000 in
theorem put_bad_4 (p : Option Addr) (n : Int) (w : World) (h : n < 0 ∨ 4294967296 ≤ n) :
    Calls Try.prog 31 #[.pointer p, .int .i64 n, .int .i64 4] w fun e w' => e = .returned (.int .i64 1) ∧ Below w.heap.size w w' := by
  have hwc := Aside0.mk (fun w => wide_calls 4 w true (by decide))
  cases p with
  | none =>
    clear h
    go_enter Try.func31, Try.ntmps31
    go_wp2_with fail
    go_ret
    exact ⟨rfl, Below.refl _ _⟩
  | some a =>
    by_cases h0 : n < 0
    · clear h
      go_enter Try.func31, Try.ntmps31
      go_wp2_with (go_at_call 46; refine (hwc.out _).mono ?_; rintro e w1 ⟨rfl, hd1⟩; have hb1 := Aside0.mk hd1.below; clear hd1)
      go_ret
      exact ⟨rfl, hb1.out⟩
    · have h1 : 4294967296 ≤ n := by omega
      replace h0 : 0 ≤ n := by omega
      clear h
      go_enter Try.func31, Try.ntmps31
      go_wp2_with (go_at_call 46; refine (hwc.out _).mono ?_; rintro e w1 ⟨rfl, hd1⟩; have hb1 := Aside0.mk hd1.below; clear hd1)
      go_ret
      exact ⟨rfl, hb1.out⟩
set_option maxHeartbeats 1000000 in
set_option maxRecDepth 100000 in
/-- A number that may not be put; or no Writer. -/
theorem put_bad (p : Option Addr) (n m : Int) (w : World) (h : ¬ mayPut n m) :
    Calls Try.prog 31 #[.pointer p, .int .i64 n, .int .i64 m] w fun e w' => e = .returned (.int .i64 1) ∧ Below w.heap.size w w' := by
  by_cases hW : okWide m
  · have ht : n < 0 ∨ top m ≤ n := by
      by_cases h0 : n < 0
      · exact .inl h0
      · refine .inr ?_
        by_cases c : n < top m
        · exact absurd ⟨hW, by omega, c⟩ h
        · omega
    rcases hW with rfl | rfl | rfl
    · exact put_bad_1 p n w ht
    · exact put_bad_2 p n w ht
    · exact put_bad_4 p n w ht
  · have hwc := Aside0.mk (fun w => wide_calls m w false (decide_eq_false hW))
    clear h hW
    cases p with
    | none =>
      go_enter Try.func31, Try.ntmps31
      go_wp2_with fail
      go_ret
      exact ⟨rfl, Below.refl _ _⟩
    | some a =>
      go_enter Try.func31, Try.ntmps31
      go_wp2_with (go_at_call 46; refine (hwc.out _).mono ?_; rintro e w1 ⟨rfl, hd1⟩; have hb1 := Aside0.mk hd1.below; clear hd1)
      go_ret
      exact ⟨rfl, hb1.out⟩
/-- Put, whatever it is given. -/
theorem put_any (g : Nat) (r : Option Nat) (l : List Int) (n m : Int) (w : World) (hw : Wr w g r l) (hl : l.length ≤ 100000000) :
    Calls Try.prog 31 #[.pointer (some ⟨g, 0, none⟩), .int .i64 n, .int .i64 m] w fun e w' => e = .returned (.int .i64 (putE n m)) ∧ WrPost g r (l ++ putB n m) w w' := by
  unfold putE putB
  by_cases h : mayPut n m
  · rw [if_pos h, if_pos h]
    exact put_ok g r l n m w hw h hl
  · rw [if_neg h, if_neg h]
    refine (put_bad _ n m w h).mono ?_
    rintro e w1 ⟨he, hb⟩
    refine ⟨he, r, ?_, .inl rfl, .of_new hb _⟩
    rw [List.append_nil]
    exact hw.below hb
set_option maxHeartbeats 1000000 in
set_option maxRecDepth 100000 in
/-- All bytes, in a row of their own. -/
theorem bytes_any (g : Nat) (r : Option Nat) (l : List Int) (w : World) (hw : Wr w g r l) (hl : l.length ≤ 200000000) :
    Calls Try.prog 33 #[.pointer (some ⟨g, 0, none⟩)] w fun e w' => ∃ v0 : Value, e = .returned v0 ∧ Kd.R (Kd.int .u8) 5 w' w.heap.size (fun _ => True) v0 l ∧ Below w.heap.size w w' := by
  obtain ⟨v, hb, hv, ho⟩ := hw
  obtain ⟨hc, hf⟩ := one_cell hb
  obtain ⟨A1, c1, rfl⟩ := own_slice ho
  have hle : l.length ≤ c1 := by
    rcases ho.2 with ⟨e, h0⟩ | ⟨q, cap, cur, e, _, _, h0, _⟩
    · rw [h0]; exact Nat.zero_le _
    · injection e with e1 e2 e3; omega
  have hR := own_reads ho
  obtain ⟨A2, c2, e2, hR⟩ := hR
  obtain rfl : A1 = A2 := by injection e2
  have hC : Kd.C (Kd.int .u8) w A1 l.length l := C_of_reads_ hR
  clear e2 hR ho hv
  replace hC := Aside0.mk hC
  replace hb := Aside0.mk hb
  replace hle := Aside0.mk hle
  replace hl := Aside0.mk hl
  go_enter Try.func33, Try.ntmps33
  go_wp2_with (go_at_call 28; refine (slices_Clone_byte_byte_28.calls_n _ A1 c1 l _ hC.out hle.out (by have := hl.out; omega)).mono ?_; rintro e w1 ⟨v0, rfl, hR, hb⟩; obtain ⟨A3, c3, rfl⟩ := Kd.R_slice hR; replace hR := Aside0.mk hR; replace hb := Aside0.mk hb)
  go_ret
  exact ⟨_, rfl, hR.out, hb.out⟩
end Go.Proofs.Ytfaflgdhffkaiaa.Print
