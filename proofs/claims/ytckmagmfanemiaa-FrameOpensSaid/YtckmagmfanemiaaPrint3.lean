-- Written by a program of this session (myprint.py over the kit's print.py) out of the translation. Not trusted: Lean checks it.
import Derived.Test.YtckmagmfanemiaaPrint0
import Derived.Test.YtckmagmfanemiaaPrint1
namespace Go.Proofs.Ytckmagmfanemiaa.Print
open Go.RowKit Go.Proofs.YtckmagmfanemiaaW.PrintWords Go.Proofs.YtckmagmfanemiaaW.PrintLast Go.Proofs.YtckmagmfanemiaaW.PrintMore
attribute [local go_sem] max2_int min2_int max_two min_two max_three min_three max_four min_four   -- for this text's walks alone
set_option linter.unusedVariables false
set_option linter.unusedSimpArgs false

/-! ### slices_Clone_byte_byte: function 19 -/
theorem slices_Clone_byte_byte.made0 (W : World) (base : Nat) (hb : base ≤ W.heap.size) : Kd.R (Kd.int .u8) 5 (W.alloc (.cells #[] 5)) base (fun _ => True) (.slice (some ⟨W.heap.size, 0, none⟩) 0 0) [] :=
  ⟨fun _ _ => trivial, [], ⟨by simp, .inr ⟨W.heap.size, 0, #[], rfl, hb, by simpa using heap_alloc_new W (.cells #[] 5), by simp, by simp [maxLen], by simp, by simp⟩⟩, Reps.none _ _⟩
def slices_Clone_byte_byte.f (l0 : (List Int)) : Option (List Int) := if l0.length < 140737488355328 then some l0 else none
set_option maxHeartbeats 1000000 in
theorem slices_Clone_byte_byte.calls (A0 : Option Addr) (c0 : Nat) (l0 : (List Int)) (r : (List Int)) (w : World) (hr0 : Kd.C (Kd.int .u8) w A0 l0.length l0) (hc0 : l0.length ≤ c0) (h : slices_Clone_byte_byte.f l0 = some r) :
    Calls Try.prog 19 #[.slice A0 l0.length c0] w fun e w' => ∃ v0_ : Value, e = .returned v0_ ∧ Kd.R (Kd.int .u8) 5 w' w.heap.size (fun _ => True) v0_ r ∧ Below w.heap.size w w' := by
  have HR := Aside0.mk hr0
  clear hr0
  unfold slices_Clone_byte_byte.f at h
  split at h
  · rename_i hm
    obtain rfl := Option.some.inj h
    clear h
    cases A0 with
    | none =>
      obtain rfl : l0 = [] := by
        rcases l0 with _ | ⟨a, t⟩
        · rfl
        · exact absurd (HR.out.2.2 (by simp)) (by simp)
      have hq : ∀ (w : World), (binOp .eql 22 (.slice none 0 c0) (.slice none 0 0)).run Try.prog w = .ok (.bool true) w := fun w => Lib.run_eql_slice_nil w 22 5 none 0 c0 0 0 Try.underlying22
      go_enter Try.func19, Try.ntmps19
      go_wp2
      go_ret
      exact ⟨_, rfl, Kd.R_nil _ _ _ _ _, Below.refl _ _⟩
    | some a =>
      have hq : ∀ (w : World), (binOp .eql 22 (.slice (some a) l0.length c0) (.slice none 0 0)).run Try.prog w = .ok (.bool false) w := fun w => Lib.run_eql_slice_nil w 22 5 (some a) l0.length c0 0 0 Try.underlying22
      go_enter Try.func19, Try.ntmps19
      go_wp2_with ((with_reducible refine gate_builtin (b := .append) (xs := #[.tmp 5, .tmp 6]) rfl ?_); at_builtin; refine Kd.R_append_rows (Kd.int .u8) (w0 := w) w.heap.size rfl (.tmp 5) (.tmp 6) 22 5 (.int .u8 0) 1 rfl Try.underlying22 info5 rfl (by decide) (by omega) _ [] l0 _ _ _ (fun _ => True) (fun _ => False) rfl rfl ?aO ?aR (fun _ _ h => h) (fun _ h => h.elim) ?aF ?aB ?aS ?aL ?_; (case aF => exact (fun _ _ => trivial)); (case aB => exact below_alloc (Below.refl _ _) _); (case aS => simp); (case aL => simp; omega); (case aR => exact Kd.C_below HR.out (below_alloc (Below.refl _ _) _)); (case aO => exact slices_Clone_byte_byte.made0 w w.heap.size (Nat.le_refl _)); intro v w1 ho hb hg hat)
      go_ret
      exact ⟨_, rfl, ho, hb⟩
  · exact absurd h (by simp)
theorem slices_Clone_byte_byte.calls_n (n : Nat) (A0 : Option Addr) (c0 : Nat) (l0 : (List Int)) (w : World) (hr0 : Kd.C (Kd.int .u8) w A0 n l0) (hc0 : n ≤ c0) (h : n < 140737488355328) :
    Calls Try.prog 19 #[.slice A0 n c0] w fun e w' => ∃ v0_ : Value, e = .returned v0_ ∧ Kd.R (Kd.int .u8) 5 w' w.heap.size (fun _ => True) v0_ l0 ∧ Below w.heap.size w w' := by
  obtain rfl : l0.length = n := hr0.1
  exact slices_Clone_byte_byte.calls A0 c0 l0 l0 w hr0 hc0 (by unfold slices_Clone_byte_byte.f; rw [if_pos h])

/-! ### frame_Open: function 14 -/
def frame_Open.stamp (l : List Int) : Int := l.getD 252 0 + 256 * l.getD 253 0 + 65536 * l.getD 254 0 + 16777216 * l.getD 255 0
def frame_Open.f (l0 : List Int) : Option (List Int × Int × Int) :=
  if l0.length ≠ 256 then some ([], 0, 1) else if l0.take 4 ≠ l0.drop 252 then some ([], 0, 20) else
  if ∀ x ∈ l0, 0 ≤ x ∧ x ≤ 255 then some ((l0.drop 4).take 248, frame_Open.stamp l0, 0) else none
theorem frame_Open.ends (l : List Int) (h : l.length = 256) : l.take 4 = [l.getD 0 0, l.getD 1 0, l.getD 2 0, l.getD 3 0] ∧ l.drop 252 = [l.getD 252 0, l.getD 253 0, l.getD 254 0, l.getD 255 0] := by
  have key : ∀ i (hi : i < l.length), l[i] = l.getD i 0 := fun i hi => by simp [List.getD_eq_getElem?_getD, List.getElem?_eq_getElem hi]
  constructor
  · apply List.ext_getElem
    · simp; omega
    · intro i h1 h2
      have : i < 4 := by simpa using h2
      rw [List.getElem_take]
      match i, this with
      | 0, _ => exact key 0 (by omega)
      | 1, _ => exact key 1 (by omega)
      | 2, _ => exact key 2 (by omega)
      | 3, _ => exact key 3 (by omega)
  · apply List.ext_getElem
    · simp; omega
    · intro i h1 h2
      have : i < 4 := by simpa using h2
      rw [List.getElem_drop]
      match i, this with
      | 0, _ => exact key 252 (by omega)
      | 1, _ => exact key 253 (by omega)
      | 2, _ => exact key 254 (by omega)
      | 3, _ => exact key 255 (by omega)
theorem frame_Open.arr_at (A : Addr) (c : Nat) (w : World) : (Instr.arrayAt 39 (.slice (some A) 4 c)).run Try.prog w = .ok (.pointer (some A)) w := by
  simp [Instr.arrayAt, Sem.run_bind, run_underlying Try.underlying39]
theorem frame_Open.load4 (w : World) (A : Addr) (x0 x1 x2 x3 : Value) (h0 : w.cell? A = some x0) (h1 : w.cell? (A.add 1) = some x1) (h2 : w.cell? (A.add 2) = some x2) (h3 : w.cell? (A.add 3) = some x3) :
    (loadVar 39 A).run Try.prog w = .ok (.agg #[x0, x1, x2, x3]) w := by
  have hl : (loadCells A 4).run Try.prog w = .ok #[x0, x1, x2, x3] w :=
    run_loadCells_list (P := Try.prog) w A [x0, x1, x2, x3] (fun j v hv => by
      match j, hv with
      | 0, hv => simp at hv; subst hv; simpa [Addr.add] using h0
      | 1, hv => simp at hv; subst hv; exact h1
      | 2, hv => simp at hv; subst hv; exact h2
      | 3, hv => simp at hv; subst hv; exact h3)
  have hagg : (isAgg 39).run Try.prog w = .ok true w := by
    unfold isAgg
    rw [Sem.run_bind, run_underlying Try.underlying39 w]
    simp
  have hi : (Try.prog.info? 39).map (·.size) = some 4 := by kernel_rfl
  cases hq : Try.prog.info? 39 with
  | none => simp [hq] at hi
  | some i =>
    have hs : i.size = 4 := by simpa [hq] using hi
    simp [loadVar, Sem.run_bind, hagg, sizeOf, typeInfo, hq, hs, hl]
def frame_Open.eq4 (x0 x1 x2 x3 y0 y1 y2 y3 : Int) : Bool := x0 == y0 && (x1 == y1 && (x2 == y2 && x3 == y3))
theorem frame_Open.neq4 (w : World) (x0 x1 x2 x3 y0 y1 y2 y3 : Int) : (binOp .neq 39 (.agg #[.int .u8 x0, .int .u8 x1, .int .u8 x2, .int .u8 x3]) (.agg #[.int .u8 y0, .int .u8 y1, .int .u8 y2, .int .u8 y3])).run Try.prog w = .ok (.bool (!frame_Open.eq4 x0 x1 x2 x3 y0 y1 y2 y3)) w := by
  have u3 := Try.underlying5
  have he : (Op.equalIn 10000 39 (.agg #[.int .u8 x0, .int .u8 x1, .int .u8 x2, .int .u8 x3]) (.agg #[.int .u8 y0, .int .u8 y1, .int .u8 y2, .int .u8 y3])).run Try.prog w = .ok (x0 == y0 && (x1 == y1 && (x2 == y2 && x3 == y3))) w := by
    have a3 := Try.isAgg5
    have z3 := Try.sizeOf5
    rw [show (10000 : Nat) = 9999 + 1 from rfl, Op.equalIn]
    simp only [Sem.run_bind, run_underlying Try.underlying39, Result.andThen_ok]
    simp only [Std.Legacy.Range.forIn_eq_forIn_range', Std.Legacy.Range.size, Nat.sub_zero, Nat.add_sub_cancel, Nat.div_one, List.range'_succ, List.range'_zero, List.forIn_cons, List.forIn_nil]
    go_simp
    by_cases h0 : x0 = y0 <;> by_cases h1 : x1 = y1 <;> by_cases h2 : x2 = y2 <;> by_cases h3 : x3 = y3 <;> simp [h0, h1, h2, h3]
  simp only [binOp, Op.equal, Op.maxDepth]
  rw [Sem.run_bind, he]
  simp [frame_Open.eq4]
set_option maxHeartbeats 1000000 in
set_option maxRecDepth 100000 in
theorem frame_Open.calls (A0 : Option Addr) (c0 : Nat) (l0 : List Int) (r1 : List Int) (r2 : Int) (r3 : Int) (w : World) (hr0 : Kd.C (Kd.int .u8) w A0 l0.length l0) (hc0 : l0.length ≤ c0) (h : frame_Open.f l0 = some (r1, r2, r3)) :
    Calls Try.prog 14 #[.slice A0 l0.length c0] w fun e w' => ∃ v0_ : Value, e = .returned (.tuple #[v0_, .int .i64 r2, .int .i64 r3]) ∧ Kd.R (Kd.int .u8) 5 w' w.heap.size (fun _ => True) v0_ r1 ∧ Below w.heap.size w w' := by
  have HR := Aside0.mk hr0
  clear hr0
  unfold frame_Open.f at h
  by_cases h1 : l0.length ≠ 256
  · rw [if_pos h1] at h
    simp only [Option.some.injEq, Prod.mk.injEq] at h
    obtain ⟨rfl, rfl, rfl⟩ := h
    have e1 : ((l0.length : Int) != 256) = true := by rw [bne_iff_ne]; omega
    have e2 : (l0.length != 256) = true := by rw [bne_iff_ne]; omega
    clear h1
    go_enter Try.func14, Try.ntmps14
    go_wp2_with fail
    go_ret3
    exact ⟨_, rfl, Kd.R_nil _ _ _ _ _, Below.refl _ _⟩
  rw [if_neg h1] at h
  have hl : l0.length = 256 := by omega
  rw [hl] at hc0
  have HR2 := Aside0.mk (show Kd.C (Kd.int .u8) w A0 256 l0 by rw [← hl]; exact HR.out)
  rw [hl]
  clear h1 HR
  obtain ⟨ad, rfl, hcell⟩ := C_cells' HR2.out (by omega)
  have k0 : w.cell? ad = some (.int .u8 (l0.getD 0 0)) := by have := hcell 0 (by omega); simpa [Addr.add] using this
  have k1 : w.cell? ⟨ad.block, ad.off + 1, none⟩ = some (.int .u8 (l0.getD 1 0)) := by have := hcell 1 (by omega); simpa [Addr.add] using this
  have k2 : w.cell? ⟨ad.block, ad.off + 2, none⟩ = some (.int .u8 (l0.getD 2 0)) := by have := hcell 2 (by omega); simpa [Addr.add] using this
  have k3 : w.cell? ⟨ad.block, ad.off + 3, none⟩ = some (.int .u8 (l0.getD 3 0)) := by have := hcell 3 (by omega); simpa [Addr.add] using this
  have k4 : w.cell? ⟨ad.block, ad.off + 252, none⟩ = some (.int .u8 (l0.getD 252 0)) := by have := hcell 252 (by omega); simpa [Addr.add] using this
  have k5 : w.cell? ⟨ad.block, ad.off + 253, none⟩ = some (.int .u8 (l0.getD 253 0)) := by have := hcell 253 (by omega); simpa [Addr.add] using this
  have k6 : w.cell? ⟨ad.block, ad.off + 254, none⟩ = some (.int .u8 (l0.getD 254 0)) := by have := hcell 254 (by omega); simpa [Addr.add] using this
  have k7 : w.cell? ⟨ad.block, ad.off + 255, none⟩ = some (.int .u8 (l0.getD 255 0)) := by have := hcell 255 (by omega); simpa [Addr.add] using this
  obtain ⟨x0, hx0⟩ : ∃ x, x = l0.getD 0 0 := ⟨_, rfl⟩
  rw [← hx0] at k0
  replace hx0 := Aside0.mk hx0
  obtain ⟨x1, hx1⟩ : ∃ x, x = l0.getD 1 0 := ⟨_, rfl⟩
  rw [← hx1] at k1
  replace hx1 := Aside0.mk hx1
  obtain ⟨x2, hx2⟩ : ∃ x, x = l0.getD 2 0 := ⟨_, rfl⟩
  rw [← hx2] at k2
  replace hx2 := Aside0.mk hx2
  obtain ⟨x3, hx3⟩ : ∃ x, x = l0.getD 3 0 := ⟨_, rfl⟩
  rw [← hx3] at k3
  replace hx3 := Aside0.mk hx3
  obtain ⟨x4, hx4⟩ : ∃ x, x = l0.getD 252 0 := ⟨_, rfl⟩
  rw [← hx4] at k4
  replace hx4 := Aside0.mk hx4
  obtain ⟨x5, hx5⟩ : ∃ x, x = l0.getD 253 0 := ⟨_, rfl⟩
  rw [← hx5] at k5
  replace hx5 := Aside0.mk hx5
  obtain ⟨x6, hx6⟩ : ∃ x, x = l0.getD 254 0 := ⟨_, rfl⟩
  rw [← hx6] at k6
  replace hx6 := Aside0.mk hx6
  obtain ⟨x7, hx7⟩ : ∃ x, x = l0.getD 255 0 := ⟨_, rfl⟩
  rw [← hx7] at k7
  replace hx7 := Aside0.mk hx7
  replace hcell := Aside0.mk hcell
  have hc4 : (4 : Int) ≤ (c0 : Int) := by omega
  have q1 := frame_Open.arr_at ad c0
  have q2 := frame_Open.arr_at { block := ad.block, off := ad.off + 252 } (c0 - 252)
  have q5 := Try.isAgg39
  have q6 := Try.sizeOf39
  obtain ⟨m1, m2⟩ := frame_Open.ends l0 hl
  rw [m1, m2, ← hx0.out, ← hx1.out, ← hx2.out, ← hx3.out, ← hx4.out, ← hx5.out, ← hx6.out, ← hx7.out] at h
  by_cases hq : [x0, x1, x2, x3] ≠ [x4, x5, x6, x7]
  · rw [if_pos hq] at h
    simp only [Option.some.injEq, Prod.mk.injEq] at h
    obtain ⟨rfl, rfl, rfl⟩ := h
    have hb : frame_Open.eq4 x0 x1 x2 x3 x4 x5 x6 x7 = false := by
      rw [← Bool.not_eq_true]
      intro hc
      simp [frame_Open.eq4] at hc
      exact hq (by simp [hc])
    have q7 : ∀ w, (binOp .neq 39 (.agg #[.int .u8 x0, .int .u8 x1, .int .u8 x2, .int .u8 x3]) (.agg #[.int .u8 x4, .int .u8 x5, .int .u8 x6, .int .u8 x7])).run Try.prog w = .ok (.bool true) w := fun w => by rw [frame_Open.neq4, hb]; rfl
    clear hq m1 m2 hb
    go_enter Try.func14, Try.ntmps14
    go_wp2_with fail
    go_quiet (fail)
    go_wp2_with fail
    go_ret3
    exact ⟨_, rfl, Kd.R_nil _ _ _ _ _, pw_below_drewN (Below.refl _ _) _⟩
  rw [if_neg hq] at h
  have hq2 : [x0, x1, x2, x3] = [x4, x5, x6, x7] := by simpa using hq
  simp only [List.cons.injEq, and_true] at hq2
  obtain ⟨g0, g1, g2, g3⟩ := hq2
  split at h
  · rename_i hr
    simp only [Option.some.injEq, Prod.mk.injEq] at h
    obtain ⟨rfl, rfl, rfl⟩ := h
    have hb : frame_Open.eq4 x0 x1 x2 x3 x4 x5 x6 x7 = true := by simp [frame_Open.eq4, g0, g1, g2, g3]
    have q7 : ∀ w, (binOp .neq 39 (.agg #[.int .u8 x0, .int .u8 x1, .int .u8 x2, .int .u8 x3]) (.agg #[.int .u8 x4, .int .u8 x5, .int .u8 x6, .int .u8 x7])).run Try.prog w = .ok (.bool false) w := fun w => by rw [frame_Open.neq4, hb]; rfl
    have hmem : ∀ j, j < 256 → 0 ≤ l0.getD j 0 ∧ l0.getD j 0 ≤ 255 := fun j hj => by
      rw [List.getD_eq_getElem?_getD, List.getElem?_eq_getElem (by omega)]
      exact hr _ (List.getElem_mem _)
    have b4 := hmem 252 (by omega)
    have b5 := hmem 253 (by omega)
    have b6 := hmem 254 (by omega)
    have b7 := hmem 255 (by omega)
    rw [← hx4.out] at b4
    rw [← hx5.out] at b5
    rw [← hx6.out] at b6
    rw [← hx7.out] at b7
    obtain ⟨b4, b4'⟩ := b4
    obtain ⟨b5, b5'⟩ := b5
    obtain ⟨b6, b6'⟩ := b6
    obtain ⟨b7, b7'⟩ := b7
    clear m1 m2 hq hb g0 g1 g2 g3 hr hmem
    go_enter Try.func14, Try.ntmps14
    go_wp2_with fail
    go_quiet (fail)
    go_wp2_with fail
    refine wp_loop_rounds 5 ?_
    iterate 4 (rw [rounds_succ]; go_wp2_with fail)
    rw [rounds_succ]
    have hC := C_part HR2.out 4 248 (by omega) rfl
    have e4 : ad.add 4 = ⟨ad.block, ad.off + 4, none⟩ := by simp [Addr.add]
    rw [e4] at hC
    replace hC := Aside0.mk hC
    have hst := Aside0.mk (or4 x4 x5 x6 x7 b4 b4' b5 b5' b6 b6' b7 b7')
    clear e4
    have hc5 : (252 : Int) ≤ (c0 : Int) := by omega
    go_wp2_with (go_at_call 19; refine (slices_Clone_byte_byte.calls_n 248 _ _ ((l0.drop 4).take 248) _ (Kd.C_below hC.out (pw_below_drewN (Below.refl _ _) _)) (by omega) (by omega)).mono ?_; rintro e w1 ⟨v1, rfl, ho, hb⟩)
    go_ret3
    refine ⟨_, ?_, ho, below_then (pw_below_drewN (Below.refl _ _) _) (Nat.le_refl _) hb⟩
    rw [hst.out, hx4.out, hx5.out, hx6.out, hx7.out]
    rfl
  · exact absurd h (by simp)

/-! ### bobbinlaw02_FrameBack: function 5 -/
mutual
def bobbinlaw02_FrameBack.j0 : Nat → Int → List Int → Bool → Bool → Option (Bool)
  | 0, _, _, _, _ => none
  | k + 1, x0, x1, x5, x27 => if x27 = true then (some x5) else ((frame_Seal.f x0 x1).bind fun bt182 => ((frame_Open.f bt182.1).bind fun bt186 => (if bt182.2 = 0 then (if bt186.2.2 = 0 then (if bt186.2.1 = x0 then (bobbinlaw02_FrameBack.j1 k x1 bt186.1 ((bt186.1.length : Int) != 248)) else (bobbinlaw02_FrameBack.j1 k x1 bt186.1 true)) else (bobbinlaw02_FrameBack.j1 k x1 bt186.1 true)) else (bobbinlaw02_FrameBack.j1 k x1 bt186.1 true))))
def bobbinlaw02_FrameBack.j1 : Nat → List Int → List Int → Bool → Option (Bool)
  | 0, _, _, _ => none
  | k + 1, x1, x8, x56 => if x56 = true then (some false) else (bobbinlaw02_FrameBack.l0 k x1 x8 0)
def bobbinlaw02_FrameBack.l0 : Nat → List Int → List Int → Int → Option (Bool)
  | 0, _, _, _ => none
  | k + 1, x1, x8, x11 => if x11 < 248 then (if x11 < (x1.length : Int) then (if 0 ≤ x11 then (if x11 < (x8.length : Int) then (if (rd x8 x11) = (rd x1 x11) then (if x11 ≥ (x1.length : Int) then (if (rd x8 x11) = 0 then (bobbinlaw02_FrameBack.l0 k x1 x8 (wrap64 (x11 + 1))) else (some false)) else (bobbinlaw02_FrameBack.l0 k x1 x8 (wrap64 (x11 + 1)))) else (some false)) else (none)) else (none)) else (if x11 ≥ (x1.length : Int) then (if 0 ≤ x11 then (if x11 < (x8.length : Int) then (if (rd x8 x11) = 0 then (bobbinlaw02_FrameBack.l0 k x1 x8 (wrap64 (x11 + 1))) else (some false)) else (none)) else (none)) else (bobbinlaw02_FrameBack.l0 k x1 x8 (wrap64 (x11 + 1))))) else (some true)
end
theorem bobbinlaw02_FrameBack.j0_eq : ∀ (k : Nat) x0 x1 x5 x27, bobbinlaw02_FrameBack.j0 (k + 1) x0 x1 x5 x27 = (if x27 = true then (some x5) else ((frame_Seal.f x0 x1).bind fun bt182 => ((frame_Open.f bt182.1).bind fun bt186 => (if bt182.2 = 0 then (if bt186.2.2 = 0 then (if bt186.2.1 = x0 then (bobbinlaw02_FrameBack.j1 k x1 bt186.1 ((bt186.1.length : Int) != 248)) else (bobbinlaw02_FrameBack.j1 k x1 bt186.1 true)) else (bobbinlaw02_FrameBack.j1 k x1 bt186.1 true)) else (bobbinlaw02_FrameBack.j1 k x1 bt186.1 true))))) := fun _ _ _ _ _ => rfl
theorem bobbinlaw02_FrameBack.j1_eq : ∀ (k : Nat) x1 x8 x56, bobbinlaw02_FrameBack.j1 (k + 1) x1 x8 x56 = (if x56 = true then (some false) else (bobbinlaw02_FrameBack.l0 k x1 x8 0)) := fun _ _ _ _ => rfl
theorem bobbinlaw02_FrameBack.l0_eq : ∀ (k : Nat) x1 x8 x11, bobbinlaw02_FrameBack.l0 (k + 1) x1 x8 x11 = (if x11 < 248 then (if x11 < (x1.length : Int) then (if 0 ≤ x11 then (if x11 < (x8.length : Int) then (if (rd x8 x11) = (rd x1 x11) then (if x11 ≥ (x1.length : Int) then (if (rd x8 x11) = 0 then (bobbinlaw02_FrameBack.l0 k x1 x8 (wrap64 (x11 + 1))) else (some false)) else (bobbinlaw02_FrameBack.l0 k x1 x8 (wrap64 (x11 + 1)))) else (some false)) else (none)) else (none)) else (if x11 ≥ (x1.length : Int) then (if 0 ≤ x11 then (if x11 < (x8.length : Int) then (if (rd x8 x11) = 0 then (bobbinlaw02_FrameBack.l0 k x1 x8 (wrap64 (x11 + 1))) else (some false)) else (none)) else (none)) else (bobbinlaw02_FrameBack.l0 k x1 x8 (wrap64 (x11 + 1))))) else (some true)) := fun _ _ _ _ => rfl
def bobbinlaw02_FrameBack.f (k : Nat) (a0 : Int) (l1 : List Int) : Option (Bool) := (bobbinlaw02_awake.f).bind fun t181 => (if t181 = true then (if (l1.length : Int) > 248 then (bobbinlaw02_FrameBack.j0 k a0 l1 t181 true) else (if a0 < 0 then (bobbinlaw02_FrameBack.j0 k a0 l1 t181 true) else (bobbinlaw02_FrameBack.j0 k a0 l1 t181 (decide (a0 > 4294967295))))) else (bobbinlaw02_FrameBack.j0 k a0 l1 t181 true))
theorem bobbinlaw02_FrameBack.mono_l : ∀ k, (∀ y0 y1 y2 y3, LeO (bobbinlaw02_FrameBack.j0 k y0 y1 y2 y3) (bobbinlaw02_FrameBack.j0 (k + 1) y0 y1 y2 y3)) ∧ (∀ y0 y1 y2, LeO (bobbinlaw02_FrameBack.j1 k y0 y1 y2) (bobbinlaw02_FrameBack.j1 (k + 1) y0 y1 y2)) ∧ (∀ y0 y1 y2, LeO (bobbinlaw02_FrameBack.l0 k y0 y1 y2) (bobbinlaw02_FrameBack.l0 (k + 1) y0 y1 y2))
  | 0 => ⟨fun _ _ _ _ r h => by first | (cases h; done) | simp [bobbinlaw02_FrameBack.j0] at h, fun _ _ _ r h => by first | (cases h; done) | simp [bobbinlaw02_FrameBack.j1] at h, fun _ _ _ r h => by first | (cases h; done) | simp [bobbinlaw02_FrameBack.l0] at h⟩
  | k + 1 => by
    obtain ⟨ih0, ih1, ih2⟩ := bobbinlaw02_FrameBack.mono_l k
    refine ⟨?_, ?_, ?_⟩
    · intro y0 y1 y2 y3
      unfold bobbinlaw02_FrameBack.j0
      repeat' first
      | (with_reducible exact ih0 _ _ _ _)
      | (with_reducible exact ih1 _ _ _)
      | (with_reducible exact ih2 _ _ _)
      | (with_reducible exact LeO.refl _)
      | (with_reducible exact LeO.none _)
      | (with_reducible refine LeO.ite ?_ ?_)
      | (with_reducible refine LeO.bind ?_ (fun _ => ?_))
      | exact ih0 _ _ _ _
      | exact ih1 _ _ _
      | exact ih2 _ _ _
      | exact LeO.none _
      | refine LeO.ite ?_ ?_
      | refine LeO.bind ?_ (fun _ => ?_)
    · intro y0 y1 y2
      unfold bobbinlaw02_FrameBack.j1
      repeat' first
      | (with_reducible exact ih0 _ _ _ _)
      | (with_reducible exact ih1 _ _ _)
      | (with_reducible exact ih2 _ _ _)
      | (with_reducible exact LeO.refl _)
      | (with_reducible exact LeO.none _)
      | (with_reducible refine LeO.ite ?_ ?_)
      | (with_reducible refine LeO.bind ?_ (fun _ => ?_))
      | exact ih0 _ _ _ _
      | exact ih1 _ _ _
      | exact ih2 _ _ _
      | exact LeO.none _
      | refine LeO.ite ?_ ?_
      | refine LeO.bind ?_ (fun _ => ?_)
    · intro y0 y1 y2
      unfold bobbinlaw02_FrameBack.l0
      repeat' first
      | (with_reducible exact ih0 _ _ _ _)
      | (with_reducible exact ih1 _ _ _)
      | (with_reducible exact ih2 _ _ _)
      | (with_reducible exact LeO.refl _)
      | (with_reducible exact LeO.none _)
      | (with_reducible refine LeO.ite ?_ ?_)
      | (with_reducible refine LeO.bind ?_ (fun _ => ?_))
      | exact ih0 _ _ _ _
      | exact ih1 _ _ _
      | exact ih2 _ _ _
      | exact LeO.none _
      | refine LeO.ite ?_ ?_
      | refine LeO.bind ?_ (fun _ => ?_)
theorem bobbinlaw02_FrameBack.mono : ∀ a0 a1 k, LeO (bobbinlaw02_FrameBack.f k a0 a1) (bobbinlaw02_FrameBack.f (k + 1) a0 a1) := by
  intro a0 a1 k
  obtain ⟨ih0, ih1, ih2⟩ := bobbinlaw02_FrameBack.mono_l k
  unfold bobbinlaw02_FrameBack.f
  repeat' first
      | (with_reducible exact ih0 _ _ _ _)
      | (with_reducible exact ih1 _ _ _)
      | (with_reducible exact ih2 _ _ _)
      | (with_reducible exact LeO.refl _)
      | (with_reducible exact LeO.none _)
      | (with_reducible refine LeO.ite ?_ ?_)
      | (with_reducible refine LeO.bind ?_ (fun _ => ?_))
      | exact ih0 _ _ _ _
      | exact ih1 _ _ _
      | exact ih2 _ _ _
      | exact LeO.none _
      | refine LeO.ite ?_ ?_
      | refine LeO.bind ?_ (fun _ => ?_)
set_option maxHeartbeats 8000000 in
set_option maxRecDepth 100000 in
theorem bobbinlaw02_FrameBack.calls (k : Nat) (a0 : Int) (A1 : Option Addr) (c1 : Nat) (l1 : List Int) (r : Bool) (w : World) (hr1 : Kd.C (Kd.int .u8) w A1 l1.length l1) (hc1 : l1.length ≤ c1) (h : bobbinlaw02_FrameBack.f k a0 l1 = some r) :
    Calls Try.prog 5 #[.int .i64 a0, .slice A1 l1.length c1] w fun e w' => e = .returned (.bool r) ∧ Below w.heap.size w w' := by
  have HR1 := Aside0.mk hr1
  have HC1 := Aside0.mk hc1
  clear hr1 hc1
  have HB := Aside0.mk (Below.refl w.heap.size w)
  have H : ((bobbinlaw02_awake.f).bind fun t181 => (if t181 = true then (if (l1.length : Int) > 248 then (bobbinlaw02_FrameBack.j0 k a0 l1 t181 true) else (if a0 < 0 then (bobbinlaw02_FrameBack.j0 k a0 l1 t181 true) else (bobbinlaw02_FrameBack.j0 k a0 l1 t181 (decide (a0 > 4294967295))))) else (bobbinlaw02_FrameBack.j0 k a0 l1 t181 true))) = some r := h
  clear h
  replace H := Option.bind_eq_some_iff.mp H
  obtain ⟨t181, A30, H⟩ := H
  replace H : (if t181 = true then (if (l1.length : Int) > 248 then (bobbinlaw02_FrameBack.j0 k a0 l1 t181 true) else (if a0 < 0 then (bobbinlaw02_FrameBack.j0 k a0 l1 t181 true) else (bobbinlaw02_FrameBack.j0 k a0 l1 t181 (decide (a0 > 4294967295))))) else (bobbinlaw02_FrameBack.j0 k a0 l1 t181 true)) = some r := H
  have A3 := Aside0.mk A30
  clear A30
  have HC4 := Aside0.mk H
  clear H
  go_enter Try.func5, Try.ntmps5
  go_upto_region 2 with (first | (go_at_call 10; (with_reducible refine (bobbinlaw02_awake.calls  t181 _ A3.out).mono ?_); rintro e w5 ⟨rfl, hb⟩; have n0_ := Aside0.mk (below_step (by repeat (first | (with_reducible first | exact HB.out | apply below_alloc | apply pw_below_drewN | apply below_drew1) | exact HB.out)) hb); clear HB; have HB := n0_; clear n0_; (try clear hb); (try clear hb2); (try clear hk); (try clear hi)))
  repeat (go_quiet (first | (go_at_call 10; (with_reducible refine (bobbinlaw02_awake.calls  t181 _ A3.out).mono ?_); rintro e w5 ⟨rfl, hb⟩; have n0_ := Aside0.mk (below_step (by repeat (first | (with_reducible first | exact HB.out | apply below_alloc | apply pw_below_drewN | apply below_drew1) | exact HB.out)) hb); clear HB; have HB := n0_; clear n0_; (try clear hb); (try clear hb2); (try clear hk); (try clear hi))); go_upto_region 2 with (first | (go_at_call 10; (with_reducible refine (bobbinlaw02_awake.calls  t181 _ A3.out).mono ?_); rintro e w5 ⟨rfl, hb⟩; have n0_ := Aside0.mk (below_step (by repeat (first | (with_reducible first | exact HB.out | apply below_alloc | apply pw_below_drewN | apply below_drew1) | exact HB.out)) hb); clear HB; have HB := n0_; clear n0_; (try clear hb); (try clear hb2); (try clear hk); (try clear hi))))
  (try simp only [Act.put, List.setIfInBounds_toArray, List.set_cons_zero, List.set_cons_succ])
  go_cut [27] (fun v27 wc => ∃ (kq : Nat) (x27_3 : Bool), v27 = .bool x27_3 ∧ Aside0 (bobbinlaw02_FrameBack.j0 kq a0 l1 t181 x27_3 = some r) ∧ Aside0 (kq ≤ k) ∧ Aside0 (Below w.heap.size w wc))
  case first =>
    have H := HC4.out
    clear HC4
    by_cases c6 : t181 = true
    · subst c6
      have H1 : (if (l1.length : Int) > 248 then (bobbinlaw02_FrameBack.j0 k a0 l1 true true) else (if a0 < 0 then (bobbinlaw02_FrameBack.j0 k a0 l1 true true) else (bobbinlaw02_FrameBack.j0 k a0 l1 true (decide (a0 > 4294967295))))) = some r := by rw [if_pos rfl] at H; exact H
      clear H
      have H := H1
      clear H1
      by_cases c7 : (l1.length : Int) > 248
      · rw [if_pos c7] at H
        have c7b0 : decide (248 < (l1.length : Int)) = true := decide_eq_true c7
        have c7b1 : decide (248 < l1.length) = true := decide_eq_true (by omega)
        clear c7
        (first | rw [c7b0] | (simp only [i64_w, i32_w]; rw [c7b0]) | skip)
        have H' := Aside0.mk H
        clear H
        go_wp2
        repeat (go_quiet (fail); try go_wp2)
        go_meet
        case rel => exact ⟨_, (true), (by first | rfl | (simp; done) | (simp [*]; done)), H', ⟨by first | omega | exact Nat.le_refl _⟩, ⟨by repeat (first | (with_reducible first | exact HB.out | apply below_alloc | apply pw_below_drewN | apply below_drew1) | exact HB.out)⟩⟩
      · rw [if_neg c7] at H
        have c7b0 : decide (248 < (l1.length : Int)) = false := decide_eq_false c7
        have c7b1 : decide (248 < l1.length) = false := decide_eq_false (by omega)
        clear c7
        (first | rw [c7b0] | (simp only [i64_w, i32_w]; rw [c7b0]) | skip)
        by_cases c8 : a0 < 0
        · rw [if_pos c8] at H
          have c8b0 : decide (a0 < 0) = true := decide_eq_true c8
          clear c8
          have H' := Aside0.mk H
          clear H
          go_wp2
          repeat (go_quiet (fail); try go_wp2)
          go_meet
          case rel => exact ⟨_, (true), (by first | rfl | (simp; done) | (simp [*]; done)), H', ⟨by first | omega | exact Nat.le_refl _⟩, ⟨by repeat (first | (with_reducible first | exact HB.out | apply below_alloc | apply pw_below_drewN | apply below_drew1) | exact HB.out)⟩⟩
        · rw [if_neg c8] at H
          have c8b0 : decide (a0 < 0) = false := decide_eq_false c8
          clear c8
          have H' := Aside0.mk H
          clear H
          go_wp2
          repeat (go_quiet (fail); try go_wp2)
          go_meet
          case rel => exact ⟨_, (decide (a0 > 4294967295)), (by first | rfl | (simp; done) | (simp [*]; done)), H', ⟨by first | omega | exact Nat.le_refl _⟩, ⟨by repeat (first | (with_reducible first | exact HB.out | apply below_alloc | apply pw_below_drewN | apply below_drew1) | exact HB.out)⟩⟩
    · replace c6 := Bool.eq_false_iff.mpr c6
      subst c6
      have H1 : (bobbinlaw02_FrameBack.j0 k a0 l1 false true) = some r := by rw [if_neg (show ¬ (false = true) by decide)] at H; exact H
      clear H
      have H := H1
      clear H1
      have H' := Aside0.mk H
      clear H
      go_wp2
      repeat (go_quiet (fail); try go_wp2)
      go_meet
      case rel => exact ⟨_, (true), (by first | rfl | (simp; done) | (simp [*]; done)), H', ⟨by first | omega | exact Nat.le_refl _⟩, ⟨by repeat (first | (with_reducible first | exact HB.out | apply below_alloc | apply pw_below_drewN | apply below_drew1) | exact HB.out)⟩⟩
  case rest =>
    clear HC4
    try clear c1
    try clear p2
    try clear c5
    try clear c6
    try clear c7
    try clear c7b0
    try clear c7b1
    try clear c8
    try clear c8b0
    obtain ⟨kq, x27_3, rfl, HA, HJ3, HB⟩ := hcut
    cases kq with
    | zero => exact absurd HA.out (by first | (intro h_; cases h_; done) | simp [bobbinlaw02_FrameBack.j0])
    | succ kj3 =>
      have H := HA.out
      clear HA
      rw [bobbinlaw02_FrameBack.j0_eq] at H
      by_cases c9 : x27_3 = true
      · subst c9
        have H1 : (some t181) = some r := by rw [if_pos rfl] at H; exact H
        clear H
        have H := H1
        clear H1
        obtain rfl := Option.some.inj H
        go_wp2
        repeat (go_quiet (fail); try go_wp2)
        go_ret
        exact ⟨by first | rfl | (simp [errW_none, errW_some] <;> rfl) | (simp [*, errW_none, errW_some] <;> rfl), by repeat (first | (with_reducible first | exact HB.out | apply below_alloc | apply pw_below_drewN | apply below_drew1) | exact HB.out)⟩
      · replace c9 := Bool.eq_false_iff.mpr c9
        subst c9
        have H1 : ((frame_Seal.f a0 l1).bind fun bt182 => ((frame_Open.f bt182.1).bind fun bt186 => (if bt182.2 = 0 then (if bt186.2.2 = 0 then (if bt186.2.1 = a0 then (bobbinlaw02_FrameBack.j1 kj3 l1 bt186.1 ((bt186.1.length : Int) != 248)) else (bobbinlaw02_FrameBack.j1 kj3 l1 bt186.1 true)) else (bobbinlaw02_FrameBack.j1 kj3 l1 bt186.1 true)) else (bobbinlaw02_FrameBack.j1 kj3 l1 bt186.1 true)))) = some r := by rw [if_neg (show ¬ (false = true) by decide)] at H; exact H
        clear H
        have H := H1
        clear H1
        replace H := Option.bind_eq_some_iff.mp H
        obtain ⟨⟨t182, t185⟩, A100, H⟩ := H
        replace H : ((frame_Open.f t182).bind fun bt186 => (if t185 = 0 then (if bt186.2.2 = 0 then (if bt186.2.1 = a0 then (bobbinlaw02_FrameBack.j1 kj3 l1 bt186.1 ((bt186.1.length : Int) != 248)) else (bobbinlaw02_FrameBack.j1 kj3 l1 bt186.1 true)) else (bobbinlaw02_FrameBack.j1 kj3 l1 bt186.1 true)) else (bobbinlaw02_FrameBack.j1 kj3 l1 bt186.1 true))) = some r := H
        have A10 := Aside0.mk A100
        clear A100
        replace H := Option.bind_eq_some_iff.mp H
        obtain ⟨⟨t186, t187, t188⟩, A110, H⟩ := H
        replace H : (if t185 = 0 then (if t188 = 0 then (if t187 = a0 then (bobbinlaw02_FrameBack.j1 kj3 l1 t186 ((t186.length : Int) != 248)) else (bobbinlaw02_FrameBack.j1 kj3 l1 t186 true)) else (bobbinlaw02_FrameBack.j1 kj3 l1 t186 true)) else (bobbinlaw02_FrameBack.j1 kj3 l1 t186 true)) = some r := H
        have A11 := Aside0.mk A110
        clear A110
        have HC12 := Aside0.mk H
        clear H
        go_upto_region 6 with (first | (go_at_call 11; (with_reducible refine (frame_Seal.calls a0 _ _ l1 t182 t185 _ ?side1 ?side2 A10.out).mono ?_); (case side1 => repeat (first | exact (Kd.C_below HR1.out HB.out) | (with_reducible refine Kd.C_alloc ?_ _) | (with_reducible refine Kd.C_drewN ?_ _) | (with_reducible refine Kd.C_drew ?_))); (case side2 => exact HC1.out); rintro e w13 ⟨v183, rfl, ho0, hb⟩; have n0_ := Aside0.mk (Kd.V_lower (Kd.V_mono (ok' := fun k_ => True) ho0 (fun k_ hk_ => trivial)) (below_size (by repeat (first | (with_reducible first | exact HB.out | apply below_alloc | apply pw_below_drewN | apply below_drew1) | exact HB.out)))); have n1_ := Aside0.mk (below_step (by repeat (first | (with_reducible first | exact HB.out | apply below_alloc | apply pw_below_drewN | apply below_drew1) | exact HB.out)) hb); clear HB; have HO184 := n0_; have HB := n1_; clear n0_ n1_; (try clear hb); (try clear hb2); (try clear hk); (try clear hi); (try clear ho0); obtain ⟨Ao14, co14, eo14⟩ := Kd.V_slice HO184.out; subst eo14) | (go_at_call 14; (with_reducible refine (frame_Open.calls _ _ t182 t186 t187 t188 _ ?side1 ?side2 A11.out).mono ?_); (case side1 => repeat (first | exact (Kd.V_reads' HO184.out).2.2 | (with_reducible refine Kd.C_alloc ?_ _) | (with_reducible refine Kd.C_drewN ?_ _) | (with_reducible refine Kd.C_drew ?_))); (case side2 => exact (Kd.V_reads' HO184.out).2.1); rintro e w15 ⟨v189, rfl, ho0, hb⟩; have n0_ := Aside0.mk (Kd.V_elder' (by (with_reducible repeat (first | apply Kd.V_alloc | apply Kd.V_drewN | apply Kd.V_drew)); exact HO184.out) (Kd.R_base ho0) hb); have n1_ := Aside0.mk (Kd.R_lower ho0 (below_size (by repeat (first | (with_reducible first | exact HB.out | apply below_alloc | apply pw_below_drewN | apply below_drew1) | exact HB.out)))); have n2_ := Aside0.mk (below_step (by repeat (first | (with_reducible first | exact HB.out | apply below_alloc | apply pw_below_drewN | apply below_drew1) | exact HB.out)) hb); clear HO184; clear HB; have HO184 := n0_; have HO190 := n1_; have HB := n2_; clear n0_ n1_ n2_; (try clear hb); (try clear hb2); (try clear hk); (try clear hi); (try clear ho0)))
        repeat (go_quiet (first | (go_at_call 11; (with_reducible refine (frame_Seal.calls a0 _ _ l1 t182 t185 _ ?side1 ?side2 A10.out).mono ?_); (case side1 => repeat (first | exact (Kd.C_below HR1.out HB.out) | (with_reducible refine Kd.C_alloc ?_ _) | (with_reducible refine Kd.C_drewN ?_ _) | (with_reducible refine Kd.C_drew ?_))); (case side2 => exact HC1.out); rintro e w13 ⟨v183, rfl, ho0, hb⟩; have n0_ := Aside0.mk (Kd.V_lower (Kd.V_mono (ok' := fun k_ => True) ho0 (fun k_ hk_ => trivial)) (below_size (by repeat (first | (with_reducible first | exact HB.out | apply below_alloc | apply pw_below_drewN | apply below_drew1) | exact HB.out)))); have n1_ := Aside0.mk (below_step (by repeat (first | (with_reducible first | exact HB.out | apply below_alloc | apply pw_below_drewN | apply below_drew1) | exact HB.out)) hb); clear HB; have HO184 := n0_; have HB := n1_; clear n0_ n1_; (try clear hb); (try clear hb2); (try clear hk); (try clear hi); (try clear ho0); obtain ⟨Ao14, co14, eo14⟩ := Kd.V_slice HO184.out; subst eo14) | (go_at_call 14; (with_reducible refine (frame_Open.calls _ _ t182 t186 t187 t188 _ ?side1 ?side2 A11.out).mono ?_); (case side1 => repeat (first | exact (Kd.V_reads' HO184.out).2.2 | (with_reducible refine Kd.C_alloc ?_ _) | (with_reducible refine Kd.C_drewN ?_ _) | (with_reducible refine Kd.C_drew ?_))); (case side2 => exact (Kd.V_reads' HO184.out).2.1); rintro e w15 ⟨v189, rfl, ho0, hb⟩; have n0_ := Aside0.mk (Kd.V_elder' (by (with_reducible repeat (first | apply Kd.V_alloc | apply Kd.V_drewN | apply Kd.V_drew)); exact HO184.out) (Kd.R_base ho0) hb); have n1_ := Aside0.mk (Kd.R_lower ho0 (below_size (by repeat (first | (with_reducible first | exact HB.out | apply below_alloc | apply pw_below_drewN | apply below_drew1) | exact HB.out)))); have n2_ := Aside0.mk (below_step (by repeat (first | (with_reducible first | exact HB.out | apply below_alloc | apply pw_below_drewN | apply below_drew1) | exact HB.out)) hb); clear HO184; clear HB; have HO184 := n0_; have HO190 := n1_; have HB := n2_; clear n0_ n1_ n2_; (try clear hb); (try clear hb2); (try clear hk); (try clear hi); (try clear ho0))); go_upto_region 6 with (first | (go_at_call 11; (with_reducible refine (frame_Seal.calls a0 _ _ l1 t182 t185 _ ?side1 ?side2 A10.out).mono ?_); (case side1 => repeat (first | exact (Kd.C_below HR1.out HB.out) | (with_reducible refine Kd.C_alloc ?_ _) | (with_reducible refine Kd.C_drewN ?_ _) | (with_reducible refine Kd.C_drew ?_))); (case side2 => exact HC1.out); rintro e w13 ⟨v183, rfl, ho0, hb⟩; have n0_ := Aside0.mk (Kd.V_lower (Kd.V_mono (ok' := fun k_ => True) ho0 (fun k_ hk_ => trivial)) (below_size (by repeat (first | (with_reducible first | exact HB.out | apply below_alloc | apply pw_below_drewN | apply below_drew1) | exact HB.out)))); have n1_ := Aside0.mk (below_step (by repeat (first | (with_reducible first | exact HB.out | apply below_alloc | apply pw_below_drewN | apply below_drew1) | exact HB.out)) hb); clear HB; have HO184 := n0_; have HB := n1_; clear n0_ n1_; (try clear hb); (try clear hb2); (try clear hk); (try clear hi); (try clear ho0); obtain ⟨Ao14, co14, eo14⟩ := Kd.V_slice HO184.out; subst eo14) | (go_at_call 14; (with_reducible refine (frame_Open.calls _ _ t182 t186 t187 t188 _ ?side1 ?side2 A11.out).mono ?_); (case side1 => repeat (first | exact (Kd.V_reads' HO184.out).2.2 | (with_reducible refine Kd.C_alloc ?_ _) | (with_reducible refine Kd.C_drewN ?_ _) | (with_reducible refine Kd.C_drew ?_))); (case side2 => exact (Kd.V_reads' HO184.out).2.1); rintro e w15 ⟨v189, rfl, ho0, hb⟩; have n0_ := Aside0.mk (Kd.V_elder' (by (with_reducible repeat (first | apply Kd.V_alloc | apply Kd.V_drewN | apply Kd.V_drew)); exact HO184.out) (Kd.R_base ho0) hb); have n1_ := Aside0.mk (Kd.R_lower ho0 (below_size (by repeat (first | (with_reducible first | exact HB.out | apply below_alloc | apply pw_below_drewN | apply below_drew1) | exact HB.out)))); have n2_ := Aside0.mk (below_step (by repeat (first | (with_reducible first | exact HB.out | apply below_alloc | apply pw_below_drewN | apply below_drew1) | exact HB.out)) hb); clear HO184; clear HB; have HO184 := n0_; have HO190 := n1_; have HB := n2_; clear n0_ n1_ n2_; (try clear hb); (try clear hb2); (try clear hk); (try clear hi); (try clear ho0))))
        (try simp only [Act.put, List.setIfInBounds_toArray, List.set_cons_zero, List.set_cons_succ])
        go_cut [56] (fun v56 wc => ∃ (kq : Nat) (x56_11 : Bool), v56 = .bool x56_11 ∧ Aside0 (bobbinlaw02_FrameBack.j1 kq l1 t186 x56_11 = some r) ∧ Aside0 (kq ≤ kj3) ∧ Aside0 (Kd.R (Kd.int .u8) 5 wc w.heap.size (fun _ => True) v189 t186) ∧ Aside0 (Below w.heap.size w wc))
        case first =>
          have H := HC12.out
          clear HC12
          by_cases c16 : t185 = 0
          · rw [if_pos c16] at H
            have c16b0 : (t185 == 0) = true := beq_iff_eq.mpr c16
            have c16b1 : (t185 != 0) = false := bne_eq_false_iff_eq.mpr c16
            clear c16
            (first | rw [c16b0] | (simp only [i64_w, i32_w]; rw [c16b0]) | skip)
            by_cases c17 : t188 = 0
            · rw [if_pos c17] at H
              have c17b0 : (t188 == 0) = true := beq_iff_eq.mpr c17
              have c17b1 : (t188 != 0) = false := bne_eq_false_iff_eq.mpr c17
              clear c17
              by_cases c18 : t187 = a0
              · rw [if_pos c18] at H
                have c18b0 : (t187 == a0) = true := beq_iff_eq.mpr c18
                have c18b1 : (t187 != a0) = false := bne_eq_false_iff_eq.mpr c18
                clear c18
                have H' := Aside0.mk H
                clear H
                obtain ⟨Ao19, co19, eo19⟩ := Kd.R_slice HO190.out
                subst eo19
                go_wp2
                repeat (go_quiet (fail); try go_wp2)
                go_meet
                case rel => exact ⟨_, (((t186.length : Int) != 248)), (by first | rfl | (simp; done) | (simp [*]; done)), H', ⟨by have := HJ3.out; first | omega | exact Nat.le_refl _⟩, ⟨by (with_reducible repeat (first | apply Kd.R_alloc | apply Kd.R_drewN | apply Kd.R_drew)); exact HO190.out⟩, ⟨by repeat (first | (with_reducible first | exact HB.out | apply below_alloc | apply pw_below_drewN | apply below_drew1) | exact HB.out)⟩⟩
              · rw [if_neg c18] at H
                have c18b0 : (t187 == a0) = false := beq_eq_false_iff_ne.mpr c18
                have c18b1 : (t187 != a0) = true := bne_iff_ne.mpr c18
                have H' := Aside0.mk H
                clear H
                go_wp2
                repeat (go_quiet (fail); try go_wp2)
                go_meet
                case rel => exact ⟨_, (true), (by first | rfl | (simp; done) | (simp [*]; done)), H', ⟨by have := HJ3.out; first | omega | exact Nat.le_refl _⟩, ⟨by (with_reducible repeat (first | apply Kd.R_alloc | apply Kd.R_drewN | apply Kd.R_drew)); exact HO190.out⟩, ⟨by repeat (first | (with_reducible first | exact HB.out | apply below_alloc | apply pw_below_drewN | apply below_drew1) | exact HB.out)⟩⟩
            · rw [if_neg c17] at H
              have c17b0 : (t188 == 0) = false := beq_eq_false_iff_ne.mpr c17
              have c17b1 : (t188 != 0) = true := bne_iff_ne.mpr c17
              have H' := Aside0.mk H
              clear H
              go_wp2
              repeat (go_quiet (fail); try go_wp2)
              go_meet
              case rel => exact ⟨_, (true), (by first | rfl | (simp; done) | (simp [*]; done)), H', ⟨by have := HJ3.out; first | omega | exact Nat.le_refl _⟩, ⟨by (with_reducible repeat (first | apply Kd.R_alloc | apply Kd.R_drewN | apply Kd.R_drew)); exact HO190.out⟩, ⟨by repeat (first | (with_reducible first | exact HB.out | apply below_alloc | apply pw_below_drewN | apply below_drew1) | exact HB.out)⟩⟩
          · rw [if_neg c16] at H
            have c16b0 : (t185 == 0) = false := beq_eq_false_iff_ne.mpr c16
            have c16b1 : (t185 != 0) = true := bne_iff_ne.mpr c16
            (first | rw [c16b0] | (simp only [i64_w, i32_w]; rw [c16b0]) | skip)
            have H' := Aside0.mk H
            clear H
            go_wp2
            repeat (go_quiet (fail); try go_wp2)
            go_meet
            case rel => exact ⟨_, (true), (by first | rfl | (simp; done) | (simp [*]; done)), H', ⟨by have := HJ3.out; first | omega | exact Nat.le_refl _⟩, ⟨by (with_reducible repeat (first | apply Kd.R_alloc | apply Kd.R_drewN | apply Kd.R_drew)); exact HO190.out⟩, ⟨by repeat (first | (with_reducible first | exact HB.out | apply below_alloc | apply pw_below_drewN | apply below_drew1) | exact HB.out)⟩⟩
        case rest =>
          clear HC12
          try clear c1
          try clear p2
          try clear c5
          try clear c6
          try clear c7
          try clear c7b0
          try clear c7b1
          try clear c8
          try clear c8b0
          try clear c9
          try clear c16
          try clear c16b0
          try clear c16b1
          try clear c17
          try clear c17b0
          try clear c17b1
          try clear c18
          try clear c18b0
          try clear c18b1
          try clear p2
          obtain ⟨kq, x56_11, rfl, HA, HJ11, HO_8, HB⟩ := hcut
          cases kq with
          | zero => exact absurd HA.out (by first | (intro h_; cases h_; done) | simp [bobbinlaw02_FrameBack.j1])
          | succ kj11 =>
            have H := HA.out
            clear HA
            rw [bobbinlaw02_FrameBack.j1_eq] at H
            by_cases c20 : x56_11 = true
            · subst c20
              have H1 : (some false) = some r := by rw [if_pos rfl] at H; exact H
              clear H
              have H := H1
              clear H1
              obtain rfl := Option.some.inj H
              go_wp2
              repeat (go_quiet (fail); try go_wp2)
              go_ret
              exact ⟨by first | rfl | (simp [errW_none, errW_some] <;> rfl) | (simp [*, errW_none, errW_some] <;> rfl), by repeat (first | (with_reducible first | exact HB.out | apply below_alloc | apply pw_below_drewN | apply below_drew1) | exact HB.out)⟩
            · replace c20 := Bool.eq_false_iff.mpr c20
              subst c20
              have H1 : (bobbinlaw02_FrameBack.l0 kj11 l1 t186 0) = some r := by rw [if_neg (show ¬ (false = true) by decide)] at H; exact H
              clear H
              have H := H1
              clear H1
              have H' := Aside0.mk H
              clear H
              go_wp2
              repeat (go_quiet (fail); try go_wp2)
              go_loopg [11] kj11 (fun kq v11 w' => ∃ (x11_3 : Int), v11 = .int .i64 x11_3 ∧ Aside0 (bobbinlaw02_FrameBack.l0 kq l1 t186 x11_3 = some r) ∧ Aside0 (kq ≤ kj11) ∧ Aside0 (Kd.R (Kd.int .u8) 5 w' w.heap.size (fun _ => True) v189 t186) ∧ Aside0 (Below w.heap.size w w'))
              case atStart => exact ⟨(0), (by first | rfl | (simp; done) | (simp [*]; done)), H', ⟨Nat.le_refl _⟩, ⟨by (with_reducible repeat (first | apply Kd.R_alloc | apply Kd.R_drewN | apply Kd.R_drew)); exact HO_8.out⟩, ⟨by repeat (first | (with_reducible first | exact HB.out | apply below_alloc | apply pw_below_drewN | apply below_drew1) | exact HB.out)⟩⟩
              case round =>
                clear H'
                try clear c1
                try clear c2
                try clear p2
                try clear c5
                try clear c6
                try clear c7
                try clear c7b0
                try clear c7b1
                try clear c8
                try clear c8b0
                try clear c9
                try clear c16
                try clear c16b0
                try clear c16b1
                try clear c17
                try clear c17b0
                try clear c17b1
                try clear c18
                try clear c18b0
                try clear c18b1
                try clear c20
                try clear p2
                obtain ⟨x11_3, rfl, HA, HK3, HO_8, HB⟩ := hrel
                cases gk with
                | zero => exact absurd HA.out (by first | (intro h_; cases h_; done) | simp [bobbinlaw02_FrameBack.l0])
                | succ k3 =>
                  have H := HA.out
                  clear HA
                  rw [bobbinlaw02_FrameBack.l0_eq] at H
                  by_cases c21 : x11_3 < 248
                  · rw [if_pos c21] at H
                    have c21b0 : decide (x11_3 < 248) = true := decide_eq_true c21
                    clear c21
                    by_cases c22 : x11_3 < (l1.length : Int)
                    · rw [if_pos c22] at H
                      have c22b0 : decide (x11_3 < (l1.length : Int)) = true := decide_eq_true c22
                      clear c22
                      by_cases c23 : 0 ≤ x11_3
                      · rw [if_pos c23] at H
                        have c23b0 : decide (0 ≤ x11_3) = true := decide_eq_true c23
                        clear c23
                        by_cases c24 : x11_3 < (t186.length : Int)
                        · rw [if_pos c24] at H
                          have c24b0 : decide (x11_3 < (t186.length : Int)) = true := decide_eq_true c24
                          clear c24
                          by_cases c25 : (rd t186 x11_3) = (rd l1 x11_3)
                          · rw [if_pos c25] at H
                            have c25b0 : ((rd t186 x11_3) == (rd l1 x11_3)) = true := beq_iff_eq.mpr c25
                            have c25b1 : ((rd t186 x11_3) != (rd l1 x11_3)) = false := bne_eq_false_iff_eq.mpr c25
                            clear c25
                            by_cases c26 : x11_3 ≥ (l1.length : Int)
                            · rw [if_pos c26] at H
                              have c26b0 : decide ((l1.length : Int) ≤ x11_3) = true := decide_eq_true c26
                              clear c26
                              by_cases c27 : (rd t186 x11_3) = 0
                              · rw [if_pos c27] at H
                                have c27b0 : ((rd t186 x11_3) == 0) = true := beq_iff_eq.mpr c27
                                have c27b1 : ((rd t186 x11_3) != 0) = false := bne_eq_false_iff_eq.mpr c27
                                clear c27
                                have H' := Aside0.mk H
                                clear H
                                obtain ⟨Ao28, co28, eo28⟩ := Kd.R_slice HO_8.out
                                subst eo28
                                have p191 : 0 ≤ (x11_3 : Int) := of_decide_eq_true (by first | (with_reducible assumption) | assumption)
                                have q191 : x11_3 < (t186.length : Int) := of_decide_eq_true (by first | (with_reducible assumption) | assumption)
                                obtain ⟨ad191, e191, hx191_0⟩ := Kd.at_int (Kd.R_reads' HO_8.out).2.2 x11_3 p191 q191
                                cases e191
                                replace p191 := eq_true p191
                                replace q191 := eq_true q191
                                have p192 : 0 ≤ (x11_3 : Int) := of_decide_eq_true (by first | (with_reducible assumption) | assumption)
                                have q192 : x11_3 < (l1.length : Int) := of_decide_eq_true (by first | (with_reducible assumption) | assumption)
                                obtain ⟨ad192, e192, hx192_0⟩ := Kd.at_int HR1.out x11_3 p192 q192
                                cases e192
                                replace hx192_0 := (HB.out.cell (World.block_lt_of_cell? w _ hx192_0)).trans hx192_0
                                replace p192 := eq_true p192
                                replace q192 := eq_true q192
                                have p193 : 0 ≤ (x11_3 : Int) := of_decide_eq_true (by first | (with_reducible assumption) | assumption)
                                have q193 : x11_3 < (t186.length : Int) := of_decide_eq_true (by first | (with_reducible assumption) | assumption)
                                obtain ⟨ad193, e193, hx193_0⟩ := Kd.at_int (Kd.R_reads' HO_8.out).2.2 x11_3 p193 q193
                                obtain rfl : ad191 = ad193 := (by injection e193)
                                replace p193 := eq_true p193
                                replace q193 := eq_true q193
                                go_wp2
                                repeat (go_quiet (fail); try go_wp2)
                                go_roundg k3
                                case measure => have := HJ3.out; have := HJ11.out; have := HK3.out; omega
                                case rel => exact ⟨(wrap64 (x11_3 + 1)), (by first | rfl | (simp; done) | (simp [*]; done)), H', ⟨by have := HJ3.out; have := HJ11.out; have := HK3.out; omega⟩, ⟨by (with_reducible repeat (first | apply Kd.R_alloc | apply Kd.R_drewN | apply Kd.R_drew)); exact HO_8.out⟩, ⟨by repeat (first | (with_reducible first | exact HB.out | apply below_alloc | apply pw_below_drewN | apply below_drew1) | exact HB.out)⟩⟩
                              · rw [if_neg c27] at H
                                have c27b0 : ((rd t186 x11_3) == 0) = false := beq_eq_false_iff_ne.mpr c27
                                have c27b1 : ((rd t186 x11_3) != 0) = true := bne_iff_ne.mpr c27
                                obtain rfl := Option.some.inj H
                                obtain ⟨Ao29, co29, eo29⟩ := Kd.R_slice HO_8.out
                                subst eo29
                                have p191 : 0 ≤ (x11_3 : Int) := of_decide_eq_true (by first | (with_reducible assumption) | assumption)
                                have q191 : x11_3 < (t186.length : Int) := of_decide_eq_true (by first | (with_reducible assumption) | assumption)
                                obtain ⟨ad191, e191, hx191_0⟩ := Kd.at_int (Kd.R_reads' HO_8.out).2.2 x11_3 p191 q191
                                cases e191
                                replace p191 := eq_true p191
                                replace q191 := eq_true q191
                                have p192 : 0 ≤ (x11_3 : Int) := of_decide_eq_true (by first | (with_reducible assumption) | assumption)
                                have q192 : x11_3 < (l1.length : Int) := of_decide_eq_true (by first | (with_reducible assumption) | assumption)
                                obtain ⟨ad192, e192, hx192_0⟩ := Kd.at_int HR1.out x11_3 p192 q192
                                cases e192
                                replace hx192_0 := (HB.out.cell (World.block_lt_of_cell? w _ hx192_0)).trans hx192_0
                                replace p192 := eq_true p192
                                replace q192 := eq_true q192
                                have p193 : 0 ≤ (x11_3 : Int) := of_decide_eq_true (by first | (with_reducible assumption) | assumption)
                                have q193 : x11_3 < (t186.length : Int) := of_decide_eq_true (by first | (with_reducible assumption) | assumption)
                                obtain ⟨ad193, e193, hx193_0⟩ := Kd.at_int (Kd.R_reads' HO_8.out).2.2 x11_3 p193 q193
                                obtain rfl : ad191 = ad193 := (by injection e193)
                                replace p193 := eq_true p193
                                replace q193 := eq_true q193
                                go_wp2
                                repeat (go_quiet (fail); try go_wp2)
                                go_ret
                                exact ⟨by first | rfl | (simp [errW_none, errW_some] <;> rfl) | (simp [*, errW_none, errW_some] <;> rfl), by repeat (first | (with_reducible first | exact HB.out | apply below_alloc | apply pw_below_drewN | apply below_drew1) | exact HB.out)⟩
                            · rw [if_neg c26] at H
                              have c26b0 : decide ((l1.length : Int) ≤ x11_3) = false := decide_eq_false c26
                              clear c26
                              have H' := Aside0.mk H
                              clear H
                              obtain ⟨Ao30, co30, eo30⟩ := Kd.R_slice HO_8.out
                              subst eo30
                              have p191 : 0 ≤ (x11_3 : Int) := of_decide_eq_true (by first | (with_reducible assumption) | assumption)
                              have q191 : x11_3 < (t186.length : Int) := of_decide_eq_true (by first | (with_reducible assumption) | assumption)
                              obtain ⟨ad191, e191, hx191_0⟩ := Kd.at_int (Kd.R_reads' HO_8.out).2.2 x11_3 p191 q191
                              cases e191
                              replace p191 := eq_true p191
                              replace q191 := eq_true q191
                              have p192 : 0 ≤ (x11_3 : Int) := of_decide_eq_true (by first | (with_reducible assumption) | assumption)
                              have q192 : x11_3 < (l1.length : Int) := of_decide_eq_true (by first | (with_reducible assumption) | assumption)
                              obtain ⟨ad192, e192, hx192_0⟩ := Kd.at_int HR1.out x11_3 p192 q192
                              cases e192
                              replace hx192_0 := (HB.out.cell (World.block_lt_of_cell? w _ hx192_0)).trans hx192_0
                              replace p192 := eq_true p192
                              replace q192 := eq_true q192
                              go_wp2
                              repeat (go_quiet (fail); try go_wp2)
                              go_roundg k3
                              case measure => have := HJ3.out; have := HJ11.out; have := HK3.out; omega
                              case rel => exact ⟨(wrap64 (x11_3 + 1)), (by first | rfl | (simp; done) | (simp [*]; done)), H', ⟨by have := HJ3.out; have := HJ11.out; have := HK3.out; omega⟩, ⟨by (with_reducible repeat (first | apply Kd.R_alloc | apply Kd.R_drewN | apply Kd.R_drew)); exact HO_8.out⟩, ⟨by repeat (first | (with_reducible first | exact HB.out | apply below_alloc | apply pw_below_drewN | apply below_drew1) | exact HB.out)⟩⟩
                          · rw [if_neg c25] at H
                            have c25b0 : ((rd t186 x11_3) == (rd l1 x11_3)) = false := beq_eq_false_iff_ne.mpr c25
                            have c25b1 : ((rd t186 x11_3) != (rd l1 x11_3)) = true := bne_iff_ne.mpr c25
                            obtain rfl := Option.some.inj H
                            obtain ⟨Ao31, co31, eo31⟩ := Kd.R_slice HO_8.out
                            subst eo31
                            have p191 : 0 ≤ (x11_3 : Int) := of_decide_eq_true (by first | (with_reducible assumption) | assumption)
                            have q191 : x11_3 < (t186.length : Int) := of_decide_eq_true (by first | (with_reducible assumption) | assumption)
                            obtain ⟨ad191, e191, hx191_0⟩ := Kd.at_int (Kd.R_reads' HO_8.out).2.2 x11_3 p191 q191
                            cases e191
                            replace p191 := eq_true p191
                            replace q191 := eq_true q191
                            have p192 : 0 ≤ (x11_3 : Int) := of_decide_eq_true (by first | (with_reducible assumption) | assumption)
                            have q192 : x11_3 < (l1.length : Int) := of_decide_eq_true (by first | (with_reducible assumption) | assumption)
                            obtain ⟨ad192, e192, hx192_0⟩ := Kd.at_int HR1.out x11_3 p192 q192
                            cases e192
                            replace hx192_0 := (HB.out.cell (World.block_lt_of_cell? w _ hx192_0)).trans hx192_0
                            replace p192 := eq_true p192
                            replace q192 := eq_true q192
                            go_wp2
                            repeat (go_quiet (fail); try go_wp2)
                            go_ret
                            exact ⟨by first | rfl | (simp [errW_none, errW_some] <;> rfl) | (simp [*, errW_none, errW_some] <;> rfl), by repeat (first | (with_reducible first | exact HB.out | apply below_alloc | apply pw_below_drewN | apply below_drew1) | exact HB.out)⟩
                        · rw [if_neg c24] at H
                          exact absurd H (by simp)
                      · rw [if_neg c23] at H
                        exact absurd H (by simp)
                    · rw [if_neg c22] at H
                      have c22b0 : decide (x11_3 < (l1.length : Int)) = false := decide_eq_false c22
                      clear c22
                      by_cases c32 : x11_3 ≥ (l1.length : Int)
                      · rw [if_pos c32] at H
                        have c32b0 : decide ((l1.length : Int) ≤ x11_3) = true := decide_eq_true c32
                        clear c32
                        by_cases c33 : 0 ≤ x11_3
                        · rw [if_pos c33] at H
                          have c33b0 : decide (0 ≤ x11_3) = true := decide_eq_true c33
                          clear c33
                          by_cases c34 : x11_3 < (t186.length : Int)
                          · rw [if_pos c34] at H
                            have c34b0 : decide (x11_3 < (t186.length : Int)) = true := decide_eq_true c34
                            clear c34
                            by_cases c35 : (rd t186 x11_3) = 0
                            · rw [if_pos c35] at H
                              have c35b0 : ((rd t186 x11_3) == 0) = true := beq_iff_eq.mpr c35
                              have c35b1 : ((rd t186 x11_3) != 0) = false := bne_eq_false_iff_eq.mpr c35
                              clear c35
                              have H' := Aside0.mk H
                              clear H
                              obtain ⟨Ao36, co36, eo36⟩ := Kd.R_slice HO_8.out
                              subst eo36
                              have p194 : 0 ≤ (x11_3 : Int) := of_decide_eq_true (by first | (with_reducible assumption) | assumption)
                              have q194 : x11_3 < (t186.length : Int) := of_decide_eq_true (by first | (with_reducible assumption) | assumption)
                              obtain ⟨ad194, e194, hx194_0⟩ := Kd.at_int (Kd.R_reads' HO_8.out).2.2 x11_3 p194 q194
                              cases e194
                              replace p194 := eq_true p194
                              replace q194 := eq_true q194
                              go_wp2
                              repeat (go_quiet (fail); try go_wp2)
                              go_roundg k3
                              case measure => have := HJ3.out; have := HJ11.out; have := HK3.out; omega
                              case rel => exact ⟨(wrap64 (x11_3 + 1)), (by first | rfl | (simp; done) | (simp [*]; done)), H', ⟨by have := HJ3.out; have := HJ11.out; have := HK3.out; omega⟩, ⟨by (with_reducible repeat (first | apply Kd.R_alloc | apply Kd.R_drewN | apply Kd.R_drew)); exact HO_8.out⟩, ⟨by repeat (first | (with_reducible first | exact HB.out | apply below_alloc | apply pw_below_drewN | apply below_drew1) | exact HB.out)⟩⟩
                            · rw [if_neg c35] at H
                              have c35b0 : ((rd t186 x11_3) == 0) = false := beq_eq_false_iff_ne.mpr c35
                              have c35b1 : ((rd t186 x11_3) != 0) = true := bne_iff_ne.mpr c35
                              obtain rfl := Option.some.inj H
                              obtain ⟨Ao37, co37, eo37⟩ := Kd.R_slice HO_8.out
                              subst eo37
                              have p194 : 0 ≤ (x11_3 : Int) := of_decide_eq_true (by first | (with_reducible assumption) | assumption)
                              have q194 : x11_3 < (t186.length : Int) := of_decide_eq_true (by first | (with_reducible assumption) | assumption)
                              obtain ⟨ad194, e194, hx194_0⟩ := Kd.at_int (Kd.R_reads' HO_8.out).2.2 x11_3 p194 q194
                              cases e194
                              replace p194 := eq_true p194
                              replace q194 := eq_true q194
                              go_wp2
                              repeat (go_quiet (fail); try go_wp2)
                              go_ret
                              exact ⟨by first | rfl | (simp [errW_none, errW_some] <;> rfl) | (simp [*, errW_none, errW_some] <;> rfl), by repeat (first | (with_reducible first | exact HB.out | apply below_alloc | apply pw_below_drewN | apply below_drew1) | exact HB.out)⟩
                          · rw [if_neg c34] at H
                            exact absurd H (by simp)
                        · rw [if_neg c33] at H
                          exact absurd H (by simp)
                      · rw [if_neg c32] at H
                        have c32b0 : decide ((l1.length : Int) ≤ x11_3) = false := decide_eq_false c32
                        clear c32
                        have H' := Aside0.mk H
                        clear H
                        go_wp2
                        repeat (go_quiet (fail); try go_wp2)
                        go_roundg k3
                        case measure => have := HJ3.out; have := HJ11.out; have := HK3.out; omega
                        case rel => exact ⟨(wrap64 (x11_3 + 1)), (by first | rfl | (simp; done) | (simp [*]; done)), H', ⟨by have := HJ3.out; have := HJ11.out; have := HK3.out; omega⟩, ⟨by (with_reducible repeat (first | apply Kd.R_alloc | apply Kd.R_drewN | apply Kd.R_drew)); exact HO_8.out⟩, ⟨by repeat (first | (with_reducible first | exact HB.out | apply below_alloc | apply pw_below_drewN | apply below_drew1) | exact HB.out)⟩⟩
                  · rw [if_neg c21] at H
                    have c21b0 : decide (x11_3 < 248) = false := decide_eq_false c21
                    clear c21
                    obtain rfl := Option.some.inj H
                    go_wp2
                    repeat (go_quiet (fail); try go_wp2)
                    go_ret
                    exact ⟨by first | rfl | (simp [errW_none, errW_some] <;> rfl) | (simp [*, errW_none, errW_some] <;> rfl), by repeat (first | (with_reducible first | exact HB.out | apply below_alloc | apply pw_below_drewN | apply below_drew1) | exact HB.out)⟩

/-- THE ONE PURE STATEMENT of bobbinlaw02_FrameBack: yours. -/
def bobbinlaw02_FrameBack.Pure : Prop := ∀ (a0 : Int) (l1 : List Int), (Lit.int .i64 a0).wf = true → l1.length ≤ maxLen → l1.length * 1 ≤ 140737488351232 → (∀ x ∈ l1, (Lit.int .u8 x).wf = true) → ∃ k, bobbinlaw02_FrameBack.f k a0 l1 = some true
theorem bobbinlaw02_FrameBack.walk (P : bobbinlaw02_FrameBack.Pure) (a0 : Int) (a1 : Option Addr) (len1 cap1 : Nat) (z1 : List Int) (w : World) (w0 : (Lit.int .i64 a0).wf = true) (w1 : (a1 = none ∧ len1 = 0 ∧ cap1 = 0 ∧ z1 = []) ∨ ∃ x, a1 = some x ∧ len1 ≤ cap1 ∧ cap1 ≤ maxLen ∧ z1.length = cap1 ∧ (∀ i, i < z1.length → w.cell? (x.add i) = some (.int .u8 (z1.getD i 0))) ∧ ∀ n ∈ z1, (Lit.int .u8 n).wf = true) (y1 : len1 * 1 ≤ 140737488351232) :
    Calls Try.prog 5 #[.int .i64 a0, .slice a1 len1 cap1] w fun e w' => e = .returned (.bool true) ∧ Below w.heap.size w w' := by
  obtain ⟨l1, rfl, hr1, hm1, hw1, hc1⟩ := ReadsInt.ofRowC w1
  obtain ⟨k, h⟩ := P a0 l1 w0 hm1 y1 hw1
  refine (bobbinlaw02_FrameBack.calls k a0 _ _ l1 true w (Kd.C_of_reads (d := (0 : Int)) (h1 := fun _ => rfl) hr1) hc1 h).mono ?_
  rintro e w' ⟨rfl, hd⟩
  exact ⟨rfl, hd⟩

end Go.Proofs.Ytckmagmfanemiaa.Print
