-- Written by a program of this session (myprint.py over the kit's print.py) out of the translation. Not trusted: Lean checks it.
import Derived.Test.YtdpdghahmapgkaaPrint0
namespace Go.Proofs.Ytdpdghahmapgkaa.Print
open Go.RowKit Go.Proofs.YtdpdghahmapgkaaW.PrintWords Go.Proofs.YtdpdghahmapgkaaW.PrintLast Go.Proofs.YtdpdghahmapgkaaW.PrintMore
attribute [local go_sem] max2_int min2_int max_two min_two max_three min_three max_four min_four   -- for this text's walks alone
set_option linter.unusedVariables false
set_option linter.unusedSimpArgs false

-- NOT PRINTED: function 15 (wait_reached)

/-- The list as pairs. -/
def wait_Reach.wl (l : List S29) : Hand.WL := l.map (fun x => (x.f0, x.f1))
theorem wait_Reach.map_C {α β : Type} {d : Kd α} {f : β → α} {w : World} {A : Option Addr} {n : Nat} {xs : List β} (h : Kd.C (Kd.iso d f) w A n xs) : Kd.C d w A n (xs.map f) :=
  ⟨by rw [List.length_map]; exact h.1, h.2.1, fun hn => by
    obtain ⟨ad, e, hc⟩ := h.2.2 hn
    refine ⟨ad, e, fun j p hj => ?_⟩
    rw [List.getElem?_map] at hj
    obtain ⟨x, hx, rfl⟩ := Option.map_eq_some_iff.1 hj
    exact hc j x hx⟩
def wait_Reach.f (l0 : List S29) (a1 a2 : Int) : Option Bool := if Hand.fits (wait_Reach.wl l0) = true then some (Hand.rch (wait_Reach.wl l0) a1 a2) else none
theorem wait_Reach.calls (A0 : Option Addr) (c0 : Nat) (l0 : List S29) (a1 a2 : Int) (r : Bool) (w : World) (hr0 : Kd.C k29 w A0 l0.length l0) (hc0 : l0.length ≤ c0) (h : wait_Reach.f l0 a1 a2 = some r) :
    Calls Try.prog 10 #[.slice A0 l0.length c0, .int .i64 a1, .int .i64 a2] w fun e w' => e = .returned (.bool r) ∧ Below w.heap.size w w' := by
  unfold wait_Reach.f at h
  by_cases hf : Hand.fits (wait_Reach.wl l0) = true
  · rw [if_pos hf] at h
    obtain rfl := Option.some.inj h
    have hl : (wait_Reach.wl l0).length = l0.length := by simp [wait_Reach.wl]
    have hC := wait_Reach.map_C hr0
    have := Hand.reach_calls (wait_Reach.wl l0) a1 a2 A0 c0 w (by rw [hl]; exact hC) hf
    rw [hl] at this
    exact this
  · rw [if_neg hf] at h
    cases h

/-! ### wait_Circle: function 12 -/
def wait_Circle.f (l0 : List (S29)) (a1 : Int) : Option (Bool) := (wait_Reach.f l0 a1 a1).bind fun t101 => (some t101)
set_option maxHeartbeats 8000000 in
set_option maxRecDepth 100000 in
theorem wait_Circle.calls (A0 : Option Addr) (c0 : Nat) (l0 : List (S29)) (a1 : Int) (r : Bool) (w : World) (hr0 : Kd.C k29 w A0 l0.length l0) (hc0 : l0.length ≤ c0) (h : wait_Circle.f l0 a1 = some r) :
    Calls Try.prog 12 #[.slice A0 l0.length c0, .int .i64 a1] w fun e w' => e = .returned (.bool r) ∧ Below w.heap.size w w' := by
  have HR0 := Aside0.mk hr0
  have HC0 := Aside0.mk hc0
  clear hr0 hc0
  have HB := Aside0.mk (Below.refl w.heap.size w)
  have H : ((wait_Reach.f l0 a1 a1).bind fun t101 => (some t101)) = some r := h
  clear h
  replace H := Option.bind_eq_some_iff.mp H
  obtain ⟨t101, A30, H⟩ := H
  replace H : (some t101) = some r := H
  have A3 := Aside0.mk A30
  clear A30
  obtain rfl := Option.some.inj H
  go_enter Try.func12, Try.ntmps12
  go_wp2_with (first | ((with_reducible refine gate_callee (f := 10) rfl ?_); refine goesL_ (some 8) rfl rfl Try.func10 (by kernel_rfl) rfl #[.slice A0 l0.length c0, .int .i64 a1, .int .i64 a1] rfl (by (try simp only [List.map_toArray, List.map_cons, List.map_nil]); first | done | rfl | (simp only [List.length_drop, List.length_take]; rfl)) ?_; (with_reducible refine (wait_Reach.calls _ _ l0 a1 a1 t101 _ ?side1 ?side2 A3.out).mono ?_); (case side1 => repeat (first | exact HR0.out | (with_reducible refine Kd.C_alloc ?_ _) | (with_reducible refine Kd.C_drewN ?_ _) | (with_reducible refine Kd.C_drew ?_))); (case side2 => exact HC0.out); rintro e w4 ⟨rfl, hb⟩; refine ⟨_, rfl, ?_⟩; have n0_ := Aside0.mk (below_step (by repeat (first | (with_reducible first | exact HB.out | apply below_alloc | apply pw_below_drewN | apply below_drew1) | exact HB.out)) hb); clear HB; have HB := n0_; clear n0_; (try clear hb); (try clear hb2); (try clear hk); (try clear hi)))
  go_ret
  exact ⟨by first | rfl | (simp [errW_none, errW_some] <;> rfl) | (simp [*, errW_none, errW_some] <;> rfl), by repeat (first | (with_reducible first | exact HB.out | apply below_alloc | apply pw_below_drewN | apply below_drew1) | exact HB.out)⟩

-- NOT PRINTED: function 21 (api_Wait_21)

-- NOT PRINTED: function 18 (api_Wait_18)

def wait_Still.f (l0 : List S29) : Option Bool := if Hand.fits (wait_Reach.wl l0) = true then some (!l0.any (fun x => Hand.rch (wait_Reach.wl l0) x.f0 x.f0)) else none
theorem wait_Still.circle (A0 : Option Addr) (c0 : Nat) (l0 : List S29) (a1 : Int) (w : World) (hr0 : Kd.C k29 w A0 l0.length l0) (hc0 : l0.length ≤ c0) (hf : Hand.fits (wait_Reach.wl l0) = true) :
    Calls Try.prog 12 #[.slice A0 l0.length c0, .int .i64 a1] w fun e w' => e = .returned (.bool (Hand.rch (wait_Reach.wl l0) a1 a1)) ∧ Below w.heap.size w w' := by
  have h : wait_Reach.f l0 a1 a1 = some (Hand.rch (wait_Reach.wl l0) a1 a1) := by unfold wait_Reach.f; rw [if_pos hf]
  have HR := Aside0.mk hr0
  clear hr0
  have H := Aside0.mk h
  clear h
  go_enter Try.func12, Try.ntmps12
  go_wp2_with (go_at_call 10; refine (wait_Reach.calls A0 c0 l0 a1 a1 _ _ HR.out hc0 H.out).mono ?_; rintro e w1 ⟨rfl, hb⟩; replace hb := Aside0.mk hb)
  go_ret
  exact ⟨rfl, hb.out⟩
/-- An element's cells. -/
theorem wait_Still.cells {W : World} {A : Option Addr} {n : Nat} {xs : List S29} (h : Kd.C k29 W A n xs) (i : Nat) (hi : i < n) :
    ∃ ad A1 c1, A = some ad ∧ W.cell? (ad.add (i * 2)) = some (.int .i64 (xs.getD i z29).f0) ∧ W.cell? ⟨(ad.add (i * 2)).block, (ad.add (i * 2)).off + 1, none⟩ = some (.slice A1 (xs.getD i z29).f1.length c1) := by
  obtain ⟨ad, A1, c1, e, h0, h1, _⟩ := at_T29 h (i : Int) (by omega) (by omega)
  rw [show ((i : Int)).toNat = i by omega] at h0 h1
  exact ⟨ad, A1, c1, e, h0, h1⟩
set_option maxHeartbeats 1000000 in
set_option maxRecDepth 100000 in
theorem wait_Still.clo (x : S29) (A1 : Option Addr) (c1 : Nat) (a : Addr) (A0 : Option Addr) (c0 : Nat) (l0 : List S29) (w : World) (hc : w.cell? a = some (.slice A0 l0.length c0)) (hr0 : Kd.C k29 w A0 l0.length l0) (hc0 : l0.length ≤ c0) (hf : Hand.fits (wait_Reach.wl l0) = true) :
    Calls Try.prog 19 #[.agg #[.int .i64 x.f0, .slice A1 x.f1.length c1], .pointer (some a)] w fun e w' => e = .returned (.bool (Hand.rch (wait_Reach.wl l0) x.f0 x.f0)) ∧ Below w.heap.size w w' := by
  have hl := World.block_lt_of_cell? w a hc
  have HR := Aside0.mk hr0
  clear hr0
  go_enter Try.func19, Try.ntmps19
  go_wp2_with (go_at_call 12; refine (wait_Still.circle A0 c0 l0 _ _ (Kd.C_below HR.out (below_alloc (Below.refl _ _) _)) hc0 hf).mono ?_; rintro e w1 ⟨rfl, hb⟩; replace hb := Aside0.mk hb)
  go_ret
  exact ⟨rfl, below_then (below_alloc (Below.refl _ _) _) (by simp) hb.out⟩
def wait_Still.idx (P : S29 → Bool) (l : List S29) : Int := match l.findIdx? P with | some i => (i : Int) | none => -1
theorem wait_Still.idx_none {P : S29 → Bool} {l : List S29} (h : ∀ j, j < l.length → P (l.getD j z29) = false) : wait_Still.idx P l = -1 := by
  have : l.findIdx? P = none := by
    rw [List.findIdx?_eq_none_iff]
    intro x hx
    obtain ⟨j, hj, rfl⟩ := List.mem_iff_getElem.1 hx
    have := h j hj
    rwa [List.getD_eq_getElem?_getD, List.getElem?_eq_getElem hj] at this
  unfold wait_Still.idx
  rw [this]
theorem wait_Still.idx_some {P : S29 → Bool} {l : List S29} {k : Nat} (hk : k < l.length) (h : ∀ j, j < k → P (l.getD j z29) = false) (h1 : P (l.getD k z29) = true) : wait_Still.idx P l = (k : Int) := by
  have : l.findIdx? P = some k := by
    rw [List.findIdx?_eq_some_iff_getElem]
    refine ⟨hk, ?_, fun j hj => ?_⟩
    · rwa [List.getD_eq_getElem?_getD, List.getElem?_eq_getElem hk] at h1
    · have := h j hj
      rw [List.getD_eq_getElem?_getD, List.getElem?_eq_getElem (show j < l.length by omega)] at this
      simpa using this
  unfold wait_Still.idx
  rw [this]
theorem wait_Still.idx_any (P : S29 → Bool) (l : List S29) : decide (0 ≤ wait_Still.idx P l) = l.any P := by
  unfold wait_Still.idx
  cases h : l.findIdx? P with
  | none =>
    rw [List.findIdx?_eq_none_iff] at h
    have : l.any P = false := by rw [List.any_eq_false]; intro x hx; rw [h x hx]; decide
    simp [this]
  | some i =>
    obtain ⟨hi, h1, _⟩ := List.findIdx?_eq_some_iff_getElem.1 h
    have : l.any P = true := List.any_eq_true.2 ⟨_, List.getElem_mem hi, h1⟩
    rw [this]
    simp
set_option maxHeartbeats 1000000 in
set_option maxRecDepth 100000 in
theorem wait_Still.ixf (a : Addr) (A0 : Option Addr) (c0 : Nat) (l0 : List S29) (W : World) (hc : W.cell? a = some (.slice A0 l0.length c0)) (hr0 : Kd.C k29 W A0 l0.length l0) (hc0 : l0.length ≤ c0) (hf : Hand.fits (wait_Reach.wl l0) = true)
    (P : S29 → Bool) (hP : P = fun x => Hand.rch (wait_Reach.wl l0) x.f0 x.f0) :
    Calls Try.prog 21 #[.slice A0 l0.length c0, .func (.func 19) #[] #[.pointer (some a)]] W fun e w' => e = .returned (.int .i64 (wait_Still.idx P l0)) ∧ Below W.heap.size W w' := by
  have HR := Aside0.mk hr0
  have HC := Aside0.mk hc
  have hlt := World.block_lt_of_cell? W a hc
  have hm : l0.length ≤ 9223372036854775807 := hr0.2.1
  clear hr0 hc
  go_enter Try.func21, Try.ntmps21
  go_wp2_with fail
  go_loopw [5, 8] (fun v5 v8 wr => ∃ k : Nat, k ≤ l0.length ∧ v8 = .int .i64 k ∧ Aside0 (∀ j, j < k → P (l0.getD j z29) = false) ∧ Aside0 (Below W.heap.size W wr)) (fun _ v8 _ => l0.length - (intOf v8).toNat)
  case atStart => exact ⟨0, Nat.zero_le _, rfl, ⟨fun j hj => absurd hj (by omega)⟩, ⟨Below.refl _ _⟩⟩
  case round =>
    obtain ⟨k, hk, rfl, HN, HB⟩ := hrel
    by_cases hlk : k < l0.length
    · obtain ⟨ad, A1, c1, hA, h0, h1⟩ := wait_Still.cells (Kd.C_below HR.out HB.out) k hlk
      have hcw : wr.cell? a = some (.slice A0 l0.length c0) := (HB.out.cell hlt).trans HC.out
      have hCw := Aside0.mk (Kd.C_below HR.out HB.out)
      have HN1 := wait_Still.idx_some (P := P) hlk HN.out
      have HN2 : P (l0.getD k z29) = false → ∀ j, j < k + 1 → P (l0.getD j z29) = false := fun h j hj => by
        by_cases e : j = k
        · rw [e]; exact h
        · exact HN.out j (by omega)
      replace HN1 := Aside0.mk HN1
      replace HN2 := Aside0.mk HN2
      generalize l0.getD k z29 = x at *
      replace hcw := Aside0.mk hcw
      have hcl := Aside0.mk (wait_Still.clo x A1 c1 a A0 c0 l0 wr hcw.out hCw.out hc0 hf)
      subst hA
      by_cases hx : P x = true
      · have hx' := Aside0.mk (show Hand.rch (wait_Reach.wl l0) x.f0 x.f0 = true by rw [hP] at hx; exact hx)
        replace hx := Aside0.mk hx
        go_wp2_with (go_at_call 19; refine hcl.out.mono ?_; rintro e w1 ⟨rfl, hb⟩; rw [hx'.out]; replace hb := Aside0.mk hb)
        go_ret
        exact ⟨by rw [HN1.out hx.out]; rfl, below_then HB.out HB.out.size hb.out⟩
      · replace hx := Bool.eq_false_iff.mpr hx
        have hx' := Aside0.mk (show Hand.rch (wait_Reach.wl l0) x.f0 x.f0 = false by rw [hP] at hx; exact hx)
        replace hx := Aside0.mk hx
        go_wp2_with (go_at_call 19; refine hcl.out.mono ?_; rintro e w1 ⟨rfl, hb⟩; rw [hx'.out]; replace hb := Aside0.mk hb)
        go_roundw
        case rel => exact ⟨k + 1, by omega, by go_num, ⟨HN2.out hx.out⟩, ⟨below_then HB.out HB.out.size hb.out⟩⟩
        case measure => simp [intOf]; omega
    · obtain rfl : k = l0.length := by omega
      go_wp2_with fail
      go_ret
      exact ⟨by rw [wait_Still.idx_none HN.out]; rfl, HB.out⟩
set_option maxHeartbeats 1000000 in
set_option maxRecDepth 100000 in
theorem wait_Still.any (a : Addr) (A0 : Option Addr) (c0 : Nat) (l0 : List S29) (W : World) (hc : W.cell? a = some (.slice A0 l0.length c0)) (hr0 : Kd.C k29 W A0 l0.length l0) (hc0 : l0.length ≤ c0) (hf : Hand.fits (wait_Reach.wl l0) = true) :
    Calls Try.prog 18 #[.slice A0 l0.length c0, .func (.func 19) #[] #[.pointer (some a)]] W fun e w' => e = .returned (.bool (l0.any (fun x => Hand.rch (wait_Reach.wl l0) x.f0 x.f0))) ∧ Below W.heap.size W w' := by
  have HR := Aside0.mk hr0
  have HC := Aside0.mk hc
  clear hr0 hc
  go_enter Try.func18, Try.ntmps18
  go_wp2_with (go_at_call 21; refine (wait_Still.ixf a A0 c0 l0 _ HC.out HR.out hc0 hf _ rfl).mono ?_; rintro e w1 ⟨rfl, hb⟩; replace hb := Aside0.mk hb)
  go_ret
  exact ⟨by rw [← wait_Still.idx_any]; rfl, hb.out⟩
set_option maxHeartbeats 1000000 in
set_option maxRecDepth 100000 in
theorem wait_Still.calls (A0 : Option Addr) (c0 : Nat) (l0 : List S29) (r : Bool) (w : World) (hr0 : Kd.C k29 w A0 l0.length l0) (hc0 : l0.length ≤ c0) (h : wait_Still.f l0 = some r) :
    Calls Try.prog 13 #[.slice A0 l0.length c0] w fun e w' => e = .returned (.bool r) ∧ Below w.heap.size w w' := by
  unfold wait_Still.f at h
  by_cases hf : Hand.fits (wait_Reach.wl l0) = true
  · rw [if_pos hf] at h
    obtain rfl := Option.some.inj h
    have HR := Aside0.mk hr0
    clear hr0 h
    go_enter Try.func13, Try.ntmps13
    go_wp2_with (go_at_call 18; refine (wait_Still.any _ A0 c0 l0 _ ?hc (Kd.C_below HR.out (below_alloc (Below.refl _ _) _)) hc0 hf).mono ?_; (case hc => go_simp); rintro e w1 ⟨rfl, hb⟩; replace hb := Aside0.mk hb)
    go_ret
    exact ⟨by simp, below_then (below_alloc (Below.refl _ _) _) (by simp) hb.out⟩
  · rw [if_neg hf] at h
    cases h

def bobbinlaw13_awake.f : Option Bool := some true
theorem bobbinlaw13_awake.one {W : World} {g : Nat} {x : Int} (h : W.heap[g]? = some (.cells #[.int .i64 x] 3 (0, 0))) : Kd.C (Kd.int .i64) W (some ⟨g, 0, none⟩) 1 [x] :=
  ⟨rfl, by decide, fun _ => ⟨_, rfl, fun j p hj => by
    match j, hj with
    | 0, hj =>
      obtain rfl := Option.some.inj hj
      refine ⟨[.int .i64 x], rfl, rfl, fun i u hi => ?_⟩
      match i, hi with
      | 0, hi =>
        obtain rfl := Option.some.inj hi
        show W.cell? ⟨g, 0, none⟩ = _
        simp [World.cell?, h]
      | i + 1, hi => simp at hi
    | j + 1, hj => simp at hj⟩⟩
/-- A row of so many that wait, each for one. -/
theorem bobbinlaw13_awake.many {W : World} {g e n : Nat} {cur : Array Value} (h : W.heap[g]? = some (.cells cur e (0, 0))) (xs : List S29) (hn : xs.length = n) (h63 : n ≤ 9223372036854775807)
    (hx : ∀ j x, xs[j]? = some x → ∃ A c, x.f1.length ≤ c ∧ Kd.C (Kd.int .i64) W A x.f1.length x.f1 ∧ cur[j * 2]? = some (.int .i64 x.f0) ∧ cur[j * 2 + 1]? = some (.slice A x.f1.length c)) :
    Kd.C k29 W (some ⟨g, 0, none⟩) n xs :=
  ⟨hn, h63, fun _ => ⟨_, rfl, fun j x hj => by
    obtain ⟨A, c, hl, hC, c0, c1⟩ := hx j x hj
    refine ⟨[.int .i64 x.f0, .slice A x.f1.length c], rfl, k29_mk W x hl hC, fun i u hi => ?_⟩
    rw [show k29.sz = 2 from rfl, add_plain g]
    match i, hi with
    | 0, hi =>
      obtain rfl := Option.some.inj hi
      simp [World.cell?, h, c0]
    | 1, hi =>
      obtain rfl := Option.some.inj hi
      simp [World.cell?, h, c1]
    | i + 2, hi => simp at hi⟩⟩
theorem bobbinlaw13_awake.five (w : World) (o0 o1 o2 o3 o4 : Obj) : ∃ W, ((((w.alloc o0).alloc o1).alloc o2).alloc o3).alloc o4 = W ∧ W.heap.size = w.heap.size + 5 ∧ Below w.heap.size w W ∧ W.heap[w.heap.size]? = some o0 ∧ W.heap[w.heap.size + 1]? = some o1 ∧ W.heap[w.heap.size + 1 + 1]? = some o2 ∧
    W.heap[w.heap.size + 1 + 1 + 1]? = some o3 ∧ W.heap[w.heap.size + 1 + 1 + 1 + 1]? = some o4 := by
  have e : ∀ (X : World) (o : Obj) (n : Nat), X.heap.size = n → (X.alloc o).heap[n]? = some o := fun X o n h => by subst h; exact World.alloc_heap_new X o
  refine ⟨_, rfl, by simp, ((((((Below.refl _ w).alloc (Nat.le_refl _) _).alloc (by simp) _).alloc (by simp only [World.size_alloc]; omega) _).alloc (by simp only [World.size_alloc]; omega) _).alloc (by simp only [World.size_alloc]; omega) _), ?_, ?_, ?_, ?_, e _ _ _ (by simp)⟩
  · rw [Below.heap_alloc _ _ _ (by simp only [World.size_alloc]; omega), Below.heap_alloc _ _ _ (by simp only [World.size_alloc]; omega), Below.heap_alloc _ _ _ (by simp only [World.size_alloc]; omega), Below.heap_alloc _ _ _ (by simp only [World.size_alloc]; omega)]; exact e _ _ _ (by simp)
  · rw [Below.heap_alloc _ _ _ (by simp only [World.size_alloc]; omega), Below.heap_alloc _ _ _ (by simp only [World.size_alloc]; omega), Below.heap_alloc _ _ _ (by simp only [World.size_alloc]; omega)]; exact e _ _ _ (by simp)
  · rw [Below.heap_alloc _ _ _ (by simp only [World.size_alloc]; omega), Below.heap_alloc _ _ _ (by simp only [World.size_alloc]; omega)]; exact e _ _ _ (by simp)
  · rw [Below.heap_alloc _ _ _ (by simp only [World.size_alloc]; omega)]; exact e _ _ _ (by simp)
theorem bobbinlaw13_awake.cell {W : World} {g e : Nat} {l : List Value} (h : W.heap[g]? = some (.cells l.toArray e (0, 0))) {j : Nat} {u : Value} (hj : l[j]? = some u) : W.cell? ((⟨g, 0, none⟩ : Addr).add j) = some u := by
  rw [add_plain g]
  simp [World.cell?, h, hj]
theorem bobbinlaw13_awake.told {w W w4 : World} {v' : Value} (hs : W.heap.size = w.heap.size + 5) (hB : Below w.heap.size w W) (x0 : W.heap[w.heap.size]? = some (.cells #[.int .i64 2] 3 (0, 0))) (x1 : W.heap[w.heap.size + 1]? = some (.cells #[.int .i64 3] 3 (0, 0)))
    (x2 : W.heap[w.heap.size + 1 + 1]? = some (.cells #[.int .i64 1, .slice (some ⟨w.heap.size, 0, none⟩) 1 1, .int .i64 2, .slice (some ⟨w.heap.size + 1, 0, none⟩) 1 1] 29 (0, 0))) (x3 : W.heap[w.heap.size + 1 + 1 + 1]? = some (.cells #[.int .i64 1] 3 (0, 0)))
    (hown : w4.ownsRow W.heap.size 29 2 v' (2 + 1) ([Value.int .i64 1, .slice (some ⟨w.heap.size, 0, none⟩) 1 1, .int .i64 2, .slice (some ⟨w.heap.size + 1, 0, none⟩) 1 1] ++ [Value.int .i64 3, .slice (some ⟨w.heap.size + 1 + 1 + 1, 0, none⟩) 1 1])) (hg : W.grownBy w4 none) :
    ∃ g' c', v' = .slice (some ⟨g', 0, none⟩) 3 c' ∧ (Kd.C k29 w4 (some ⟨g', 0, none⟩) 3 [⟨1, [2]⟩, ⟨2, [3]⟩, ⟨3, [1]⟩] ∧ 3 ≤ c') ∧ Kd.C k29 w4 (some ⟨w.heap.size + 1 + 1, 0, none⟩) 2 [⟨1, [2]⟩, ⟨2, [3]⟩] ∧ Below w.heap.size w w4 := by
  have keep : ∀ k o, W.heap[k]? = some o → w4.heap[k]? = some o := fun k o h => (hg.block k (Array.getElem?_eq_some_iff.1 h).1 (by simp)).trans h
  have c0 := bobbinlaw13_awake.one (keep _ _ x0)
  have c1 := bobbinlaw13_awake.one (keep _ _ x1)
  have c3 := bobbinlaw13_awake.one (keep _ _ x3)
  rcases hown.2 with ⟨_, h0⟩ | ⟨g, cap, cur, rfl, hbg, hh, hn, hm, hsz, ht⟩
  · cases h0
  have hcur : ∀ j, j < 6 → cur[j]? = ([Value.int .i64 1, .slice (some ⟨w.heap.size, 0, none⟩) 1 1, .int .i64 2, .slice (some ⟨w.heap.size + 1, 0, none⟩) 1 1] ++ [Value.int .i64 3, .slice (some ⟨w.heap.size + 1 + 1 + 1, 0, none⟩) 1 1])[j]? := fun j hj => by
    rw [← ht, List.getElem?_take_of_lt (by omega)]
    simp
  refine ⟨g, cap, rfl, ⟨bobbinlaw13_awake.many hh _ rfl (by decide) (fun j x hj => ?_), hn⟩, bobbinlaw13_awake.many (keep _ _ x2) _ rfl (by decide) (fun j x hj => ?_), hB.grown hg (by omega) (fun k e => by cases e)⟩
  · match j, hj with
    | 0, hj => obtain rfl := Option.some.inj hj; exact ⟨_, _, Nat.le_refl _, c0, hcur 0 (by decide), hcur 1 (by decide)⟩
    | 1, hj => obtain rfl := Option.some.inj hj; exact ⟨_, _, Nat.le_refl _, c1, hcur 2 (by decide), hcur 3 (by decide)⟩
    | 2, hj => obtain rfl := Option.some.inj hj; exact ⟨_, _, Nat.le_refl _, c3, hcur 4 (by decide), hcur 5 (by decide)⟩
    | j + 3, hj => simp at hj
  · match j, hj with
    | 0, hj => obtain rfl := Option.some.inj hj; exact ⟨_, _, Nat.le_refl _, c0, rfl, rfl⟩
    | 1, hj => obtain rfl := Option.some.inj hj; exact ⟨_, _, Nat.le_refl _, c1, rfl, rfl⟩
    | j + 2, hj => simp at hj
set_option maxHeartbeats 1000000 in
set_option maxRecDepth 100000 in
theorem bobbinlaw13_awake.calls (r : Bool) (w : World) (h : bobbinlaw13_awake.f = some r) :
    Calls Try.prog 8 #[] w fun e w' => e = .returned (.bool r) ∧ Below w.heap.size w w' := by
  obtain rfl := Option.some.inj h
  clear h
  obtain ⟨i29, hi, hz0, hz1, hz2⟩ := info_parts info29
  obtain ⟨W5, hW5, hs5, hB5, x0, x1, x2, x3, x4⟩ := bobbinlaw13_awake.five w (.cells #[.int .i64 2] 3) (.cells #[.int .i64 3] 3) (.cells #[.int .i64 1, .slice (some ⟨w.heap.size, 0, none⟩) 1 1, .int .i64 2, .slice (some ⟨w.heap.size + 1, 0, none⟩) 1 1] 29) (.cells #[.int .i64 1] 3) (.cells #[.int .i64 3, .slice (some ⟨w.heap.size + 1 + 1 + 1, 0, none⟩) 1 1] 29)
  replace hW5 := Aside0.mk hW5
  replace x0 := Aside0.mk x0
  replace x1 := Aside0.mk x1
  replace x2 := Aside0.mk x2
  replace x3 := Aside0.mk x3
  replace x4 := Aside0.mk x4
  go_enter Try.func8, Try.ntmps8
  go_wp2_with (at_builtin; refine wpList_append_grows _ rfl _ _ 22 rfl 29 i29 _ 2 32 Try.underlying22 hi hz0 hz1 hz2 rfl (by decide) (some ⟨w.heap.size + 1 + 1, 0, none⟩) 2 2 [.int .i64 1, .slice (some ⟨w.heap.size, 0, none⟩) 1 1, .int .i64 2, .slice (some ⟨w.heap.size + 1, 0, none⟩) 1 1] rfl (fun h => by cases h) rfl ?aO ⟨w.heap.size + 1 + 1 + 1 + 1, 0, none⟩ 1 1 [.int .i64 3, .slice (some ⟨w.heap.size + 1 + 1 + 1, 0, none⟩) 1 1] rfl rfl ?aN ?aC (by decide) (by decide) (by decide) ?_; (case aO => rw [hW5.out]; rintro b hb j u hj; cases hb; exact bobbinlaw13_awake.cell x2.out hj); (case aN => rw [hW5.out]; rintro j u hj; exact bobbinlaw13_awake.cell x4.out hj); (case aC => intro u hu; simp at hu; rcases hu with rfl | rfl <;> rfl); rw [hW5.out]; intro v' w4 hown hgrow; replace hown := Aside0.mk hown; replace hgrow := Aside0.mk hgrow)
  obtain ⟨g', c', hv', hm, hl, hB⟩ := bobbinlaw13_awake.told hs5 hB5 x0.out x1.out x2.out x3.out hown.out hgrow.out
  subst hv'
  replace hl := Aside0.mk hl
  replace hm := Aside0.mk hm
  replace hB := Aside0.mk hB
  have hl' : ∀ {X : World}, Below w4.heap.size w4 X → Kd.C k29 X (some ⟨w.heap.size + 1 + 1, 0, none⟩) 2 [⟨1, [2]⟩, ⟨2, [3]⟩] := fun h => Kd.C_below hl.out h
  have hm' : ∀ {X : World}, Below w4.heap.size w4 X → Kd.C k29 X (some ⟨g', 0, none⟩) 3 [⟨1, [2]⟩, ⟨2, [3]⟩, ⟨3, [1]⟩] := fun h => Kd.C_below hm.out.1 h
  have hc3 := Aside0.mk hm.out.2
  replace hl' := Aside0.mk @hl'
  replace hm' := Aside0.mk @hm'
  refine (wait_Reach.calls (some ⟨w.heap.size + 1 + 1, 0, none⟩) 2 [⟨1, [2]⟩, ⟨2, [3]⟩] 1 3 true w4 hl.out (Nat.le_refl _) (by decide +kernel)).mono ?_
  rintro e w5 ⟨rfl, hb5⟩
  replace hb5 := Aside0.mk hb5
  go_wp2_with (first | (go_at_call 10; refine (wait_Reach.calls (some ⟨w.heap.size + 1 + 1, 0, none⟩) 2 [⟨1, [2]⟩, ⟨2, [3]⟩] 3 1 false _ (hl'.out hb5.out) (Nat.le_refl _) (by decide +kernel)).mono ?_; rintro e w6 ⟨rfl, hc6⟩; have hb6 := Aside0.mk (below_then hb5.out hb5.out.size hc6); clear hc6) | (go_at_call 13; refine (wait_Still.calls (some ⟨w.heap.size + 1 + 1, 0, none⟩) 2 [⟨1, [2]⟩, ⟨2, [3]⟩] true _ (hl'.out hb6.out) (Nat.le_refl _) (by decide +kernel)).mono ?_; rintro e w7 ⟨rfl, hc7⟩; have hb7 := Aside0.mk (below_then hb6.out hb6.out.size hc7); clear hc7) | (go_at_call 13; refine (wait_Still.calls (some ⟨g', 0, none⟩) c' [⟨1, [2]⟩, ⟨2, [3]⟩, ⟨3, [1]⟩] false _ (hm'.out hb7.out) hc3.out (by decide +kernel)).mono ?_; rintro e w8 ⟨rfl, hc8⟩; have hb8 := Aside0.mk (below_then hb7.out hb7.out.size hc8); clear hc8) | (go_at_call 12; refine (wait_Circle.calls (some ⟨g', 0, none⟩) c' [⟨1, [2]⟩, ⟨2, [3]⟩, ⟨3, [1]⟩] 2 true _ (hm'.out hb8.out) hc3.out (by decide +kernel)).mono ?_; rintro e w9 ⟨rfl, hc9⟩; have hb9 := Aside0.mk (below_then hb8.out hb8.out.size hc9); clear hc9))
  go_ret
  exact ⟨rfl, below_then hB.out hB.out.size hb9.out⟩

/-! ### bobbinlaw13_few: function 9 -/
def bobbinlaw13_few.l0 : Nat → List (S29) → Int → Option (Bool)
  | 0, _, _ => none
  | k + 1, x0, x3 => if x3 < (x0.length : Int) then (if 0 ≤ x3 then (if (((rd_T29 x0 x3).f1).length : Int) > 20 then (some false) else (bobbinlaw13_few.l0 k x0 (wrap64 (x3 + 1)))) else (none)) else (some true)
theorem bobbinlaw13_few.l0_eq : ∀ (k : Nat) x0 x3, bobbinlaw13_few.l0 (k + 1) x0 x3 = (if x3 < (x0.length : Int) then (if 0 ≤ x3 then (if (((rd_T29 x0 x3).f1).length : Int) > 20 then (some false) else (bobbinlaw13_few.l0 k x0 (wrap64 (x3 + 1)))) else (none)) else (some true)) := fun _ _ _ => rfl
def bobbinlaw13_few.f (k : Nat) (l0 : List (S29)) : Option (Bool) := if (l0.length : Int) > 40 then (some false) else (bobbinlaw13_few.l0 k l0 0)
theorem bobbinlaw13_few.mono_l : ∀ k, (∀ y0 y1, LeO (bobbinlaw13_few.l0 k y0 y1) (bobbinlaw13_few.l0 (k + 1) y0 y1))
  | 0 => fun _ _ r h => by first | (cases h; done) | simp [bobbinlaw13_few.l0] at h
  | k + 1 => by
    have ih0 := bobbinlaw13_few.mono_l k
    · intro y0 y1
      unfold bobbinlaw13_few.l0
      repeat' first
      | (with_reducible exact ih0 _ _)
      | (with_reducible exact LeO.refl _)
      | (with_reducible exact LeO.none _)
      | (with_reducible refine LeO.ite ?_ ?_)
      | (with_reducible refine LeO.bind ?_ (fun _ => ?_))
      | exact ih0 _ _
      | exact LeO.none _
      | refine LeO.ite ?_ ?_
      | refine LeO.bind ?_ (fun _ => ?_)
theorem bobbinlaw13_few.mono : ∀ a0 k, LeO (bobbinlaw13_few.f k a0) (bobbinlaw13_few.f (k + 1) a0) := by
  intro a0 k
  have ih0 := bobbinlaw13_few.mono_l k
  unfold bobbinlaw13_few.f
  repeat' first
      | (with_reducible exact ih0 _ _)
      | (with_reducible exact LeO.refl _)
      | (with_reducible exact LeO.none _)
      | (with_reducible refine LeO.ite ?_ ?_)
      | (with_reducible refine LeO.bind ?_ (fun _ => ?_))
      | exact ih0 _ _
      | exact LeO.none _
      | refine LeO.ite ?_ ?_
      | refine LeO.bind ?_ (fun _ => ?_)
set_option maxHeartbeats 8000000 in
set_option maxRecDepth 100000 in
theorem bobbinlaw13_few.calls (k : Nat) (A0 : Option Addr) (c0 : Nat) (l0 : List (S29)) (r : Bool) (w : World) (hr0 : Kd.C k29 w A0 l0.length l0) (hc0 : l0.length ≤ c0) (h : bobbinlaw13_few.f k l0 = some r) :
    Calls Try.prog 9 #[.slice A0 l0.length c0] w fun e w' => e = .returned (.bool r) ∧ Drawn0 w w' := by
  have HR0 := Aside0.mk hr0
  have HC0 := Aside0.mk hc0
  clear hr0 hc0
  have H : (if (l0.length : Int) > 40 then (some false) else (bobbinlaw13_few.l0 k l0 0)) = some r := h
  clear h
  by_cases c2 : (l0.length : Int) > 40
  · rw [if_pos c2] at H
    have c2b0 : decide (40 < (l0.length : Int)) = true := decide_eq_true c2
    have c2b1 : decide (40 < l0.length) = true := decide_eq_true (by omega)
    clear c2
    obtain rfl := Option.some.inj H
    go_enter Try.func9, Try.ntmps9
    go_wp2
    go_ret
    exact ⟨by first | rfl | (simp; done) | (simp [*]; done), by repeat (first | exact Drawn0.refl _ | apply Drawn0.step)⟩
  · rw [if_neg c2] at H
    have c2b0 : decide (40 < (l0.length : Int)) = false := decide_eq_false c2
    have c2b1 : decide (40 < l0.length) = false := decide_eq_false (by omega)
    clear c2
    have H' := Aside0.mk H
    clear H
    go_enter Try.func9, Try.ntmps9
    go_wp2
    go_loopg [3] k (fun kq v3 w' => ∃ (x3_1 : Int), v3 = .int .i64 x3_1 ∧ Aside0 (bobbinlaw13_few.l0 kq l0 x3_1 = some r) ∧ Aside0 (kq ≤ k) ∧ Drawn0 w w')
    case atStart => exact ⟨(0), (by first | rfl | (simp; done) | (simp [*]; done)), H', ⟨Nat.le_refl _⟩, by repeat (first | exact Drawn0.refl _ | apply Drawn0.step)⟩
    case round =>
      clear H'
      try clear c2
      try clear c2b0
      try clear c2b1
      try clear p2
      obtain ⟨x3_1, rfl, HA, HK1, ⟨m1, rfl⟩⟩ := hrel
      cases gk with
      | zero => exact absurd HA.out (by first | (intro h_; cases h_; done) | simp [bobbinlaw13_few.l0])
      | succ k1 =>
        have H := HA.out
        clear HA
        rw [bobbinlaw13_few.l0_eq] at H
        by_cases c3 : x3_1 < (l0.length : Int)
        · rw [if_pos c3] at H
          have c3b0 : decide (x3_1 < (l0.length : Int)) = true := decide_eq_true c3
          clear c3
          by_cases c4 : 0 ≤ x3_1
          · rw [if_pos c4] at H
            have c4b0 : decide (0 ≤ x3_1) = true := decide_eq_true c4
            clear c4
            by_cases c5 : (((rd_T29 l0 x3_1).f1).length : Int) > 20
            · rw [if_pos c5] at H
              have c5b0 : decide (20 < (((rd_T29 l0 x3_1).f1).length : Int)) = true := decide_eq_true c5
              have c5b1 : decide (20 < ((rd_T29 l0 x3_1).f1).length) = true := decide_eq_true (by omega)
              clear c5
              obtain rfl := Option.some.inj H
              have p102 : 0 ≤ (x3_1 : Int) := of_decide_eq_true (by first | (with_reducible assumption) | assumption)
              have q102 : x3_1 < (l0.length : Int) := of_decide_eq_true (by first | (with_reducible assumption) | assumption)
              obtain ⟨ad102, A102_1, c102_1, e102, hx102_0, hx102_1, hl102_1, hi102_1⟩ := at_T29 HR0.out x3_1 p102 q102
              cases e102
              have HR102_1 := Aside0.mk hi102_1
              have HC102_1 := Aside0.mk hl102_1
              clear hi102_1 hl102_1
              replace p102 := eq_true p102
              replace q102 := eq_true q102
              go_wp2
              go_ret
              exact ⟨by first | rfl | (simp; done) | (simp [*]; done), by repeat (first | exact Drawn0.refl _ | apply Drawn0.step)⟩
            · rw [if_neg c5] at H
              have c5b0 : decide (20 < (((rd_T29 l0 x3_1).f1).length : Int)) = false := decide_eq_false c5
              have c5b1 : decide (20 < ((rd_T29 l0 x3_1).f1).length) = false := decide_eq_false (by omega)
              clear c5
              have H' := Aside0.mk H
              clear H
              have p102 : 0 ≤ (x3_1 : Int) := of_decide_eq_true (by first | (with_reducible assumption) | assumption)
              have q102 : x3_1 < (l0.length : Int) := of_decide_eq_true (by first | (with_reducible assumption) | assumption)
              obtain ⟨ad102, A102_1, c102_1, e102, hx102_0, hx102_1, hl102_1, hi102_1⟩ := at_T29 HR0.out x3_1 p102 q102
              cases e102
              have HR102_1 := Aside0.mk hi102_1
              have HC102_1 := Aside0.mk hl102_1
              clear hi102_1 hl102_1
              replace p102 := eq_true p102
              replace q102 := eq_true q102
              go_wp2
              go_roundg k1
              case measure => have := HK1.out; omega
              case rel => exact ⟨(wrap64 (x3_1 + 1)), (by first | rfl | (simp; done) | (simp [*]; done)), H', ⟨by have := HK1.out; omega⟩, by repeat (first | exact Drawn0.refl _ | apply Drawn0.step)⟩
          · rw [if_neg c4] at H
            exact absurd H (by simp)
        · rw [if_neg c3] at H
          have c3b0 : decide (x3_1 < (l0.length : Int)) = false := decide_eq_false c3
          clear c3
          obtain rfl := Option.some.inj H
          go_wp2
          go_ret
          exact ⟨by first | rfl | (simp; done) | (simp [*]; done), by repeat (first | exact Drawn0.refl _ | apply Drawn0.step)⟩

/-! ### bobbinref13_in: function 16 -/
def bobbinref13_in.l0 : Nat → List Int → Int → Int → Option (Bool)
  | 0, _, _, _ => none
  | k + 1, x0, x1, x5 => if x5 < (x0.length : Int) then (if 0 ≤ x5 then (if (rd x0 x5) = x1 then (some true) else (bobbinref13_in.l0 k x0 x1 (wrap64 (x5 + 1)))) else (none)) else (some false)
theorem bobbinref13_in.l0_eq : ∀ (k : Nat) x0 x1 x5, bobbinref13_in.l0 (k + 1) x0 x1 x5 = (if x5 < (x0.length : Int) then (if 0 ≤ x5 then (if (rd x0 x5) = x1 then (some true) else (bobbinref13_in.l0 k x0 x1 (wrap64 (x5 + 1)))) else (none)) else (some false)) := fun _ _ _ _ => rfl
def bobbinref13_in.f (k : Nat) (l0 : List Int) (a1 : Int) : Option (Bool) := bobbinref13_in.l0 k l0 a1 0
theorem bobbinref13_in.mono_l : ∀ k, (∀ y0 y1 y2, LeO (bobbinref13_in.l0 k y0 y1 y2) (bobbinref13_in.l0 (k + 1) y0 y1 y2))
  | 0 => fun _ _ _ r h => by first | (cases h; done) | simp [bobbinref13_in.l0] at h
  | k + 1 => by
    have ih0 := bobbinref13_in.mono_l k
    · intro y0 y1 y2
      unfold bobbinref13_in.l0
      repeat' first
      | (with_reducible exact ih0 _ _ _)
      | (with_reducible exact LeO.refl _)
      | (with_reducible exact LeO.none _)
      | (with_reducible refine LeO.ite ?_ ?_)
      | (with_reducible refine LeO.bind ?_ (fun _ => ?_))
      | exact ih0 _ _ _
      | exact LeO.none _
      | refine LeO.ite ?_ ?_
      | refine LeO.bind ?_ (fun _ => ?_)
theorem bobbinref13_in.mono : ∀ a0 a1 k, LeO (bobbinref13_in.f k a0 a1) (bobbinref13_in.f (k + 1) a0 a1) := by
  intro a0 a1 k
  have ih0 := bobbinref13_in.mono_l k
  unfold bobbinref13_in.f
  repeat' first
      | (with_reducible exact ih0 _ _ _)
      | (with_reducible exact LeO.refl _)
      | (with_reducible exact LeO.none _)
      | (with_reducible refine LeO.ite ?_ ?_)
      | (with_reducible refine LeO.bind ?_ (fun _ => ?_))
      | exact ih0 _ _ _
      | exact LeO.none _
      | refine LeO.ite ?_ ?_
      | refine LeO.bind ?_ (fun _ => ?_)
set_option maxHeartbeats 8000000 in
set_option maxRecDepth 100000 in
theorem bobbinref13_in.calls (k : Nat) (A0 : Option Addr) (c0 : Nat) (l0 : List Int) (a1 : Int) (r : Bool) (w : World) (hr0 : Kd.C (Kd.int .i64) w A0 l0.length l0) (hc0 : l0.length ≤ c0) (h : bobbinref13_in.f k l0 a1 = some r) :
    Calls Try.prog 16 #[.slice A0 l0.length c0, .int .i64 a1] w fun e w' => e = .returned (.bool r) ∧ Drawn0 w w' := by
  have HR0 := Aside0.mk hr0
  have HC0 := Aside0.mk hc0
  clear hr0 hc0
  have H : (bobbinref13_in.l0 k l0 a1 0) = some r := h
  clear h
  have H' := Aside0.mk H
  clear H
  go_enter Try.func16, Try.ntmps16
  go_wp2
  go_loopg [5] k (fun kq v5 w' => ∃ (x5_1 : Int), v5 = .int .i64 x5_1 ∧ Aside0 (bobbinref13_in.l0 kq l0 a1 x5_1 = some r) ∧ Aside0 (kq ≤ k) ∧ Drawn0 w w')
  case atStart => exact ⟨(0), (by first | rfl | (simp; done) | (simp [*]; done)), H', ⟨Nat.le_refl _⟩, by repeat (first | exact Drawn0.refl _ | apply Drawn0.step)⟩
  case round =>
    clear H'
    try clear c1
    try clear p2
    obtain ⟨x5_1, rfl, HA, HK1, ⟨m1, rfl⟩⟩ := hrel
    cases gk with
    | zero => exact absurd HA.out (by first | (intro h_; cases h_; done) | simp [bobbinref13_in.l0])
    | succ k1 =>
      have H := HA.out
      clear HA
      rw [bobbinref13_in.l0_eq] at H
      by_cases c3 : x5_1 < (l0.length : Int)
      · rw [if_pos c3] at H
        have c3b0 : decide (x5_1 < (l0.length : Int)) = true := decide_eq_true c3
        clear c3
        by_cases c4 : 0 ≤ x5_1
        · rw [if_pos c4] at H
          have c4b0 : decide (0 ≤ x5_1) = true := decide_eq_true c4
          clear c4
          by_cases c5 : (rd l0 x5_1) = a1
          · rw [if_pos c5] at H
            have c5b0 : ((rd l0 x5_1) == a1) = true := beq_iff_eq.mpr c5
            have c5b1 : ((rd l0 x5_1) != a1) = false := bne_eq_false_iff_eq.mpr c5
            clear c5
            obtain rfl := Option.some.inj H
            have p103 : 0 ≤ (x5_1 : Int) := of_decide_eq_true (by first | (with_reducible assumption) | assumption)
            have q103 : x5_1 < (l0.length : Int) := of_decide_eq_true (by first | (with_reducible assumption) | assumption)
            obtain ⟨ad103, e103, hx103_0⟩ := Kd.at_int HR0.out x5_1 p103 q103
            cases e103
            replace p103 := eq_true p103
            replace q103 := eq_true q103
            go_wp2
            go_ret
            exact ⟨by first | rfl | (simp; done) | (simp [*]; done), by repeat (first | exact Drawn0.refl _ | apply Drawn0.step)⟩
          · rw [if_neg c5] at H
            have c5b0 : ((rd l0 x5_1) == a1) = false := beq_eq_false_iff_ne.mpr c5
            have c5b1 : ((rd l0 x5_1) != a1) = true := bne_iff_ne.mpr c5
            have H' := Aside0.mk H
            clear H
            have p103 : 0 ≤ (x5_1 : Int) := of_decide_eq_true (by first | (with_reducible assumption) | assumption)
            have q103 : x5_1 < (l0.length : Int) := of_decide_eq_true (by first | (with_reducible assumption) | assumption)
            obtain ⟨ad103, e103, hx103_0⟩ := Kd.at_int HR0.out x5_1 p103 q103
            cases e103
            replace p103 := eq_true p103
            replace q103 := eq_true q103
            go_wp2
            go_roundg k1
            case measure => have := HK1.out; omega
            case rel => exact ⟨(wrap64 (x5_1 + 1)), (by first | rfl | (simp; done) | (simp [*]; done)), H', ⟨by have := HK1.out; omega⟩, by repeat (first | exact Drawn0.refl _ | apply Drawn0.step)⟩
        · rw [if_neg c4] at H
          exact absurd H (by simp)
      · rw [if_neg c3] at H
        have c3b0 : decide (x5_1 < (l0.length : Int)) = false := decide_eq_false c3
        clear c3
        obtain rfl := Option.some.inj H
        go_wp2
        go_ret
        exact ⟨by first | rfl | (simp; done) | (simp [*]; done), by repeat (first | exact Drawn0.refl _ | apply Drawn0.step)⟩

end Go.Proofs.Ytdpdghahmapgkaa.Print
