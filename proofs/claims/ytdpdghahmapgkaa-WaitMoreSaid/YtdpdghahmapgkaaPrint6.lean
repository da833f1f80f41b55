-- Written by a program of this session (myprint.py over the kit's print.py) out of the translation. Not trusted: Lean checks it.
import Derived.Test.YtdpdghahmapgkaaPrint0
import Derived.Test.YtdpdghahmapgkaaPrint1
namespace Go.Proofs.Ytdpdghahmapgkaa.Print
open Go.RowKit Go.Proofs.YtdpdghahmapgkaaW.PrintWords Go.Proofs.YtdpdghahmapgkaaW.PrintLast Go.Proofs.YtdpdghahmapgkaaW.PrintMore
attribute [local go_sem] max2_int min2_int max_two min_two max_three min_three max_four min_four   -- for this text's walks alone
set_option linter.unusedVariables false
set_option linter.unusedSimpArgs false

def bobbinlaw13_WaitMore.more (l0 : List S29) (a b : Int) : List S29 := l0 ++ [⟨a, [b]⟩]
def bobbinlaw13_WaitMore.still (l : List S29) : Bool := !l.any (fun x => Hand.rch (wait_Reach.wl l) x.f0 x.f0)
def bobbinlaw13_WaitMore.core (l0 : List S29) (a b fr th : Int) : Bool :=
  if Hand.rch (wait_Reach.wl l0) fr th = true ∧ Hand.rch (wait_Reach.wl (bobbinlaw13_WaitMore.more l0 a b)) fr th = false then false
  else if bobbinlaw13_WaitMore.still l0 = true ∧ bobbinlaw13_WaitMore.still (bobbinlaw13_WaitMore.more l0 a b) = false then (decide (a = b) || Hand.rch (wait_Reach.wl l0) b a) else true
def bobbinlaw13_WaitMore.f (k : Nat) (l0 : List S29) (a1 a2 a3 a4 : Int) : Option Bool :=
  (bobbinlaw13_few.f k l0).bind fun ok => if ok = true then (if l0.length ≤ 1000 ∧ Hand.fits (wait_Reach.wl l0) = true ∧ Hand.fits (wait_Reach.wl (bobbinlaw13_WaitMore.more l0 a1 a2)) = true then some (bobbinlaw13_WaitMore.core l0 a1 a2 a3 a4) else none) else some true
theorem bobbinlaw13_WaitMore.mkF (W : World) (ok : Nat → Prop) (x : S29) {A1 : Option Addr} {c1 : Nat} (l1 : x.f1.length ≤ c1) (g1 : Kd.F (Kd.int .i64) W ok A1 x.f1.length x.f1) : Kd.FK k29 W ok x [.int .i64 x.f0, .slice A1 x.f1.length c1] := fun W2 hW => k29_mk W2 x l1 (g1 W2 hW)
theorem bobbinlaw13_WaitMore.below_alloc' {B : Nat} {w W : World} (h : Below B w W) (hB : B ≤ W.heap.size) (o : Obj) : Below B w (W.alloc o) := h.alloc hB o
set_option maxHeartbeats 2000000 in
set_option maxRecDepth 100000 in
theorem bobbinlaw13_WaitMore.calls (k : Nat) (A0 : Option Addr) (c0 : Nat) (l0 : List S29) (a1 : Int) (a2 : Int) (a3 : Int) (a4 : Int) (r : Bool) (w : World) (hr0 : Kd.C k29 w A0 l0.length l0) (hc0 : l0.length ≤ c0) (h : bobbinlaw13_WaitMore.f k l0 a1 a2 a3 a4 = some r) :
    Calls Try.prog 6 #[.slice A0 l0.length c0, .int .i64 a1, .int .i64 a2, .int .i64 a3, .int .i64 a4] w fun e w' => e = .returned (.bool r) ∧ Below w.heap.size w w' := by
  have HR := Aside0.mk hr0
  clear hr0
  unfold bobbinlaw13_WaitMore.f at h
  obtain ⟨ok, hfew, h⟩ := Option.bind_eq_some_iff.mp h
  replace hfew := Aside0.mk hfew
  have HR0 : ∀ {X : World}, Below w.heap.size w X → Kd.C k29 X A0 l0.length l0 := fun hb => Kd.C_below HR.out hb
  replace HR0 := Aside0.mk @HR0
  cases ok with
  | false =>
    obtain rfl : true = r := by simpa using h
    clear h
    go_enter Try.func6, Try.ntmps6
    go_wp2_with (first | (go_at_call 8; refine (bobbinlaw13_awake.calls true _ rfl).mono ?_; rintro e w1 ⟨rfl, hb1⟩; replace hb1 := Aside0.mk hb1) | (go_at_call 9; refine (bobbinlaw13_few.calls k A0 c0 l0 false _ (HR0.out hb1.out) hc0 hfew.out).mono ?_; rintro e w2 ⟨rfl, hd2⟩; have hb2 := Aside0.mk (below_then hb1.out hb1.out.size hd2.below); clear hd2))
    go_ret
    exact ⟨rfl, hb2.out⟩
  | true =>
    rw [if_pos rfl] at h
    split at h
    · rename_i hq
      obtain ⟨hlen, hf, hg⟩ := hq
      obtain rfl := Option.some.inj h
      clear h
      obtain ⟨m, hm⟩ : ∃ m, bobbinlaw13_WaitMore.more l0 a1 a2 = m := ⟨_, rfl⟩
      have HX : Aside0 (l0.length ≤ 1000 ∧ Hand.fits (wait_Reach.wl l0) = true ∧ Hand.fits (wait_Reach.wl m) = true) := by rw [← hm]; exact ⟨⟨hlen, hf, hg⟩⟩
      clear hlen hf hg
      have eR : ∀ {l : List S29} (a b : Int), Hand.fits (wait_Reach.wl l) = true → ∃ r, wait_Reach.f l a b = some r ∧ Hand.rch (wait_Reach.wl l) a b = r := fun a b h => ⟨_, by unfold wait_Reach.f; rw [if_pos h], rfl⟩
      have eS : ∀ {l : List S29}, Hand.fits (wait_Reach.wl l) = true → ∃ r, wait_Still.f l = some r ∧ bobbinlaw13_WaitMore.still l = r := fun h => ⟨_, by unfold wait_Still.f; rw [if_pos h]; rfl, rfl⟩
      obtain ⟨r1, g1, q1⟩ := eR (l := l0) a3 a4 HX.out.2.1
      obtain ⟨r2, g2, q2⟩ := eR (l := m) a3 a4 HX.out.2.2
      obtain ⟨r3, g3, q3⟩ := eR (l := l0) a2 a1 HX.out.2.1
      obtain ⟨s1, g4, q4⟩ := eS (l := l0) HX.out.2.1
      obtain ⟨s2, g5, q5⟩ := eS (l := m) HX.out.2.2
      have hcore : bobbinlaw13_WaitMore.core l0 a1 a2 a3 a4 = (if r1 = true ∧ r2 = false then false else if s1 = true ∧ s2 = false then (decide (a1 = a2) || r3) else true) := by
        unfold bobbinlaw13_WaitMore.core
        rw [hm, q1, q2, q3, q4, q5]
      rw [hcore]
      clear eR eS q1 q2 q3 q4 q5 hcore
      generalize hres : (if r1 = true ∧ r2 = false then false else if s1 = true ∧ s2 = false then (decide (a1 = a2) || r3) else true) = res
      replace hres := Aside0.mk hres
      replace g1 := Aside0.mk g1
      replace g2 := Aside0.mk g2
      replace g3 := Aside0.mk g3
      replace g4 := Aside0.mk g4
      replace g5 := Aside0.mk g5
      replace hm := Aside0.mk hm
      go_enter Try.func6, Try.ntmps6
      go_wp2_with (first | (go_at_call 8; refine (bobbinlaw13_awake.calls true _ rfl).mono ?_; rintro e w1 ⟨rfl, hb1⟩; replace hb1 := Aside0.mk hb1) | (go_at_call 9; refine (bobbinlaw13_few.calls k A0 c0 l0 true _ (HR0.out hb1.out) hc0 hfew.out).mono ?_; rintro e w2 ⟨rfl, hd2⟩; have hb2 := Aside0.mk (below_then hb1.out hb1.out.size hd2.below); clear hd2) | ((with_reducible refine gate_builtin (b := .append) (xs := #[.const (.slice none 0 0), .tmp 24]) rfl ?_); at_builtin; refine Kd.N_append_rows k29 (w0 := w) w.heap.size rfl (.const (.slice none 0 0)) (.tmp 24) 22 29 (.agg #[(.int .i64 0), (.slice none 0 0)]) 32 rfl Try.underlying22 info29 rfl (by decide) (by decide) (.slice none 0 0) [] l0 A0 l0.length c0 (fun _ => True) (fun k => k < w.heap.size) rfl rfl (Kd.N_nil _ _ _ _ _) ?aF (fun _ _ => ⟨trivial, by simp [Value.ownBlock]⟩) (fun _ _ => trivial) hb2.out hb2.out.size ?aL ?_; (case aF => exact Kd.F_below (Kd.C_F (Kd.heap_iso _ (Kd.heap_pair (Kd.heap_int _) (Kd.heap_slice _ (Kd.heap_int _)))) HR.out) hb2.out); (case aL => have := HX.out.1; simp; omega); intro v3 w3 hN3 hb3 _ _; replace hN3 := Aside0.mk hN3; replace hb3 := Aside0.mk hb3) | ((with_reducible refine gate_builtin (b := .append) (xs := #[.tmp 25, .tmp 30]) rfl ?_); at_builtin; refine Kd.N_append k29 (w0 := w) w.heap.size rfl (.tmp 25) (.tmp 30) 22 29 (.agg #[(.int .i64 0), (.slice none 0 0)]) 32 rfl Try.underlying22 info29 rfl (by decide) (by decide) _ l0 ⟨a1, [a2]⟩ [.int .i64 a1, .slice (some ⟨w3.heap.size, 0, none⟩) 1 1] (fun _ => True) (fun k => k = w3.heap.size) rfl (by rw [World.size_alloc]; rfl) ?aP ?aQ (fun _ _ => trivial) (Kd.N_alloc hN3.out _) (bobbinlaw13_WaitMore.below_alloc' hb3.out hb3.out.size _) ?aS ?aL ?_; (case aP => exact bobbinlaw13_WaitMore.mkF _ _ ⟨a1, [a2]⟩ (Nat.le_refl _) (fun W' hW => bobbinlaw13_awake.one ((hW _ rfl (by simp)).trans (heap_alloc_new w3 _)))); (case aQ => rintro k rfl; refine ⟨trivial, fun he => ?_⟩; have := Kd.N_lt hN3.out _ he.symm; omega); (case aS => have := hb3.out.size; simp; omega); (case aL => have := HX.out.1; simp; omega); intro v4 w4 hN4 hb4 _ _; replace hN4 := Aside0.mk hN4; replace hb4 := Aside0.mk hb4))
      obtain ⟨A4, c4, hv4, hl4, hC4⟩ := Kd.N_reads hN4.out
      rw [show l0 ++ [(⟨a1, [a2]⟩ : S29)] = m from hm.out] at hv4 hl4 hC4
      subst hv4
      have HM : ∀ {X : World}, Below w4.heap.size w4 X → Kd.C k29 X A4 m.length m := fun hb => Kd.C_below hC4 hb
      replace HM := Aside0.mk @HM
      clear hC4
      have fin : ∀ {X : World}, Below w4.heap.size w4 X → Below w.heap.size w X := fun h => below_then hb4.out hb4.out.size h
      replace fin := Aside0.mk @fin
      refine (wait_Reach.calls A0 c0 l0 a3 a4 r1 _ (HR0.out (fin.out (Below.refl _ _))) hc0 g1.out).mono ?_
      rintro e w5 ⟨rfl, hc5⟩
      have hb5 := Aside0.mk hc5
      clear hc5
      cases r1
      · go_wp2_with fail
        refine (wait_Still.calls A0 c0 l0 s1 _ (HR0.out (fin.out hb5.out)) hc0 g4.out).mono ?_
        rintro e w6 ⟨rfl, hc6⟩
        have hb6 := Aside0.mk (below_then hb5.out hb5.out.size hc6)
        clear hc6
        cases s1
        · go_wp2_with fail
          go_ret
          exact ⟨by rw [← hres.out]; rfl, fin.out hb6.out⟩
        · go_wp2_with fail
          refine (wait_Still.calls A4 c4 m s2 _ (HM.out hb6.out) hl4 g5.out).mono ?_
          rintro e w7 ⟨rfl, hc7⟩
          have hb7 := Aside0.mk (below_then hb6.out hb6.out.size hc7)
          clear hc7
          cases s2
          · by_cases hab : a1 = a2
            · have hd : (a1 == a2) = true := by simp [hab]
              have hab' := Aside0.mk hab
              clear hab
              go_wp2_with fail
              go_ret
              exact ⟨by rw [← hres.out]; simp [hab'.out], fin.out hb7.out⟩
            · have hd : (a1 == a2) = false := by simp [hab]
              have hab' := Aside0.mk hab
              clear hab
              go_wp2_with fail
              refine (wait_Reach.calls A0 c0 l0 a2 a1 r3 _ (HR0.out (fin.out hb7.out)) hc0 g3.out).mono ?_
              rintro e w8 ⟨rfl, hc8⟩
              have hb8 := Aside0.mk (below_then hb7.out hb7.out.size hc8)
              clear hc8
              go_wp2_with fail
              go_ret
              exact ⟨by rw [← hres.out]; simp [hab'.out], fin.out hb8.out⟩
          · go_wp2_with fail
            go_ret
            exact ⟨by rw [← hres.out]; rfl, fin.out hb7.out⟩
      · go_wp2_with fail
        refine (wait_Reach.calls A4 c4 m a3 a4 r2 _ (HM.out hb5.out) hl4 g2.out).mono ?_
        rintro e w6 ⟨rfl, hc6⟩
        have hb6 := Aside0.mk (below_then hb5.out hb5.out.size hc6)
        clear hc6
        cases r2
        · go_wp2_with fail
          go_ret
          exact ⟨by rw [← hres.out]; rfl, fin.out hb6.out⟩
        · go_wp2_with fail
          refine (wait_Still.calls A0 c0 l0 s1 _ (HR0.out (fin.out hb6.out)) hc0 g4.out).mono ?_
          rintro e w7 ⟨rfl, hc7⟩
          have hb7 := Aside0.mk (below_then hb6.out hb6.out.size hc7)
          clear hc7
          cases s1
          · go_wp2_with fail
            go_ret
            exact ⟨by rw [← hres.out]; rfl, fin.out hb7.out⟩
          · go_wp2_with fail
            refine (wait_Still.calls A4 c4 m s2 _ (HM.out hb7.out) hl4 g5.out).mono ?_
            rintro e w8 ⟨rfl, hc8⟩
            have hb8 := Aside0.mk (below_then hb7.out hb7.out.size hc8)
            clear hc8
            cases s2
            · by_cases hab : a1 = a2
              · have hd : (a1 == a2) = true := by simp [hab]
                have hab' := Aside0.mk hab
                clear hab
                go_wp2_with fail
                go_ret
                exact ⟨by rw [← hres.out]; simp [hab'.out], fin.out hb8.out⟩
              · have hd : (a1 == a2) = false := by simp [hab]
                have hab' := Aside0.mk hab
                clear hab
                go_wp2_with fail
                refine (wait_Reach.calls A0 c0 l0 a2 a1 r3 _ (HR0.out (fin.out hb8.out)) hc0 g3.out).mono ?_
                rintro e w9 ⟨rfl, hc9⟩
                have hb9 := Aside0.mk (below_then hb8.out hb8.out.size hc9)
                clear hc9
                go_wp2_with fail
                go_ret
                exact ⟨by rw [← hres.out]; simp [hab'.out], fin.out hb9.out⟩
            · go_wp2_with fail
              go_ret
              exact ⟨by rw [← hres.out]; rfl, fin.out hb8.out⟩
    · cases h

/-! ### bobbinlaw13_WaitOrder: function 7 -/
mutual
def bobbinlaw13_WaitOrder.j0 : Nat → List (S29) → Int → Int → Bool → Bool → Option (Bool)
  | 0, _, _, _, _, _ => none
  | k + 1, x0, x1, x2, x7, x20 => if x20 = true then (some x7) else (bobbinlaw13_WaitOrder.l0 k x0 x1 x2 ([] : List (S29)) (wrap64 ((x0.length : Int) - 1)))
def bobbinlaw13_WaitOrder.l0 : Nat → List (S29) → Int → Int → List (S29) → Int → Option (Bool)
  | 0, _, _, _, _, _ => none
  | k + 1, x0, x1, x2, x9, x10 => if x10 ≥ 0 then (bobbinlaw13_WaitOrder.l1 k x0 x1 x2 x9 x10 0) else ((wait_Reach.f x0 x1 x2).bind fun t169 => ((wait_Reach.f x9 x1 x2).bind fun t170 => (if (t169 == t170) = true then ((wait_Still.f x0).bind fun t171 => ((wait_Still.f x9).bind fun t172 => (some (t171 == t172)))) else (some false))))
def bobbinlaw13_WaitOrder.l1 : Nat → List (S29) → Int → Int → List (S29) → Int → Int → Option (Bool)
  | 0, _, _, _, _, _, _ => none
  | k + 1, x0, x1, x2, x9, x10, x11 => if 0 ≤ x10 then (if x10 < (x0.length : Int) then (if x11 < (((rd_T29 x0 x10).f1).length : Int) then (if 0 ≤ x11 then (if x9.length < 4398046511104 then (bobbinlaw13_WaitOrder.l1 k x0 x1 x2 (x9 ++ [(⟨(rd_T29 x0 x10).f0, (([rd ((rd_T29 x0 x10).f1) x11] : List Int))⟩ : S29)]) x10 (wrap64 (x11 + 1))) else (none)) else (none)) else (bobbinlaw13_WaitOrder.l0 k x0 x1 x2 x9 (wrap64 (x10 - 1)))) else (none)) else (none)
end
theorem bobbinlaw13_WaitOrder.j0_eq : ∀ (k : Nat) x0 x1 x2 x7 x20, bobbinlaw13_WaitOrder.j0 (k + 1) x0 x1 x2 x7 x20 = (if x20 = true then (some x7) else (bobbinlaw13_WaitOrder.l0 k x0 x1 x2 ([] : List (S29)) (wrap64 ((x0.length : Int) - 1)))) := fun _ _ _ _ _ _ => rfl
theorem bobbinlaw13_WaitOrder.l0_eq : ∀ (k : Nat) x0 x1 x2 x9 x10, bobbinlaw13_WaitOrder.l0 (k + 1) x0 x1 x2 x9 x10 = (if x10 ≥ 0 then (bobbinlaw13_WaitOrder.l1 k x0 x1 x2 x9 x10 0) else ((wait_Reach.f x0 x1 x2).bind fun t169 => ((wait_Reach.f x9 x1 x2).bind fun t170 => (if (t169 == t170) = true then ((wait_Still.f x0).bind fun t171 => ((wait_Still.f x9).bind fun t172 => (some (t171 == t172)))) else (some false))))) := fun _ _ _ _ _ _ => rfl
theorem bobbinlaw13_WaitOrder.l1_eq : ∀ (k : Nat) x0 x1 x2 x9 x10 x11, bobbinlaw13_WaitOrder.l1 (k + 1) x0 x1 x2 x9 x10 x11 = (if 0 ≤ x10 then (if x10 < (x0.length : Int) then (if x11 < (((rd_T29 x0 x10).f1).length : Int) then (if 0 ≤ x11 then (if x9.length < 4398046511104 then (bobbinlaw13_WaitOrder.l1 k x0 x1 x2 (x9 ++ [(⟨(rd_T29 x0 x10).f0, (([rd ((rd_T29 x0 x10).f1) x11] : List Int))⟩ : S29)]) x10 (wrap64 (x11 + 1))) else (none)) else (none)) else (bobbinlaw13_WaitOrder.l0 k x0 x1 x2 x9 (wrap64 (x10 - 1)))) else (none)) else (none)) := fun _ _ _ _ _ _ _ => rfl
def bobbinlaw13_WaitOrder.f (k : Nat) (l0 : List (S29)) (a1 : Int) (a2 : Int) : Option (Bool) := (bobbinlaw13_awake.f).bind fun t157 => ((bobbinlaw13_few.f k l0).bind fun t158 => (if t157 = true then (bobbinlaw13_WaitOrder.j0 k l0 a1 a2 t157 (!t158)) else (bobbinlaw13_WaitOrder.j0 k l0 a1 a2 t157 true)))
theorem bobbinlaw13_WaitOrder.mono_l : ∀ k, (∀ y0 y1 y2 y3 y4, LeO (bobbinlaw13_WaitOrder.j0 k y0 y1 y2 y3 y4) (bobbinlaw13_WaitOrder.j0 (k + 1) y0 y1 y2 y3 y4)) ∧ (∀ y0 y1 y2 y3 y4, LeO (bobbinlaw13_WaitOrder.l0 k y0 y1 y2 y3 y4) (bobbinlaw13_WaitOrder.l0 (k + 1) y0 y1 y2 y3 y4)) ∧ (∀ y0 y1 y2 y3 y4 y5, LeO (bobbinlaw13_WaitOrder.l1 k y0 y1 y2 y3 y4 y5) (bobbinlaw13_WaitOrder.l1 (k + 1) y0 y1 y2 y3 y4 y5))
  | 0 => ⟨fun _ _ _ _ _ r h => by first | (cases h; done) | simp [bobbinlaw13_WaitOrder.j0] at h, fun _ _ _ _ _ r h => by first | (cases h; done) | simp [bobbinlaw13_WaitOrder.l0] at h, fun _ _ _ _ _ _ r h => by first | (cases h; done) | simp [bobbinlaw13_WaitOrder.l1] at h⟩
  | k + 1 => by
    obtain ⟨ih0, ih1, ih2⟩ := bobbinlaw13_WaitOrder.mono_l k
    refine ⟨?_, ?_, ?_⟩
    · intro y0 y1 y2 y3 y4
      unfold bobbinlaw13_WaitOrder.j0
      repeat' first
      | (with_reducible exact ih0 _ _ _ _ _)
      | (with_reducible exact ih1 _ _ _ _ _)
      | (with_reducible exact ih2 _ _ _ _ _ _)
      | (with_reducible exact bobbinlaw13_few.mono _ _)
      | (with_reducible exact LeO.refl _)
      | (with_reducible exact LeO.none _)
      | (with_reducible refine LeO.ite ?_ ?_)
      | (with_reducible refine LeO.bind ?_ (fun _ => ?_))
      | exact ih0 _ _ _ _ _
      | exact ih1 _ _ _ _ _
      | exact ih2 _ _ _ _ _ _
      | exact bobbinlaw13_few.mono _ _
      | exact LeO.none _
      | refine LeO.ite ?_ ?_
      | refine LeO.bind ?_ (fun _ => ?_)
    · intro y0 y1 y2 y3 y4
      unfold bobbinlaw13_WaitOrder.l0
      repeat' first
      | (with_reducible exact ih0 _ _ _ _ _)
      | (with_reducible exact ih1 _ _ _ _ _)
      | (with_reducible exact ih2 _ _ _ _ _ _)
      | (with_reducible exact bobbinlaw13_few.mono _ _)
      | (with_reducible exact LeO.refl _)
      | (with_reducible exact LeO.none _)
      | (with_reducible refine LeO.ite ?_ ?_)
      | (with_reducible refine LeO.bind ?_ (fun _ => ?_))
      | exact ih0 _ _ _ _ _
      | exact ih1 _ _ _ _ _
      | exact ih2 _ _ _ _ _ _
      | exact bobbinlaw13_few.mono _ _
      | exact LeO.none _
      | refine LeO.ite ?_ ?_
      | refine LeO.bind ?_ (fun _ => ?_)
    · intro y0 y1 y2 y3 y4 y5
      unfold bobbinlaw13_WaitOrder.l1
      repeat' first
      | (with_reducible exact ih0 _ _ _ _ _)
      | (with_reducible exact ih1 _ _ _ _ _)
      | (with_reducible exact ih2 _ _ _ _ _ _)
      | (with_reducible exact bobbinlaw13_few.mono _ _)
      | (with_reducible exact LeO.refl _)
      | (with_reducible exact LeO.none _)
      | (with_reducible refine LeO.ite ?_ ?_)
      | (with_reducible refine LeO.bind ?_ (fun _ => ?_))
      | exact ih0 _ _ _ _ _
      | exact ih1 _ _ _ _ _
      | exact ih2 _ _ _ _ _ _
      | exact bobbinlaw13_few.mono _ _
      | exact LeO.none _
      | refine LeO.ite ?_ ?_
      | refine LeO.bind ?_ (fun _ => ?_)
theorem bobbinlaw13_WaitOrder.mono : ∀ a0 a1 a2 k, LeO (bobbinlaw13_WaitOrder.f k a0 a1 a2) (bobbinlaw13_WaitOrder.f (k + 1) a0 a1 a2) := by
  intro a0 a1 a2 k
  obtain ⟨ih0, ih1, ih2⟩ := bobbinlaw13_WaitOrder.mono_l k
  unfold bobbinlaw13_WaitOrder.f
  repeat' first
      | (with_reducible exact ih0 _ _ _ _ _)
      | (with_reducible exact ih1 _ _ _ _ _)
      | (with_reducible exact ih2 _ _ _ _ _ _)
      | (with_reducible exact bobbinlaw13_few.mono _ _)
      | (with_reducible exact LeO.refl _)
      | (with_reducible exact LeO.none _)
      | (with_reducible refine LeO.ite ?_ ?_)
      | (with_reducible refine LeO.bind ?_ (fun _ => ?_))
      | exact ih0 _ _ _ _ _
      | exact ih1 _ _ _ _ _
      | exact ih2 _ _ _ _ _ _
      | exact bobbinlaw13_few.mono _ _
      | exact LeO.none _
      | refine LeO.ite ?_ ?_
      | refine LeO.bind ?_ (fun _ => ?_)
def bobbinlaw13_WaitOrder.T12 : Bool × List (List Nat × List Nat) := (true, [([], []), ([], []), ([], []), ([1, 2], [1, 2]), ([3], [3]), ([4], [4]), ([], []), ([], []), ([6, 7], [6, 7]), ([8], [8]), ([9], [9]), ([], []), ([10, 11], [10, 11]), ([12], [12]), ([13], [13]), ([5, 14], [5, 14]), ([15], [15]), ([0, 16], [0, 16]), ([17, 17, 0, 1, 2, 3, 4, 5, 6, 7, 8, 9, 10, 11, 12, 13, 14, 15, 16, 17], [0, 17])])
def bobbinlaw13_WaitOrder.B12 : List Nat := [0, 0, 0, 6, 14, 30, 0, 0, 192, 448, 960, 0, 4032, 8128, 16320, 32766, 65534, 131071, 262143]
theorem bobbinlaw13_WaitOrder.tab12 : rtab .any (opsOf Try.f7 12) = bobbinlaw13_WaitOrder.T12 := by kernel_rfl
theorem bobbinlaw13_WaitOrder.bits12 : waitsOk bobbinlaw13_WaitOrder.T12.2 bobbinlaw13_WaitOrder.B12 = true := by kernel_rfl
set_option maxHeartbeats 8000000 in
set_option maxRecDepth 100000 in
theorem bobbinlaw13_WaitOrder.calls (k : Nat) (A0 : Option Addr) (c0 : Nat) (l0 : List (S29)) (a1 : Int) (a2 : Int) (r : Bool) (w : World) (hr0 : Kd.C k29 w A0 l0.length l0) (hc0 : l0.length ≤ c0) (h : bobbinlaw13_WaitOrder.f k l0 a1 a2 = some r) :
    Calls Try.prog 7 #[.slice A0 l0.length c0, .int .i64 a1, .int .i64 a2] w fun e w' => e = .returned (.bool r) ∧ Below w.heap.size w w' := by
  have hu29 := Try.underlying29
  have HR0 := Aside0.mk hr0
  have HC0 := Aside0.mk hc0
  clear hr0 hc0
  have HB := Aside0.mk (Below.refl w.heap.size w)
  have H : ((bobbinlaw13_awake.f).bind fun t157 => ((bobbinlaw13_few.f k l0).bind fun t158 => (if t157 = true then (bobbinlaw13_WaitOrder.j0 k l0 a1 a2 t157 (!t158)) else (bobbinlaw13_WaitOrder.j0 k l0 a1 a2 t157 true)))) = some r := h
  clear h
  replace H := Option.bind_eq_some_iff.mp H
  obtain ⟨t157, A40, H⟩ := H
  replace H : ((bobbinlaw13_few.f k l0).bind fun t158 => (if t157 = true then (bobbinlaw13_WaitOrder.j0 k l0 a1 a2 t157 (!t158)) else (bobbinlaw13_WaitOrder.j0 k l0 a1 a2 t157 true))) = some r := H
  have A4 := Aside0.mk A40
  clear A40
  replace H := Option.bind_eq_some_iff.mp H
  obtain ⟨t158, A50, H⟩ := H
  replace H : (if t157 = true then (bobbinlaw13_WaitOrder.j0 k l0 a1 a2 t157 (!t158)) else (bobbinlaw13_WaitOrder.j0 k l0 a1 a2 t157 true)) = some r := H
  have A5 := Aside0.mk A50
  clear A50
  have HC6 := Aside0.mk H
  clear H
  go_enter Try.func7, Try.ntmps7
  go_upto_region 3 with (first | ((with_reducible refine gate_callee (f := 8) rfl ?_); refine goesL_ (some 12) rfl rfl Try.func8 (by kernel_rfl) rfl #[] rfl (by (try simp only [List.map_toArray, List.map_cons, List.map_nil]); first | done | rfl | (simp only [List.length_drop, List.length_take]; rfl)) ?_; (with_reducible refine (bobbinlaw13_awake.calls  t157 _ A4.out).mono ?_); rintro e w7 ⟨rfl, hb⟩; refine ⟨_, rfl, ?_⟩; have n0_ := Aside0.mk (below_step (by repeat (first | (with_reducible first | exact HB.out | apply below_alloc | apply pw_below_drewN | apply below_drew1) | exact HB.out)) hb); clear HB; have HB := n0_; clear n0_; (try clear hb); (try clear hb2); (try clear hk); (try clear hi)) | ((with_reducible refine gate_callee (f := 9) rfl ?_); refine goesL_ (some 14) rfl rfl Try.func9 (by kernel_rfl) rfl #[.slice A0 l0.length c0] rfl (by (try simp only [List.map_toArray, List.map_cons, List.map_nil]); first | done | rfl | (simp only [List.length_drop, List.length_take]; rfl)) ?_; (with_reducible refine (bobbinlaw13_few.calls k _ _ l0 t158 _ ?side1 ?side2 A5.out).mono ?_); (case side1 => repeat (first | exact (Kd.C_below HR0.out HB.out) | (with_reducible refine Kd.C_alloc ?_ _) | (with_reducible refine Kd.C_drewN ?_ _) | (with_reducible refine Kd.C_drew ?_))); (case side2 => exact HC0.out); rintro e w' ⟨rfl, ⟨nd, rfl⟩⟩; refine ⟨_, rfl, ?_⟩))
  (try simp only [Act.put, List.setIfInBounds_toArray, List.set_cons_zero, List.set_cons_succ])
  go_cut [20] (fun v20 wc => ∃ (kq : Nat) (x20_5 : Bool), v20 = .bool x20_5 ∧ Aside0 (bobbinlaw13_WaitOrder.j0 kq l0 a1 a2 t157 x20_5 = some r) ∧ Aside0 (kq ≤ k) ∧ Aside0 (Below w.heap.size w wc))
  case first =>
    have H := HC6.out
    clear HC6
    by_cases c8 : t157 = true
    · subst c8
      have H1 : (bobbinlaw13_WaitOrder.j0 k l0 a1 a2 true (!t158)) = some r := by rw [if_pos rfl] at H; exact H
      clear H
      have H := H1
      clear H1
      have H' := Aside0.mk H
      clear H
      go_wp2
      go_meet
      case rel => exact ⟨_, (!t158), (by first | rfl | (simp; done) | (simp [*]; done)), H', ⟨by first | omega | exact Nat.le_refl _⟩, ⟨by repeat (first | (with_reducible first | exact HB.out | apply below_alloc | apply pw_below_drewN | apply below_drew1) | exact HB.out)⟩⟩
    · replace c8 := Bool.eq_false_iff.mpr c8
      subst c8
      have H1 : (bobbinlaw13_WaitOrder.j0 k l0 a1 a2 false true) = some r := by rw [if_neg (show ¬ (false = true) by decide)] at H; exact H
      clear H
      have H := H1
      clear H1
      have H' := Aside0.mk H
      clear H
      go_wp2
      go_meet
      case rel => exact ⟨_, (true), (by first | rfl | (simp; done) | (simp [*]; done)), H', ⟨by first | omega | exact Nat.le_refl _⟩, ⟨by repeat (first | (with_reducible first | exact HB.out | apply below_alloc | apply pw_below_drewN | apply below_drew1) | exact HB.out)⟩⟩
  case rest =>
    clear HC6
    try clear p2
    try clear c7
    try clear c8
    obtain ⟨kq, x20_5, rfl, HA, HJ5, HB⟩ := hcut
    cases kq with
    | zero => exact absurd HA.out (by first | (intro h_; cases h_; done) | simp [bobbinlaw13_WaitOrder.j0])
    | succ kj5 =>
      have H := HA.out
      clear HA
      rw [bobbinlaw13_WaitOrder.j0_eq] at H
      by_cases c9 : x20_5 = true
      · subst c9
        have H1 : (some t157) = some r := by rw [if_pos rfl] at H; exact H
        clear H
        have H := H1
        clear H1
        obtain rfl := Option.some.inj H
        go_wp2
        go_ret
        exact ⟨by first | rfl | (simp [errW_none, errW_some] <;> rfl) | (simp [*, errW_none, errW_some] <;> rfl), by repeat (first | (with_reducible first | exact HB.out | apply below_alloc | apply pw_below_drewN | apply below_drew1) | exact HB.out)⟩
      · replace c9 := Bool.eq_false_iff.mpr c9
        subst c9
        have H1 : (bobbinlaw13_WaitOrder.l0 kj5 l0 a1 a2 ([] : List (S29)) (wrap64 ((l0.length : Int) - 1))) = some r := by rw [if_neg (show ¬ (false = true) by decide)] at H; exact H
        clear H
        have H := H1
        clear H1
        have H' := Aside0.mk H
        clear H
        go_wp2
        go_loopg [9, 10] kj5 (fun kq v9 v10 w' => ∃ (x9_2 : List (S29)) (x10_2 : Int), v10 = .int .i64 x10_2 ∧ Aside0 (bobbinlaw13_WaitOrder.l0 kq l0 a1 a2 x9_2 x10_2 = some r) ∧ Aside0 (kq ≤ kj5) ∧ Aside0 (Kd.S k29 29 w' w.heap.size (fun _ => True) v9 x9_2) ∧ Aside0 (Below w.heap.size w w'))
        case atStart => exact ⟨(([] : List (S29))), (wrap64 ((l0.length : Int) - 1)), (by first | rfl | (simp; done) | (simp [*]; done)), H', ⟨Nat.le_refl _⟩, ⟨by first | exact Kd.S_nil _ _ _ _ _ | exact Kd.N_nil _ _ _ _ _ | exact Kd.V_nil _ _ _ _ _ | exact Kd.Q_nil _ _ _ _ _ | exact Kd.R_nil _ _ _ _ _⟩, ⟨by repeat (first | (with_reducible first | exact HB.out | apply below_alloc | apply pw_below_drewN | apply below_drew1) | exact HB.out)⟩⟩
        case round =>
          clear H'
          try clear p2
          try clear p6
          try clear c7
          try clear c8
          try clear c9
          try clear p2
          obtain ⟨x9_2, x10_2, rfl, HA, HK2, HO_9, HB⟩ := hrel
          cases gk with
          | zero => exact absurd HA.out (by first | (intro h_; cases h_; done) | simp [bobbinlaw13_WaitOrder.l0])
          | succ k2 =>
            have H := HA.out
            clear HA
            rw [bobbinlaw13_WaitOrder.l0_eq] at H
            by_cases c10 : x10_2 ≥ 0
            · rw [if_pos c10] at H
              have c10b0 : decide (0 ≤ x10_2) = true := decide_eq_true c10
              clear c10
              have H' := Aside0.mk H
              clear H
              go_wp2
              go_loopg [9, 11] k2 (fun kq v9 v11 w' => ∃ (x9_3 : List (S29)) (x11_3 : Int), v11 = .int .i64 x11_3 ∧ Aside0 (bobbinlaw13_WaitOrder.l1 kq l0 a1 a2 x9_3 x10_2 x11_3 = some r) ∧ Aside0 (kq ≤ k2) ∧ Aside0 (Kd.S k29 29 w' w.heap.size (fun _ => True) v9 x9_3) ∧ Aside0 (Below w.heap.size w w'))
              case atStart => exact ⟨(x9_2), (0), (by first | rfl | (simp; done) | (simp [*]; done)), H', ⟨Nat.le_refl _⟩, ⟨by (with_reducible repeat (first | apply Kd.S_alloc | apply Kd.S_drewN | apply Kd.S_drew)); exact HO_9.out⟩, ⟨by repeat (first | (with_reducible first | exact HB.out | apply below_alloc | apply pw_below_drewN | apply below_drew1) | exact HB.out)⟩⟩
              case round =>
                clear H'
                try clear c1
                try clear p2
                try clear p6
                try clear c7
                try clear c8
                try clear c9
                try clear c10
                try clear c10b0
                try clear p2
                try clear p6
                obtain ⟨x9_3, x11_3, rfl, HA, HK3, HO_9, HB⟩ := hrel
                cases gk with
                | zero => exact absurd HA.out (by first | (intro h_; cases h_; done) | simp [bobbinlaw13_WaitOrder.l1])
                | succ k3 =>
                  have H := HA.out
                  clear HA
                  rw [bobbinlaw13_WaitOrder.l1_eq] at H
                  by_cases c11 : 0 ≤ x10_2
                  · rw [if_pos c11] at H
                    have c11b0 : decide (0 ≤ x10_2) = true := decide_eq_true c11
                    clear c11
                    by_cases c12 : x10_2 < (l0.length : Int)
                    · rw [if_pos c12] at H
                      have c12b0 : decide (x10_2 < (l0.length : Int)) = true := decide_eq_true c12
                      clear c12
                      by_cases c13 : x11_3 < (((rd_T29 l0 x10_2).f1).length : Int)
                      · rw [if_pos c13] at H
                        have c13b0 : decide (x11_3 < (((rd_T29 l0 x10_2).f1).length : Int)) = true := decide_eq_true c13
                        clear c13
                        by_cases c14 : 0 ≤ x11_3
                        · rw [if_pos c14] at H
                          have c14b0 : decide (0 ≤ x11_3) = true := decide_eq_true c14
                          clear c14
                          obtain ⟨y163, hy163⟩ : ∃ y_ : List Int, y_ = (([rd ((rd_T29 l0 x10_2).f1) x11_3] : List Int)) := ⟨_, rfl⟩
                          replace H : (if x9_3.length < 4398046511104 then (bobbinlaw13_WaitOrder.l1 k3 l0 a1 a2 (x9_3 ++ [(⟨(rd_T29 l0 x10_2).f0, y163⟩ : S29)]) x10_2 (wrap64 (x11_3 + 1))) else (none)) = some r := by first | (rw [hy163]; with_reducible exact H) | (have H2_ := (Option.bind_some _ _).symm.trans H; rw [hy163]; with_reducible exact H2_) | (have H2_ := (Option.bind_some _ _).symm.trans H; with_reducible exact H2_) | with_reducible exact H | (rw [hy163]; exact H) | exact H
                          have Ny163 := Aside0.mk hy163
                          clear hy163
                          by_cases c15 : x9_3.length < 4398046511104
                          · rw [if_pos c15] at H
                            have LMc15 := Aside0.mk c15
                            clear c15
                            obtain ⟨y166, hy166⟩ : ∃ y_ : List (S29), y_ = (x9_3 ++ [(⟨(rd_T29 l0 x10_2).f0, y163⟩ : S29)]) := ⟨_, rfl⟩
                            replace H : (bobbinlaw13_WaitOrder.l1 k3 l0 a1 a2 y166 x10_2 (wrap64 (x11_3 + 1))) = some r := by first | (rw [hy166]; with_reducible exact H) | (have H2_ := (Option.bind_some _ _).symm.trans H; rw [hy166]; with_reducible exact H2_) | (have H2_ := (Option.bind_some _ _).symm.trans H; with_reducible exact H2_) | with_reducible exact H | (rw [hy166]; exact H) | exact H
                            have Ny166 := Aside0.mk hy166
                            clear hy166
                            have H' := Aside0.mk H
                            clear H
                            have p159 : 0 ≤ (x10_2 : Int) := of_decide_eq_true (by first | (with_reducible assumption) | assumption)
                            have q159 : x10_2 < (l0.length : Int) := of_decide_eq_true (by first | (with_reducible assumption) | assumption)
                            obtain ⟨ad159, A159_1, c159_1, e159, hx159_0, hx159_1, hl159_1, hi159_1⟩ := at_T29 HR0.out x10_2 p159 q159
                            cases e159
                            replace hx159_0 := (HB.out.cell (World.block_lt_of_cell? w _ hx159_0)).trans hx159_0
                            replace hx159_1 := (HB.out.cell (World.block_lt_of_cell? w _ hx159_1)).trans hx159_1
                            have HR159_1 := Aside0.mk hi159_1
                            have HC159_1 := Aside0.mk hl159_1
                            clear hi159_1 hl159_1
                            replace p159 := eq_true p159
                            replace q159 := eq_true q159
                            try go_wp2
                            have n0_ := Aside0.mk (Kd.S_drew HO_9.out)
                            have n1_ := Aside0.mk (below_drew1 HB.out)
                            clear HO_9
                            clear HB
                            have HO_9 := n0_
                            have HB := n1_
                            clear n0_ n1_
                            have p160 : 0 ≤ (x10_2 : Int) := of_decide_eq_true (by first | (with_reducible assumption) | assumption)
                            have q160 : x10_2 < (l0.length : Int) := of_decide_eq_true (by first | (with_reducible assumption) | assumption)
                            obtain ⟨ad160, A160_1, c160_1, e160, hx160_0, hx160_1, hl160_1, hi160_1⟩ := at_T29 HR0.out x10_2 p160 q160
                            have hw160_1 := hx160_1
                            have hw160_0 := hx160_0
                            obtain rfl : ad159 = ad160 := (by injection e160)
                            replace hx160_0 := (HB.out.cell (World.block_lt_of_cell? w _ hx160_0)).trans hx160_0
                            replace hx160_1 := (HB.out.cell (World.block_lt_of_cell? w _ hx160_1)).trans hx160_1
                            have HR160_1 := Aside0.mk hi160_1
                            have HC160_1 := Aside0.mk hl160_1
                            clear hi160_1 hl160_1
                            replace p160 := eq_true p160
                            replace q160 := eq_true q160
                            have p161 : 0 ≤ (x10_2 : Int) := of_decide_eq_true (by first | (with_reducible assumption) | assumption)
                            have q161 : x10_2 < (l0.length : Int) := of_decide_eq_true (by first | (with_reducible assumption) | assumption)
                            obtain ⟨ad161, A161_1, c161_1, e161, hx161_0, hx161_1, hl161_1, hi161_1⟩ := at_T29 HR0.out x10_2 p161 q161
                            have hw161_1 := hx161_1
                            have hw161_0 := hx161_0
                            obtain rfl : ad159 = ad161 := (by injection e161)
                            replace hx161_0 := (HB.out.cell (World.block_lt_of_cell? w _ hx161_0)).trans hx161_0
                            replace hx161_1 := (HB.out.cell (World.block_lt_of_cell? w _ hx161_1)).trans hx161_1
                            have HR161_1 := Aside0.mk hi161_1
                            have HC161_1 := Aside0.mk hl161_1
                            clear hi161_1 hl161_1
                            replace p161 := eq_true p161
                            replace q161 := eq_true q161
                            have ea_ := Option.some.inj (hx160_1.symm.trans hx161_1)
                            injection ea_ with ea_ en_ ec_
                            subst ea_
                            subst ec_
                            clear en_
                            have p162 : 0 ≤ (x11_3 : Int) := of_decide_eq_true (by first | (with_reducible assumption) | assumption)
                            have q162 : x11_3 < (((rd_T29 l0 x10_2).f1).length : Int) := of_decide_eq_true (by first | (with_reducible assumption) | assumption)
                            obtain ⟨ad162, e162, hx162_0⟩ := Kd.at_int HR161_1.out x11_3 p162 q162
                            have hw162_0 := hx162_0
                            cases e162
                            replace hx162_0 := (HB.out.cell (World.block_lt_of_cell? w _ hx162_0)).trans hx162_0
                            replace p162 := eq_true p162
                            replace q162 := eq_true q162
                            refine start_ (n := 19) (S := fun w' => w'.cell? (ad159.add ((x10_2).toNat * 2)) = some (.int .i64 ((rd_T29 l0 x10_2).f0)) ∧ w'.cell? ⟨(ad159.add ((x10_2).toNat * 2)).block, (ad159.add ((x10_2).toNat * 2)).off + 1, none⟩ = some (.slice (some ad162) ((rd_T29 l0 x10_2).f1).length c160_1) ∧ w'.cell? (ad159.add ((x10_2).toNat * 2)) = some (.int .i64 ((rd_T29 l0 x10_2).f0)) ∧ w'.cell? ⟨(ad159.add ((x10_2).toNat * 2)).block, (ad159.add ((x10_2).toNat * 2)).off + 1, none⟩ = some (.slice (some ad162) ((rd_T29 l0 x10_2).f1).length c160_1) ∧ w'.cell? (ad162.add (x11_3).toNat) = some (.int .i64 (rd ((rd_T29 l0 x10_2).f1) x11_3))) (ds := []) #[false, false, false, false, false, false, false, false, false, false, false, false, false, false, false, false, false, false, false] (by kernel_rfl) rfl rfl ⟨((HB.out.cell (World.block_lt_of_cell? w _ hw160_0)).trans hw160_0), ((HB.out.cell (World.block_lt_of_cell? w _ hw160_1)).trans hw160_1), ((HB.out.cell (World.block_lt_of_cell? w _ hw161_0)).trans hw161_0), ((HB.out.cell (World.block_lt_of_cell? w _ hw161_1)).trans hw161_1), ((HB.out.cell (World.block_lt_of_cell? w _ hw162_0)).trans hw162_0)⟩ (fun hHeld => ?_); refine with_tabW bobbinlaw13_WaitOrder.tab12 bobbinlaw13_WaitOrder.bits12 (fun HT_ HW_ => ?_)
                            generalize wr.drew = w16 at HO_9 HB HR160_1 HR161_1 hx160_0 hx160_1 hx161_0 hx161_1 hx162_0 hHeld ⊢
                            refine pure_ (i := 0) (N := some 39) (v := ?_) (a' := ?_) #[true, false, false, false, false, false, false, false, false, false, false, false, false, false, false, false, false, false, false] rfl rfl (any_of HT_.out (by kernel_rfl)) (fun _ _ _ h => h) (Or.inl ⟨by rfl, ?_⟩) ?_ ?_
                            rotate_left
                            · intro w'
                              go_simp
                              with_reducible rfl
                            rotate_left
                            · simp only [Act.put, List.setIfInBounds_toArray, List.set_cons_zero, List.set_cons_succ, i64_w, i32_w]
                              rfl
                            refine pure_ (i := 1) (N := some 40) (v := ?_) (a' := ?_) #[true, true, false, false, false, false, false, false, false, false, false, false, false, false, false, false, false, false, false] rfl rfl (any_of HT_.out (by kernel_rfl)) (fun _ _ _ h => h) (Or.inl ⟨by rfl, ?_⟩) ?_ ?_
                            rotate_left
                            · intro w'
                              go_simp
                              with_reducible rfl
                            rotate_left
                            · simp only [Act.put, List.setIfInBounds_toArray, List.set_cons_zero, List.set_cons_succ, i64_w, i32_w]
                              rfl
                            refine pure_ (i := 2) (N := some 41) (v := ?_) (a' := ?_) #[true, true, true, false, false, false, false, false, false, false, false, false, false, false, false, false, false, false, false] rfl rfl (any_of HT_.out (by kernel_rfl)) (fun _ _ _ h => h) (Or.inl ⟨by rfl, ?_⟩) ?_ ?_
                            rotate_left
                            · intro w'
                              go_simp
                              with_reducible rfl
                            rotate_left
                            · simp only [Act.put, List.setIfInBounds_toArray, List.set_cons_zero, List.set_cons_succ, i64_w, i32_w]
                              rfl
                            refine pure_ (i := 3) (N := some 42) (v := ?_) (a' := ?_) #[true, true, true, true, false, false, false, false, false, false, false, false, false, false, false, false, false, false, false] rfl rfl (any_of HT_.out (by kernel_rfl)) (fun _ _ _ h => h) (Or.inl ⟨by rfl, ?_⟩) ?_ ?_
                            rotate_left
                            · intro w'
                              go_simp
                              with_reducible rfl
                            rotate_left
                            · simp only [Act.put, List.setIfInBounds_toArray, List.set_cons_zero, List.set_cons_succ, i64_w, i32_w]
                              rfl
                            refine pure_ (i := 4) (N := some 43) (v := ?_) (a' := ?_) #[true, true, true, true, true, false, false, false, false, false, false, false, false, false, false, false, false, false, false] rfl rfl (any_of HT_.out (by kernel_rfl)) (fun _ _ _ h => h) (Or.inl ⟨by rfl, ?_⟩) ?_ ?_
                            rotate_left
                            · intro w'
                              go_simp
                              with_reducible rfl
                            rotate_left
                            · simp only [Act.put, List.setIfInBounds_toArray, List.set_cons_zero, List.set_cons_succ, i64_w, i32_w]
                              rfl
                            refine pure_ (i := 6) (N := some 45) (v := ?_) (a' := ?_) #[true, true, true, true, true, false, true, false, false, false, false, false, false, false, false, false, false, false, false] rfl rfl (any_of HT_.out (by kernel_rfl)) (fun _ _ _ h => h) (Or.inl ⟨by rfl, ?_⟩) ?_ ?_
                            rotate_left
                            · intro w'
                              go_simp
                              with_reducible rfl
                            rotate_left
                            · simp only [Act.put, List.setIfInBounds_toArray, List.set_cons_zero, List.set_cons_succ, i64_w, i32_w]
                              rfl
                            refine pure_ (i := 7) (N := some 46) (v := ?_) (a' := ?_) #[true, true, true, true, true, false, true, true, false, false, false, false, false, false, false, false, false, false, false] rfl rfl (any_of HT_.out (by kernel_rfl)) (fun _ _ _ h => h) (Or.inl ⟨by rfl, ?_⟩) ?_ ?_
                            rotate_left
                            · intro w'
                              go_simp
                              with_reducible rfl
                            rotate_left
                            · simp only [Act.put, List.setIfInBounds_toArray, List.set_cons_zero, List.set_cons_succ, i64_w, i32_w]
                              rfl
                            refine pure_ (i := 8) (N := some 47) (v := ?_) (a' := ?_) #[true, true, true, true, true, false, true, true, true, false, false, false, false, false, false, false, false, false, false] rfl rfl (any_of HT_.out (by kernel_rfl)) (fun _ _ _ h => h) (Or.inl ⟨by rfl, ?_⟩) ?_ ?_
                            rotate_left
                            · intro w'
                              go_simp
                              with_reducible rfl
                            rotate_left
                            · simp only [Act.put, List.setIfInBounds_toArray, List.set_cons_zero, List.set_cons_succ, i64_w, i32_w]
                              rfl
                            refine pure_ (i := 9) (N := some 48) (v := ?_) (a' := ?_) #[true, true, true, true, true, false, true, true, true, true, false, false, false, false, false, false, false, false, false] rfl rfl (any_of HT_.out (by kernel_rfl)) (fun _ _ _ h => h) (Or.inl ⟨by rfl, ?_⟩) ?_ ?_
                            rotate_left
                            · intro w'
                              go_simp
                              with_reducible rfl
                            rotate_left
                            · simp only [Act.put, List.setIfInBounds_toArray, List.set_cons_zero, List.set_cons_succ, i64_w, i32_w]
                              rfl
                            refine pure_ (i := 11) (N := some 50) (v := ?_) (a' := ?_) #[true, true, true, true, true, false, true, true, true, true, false, true, false, false, false, false, false, false, false] rfl rfl (any_of HT_.out (by kernel_rfl)) (fun _ _ _ h => h) (Or.inl ⟨by rfl, ?_⟩) ?_ ?_
                            rotate_left
                            · intro w'
                              go_simp
                              with_reducible rfl
                            rotate_left
                            · simp only [Act.put, List.setIfInBounds_toArray, List.set_cons_zero, List.set_cons_succ, i64_w, i32_w]
                              rfl
                            refine take_ (i := 5) (N := some 44) (v := ?_) (a' := ?_) #[true, true, true, true, true, true, true, true, true, true, false, true, false, false, false, false, false, false, false] rfl rfl (take_ofW HT_.out HW_.out (by kernel_rfl)) (fun _ _ _ h => h) (Or.inl ⟨by rfl, ?_⟩) hHeld ?_ ?_
                            rotate_left
                            · rintro w' ⟨s0, s1, s2, s3, s4⟩
                              go_simp
                              with_reducible rfl
                            rotate_left
                            · simp only [Act.put, List.setIfInBounds_toArray, List.set_cons_zero, List.set_cons_succ, i64_w, i32_w]
                              rfl
                            refine take_ (i := 10) (N := some 49) (v := ?_) (a' := ?_) #[true, true, true, true, true, true, true, true, true, true, true, true, false, false, false, false, false, false, false] rfl rfl (take_ofW HT_.out HW_.out (by kernel_rfl)) (fun _ _ _ h => h) (Or.inl ⟨by rfl, ?_⟩) hHeld ?_ ?_
                            rotate_left
                            · rintro w' ⟨s0, s1, s2, s3, s4⟩
                              go_simp
                              with_reducible rfl
                            rotate_left
                            · simp only [Act.put, List.setIfInBounds_toArray, List.set_cons_zero, List.set_cons_succ, i64_w, i32_w]
                              rfl
                            refine pure_ (i := 12) (N := some 51) (v := ?_) (a' := ?_) #[true, true, true, true, true, true, true, true, true, true, true, true, true, false, false, false, false, false, false] rfl rfl (any_of HT_.out (by kernel_rfl)) (fun _ _ _ h => h) (Or.inl ⟨by rfl, ?_⟩) ?_ ?_
                            rotate_left
                            · intro w'
                              go_simp
                              with_reducible rfl
                            rotate_left
                            · simp only [Act.put, List.setIfInBounds_toArray, List.set_cons_zero, List.set_cons_succ, i64_w, i32_w]
                              rfl
                            refine take_ (i := 13) (N := some 52) (v := ?_) (a' := ?_) #[true, true, true, true, true, true, true, true, true, true, true, true, true, true, false, false, false, false, false] rfl rfl (take_ofW HT_.out HW_.out (by kernel_rfl)) (fun _ _ _ h => h) (Or.inl ⟨by rfl, ?_⟩) hHeld ?_ ?_
                            rotate_left
                            · rintro w' ⟨s0, s1, s2, s3, s4⟩
                              go_simp
                              with_reducible rfl
                            rotate_left
                            · simp only [Act.put, List.setIfInBounds_toArray, List.set_cons_zero, List.set_cons_succ, i64_w, i32_w]
                              rfl
                            refine one_ (i := 14) (N := some 53) #[true, true, true, true, true, true, true, true, true, true, true, true, true, true, true, false, false, false, false] rfl rfl (one_of HT_.out (by kernel_rfl)) (by decide) (fun K hK => ?_)
                            refine Kd.R_lit_step (Kd.int .i64) _ 3 ?hg (N := 53) ?hd (xs := ([rd ((rd_T29 l0 x10_2).f1) x11_3] : List Int)) (inner := [.int .i64 (rd ((rd_T29 l0 x10_2).f1) x11_3)]) (ok := fun _ => True) (okp := fun _ => True) ?hr ?hp (fun _ hk => hk) trivial (Below.refl _ _) (Nat.le_refl _) (by simp) ?_; (case hd => rfl); (case hg => rfl); (case hr => first | (go_simp; done) | (go_simp; rfl)); (case hp => exact (Reps.one (show Kd.M (Kd.int .i64) _ _ _ (rd ((rd_T29 l0 x10_2).f1) x11_3) [.int .i64 (rd ((rd_T29 l0 x10_2).f1) x11_3)] from rfl) (Reps.none _ _)))
                            intro v164 w17 ho18 hb hg_ hnew_
                            clear hg_ hnew_
                            (first | rw [← Ny163.out] at ho18 | (simp only [Int.reduceToNat] at ho18; rw [← Ny163.out] at ho18))
                            have n0_ := Aside0.mk (Kd.S_elder' (by (with_reducible repeat (first | apply Kd.S_alloc | apply Kd.S_drewN | apply Kd.S_drew)); exact HO_9.out) (Kd.R_base ho18) hb)
                            have n1_ := Aside0.mk (Kd.R_lower ho18 (below_size (by repeat (first | (with_reducible first | exact HB.out | apply below_alloc | apply pw_below_drewN | apply below_drew1) | exact HB.out))))
                            have n2_ := Aside0.mk (below_step (by repeat (first | (with_reducible first | exact HB.out | apply below_alloc | apply pw_below_drewN | apply below_drew1) | exact HB.out)) hb)
                            clear HO_9
                            clear HB
                            have HO_9 := n0_
                            have HO165 := n1_
                            have HB := n2_
                            clear n0_ n1_ n2_
                            clear hb ho18
                            obtain ⟨Ao19, co19, eo19⟩ := Kd.R_slice HO165.out
                            (first | subst eo19 | (injection eo19 with f1_ f2_ f3_; have f4_ := f1_.symm; have f5_ := f3_.symm; clear f1_ f2_ f3_; subst f4_; subst f5_))
                            refine hK.out _ _ ⟨((HB.out.cell (World.block_lt_of_cell? w _ hw160_0)).trans hw160_0), ((HB.out.cell (World.block_lt_of_cell? w _ hw160_1)).trans hw160_1), ((HB.out.cell (World.block_lt_of_cell? w _ hw161_0)).trans hw161_0), ((HB.out.cell (World.block_lt_of_cell? w _ hw161_1)).trans hw161_1), ((HB.out.cell (World.block_lt_of_cell? w _ hw162_0)).trans hw162_0)⟩ (fun hHeld => ?_)
                            clear hK K
                            refine norm_ (a' := ?_) ?_ ?_
                            rotate_left
                            · show Act.put _ (some 53) _ = _
                              simp only [Act.put, List.setIfInBounds_toArray, List.set_cons_zero, List.set_cons_succ, i64_w, i32_w]
                              rfl
                            refine pure_ (i := 15) (N := some 54) (v := ?_) (a' := ?_) #[true, true, true, true, true, true, true, true, true, true, true, true, true, true, true, true, false, false, false] rfl rfl (any_of HT_.out (by kernel_rfl)) (fun _ _ _ h => h) (Or.inl ⟨by rfl, ?_⟩) ?_ ?_
                            rotate_left
                            · intro w'
                              go_simp
                              with_reducible rfl
                            rotate_left
                            · simp only [Act.put, List.setIfInBounds_toArray, List.set_cons_zero, List.set_cons_succ, i64_w, i32_w]
                              rfl
                            refine one_ (i := 16) (N := some 55) #[true, true, true, true, true, true, true, true, true, true, true, true, true, true, true, true, true, false, false] rfl rfl (one_of HT_.out (by kernel_rfl)) (by decide) (fun K hK => ?_)
                            refine value_ (w1 := ?_) (v := ?_) (by rfl) rfl ?_ ?_
                            rotate_left 2
                            · go_simp
                              constructor
                              · rfl
                              · rfl
                            refine hK.out _ _ ⟨(World.cell?_alloc_lt _ _ _ (World.block_lt_of_cell? _ _ (((HB.out.cell (World.block_lt_of_cell? w _ hw160_0)).trans hw160_0)))).trans (((HB.out.cell (World.block_lt_of_cell? w _ hw160_0)).trans hw160_0)), (World.cell?_alloc_lt _ _ _ (World.block_lt_of_cell? _ _ (((HB.out.cell (World.block_lt_of_cell? w _ hw160_1)).trans hw160_1)))).trans (((HB.out.cell (World.block_lt_of_cell? w _ hw160_1)).trans hw160_1)), (World.cell?_alloc_lt _ _ _ (World.block_lt_of_cell? _ _ (((HB.out.cell (World.block_lt_of_cell? w _ hw161_0)).trans hw161_0)))).trans (((HB.out.cell (World.block_lt_of_cell? w _ hw161_0)).trans hw161_0)), (World.cell?_alloc_lt _ _ _ (World.block_lt_of_cell? _ _ (((HB.out.cell (World.block_lt_of_cell? w _ hw161_1)).trans hw161_1)))).trans (((HB.out.cell (World.block_lt_of_cell? w _ hw161_1)).trans hw161_1)), (World.cell?_alloc_lt _ _ _ (World.block_lt_of_cell? _ _ (((HB.out.cell (World.block_lt_of_cell? w _ hw162_0)).trans hw162_0)))).trans (((HB.out.cell (World.block_lt_of_cell? w _ hw162_0)).trans hw162_0))⟩ (fun hHeld => ?_)
                            clear hK K
                            refine norm_ (a' := ?_) ?_ ?_
                            rotate_left
                            · show Act.put _ (some 55) _ = _
                              simp only [Act.put, List.setIfInBounds_toArray, List.set_cons_zero, List.set_cons_succ, i64_w, i32_w]
                              rfl
                            refine one_ (i := 17) (N := some 56) #[true, true, true, true, true, true, true, true, true, true, true, true, true, true, true, true, true, true, false] rfl rfl (one_of HT_.out (by kernel_rfl)) (by decide) (fun K hK => ?_)
                            refine Kd.S_append_step k29 (w0 := w) w.heap.size (by rfl) (.tmp 39) (.tmp 55) 22 29 (.agg #[(.int .i64 0), (.slice none 0 0)]) 32 rfl Try.underlying22 info29 rfl (by decide) (by omega) u9 x9_3 (⟨(rd_T29 l0 x10_2).f0, y163⟩ : S29) [.int .i64 ((rd_T29 l0 x10_2).f0), .slice Ao19 y163.length co19] (fun _ => True) (fun k_ => some k_ = (.slice Ao19 y163.length co19 : Value).ownBlock) rfl rfl ?aP (fun k_ hk_ => ((Kd.R_mono (ok' := fun k_ => ((fun _ => True)) k_ ∧ some k_ ≠ (u9 : Value).ownBlock) (Kd.R_apart' (HO165.out) (Kd.S_typed HO_9.out) (by decide)) (fun k_ hk => ⟨trivial, hk.2⟩))).1 k_ hk_.symm) ?aF ?aO ?aB ?aS ?aL ?_
                            (case aP => exact k29_mkM _ _ _ (⟨(rd_T29 l0 x10_2).f0, y163⟩ : S29) (Kd.R_mono (Kd.R_tight rfl (Kd.R_mono (ok' := fun k_ => ((fun _ => True)) k_ ∧ some k_ ≠ (u9 : Value).ownBlock) (Kd.R_apart' (HO165.out) (Kd.S_typed HO_9.out) (by decide)) (fun k_ hk => ⟨trivial, hk.2⟩))) (fun _ h_ => h_)))
                            (case aB => exact (by repeat (first | (with_reducible first | exact HB.out | apply below_alloc | apply pw_below_drewN | apply below_drew1) | exact HB.out)))
                            (case aF => exact (fun _ _ => trivial))
                            (case aO => exact (by (with_reducible repeat (first | apply Kd.S_alloc | apply Kd.S_drewN | apply Kd.S_drew)); exact Kd.S_mono HO_9.out (fun k_ hk => ⟨trivial, fun e_ => hk.2 e_⟩)))
                            (case aS => exact (below_size (by repeat (first | (with_reducible first | exact HB.out | apply below_alloc | apply pw_below_drewN | apply below_drew1) | exact HB.out))))
                            (case aL => have := LMc15.out; omega)
                            intro v167 w20 ho hb hg hat
                            rw [← Ny166.out] at ho
                            have n0_ := Aside0.mk (hb)
                            have n1_ := Aside0.mk (ho)
                            clear HB
                            clear HO_9
                            clear HO165
                            have HB := n0_
                            have HO168 := n1_
                            clear n0_ n1_
                            clear ho hb hg hat
                            refine hK.out _ _ ⟨((HB.out.cell (World.block_lt_of_cell? w _ hw160_0)).trans hw160_0), ((HB.out.cell (World.block_lt_of_cell? w _ hw160_1)).trans hw160_1), ((HB.out.cell (World.block_lt_of_cell? w _ hw161_0)).trans hw161_0), ((HB.out.cell (World.block_lt_of_cell? w _ hw161_1)).trans hw161_1), ((HB.out.cell (World.block_lt_of_cell? w _ hw162_0)).trans hw162_0)⟩ (fun hHeld => ?_)
                            clear hK K
                            refine norm_ (a' := ?_) ?_ ?_
                            rotate_left
                            · show Act.put _ (some 56) _ = _
                              simp only [Act.put, List.setIfInBounds_toArray, List.set_cons_zero, List.set_cons_succ, i64_w, i32_w]
                              rfl
                            refine pure_ (i := 18) (N := some 9) (v := ?_) (a' := ?_) #[true, true, true, true, true, true, true, true, true, true, true, true, true, true, true, true, true, true, true] rfl rfl (any_of HT_.out (by kernel_rfl)) (fun _ _ _ h => h) (Or.inl ⟨by rfl, ?_⟩) ?_ ?_
                            rotate_left
                            · intro w'
                              go_simp
                              with_reducible rfl
                            rotate_left
                            · simp only [Act.put, List.setIfInBounds_toArray, List.set_cons_zero, List.set_cons_succ, i64_w, i32_w]
                              rfl
                            refine done_ (done_of HT_.out (by kernel_rfl)) ?_
                            try go_wp2
                            go_roundg k3
                            case measure => have := HJ5.out; have := HK2.out; have := HK3.out; omega
                            case rel => exact ⟨(y166), (wrap64 (x11_3 + 1)), (by first | rfl | (simp; done) | (simp [*]; done)), H', ⟨by have := HJ5.out; have := HK2.out; have := HK3.out; omega⟩, ⟨by (with_reducible repeat (first | apply Kd.S_alloc | apply Kd.S_drewN | apply Kd.S_drew)); exact HO168.out⟩, ⟨by repeat (first | (with_reducible first | exact HB.out | apply below_alloc | apply pw_below_drewN | apply below_drew1) | exact HB.out)⟩⟩
                          · rw [if_neg c15] at H
                            exact absurd H (by simp)
                        · rw [if_neg c14] at H
                          exact absurd H (by simp)
                      · rw [if_neg c13] at H
                        have c13b0 : decide (x11_3 < (((rd_T29 l0 x10_2).f1).length : Int)) = false := decide_eq_false c13
                        clear c13
                        have H' := Aside0.mk H
                        clear H
                        have p159 : 0 ≤ (x10_2 : Int) := of_decide_eq_true (by first | (with_reducible assumption) | assumption)
                        have q159 : x10_2 < (l0.length : Int) := of_decide_eq_true (by first | (with_reducible assumption) | assumption)
                        obtain ⟨ad159, A159_1, c159_1, e159, hx159_0, hx159_1, hl159_1, hi159_1⟩ := at_T29 HR0.out x10_2 p159 q159
                        cases e159
                        replace hx159_0 := (HB.out.cell (World.block_lt_of_cell? w _ hx159_0)).trans hx159_0
                        replace hx159_1 := (HB.out.cell (World.block_lt_of_cell? w _ hx159_1)).trans hx159_1
                        have HR159_1 := Aside0.mk hi159_1
                        have HC159_1 := Aside0.mk hl159_1
                        clear hi159_1 hl159_1
                        replace p159 := eq_true p159
                        replace q159 := eq_true q159
                        go_wp2
                        go_roundg k3
                        case measure => have := HJ5.out; have := HK2.out; have := HK3.out; omega
                        case rel => exact ⟨(x9_3), (wrap64 (x10_2 - 1)), (by first | rfl | (simp; done) | (simp [*]; done)), H', ⟨by have := HJ5.out; have := HK2.out; have := HK3.out; omega⟩, ⟨by (with_reducible repeat (first | apply Kd.S_alloc | apply Kd.S_drewN | apply Kd.S_drew)); exact HO_9.out⟩, ⟨by repeat (first | (with_reducible first | exact HB.out | apply below_alloc | apply pw_below_drewN | apply below_drew1) | exact HB.out)⟩⟩
                    · rw [if_neg c12] at H
                      exact absurd H (by simp)
                  · rw [if_neg c11] at H
                    exact absurd H (by simp)
            · rw [if_neg c10] at H
              have c10b0 : decide (0 ≤ x10_2) = false := decide_eq_false c10
              clear c10
              replace H := Option.bind_eq_some_iff.mp H
              obtain ⟨t169, A210, H⟩ := H
              replace H : ((wait_Reach.f x9_2 a1 a2).bind fun t170 => (if (t169 == t170) = true then ((wait_Still.f l0).bind fun t171 => ((wait_Still.f x9_2).bind fun t172 => (some (t171 == t172)))) else (some false))) = some r := H
              have A21 := Aside0.mk A210
              clear A210
              replace H := Option.bind_eq_some_iff.mp H
              obtain ⟨t170, A220, H⟩ := H
              replace H : (if (t169 == t170) = true then ((wait_Still.f l0).bind fun t171 => ((wait_Still.f x9_2).bind fun t172 => (some (t171 == t172)))) else (some false)) = some r := H
              have A22 := Aside0.mk A220
              clear A220
              by_cases c23 : (t169 == t170) = true
              · rw [if_pos c23] at H
                have c23b0 : (t169 == t170) = true := c23
                (try (have c23b1 : decide (t169 = t170) = true := by simpa using c23))
                (try (have c23b2 : (t169 == t170) = true := by simpa using c23))
                clear c23
                replace H := Option.bind_eq_some_iff.mp H
                obtain ⟨t171, A240, H⟩ := H
                replace H : ((wait_Still.f x9_2).bind fun t172 => (some (t171 == t172))) = some r := H
                have A24 := Aside0.mk A240
                clear A240
                replace H := Option.bind_eq_some_iff.mp H
                obtain ⟨t172, A250, H⟩ := H
                replace H : (some (t171 == t172)) = some r := H
                have A25 := Aside0.mk A250
                clear A250
                obtain rfl := Option.some.inj H
                go_wp2_with (first | ((with_reducible refine gate_callee (f := 10) rfl ?_); refine goesL_ (some 60) rfl rfl Try.func10 (by kernel_rfl) rfl #[.slice A0 l0.length c0, .int .i64 a1, .int .i64 a2] rfl (by (try simp only [List.map_toArray, List.map_cons, List.map_nil]); first | done | rfl | (simp only [List.length_drop, List.length_take]; rfl)) ?_; (with_reducible refine (wait_Reach.calls _ _ l0 a1 a2 t169 _ ?side1 ?side2 A21.out).mono ?_); (case side1 => repeat (first | exact (Kd.C_below HR0.out HB.out) | (with_reducible refine Kd.C_alloc ?_ _) | (with_reducible refine Kd.C_drewN ?_ _) | (with_reducible refine Kd.C_drew ?_))); (case side2 => exact HC0.out); rintro e w26 ⟨rfl, hb⟩; refine ⟨_, rfl, ?_⟩; have n0_ := Aside0.mk (Kd.S_below (by (with_reducible repeat (first | apply Kd.S_alloc | apply Kd.S_drewN | apply Kd.S_drew)); exact HO_9.out) hb); have n1_ := Aside0.mk (below_step (by repeat (first | (with_reducible first | exact HB.out | apply below_alloc | apply pw_below_drewN | apply below_drew1) | exact HB.out)) hb); clear HO_9; clear HB; have HO_9 := n0_; have HB := n1_; clear n0_ n1_; (try clear hb); (try clear hb2); (try clear hk); (try clear hi); obtain ⟨Ao27, co27, eo27⟩ := Kd.S_slice HO_9.out; subst eo27) | ((with_reducible refine gate_callee (f := 10) rfl ?_); refine goesL_ (some 64) rfl rfl Try.func10 (by kernel_rfl) rfl #[.slice Ao27 x9_2.length co27, .int .i64 a1, .int .i64 a2] rfl (by (try simp only [List.map_toArray, List.map_cons, List.map_nil]); first | done | rfl | (simp only [List.length_drop, List.length_take]; rfl)) ?_; (with_reducible refine (wait_Reach.calls _ _ x9_2 a1 a2 t170 _ ?side1 ?side2 A22.out).mono ?_); (case side1 => repeat (first | exact (Kd.S_reads' HO_9.out).2.2 | (with_reducible refine Kd.C_alloc ?_ _) | (with_reducible refine Kd.C_drewN ?_ _) | (with_reducible refine Kd.C_drew ?_))); (case side2 => exact (Kd.S_reads' HO_9.out).2.1); rintro e w28 ⟨rfl, hb⟩; refine ⟨_, rfl, ?_⟩; have n0_ := Aside0.mk (Kd.S_below (by (with_reducible repeat (first | apply Kd.S_alloc | apply Kd.S_drewN | apply Kd.S_drew)); exact HO_9.out) hb); have n1_ := Aside0.mk (below_step (by repeat (first | (with_reducible first | exact HB.out | apply below_alloc | apply pw_below_drewN | apply below_drew1) | exact HB.out)) hb); clear HO_9; clear HB; have HO_9 := n0_; have HB := n1_; clear n0_ n1_; (try clear hb); (try clear hb2); (try clear hk); (try clear hi)) | (go_at_call 13; (with_reducible refine (wait_Still.calls _ _ l0 t171 _ ?side1 ?side2 A24.out).mono ?_); (case side1 => repeat (first | exact (Kd.C_below HR0.out HB.out) | (with_reducible refine Kd.C_alloc ?_ _) | (with_reducible refine Kd.C_drewN ?_ _) | (with_reducible refine Kd.C_drew ?_))); (case side2 => exact HC0.out); rintro e w29 ⟨rfl, hb⟩; have n0_ := Aside0.mk (Kd.S_below (by (with_reducible repeat (first | apply Kd.S_alloc | apply Kd.S_drewN | apply Kd.S_drew)); exact HO_9.out) hb); have n1_ := Aside0.mk (below_step (by repeat (first | (with_reducible first | exact HB.out | apply below_alloc | apply pw_below_drewN | apply below_drew1) | exact HB.out)) hb); clear HO_9; clear HB; have HO_9 := n0_; have HB := n1_; clear n0_ n1_; (try clear hb); (try clear hb2); (try clear hk); (try clear hi)) | (go_at_call 13; (with_reducible refine (wait_Still.calls _ _ x9_2 t172 _ ?side1 ?side2 A25.out).mono ?_); (case side1 => repeat (first | exact (Kd.S_reads' HO_9.out).2.2 | (with_reducible refine Kd.C_alloc ?_ _) | (with_reducible refine Kd.C_drewN ?_ _) | (with_reducible refine Kd.C_drew ?_))); (case side2 => exact (Kd.S_reads' HO_9.out).2.1); rintro e w30 ⟨rfl, hb⟩; have n0_ := Aside0.mk (Kd.S_below (by (with_reducible repeat (first | apply Kd.S_alloc | apply Kd.S_drewN | apply Kd.S_drew)); exact HO_9.out) hb); have n1_ := Aside0.mk (below_step (by repeat (first | (with_reducible first | exact HB.out | apply below_alloc | apply pw_below_drewN | apply below_drew1) | exact HB.out)) hb); clear HO_9; clear HB; have HO_9 := n0_; have HB := n1_; clear n0_ n1_; (try clear hb); (try clear hb2); (try clear hk); (try clear hi)))
                go_ret
                exact ⟨by first | rfl | (simp [errW_none, errW_some] <;> rfl) | (simp [*, errW_none, errW_some] <;> rfl), by repeat (first | (with_reducible first | exact HB.out | apply below_alloc | apply pw_below_drewN | apply below_drew1) | exact HB.out)⟩
              · rw [if_neg c23] at H
                have c23b0 : (t169 == t170) = false := by simpa using c23
                (try (have c23b1 : decide (t169 = t170) = false := by simpa using c23))
                (try (have c23b2 : (t169 == t170) = false := by simpa using c23))
                (try (have c23b3 : ¬ (t169 = t170) := by simpa using c23))
                clear c23
                obtain rfl := Option.some.inj H
                go_wp2_with (first | ((with_reducible refine gate_callee (f := 10) rfl ?_); refine goesL_ (some 60) rfl rfl Try.func10 (by kernel_rfl) rfl #[.slice A0 l0.length c0, .int .i64 a1, .int .i64 a2] rfl (by (try simp only [List.map_toArray, List.map_cons, List.map_nil]); first | done | rfl | (simp only [List.length_drop, List.length_take]; rfl)) ?_; (with_reducible refine (wait_Reach.calls _ _ l0 a1 a2 t169 _ ?side1 ?side2 A21.out).mono ?_); (case side1 => repeat (first | exact (Kd.C_below HR0.out HB.out) | (with_reducible refine Kd.C_alloc ?_ _) | (with_reducible refine Kd.C_drewN ?_ _) | (with_reducible refine Kd.C_drew ?_))); (case side2 => exact HC0.out); rintro e w31 ⟨rfl, hb⟩; refine ⟨_, rfl, ?_⟩; have n0_ := Aside0.mk (Kd.S_below (by (with_reducible repeat (first | apply Kd.S_alloc | apply Kd.S_drewN | apply Kd.S_drew)); exact HO_9.out) hb); have n1_ := Aside0.mk (below_step (by repeat (first | (with_reducible first | exact HB.out | apply below_alloc | apply pw_below_drewN | apply below_drew1) | exact HB.out)) hb); clear HO_9; clear HB; have HO_9 := n0_; have HB := n1_; clear n0_ n1_; (try clear hb); (try clear hb2); (try clear hk); (try clear hi); obtain ⟨Ao32, co32, eo32⟩ := Kd.S_slice HO_9.out; subst eo32) | ((with_reducible refine gate_callee (f := 10) rfl ?_); refine goesL_ (some 64) rfl rfl Try.func10 (by kernel_rfl) rfl #[.slice Ao32 x9_2.length co32, .int .i64 a1, .int .i64 a2] rfl (by (try simp only [List.map_toArray, List.map_cons, List.map_nil]); first | done | rfl | (simp only [List.length_drop, List.length_take]; rfl)) ?_; (with_reducible refine (wait_Reach.calls _ _ x9_2 a1 a2 t170 _ ?side1 ?side2 A22.out).mono ?_); (case side1 => repeat (first | exact (Kd.S_reads' HO_9.out).2.2 | (with_reducible refine Kd.C_alloc ?_ _) | (with_reducible refine Kd.C_drewN ?_ _) | (with_reducible refine Kd.C_drew ?_))); (case side2 => exact (Kd.S_reads' HO_9.out).2.1); rintro e w33 ⟨rfl, hb⟩; refine ⟨_, rfl, ?_⟩; have n0_ := Aside0.mk (Kd.S_below (by (with_reducible repeat (first | apply Kd.S_alloc | apply Kd.S_drewN | apply Kd.S_drew)); exact HO_9.out) hb); have n1_ := Aside0.mk (below_step (by repeat (first | (with_reducible first | exact HB.out | apply below_alloc | apply pw_below_drewN | apply below_drew1) | exact HB.out)) hb); clear HO_9; clear HB; have HO_9 := n0_; have HB := n1_; clear n0_ n1_; (try clear hb); (try clear hb2); (try clear hk); (try clear hi)))
                go_ret
                exact ⟨by first | rfl | (simp [errW_none, errW_some] <;> rfl) | (simp [*, errW_none, errW_some] <;> rfl), by repeat (first | (with_reducible first | exact HB.out | apply below_alloc | apply pw_below_drewN | apply below_drew1) | exact HB.out)⟩

end Go.Proofs.Ytdpdghahmapgkaa.Print
