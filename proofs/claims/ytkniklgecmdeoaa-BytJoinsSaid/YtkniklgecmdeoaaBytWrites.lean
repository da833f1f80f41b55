/- The walk of BytWrites: any puts and lays answer, and make the bytes, that the document says. -/
import Derived.Test.YtkniklgecmdeoaaByt1
namespace Go.Proofs.Ytkniklgecmdeoaa.Print
open Go.RowKit Go.Proofs.YtkniklgecmdeoaaW.PrintWords Go.Proofs.YtkniklgecmdeoaaW.PrintLast Go.Proofs.YtkniklgecmdeoaaW.PrintMore Go.Proofs.Ytkniklgecmdeoaa.Pure
set_option linter.unusedVariables false
set_option linter.unusedSimpArgs false
/-- A row of bytes of the call's own, apart from the Writer's. -/
def Own (w wr : World) (r : Option Nat) (v : Value) (L : List Int) : Prop := wr.ownsRow 0 5 1 v L.length (nums .u8 L) ∧ ∀ k, v.ownBlock = some k → w.heap.size ≤ k ∧ r ≠ some k
/-- Behind k calls: the Writer and the row hold the same bytes. -/
def WI (w : World) (g k : Nat) (v : Value) (wr : World) : Prop :=
  ∃ r L, Wr wr g r L ∧ Own w wr r v L ∧ (∀ k, r = some k → w.heap.size ≤ k) ∧ w.heap.size ≤ g ∧ L.length ≤ 700 * k ∧ Below w.heap.size w wr
theorem Own.ne_g {w wr : World} {r : Option Nat} {v : Value} {L : List Int} {g : Nat} {o : Value} (h : Own w wr r v L) (hg : wr.heap[g]? = some (.cells #[o] 28 (0, 0))) : ∀ k, v.ownBlock = some k → k ≠ g := by
  rintro k hk rfl
  obtain ⟨cur, hc⟩ := own_typed h.1 hk
  rw [hg] at hc
  simp at hc
/-- What a call of the Writer leaves of the row. -/
theorem Own.past {w wr w1 : World} {g : Nat} {r : Option Nat} {v : Value} {L M : List Int} (h : Own w wr r v L) {N : List Int} (hw : Wr wr g r N) (hp : WrPost g r M wr w1) : ∃ r1, Wr w1 g r1 M ∧ Own w w1 r1 v L ∧ (r1 = r ∨ ∃ b, r1 = some b ∧ wr.heap.size ≤ b) ∧ Chg (fun k => k = g ∨ some k = r) wr w1 := by
  obtain ⟨r1, h1, h2, h3⟩ := hp
  obtain ⟨o, hb, _, _⟩ := hw
  have hne := h.ne_g hb
  refine ⟨r1, h1, ⟨own_step h.1 h3 ?_, fun k hk => ⟨(h.2 k hk).1, ?_⟩⟩, h2, h3⟩
  · rintro k hk (e | e)
    · exact hne k hk e
    · exact (h.2 k hk).2 e.symm
  · rcases h2 with rfl | ⟨b, rfl, hb⟩
    · exact (h.2 k hk).2
    · intro e
      obtain rfl := Option.some.inj e
      have := own_lt h.1 b hk
      omega
/-- .. of an append to the row. -/
theorem Own.grown {w wr w1 : World} {g : Nat} {r : Option Nat} {v v1 : Value} {L M N : List Int} (h : Own w wr r v L) (hw : Wr wr g r N) (hwr : w.heap.size ≤ wr.heap.size) (hown : w1.ownsRow 0 5 1 v1 M.length (nums .u8 M)) (hg : wr.grownBy w1 v.ownBlock)
    (hat : v1.ownBlock = v.ownBlock ∨ ∃ b, v1.ownBlock = some b ∧ wr.heap.size ≤ b) : Wr w1 g r N ∧ Own w w1 r v1 M := by
  have hlt := hw.lt
  obtain ⟨o, hb, _, _⟩ := id hw
  have hne := h.ne_g hb
  refine ⟨hw.step (Chg.of_grown (S := fun k => v.ownBlock = some k) hg (fun k e => e)) (fun e => hne g e rfl) (fun k hk e => (h.2 k e).2 hk), hown, fun k hk => ?_⟩
  rcases hat with e | ⟨b, e, hb⟩
  · exact h.2 k (e ▸ hk)
  · rw [hk] at e
    obtain rfl := Option.some.inj e
    exact ⟨by omega, fun e2 => by have := hlt.2 k e2; omega⟩
theorem WI.next {w wr w2 w3 w4 : World} {g k : Nat} {v v1 : Value} {r : Option Nat} {L B : List Int} (hw : Wr wr g r L) (ho : Own w wr r v L) (hr : ∀ k, r = some k → w.heap.size ≤ k) (hg : w.heap.size ≤ g) (hl : L.length ≤ 700 * k) (hb : Below w.heap.size w wr)
    (hB : B.length ≤ 700) (hp : WrPost g r (L ++ B) wr w2) (hb3 : Below w2.heap.size w2 w3) (hown : w4.ownsRow 0 5 1 v1 (L ++ B).length (nums .u8 (L ++ B))) (hgr : w3.grownBy w4 v.ownBlock) (hat : v1.ownBlock = v.ownBlock ∨ ∃ b, v1.ownBlock = some b ∧ w3.heap.size ≤ b) : WI w g (k + 1) v1 w4 := by
  obtain ⟨r1, h1, h2, h3, h4⟩ := ho.past hw hp
  have hs2 : w.heap.size ≤ w2.heap.size := Nat.le_trans hb.size h4.size
  have hs3 : w.heap.size ≤ w3.heap.size := Nat.le_trans hs2 hb3.size
  have ho3 : Own w w3 r1 v L := ⟨own_step h2.1 (Chg.of_new hb3 (fun _ => False)) (fun _ _ x => x), h2.2⟩
  obtain ⟨h5, h6⟩ := ho3.grown (h1.below hb3) hs3 hown hgr hat
  have hr1 : ∀ k, r1 = some k → w.heap.size ≤ k := fun k hk => by
    rcases h3 with rfl | ⟨b, rfl, hbl⟩
    · exact hr k hk
    · obtain rfl := Option.some.inj hk
      exact Nat.le_trans hb.size hbl
  refine ⟨r1, L ++ B, h5, h6, hr1, hg, by simp; omega, ?_⟩
  have hb2 : Below w.heap.size w w2 := Chg.then_ hb h4 (fun k hk => by rcases hk with rfl | e; exact hg; exact hr k e.symm) hb.size
  exact (below_then hb2 hs2 hb3).grown hgr hs3 (fun k hk => (h2.2 k hk).1)
theorem putB_len (n m : Int) : (putB n m).length ≤ 700 := by
  unfold putB
  split
  · rename_i h
    rw [le_length]
    rcases h.1 with rfl | rfl | rfl <;> decide
  · simp
theorem layB_len (b : List Int) : (layB b).length ≤ 700 := by
  unfold layB
  split
  · simp; omega
  · simp
theorem four_cells {W : World} {g : Nat} {a b c d : Value} {t : TypeId} (h : W.heap[g]? = some (.cells #[a, b, c, d] t (0, 0))) :
    W.cell? ⟨g, 0, none⟩ = some a ∧ W.cell? ⟨g, 1, none⟩ = some b ∧ W.cell? ⟨g, 2, none⟩ = some c ∧ W.cell? ⟨g, 3, none⟩ = some d := ⟨(blk_cell h 0).trans rfl, (blk_cell h 1).trans rfl, (blk_cell h 2).trans rfl, (blk_cell h 3).trans rfl⟩
set_option maxHeartbeats 4000000 in
set_option maxRecDepth 100000 in
theorem writes_walk (A0 : Option Addr) (c0 : Nat) (l0 : List S30) (w : World) (hr0 : Kd.C k30 w A0 l0.length l0) (hc0 : l0.length ≤ c0) (hn : ∀ x ∈ l0, x.f1 < 9223372036854775808) :
    Calls Try.prog 3 #[.slice A0 l0.length c0] w fun e w' => e = .returned (.bool true) ∧ Below w.heap.size w w' := by
  have HR : ∀ {X : World}, Below w.heap.size w X → Kd.C k30 X A0 l0.length l0 := fun hb => Kd.C_below hr0 hb
  replace HR := Aside0.mk @HR
  have h63 : l0.length ≤ 9223372036854775807 := hr0.2.1
  clear hr0
  replace hn := Aside0.mk hn
  obtain ⟨ok, hsm, hfew⟩ := few_calls l0
  replace hfew := Aside0.mk hfew
  have haw := Aside0.mk awake_calls
  cases ok with
  | false =>
    clear hsm
    go_enter Try.func3, Try.ntmps3
    go_wp2_with (first | (go_at_call 9; refine (haw.out _).mono ?_; rintro e w1 ⟨rfl, hb1⟩; replace hb1 := Aside0.mk hb1) | (go_at_call 10; refine (hfew.out A0 c0 _ (HR.out hb1.out) hc0).mono ?_; rintro e w2 ⟨rfl, hd2⟩; have hb2 := Aside0.mk (below_then hb1.out hb1.out.size hd2); clear hd2))
    go_ret
    exact ⟨rfl, hb2.out⟩
  | true =>
    replace hsm := hsm rfl
    have hlen := hsm.len
    replace hsm := Aside0.mk hsm
    go_enter Try.func3, Try.ntmps3
    go_wp2_with (first | (go_at_call 9; refine (haw.out _).mono ?_; rintro e w1 ⟨rfl, hb1⟩; replace hb1 := Aside0.mk hb1) | (go_at_call 10; refine (hfew.out A0 c0 _ (HR.out hb1.out) hc0).mono ?_; rintro e w2 ⟨rfl, hd2⟩; have hb2 := Aside0.mk (below_then hb1.out hb1.out.size hd2); clear hd2))
    go_loopw [6, 7] (fun v6 v7 wr => ∃ k : Nat, k ≤ l0.length ∧ v7 = .int .i64 k ∧ Aside0 (WI w w2.heap.size k v6 wr)) (fun _ v7 _ => l0.length - (intOf v7).toNat)
    case atStart => exact ⟨0, Nat.zero_le _, rfl, ⟨none, [], wr_new w2, ⟨own_nil _ _ _ _, fun k e => by cases e⟩, (fun k e => by cases e), hb2.out.size, by simp, hb2.out.alloc hb2.out.size _⟩⟩
    case round =>
      obtain ⟨k, hk, rfl, HI⟩ := hrel
      obtain ⟨r, L, hW, hO, hr, hg, hL, hB⟩ := HI.out
      obtain ⟨A6, c6, rfl⟩ := own_slice hO.1
      clear HI
      by_cases hlk : k < l0.length
      · obtain ⟨ad, A3, c3, rfl, h0, h1, h2, h3, hl3, hC3⟩ := at_T30 (HR.out (Below.refl _ _)) (k : Int) (by omega) (by omega)
        have hx3 : (rd_T30 l0 (k : Int)).f3.length ≤ 600 := hsm.out.each k hlk
        have hx1 : (rd_T30 l0 (k : Int)).f1 < 9223372036854775808 := hn.out _ (by
          have : rd_T30 l0 (k : Int) = l0[k] := by simp [rd_T30, List.getD_eq_getElem?_getD, List.getElem?_eq_getElem hlk]
          rw [this]; exact List.getElem_mem hlk)
        generalize rd_T30 l0 (k : Int) = x at *
        replace h0 := pw_cell_below hB h0
        replace h1 := pw_cell_below hB h1
        replace h2 := pw_cell_below hB h2
        replace h3 := pw_cell_below hB h3
        rw [show ((k : Int)).toNat = k by omega] at h0 h1 h2 h3
        have hXC : ∀ {X : World}, Below w.heap.size w X → Kd.C (Kd.int .u8) X A3 x.f3.length x.f3 := fun hb => Kd.C_below hC3 hb
        have hbox : ∀ {M : List Int} (w5 : World), WrPost w2.heap.size r M wr w5 → True := fun _ _ => trivial
        replace hXC := Aside0.mk @hXC
        clear hC3 hbox
        have hbox : Aside0 (∀ (w5 : World) {M : List Int}, WrPost w2.heap.size r M (wr.alloc (.cells #[.bool x.f0, .int .i64 x.f1, .int .i64 x.f2, .slice A3 x.f3.length c3] 30)) w5 → w5.heap[wr.heap.size]? = some (.cells #[.bool x.f0, .int .i64 x.f1, .int .i64 x.f2, .slice A3 x.f3.length c3] 30 (0, 0))) := ⟨fun w5 M h => by
          obtain ⟨_, _, _, hc⟩ := h
          have := hW.lt
          refine hc.obj (heap_alloc_new wr _) ?_
          rintro (e | e)
          · omega
          · have := this.2 _ e.symm; omega⟩
        have hWa : Aside0 (∀ o, Wr (wr.alloc o) w2.heap.size r L) := ⟨fun o => hW.below (below_alloc (Below.refl _ _) o)⟩
        have hBa : Aside0 (∀ o, Below w.heap.size w (wr.alloc o)) := ⟨fun o => hB.alloc hB.size o⟩
        replace hW := Aside0.mk hW
        replace hO := Aside0.mk hO
        replace hr := Aside0.mk hr
        replace hg := Aside0.mk hg
        replace hL := Aside0.mk hL
        replace hB := Aside0.mk hB
        replace hx1 := Aside0.mk hx1
        replace hx3 := Aside0.mk hx3
        obtain ⟨y0, y1, y2, y3⟩ := x
        cases y0 with
        | true =>
          obtain ⟨Q, hQd⟩ : ∃ Q, layB y3 = Q := ⟨_, rfl⟩
          obtain ⟨E, hE⟩ : ∃ E, layE y3 = E := ⟨_, rfl⟩
          have hQ := Aside0.mk (show Q.length ≤ 700 by rw [← hQd]; exact layB_len _)
          replace hQd := Aside0.mk hQd
          replace hE := Aside0.mk hE
          go_wp2_with fail
          refine (lay_any w2.heap.size r L A3 c3 y3 _ (hWa.out _) (fun W1 hc => reads_of_C (hXC.out (Chg.then_ (hBa.out _) hc (fun k hk => by rcases hk with rfl | e; exact hg.out; exact hr.out k e.symm) (hBa.out _).size))) (by have := hL.out; omega) (by have := hx3.out; omega)).mono ?_
          rintro e w5 ⟨rfl, hq5⟩
          rw [hQd.out] at hq5
          have hx5 := Aside0.mk (hbox.out w5 hq5)
          have hp5 := Aside0.mk (WrPost.drawn (below_alloc (Below.refl wr.heap.size wr) _) hq5)
          have hb5 : Aside0 (Below w.heap.size w w5) := by
            obtain ⟨r5, _, _, hc5⟩ := hp5.out
            exact ⟨Chg.then_ hB.out hc5 (fun k hk => by rcases hk with rfl | e; exact hg.out; exact hr.out k e.symm) hB.out.size⟩
          have hO5 : Aside0 (w5.ownsRow 0 5 1 (.slice A6 L.length c6) L.length (nums .u8 L)) := by
            obtain ⟨r5, _, hO5, _⟩ := hO.out.past hW.out hp5.out
            exact ⟨hO5.1⟩
          clear hq5
          obtain ⟨k0, k1, k2, k3⟩ := four_cells hx5.out
          rw [hE.out]
          go_wp2_with fail
          refine (ref_lay A3 c3 y3 _ (hXC.out hb5.out) hl3 (by have := hx3.out; omega)).mono ?_
          rintro e w6 ⟨v0, rfl, hR6, hb6⟩
          rw [hQd.out] at hR6
          rw [hE.out]
          obtain ⟨A7, c7, rfl, hl7, hC7⟩ := Kd.R_reads hR6
          generalize hQl : Q.length = q at hl7 hC7
          replace hC7 := Aside0.mk hC7
          have hb56 := Aside0.mk hb6
          have hO6 := Aside0.mk (own_step hO5.out (Chg.of_new hb6 (fun _ => False)) (fun _ _ x => x))
          clear hR6 hb6
          replace hQl := Aside0.mk hQl
          clear k0 k1 k2 k3
          go_wp2_with ((with_reducible refine gate_builtin (b := .append) (xs := #[.tmp 49, .tmp 50]) rfl ?_); at_builtin; refine print_append_row (w0 := w6) 0 rfl (.tmp 49) (.tmp 50) 26 5 .u8 1 rfl Try.underlying26 info5 (by decide) (.slice A6 L.length c6) L Q A7 q c7 rfl rfl hO6.out (reads_of_C hC7.out) (Below.refl 0 w6) (Nat.zero_le _) (by have := hQ.out; have := hQl.out; have := hL.out; omega) ?_; intro v1 w7 hown _ hgr hat; obtain ⟨A8, c8, rfl⟩ := own_slice hown; have HN := WI.next hW.out hO.out hr.out hg.out hL.out hB.out hQ.out hp5.out hb56.out hown hgr hat; generalize (L ++ Q).length = n8 at HN; replace HN := Aside0.mk HN; clear hown hgr hat)
          go_roundw
          case rel => exact ⟨k + 1, by omega, by go_num, HN⟩
          case measure => simp [intOf]; omega
        | false =>
          obtain ⟨Q, hQd⟩ : ∃ Q, putB y1 y2 = Q := ⟨_, rfl⟩
          obtain ⟨E, hE⟩ : ∃ E, putE y1 y2 = E := ⟨_, rfl⟩
          have hQ := Aside0.mk (show Q.length ≤ 700 by rw [← hQd]; exact putB_len _ _)
          replace hQd := Aside0.mk hQd
          replace hE := Aside0.mk hE
          go_wp2_with fail
          refine (put_any w2.heap.size r L y1 y2 _ (hWa.out _) (by have := hL.out; omega)).mono ?_
          rintro e w5 ⟨rfl, hq5⟩
          rw [hQd.out] at hq5
          have hx5 := Aside0.mk (hbox.out w5 hq5)
          have hp5 := Aside0.mk (WrPost.drawn (below_alloc (Below.refl wr.heap.size wr) _) hq5)
          have hb5 : Aside0 (Below w.heap.size w w5) := by
            obtain ⟨r5, _, _, hc5⟩ := hp5.out
            exact ⟨Chg.then_ hB.out hc5 (fun k hk => by rcases hk with rfl | e; exact hg.out; exact hr.out k e.symm) hB.out.size⟩
          have hO5 : Aside0 (w5.ownsRow 0 5 1 (.slice A6 L.length c6) L.length (nums .u8 L)) := by
            obtain ⟨r5, _, hO5, _⟩ := hO.out.past hW.out hp5.out
            exact ⟨hO5.1⟩
          clear hq5
          obtain ⟨k0, k1, k2, k3⟩ := four_cells hx5.out
          rw [hE.out]
          go_wp2_with fail
          refine (ref_put y1 y2 _ hx1.out).mono ?_
          rintro e w6 ⟨v0, rfl, hR6, hb6⟩
          rw [hQd.out] at hR6
          rw [hE.out]
          obtain ⟨A7, c7, rfl, hl7, hC7⟩ := Kd.R_reads hR6
          generalize hQl : Q.length = q at hl7 hC7
          replace hC7 := Aside0.mk hC7
          have hb56 := Aside0.mk hb6
          have hO6 := Aside0.mk (own_step hO5.out (Chg.of_new hb6 (fun _ => False)) (fun _ _ x => x))
          clear hR6 hb6
          replace hQl := Aside0.mk hQl
          clear k0 k1 k2 k3
          go_wp2_with ((with_reducible refine gate_builtin (b := .append) (xs := #[.tmp 69, .tmp 70]) rfl ?_); at_builtin; refine print_append_row (w0 := w6) 0 rfl (.tmp 69) (.tmp 70) 26 5 .u8 1 rfl Try.underlying26 info5 (by decide) (.slice A6 L.length c6) L Q A7 q c7 rfl rfl hO6.out (reads_of_C hC7.out) (Below.refl 0 w6) (Nat.zero_le _) (by have := hQ.out; have := hQl.out; have := hL.out; omega) ?_; intro v1 w7 hown _ hgr hat; obtain ⟨A8, c8, rfl⟩ := own_slice hown; have HN := WI.next hW.out hO.out hr.out hg.out hL.out hB.out hQ.out hp5.out hb56.out hown hgr hat; generalize (L ++ Q).length = n8 at HN; replace HN := Aside0.mk HN; clear hown hgr hat)
          go_roundw
          case rel => exact ⟨k + 1, by omega, by go_num, HN⟩
          case measure => simp [intOf]; omega
      · obtain rfl : k = l0.length := by omega
        go_wp2_with fail
        refine (bytes_any w2.heap.size r L _ hW (by omega)).mono ?_
        rintro e w5 ⟨v0, rfl, hR5, hd5⟩
        obtain ⟨A7, c7, rfl, hl7, hC7⟩ := Kd.R_reads hR5
        have hb5 := Aside0.mk (below_then hB hB.size hd5)
        have hO5 := own_step hO.1 (Chg.of_new hd5 (fun _ => False)) (fun _ _ x => x)
        obtain ⟨A6', c6', e6, hR6⟩ := own_reads hO5
        obtain rfl : A6 = A6' := by injection e6
        have hl6 : L.length ≤ c6 := by
          rcases hO5.2 with ⟨e, h0⟩ | ⟨q, cap, cur, e, _, _, h0, _⟩
          · rw [h0]; exact Nat.zero_le _
          · injection e with e1 e2 e3; omega
        have hC6 := Aside0.mk (C_of_reads_ hR6)
        replace hC7 := Aside0.mk hC7
        have hLl := Aside0.mk hL
        clear hR5 hd5 hO5 e6 hR6 hO hW hr hg hL
        generalize hn : L.length = n at hl6 hC6 hC7 hl7
        replace hn := Aside0.mk hn
        go_wp2_with fail
        have hs := ref_same A7 A6 c7 c6 L L w5 (by rw [hn.out]; exact hC7.out) (by rw [hn.out]; exact hl7) (by rw [hn.out]; exact hC6.out) (by rw [hn.out]; exact hl6) (by have := hLl.out; omega) true (by simp)
        rw [hn.out] at hs
        refine hs.mono ?_
        rintro e w6 ⟨rfl, hd6⟩
        have hb6 := Aside0.mk (below_then hb5.out hb5.out.size hd6.below)
        clear hd6 hs
        go_wp2_with fail
        go_ret
        exact ⟨rfl, hb6.out⟩
def bobbinlaw01_BytWrites.f (l0 : List S30) : Option Bool := if ∀ x ∈ l0, x.f1 < 9223372036854775808 then some true else none
theorem bobbinlaw01_BytWrites.calls (A0 : Option Addr) (c0 : Nat) (l0 : List S30) (r : Bool) (w : World) (hr0 : Kd.C k30 w A0 l0.length l0) (hc0 : l0.length ≤ c0) (h : bobbinlaw01_BytWrites.f l0 = some r) :
    Calls Try.prog 3 #[.slice A0 l0.length c0] w fun e w' => e = .returned (.bool r) ∧ Below w.heap.size w w' := by
  unfold bobbinlaw01_BytWrites.f at h
  split at h
  · rename_i hn
    obtain rfl := Option.some.inj h
    exact writes_walk A0 c0 l0 w hr0 hc0 hn
  · cases h
end Go.Proofs.Ytkniklgecmdeoaa.Print
