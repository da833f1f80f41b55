/- The walk of wait.reached's closure. -/
import Derived.Test.YtdpdghahmapgkaaHandB
namespace Go.Proofs.Ytdpdghahmapgkaa.Hand
open Go.RowKit Go.Shelf Go.Proofs.YtdpdghahmapgkaaW.PrintWords Go.Proofs.YtdpdghahmapgkaaW.PrintLast Go.Proofs.Ytdpdghahmapgkaa.Print
attribute [local go_sem] Oper.semAt_some
set_option linter.unusedVariables false
set_option linter.unusedSimpArgs false
abbrev dW : Kd (Int × List Int) := Kd.pair (Kd.int .i64) (Kd.slice 3 (Kd.int .i64))
theorem cellA {W : World} {a : Addr} {v : Value} (o : Obj) (h : W.cell? a = some v) : (W.alloc o).cell? a = some v := cell_kept h (World.grownBy_alloc W o none) (fun r e => by cases e)
/-- One that waits, as it stands in memory. -/
theorem atW {W : World} {A : Option Addr} {n : Nat} {xs : WL} (h : dW.C W A n xs) (i : Nat) (hi : i < n) :
    ∃ ad A' c', A = some ad ∧ W.cell? (ad.add (i * 2)) = some (.int .i64 (xs.getD i (0, [])).1) ∧ W.cell? ⟨(ad.add (i * 2)).block, (ad.add (i * 2)).off + 1, none⟩ = some (.slice A' (xs.getD i (0, [])).2.length c') ∧
      (xs.getD i (0, [])).2.length ≤ c' ∧ (Kd.int .i64).C W A' (xs.getD i (0, [])).2.length (xs.getD i (0, [])).2 := by
  obtain ⟨ad, c, hA, hl, hK, hcell⟩ := ReadsRow.get_ h (0, []) (i : Int) (by omega) (by omega)
  rw [show ((i : Int)).toNat = i by omega] at hK hcell
  obtain ⟨_, _, rfl, rfl, A', c', rfl, hle, hC⟩ := hK
  have a1 : ad.add (i * 2 + 1) = ⟨(ad.add (i * 2)).block, (ad.add (i * 2)).off + 1, none⟩ := by rw [← addr_add_add]; simp [Addr.add]
  exact ⟨ad, A', c', hA, hcell 0 _ rfl, a1 ▸ hcell 1 _ rfl, hle, hC⟩
theorem atI {W : World} {A : Option Addr} {n : Nat} {xs : List Int} (h : (Kd.int .i64).C W A n xs) (i : Nat) (hi : i < n) : ∃ ad, A = some ad ∧ W.cell? (ad.add i) = some (.int .i64 (xs.getD i 0)) := by
  obtain ⟨ad, c, hA, hl, hK, hcell⟩ := ReadsRow.get_ h 0 (i : Int) (by omega) (by omega)
  rw [show ((i : Int)).toNat = i by omega, show (Kd.int .i64).sz = 1 from rfl, Nat.mul_one] at hcell
  rw [show ((i : Int)).toNat = i by omega] at hK
  obtain rfl := hK
  exact ⟨ad, hA, hcell 0 _ rfl⟩
def DI (l : WL) (tx : Int) (i : Nat) (z : Int) : Prop := ∃ i', i' < i ∧ (l.getD i' (0, [])).1 = tx ∧ z ∈ (l.getD i' (0, [])).2
theorem DI_all {l : WL} {tx z : Int} (h : Adj l tx z) : DI l tx l.length z := by
  obtain ⟨e, he, h1, h2⟩ := h
  obtain ⟨i, hi, rfl⟩ := List.mem_iff_getElem.1 he
  exact ⟨i, hi, by simpa [List.getD_eq_getElem?_getD, List.getElem?_eq_getElem hi] using h1, by simpa [List.getD_eq_getElem?_getD, List.getElem?_eq_getElem hi] using h2⟩
theorem adj_at {l : WL} {i : Nat} (hi : i < l.length) {z : Int} (hz : z ∈ (l.getD i (0, [])).2) : Adj l (l.getD i (0, [])).1 z :=
  ⟨l.getD i (0, []), by rw [List.getD_eq_getElem?_getD, List.getElem?_eq_getElem hi]; exact List.getElem_mem hi, rfl, hz⟩
theorem ll_le {l : WL} {i : Nat} (hi : i < l.length) : (l.getD i (0, [])).2.length ≤ (flat l).length := by
  have : ∀ (l : WL) (e : Int × List Int), e ∈ l → e.2.length ≤ (flat l).length := fun l => by
    induction l with
    | nil => intro e he; simp at he
    | cons a r ih =>
      intro e he
      have : (flat (a :: r)).length = a.2.length + (flat r).length := by simp [flat]
      rcases List.mem_cons.1 he with rfl | he
      · omega
      · have := ih e he; omega
  exact this l _ (by rw [List.getD_eq_getElem?_getD, List.getElem?_eq_getElem hi]; exact List.getElem_mem hi)
theorem row_slice {W : World} {base e size n : Nat} {v : Value} {xs : List Value} (h : W.ownsRow base e size v n xs) : ∃ A c, v = .slice A n c := by
  rcases h.2 with ⟨rfl, rfl⟩ | ⟨g, cap, cur, rfl, _⟩
  · exact ⟨_, _, rfl⟩
  · exact ⟨_, _, rfl⟩
theorem row_last {W : World} {base c : Nat} {A : Option Addr} {l : List Int} {t : Int} (h : W.ownsRow base 3 1 (.slice A (l ++ [t]).length c) (l ++ [t]).length ((l ++ [t]).map (Value.int .i64))) :
    ∃ g, A = some ⟨g, 0, none⟩ ∧ W.cell? ⟨g, l.length, none⟩ = some (.int .i64 t) ∧ l.length + 1 ≤ c := by
  rcases h.2 with ⟨_, h0⟩ | ⟨g, cap, cur, hv, hb, hh, hn, _, hs, ht⟩
  · simp at h0
  · simp only [Value.slice.injEq] at hv
    obtain ⟨rfl, _, rfl⟩ := hv
    simp only [List.length_append, List.length_cons, List.length_nil, Nat.zero_add, Nat.mul_one] at hn ht hs
    refine ⟨g, rfl, ?_, hn⟩
    have hl : l.length < cur.size := by omega
    have : cur[l.length]? = some (.int .i64 t) := by
      have q := congrArg (fun z => z[l.length]?) ht
      simp only [List.map_append, List.map_cons, List.map_nil] at q
      rw [List.getElem?_take_of_lt (by omega), List.getElem?_append_right (by simp)] at q
      simpa using q
    simp [World.cell?, hh, this]
/-- What holds between two steps of memory. -/
structure Mem (ll : WL) (w W : World) (J : List Int → World → Prop) (pre todo : List Int) (v : Value) (wr : World) : Prop where
  seen : Seen wr W.heap.size pre
  row : wr.ownsRow (W.heap.size + 1) 3 1 v todo.length (todo.map (Value.int .i64))
  below : Below w.heap.size w wr
  size : W.heap.size + 2 ≤ wr.heap.size
  inv : J pre wr
theorem wrapS {i : Nat} (h : i < 2000000) : Value.int .i64 (wrap64 ((i : Int) + 1)) = .int .i64 ((i + 1 : Nat) : Int) := by
  rw [show wrap64 ((i : Int) + 1) = ((i + 1 : Nat) : Int) by unfold wrap64; omega]
theorem Mem.step {ll : WL} {w W : World} {J : List Int → World → Prop} {pre todo : List Int} {v : Value} {wr wr' : World} (hJ : Far W.heap.size J) (h : Mem ll w W J pre todo v wr) (hW : w.heap.size ≤ W.heap.size) (o : Obj) : Mem ll w W J pre todo v (wr.alloc o) := by
  have hb : Below W.heap.size wr (wr.alloc o) := (Below.refl _ wr).alloc (by have := h.size; omega) _
  exact ⟨h.seen.alloc _, h.row.alloc _, h.below.trans (hb.mono hW), by have := h.size; simp; omega, hJ _ _ _ h.inv hb⟩
theorem own_kept {W W' : World} {row : Option Nat} {base e size n : Nat} {v : Value} {xs : List Value} (h : W.ownsRow base e size v n xs) (hg : W.grownBy W' row) (hr : ∀ r, row = some r → r < base) : W'.ownsRow base e size v n xs := by
  obtain ⟨h1, h2⟩ := h
  refine ⟨h1, ?_⟩
  rcases h2 with h2 | ⟨g, cap, cur, rfl, hb, hh, r⟩
  · exact .inl h2
  · exact .inr ⟨g, cap, cur, rfl, hb, (hg.block g (Array.getElem?_eq_some_iff.1 hh).1 (fun e => by have := hr g e.symm; omega)).trans hh, r⟩
theorem own_ge {W : World} {base e size n : Nat} {v : Value} {xs : List Value} (h : W.ownsRow base e size v n xs) (k : Nat) (hk : v.ownBlock = some k) : base ≤ k := by
  rcases h.2 with ⟨rfl, _⟩ | ⟨g, cap, cur, rfl, hb, _⟩
  · simp [Value.ownBlock] at hk
  · simp [Value.ownBlock] at hk; omega
theorem info3 : (Try.prog.info? 3).map (fun i => (i.zero, i.size, i.bytes)) = some (some (.int .i64 0), 1, 8) := by kernel_rfl
set_option maxRecDepth 100000 in
set_option maxHeartbeats 1000000 in
theorem it20 (F : Fence) (n : Nat) (h20 : F.fn 20) (hro : F.round = none) (hn : 1 ≤ n) (ll : WL) (fr : Int) (A : Option Addr) (c B1 B2 : Nat) (w : World)
    (hb1 : w.cell? ⟨B1, 0, none⟩ = some (.int .i64 fr)) (hb2 : w.cell? ⟨B2, 0, none⟩ = some (.slice A ll.length c)) (lt1 : B1 < w.heap.size) (lt2 : B2 < w.heap.size)
    (hC : dW.C w A ll.length ll) (hwf : ∀ z ∈ flat ll, (Lit.int .i64 z).wf = true) (hN : (flat ll).length ≤ 1000000) (hL : ll.length ≤ 1000000) :
    SeqQ F n Try.prog 20 #[.pointer (some ⟨B1, 0, none⟩), .pointer (some ⟨B2, 0, none⟩)] (fun x : Int => #[.int .i64 x]) (fun xs => ∀ x, x ∈ xs ↔ Rch ll fr x) (fun pre => ∀ x ∈ pre, Rch ll fr x) w := by
  intro l J Jx W hW hwl hlW hJ hJx hY h0
  have c1 : W.cell? ⟨B1, 0, none⟩ = some (.int .i64 fr) := (hW.cell (p := ⟨B1, 0, none⟩) lt1).trans hb1
  have hmm := @run_makeMap Try.prog
  obtain ⟨i3, hi3, hz0, hz1, hz2⟩ := info_parts info3
  refine callsIn_of_wp Try.func20 rfl h20 ?_ hro
  simp only [Try.ntmps20, List.size_toArray, List.length_cons, List.length_nil, Nat.reduceAdd, Nat.reduceSub, Array.replicate_succ, Array.replicate_zero, List.push_toArray, List.append_toArray, List.nil_append, List.cons_append]
  have c1a := cellA (.map #[] 0) c1
  gi_wp2
  have b1 : Below W.heap.size W ((W.alloc (.map #[] 0)).alloc (.cells #[.int .i64 fr] 3)) := ((Below.refl _ W).alloc (Nat.le_refl _) _).alloc (by simp) _
  have hm0 := World.ownsMap_made (H := Unit) W Try.prog 3 (plainElem Try.prog 4)
  gi_loopg [5] ((flat ll).length + 2) (fun k v5 wr => ∃ (pre todo : List Int) (tx : Int) (D : Int → Prop), Inv ll fr D tx pre todo ∧ (∀ z, Adj ll tx z → D z) ∧ Mem ll w W J pre todo v5 wr ∧ todo.length + ((flat ll).length - pre.length) < k ∧ k ≤ (flat ll).length + 2)
  case atStart =>
    refine ⟨[], [fr], fr, Adj ll fr, Inv.start ll fr, fun z hz => hz, ⟨hm0.alloc _, ?_, hW.trans (b1.mono hW.size), by simp, hJ _ _ _ h0 b1⟩, by simp; omega, Nat.le_refl _⟩
    exact ⟨rfl, .inr ⟨W.heap.size + 1, 1, #[.int .i64 fr], rfl, Nat.le_refl _, by have := World.alloc_heap_new (W.alloc (.map #[] 0)) (.cells #[.int .i64 fr] 3); rwa [World.size_alloc] at this, Nat.le_refl _, by decide, rfl, rfl⟩⟩
  case round =>
    obtain ⟨pre, todo, tx, D, HI, HD, HM, HK, HG⟩ := hrel
    obtain ⟨A5, c5, rfl⟩ := row_slice HM.row
    rcases List.eq_nil_or_concat todo with rfl | ⟨todo, t, rfl⟩
    · simp only [List.length_nil] at *
      gi_wp2
      go_end0
      exact ⟨⟨_, rfl⟩, .inl ⟨pre, HI.done HD, HM.inv⟩⟩
    · rw [List.concat_eq_append] at *
      obtain ⟨g5, rfl, h5, hle5⟩ := row_last HM.row
      have HI1 := HI.pop HD
      rw [show (todo ++ [t]).length = todo.length + 1 by simp] at *
      have ht5 : todo.length ≤ 1000001 := by omega
      have e1 : ((todo.length + 1 : Nat) : Int) > 0 := by omega
      have e2 : wrap64 (((todo.length + 1 : Nat) : Int) - 1) = (todo.length : Int) := by unfold wrap64; omega
      have e3 : (0 : Int) ≤ (todo.length : Int) := by omega
      have e4 : (todo.length : Int) < ((todo.length + 1 : Nat) : Int) := by omega
      have e5 : (todo.length : Int) ≤ (c5 : Int) := by omega
      have c2 : wr.cell? ⟨B2, 0, none⟩ = some (.slice A ll.length c) := (HM.below.cell (p := ⟨B2, 0, none⟩) lt2).trans hb2
      have HR : wr.ownsRow (W.heap.size + 1) 3 1 (.slice (some ⟨g5, 0, none⟩) (todo.length + 1) c5) (todo.length + 1) ((todo ++ [t]).map (Value.int .i64)) := by
        have := HM.row
        rwa [show (todo ++ [t]).length = todo.length + 1 by simp] at this
      have hR5 := own_take HR (m := todo.length) (by omega)
      clear HR
      rw [List.map_append, Nat.mul_one, List.take_left' (by simp)] at hR5
      have HM1 : Mem ll w W J pre todo (.slice (some ⟨g5, 0, none⟩) todo.length c5) wr := ⟨HM.seen, hR5, HM.below, HM.size, HM.inv⟩
      gi_wp2
      obtain ⟨K0, HK0⟩ : ∃ K0, todo.length + ((flat ll).length - pre.length) + 1 = K0 := ⟨_, rfl⟩
      have HG0 : K0 < gk := by omega
      have HG1 : gk ≤ (flat ll).length + 2 := HG
      clear HI HK HG c2 h5 hle5 e1 e2 e3 e4 e5
      gi_loopg [5, 30] (ll.length + 1) (fun k v5 v30 wr => ∃ (i : Nat) (pre todo : List Int), v30 = .int .i64 i ∧ i ≤ ll.length ∧ ll.length - i < k ∧ Inv ll fr (DI ll t i) t pre todo ∧ Mem ll w W J pre todo v5 wr ∧ todo.length + ((flat ll).length - pre.length) + 1 ≤ K0)
      case atStart => exact ⟨0, pre, todo, rfl, Nat.zero_le _, by omega, HI1.less (fun z ⟨i', h, _⟩ => absurd h (by omega)), HM1, by omega⟩
      case round =>
        clear HM HM1 HI1 HK0 hR5 HD ht5
        obtain ⟨i, pre, todo, rfl, hi, HK, HI, HM, HT⟩ := hrel
        obtain ⟨A5, c5, rfl⟩ := row_slice HM.row
        by_cases hil : i < ll.length
        · obtain ⟨ad, A', c', rfl, hx0w, hx1w, hle', hC'⟩ := atW hC i hil
          have hx0 := (HM.below.cell (World.block_lt_of_cell? w _ hx0w)).trans hx0w
          have hx1 := (HM.below.cell (World.block_lt_of_cell? w _ hx1w)).trans hx1w
          clear hx0w hx1w
          have e1 : (i : Int) < ((ll.length : Nat) : Int) := by omega
          have e2 : (0 : Int) ≤ (i : Int) := by omega
          have hll := ll_le hil
          have hadj := fun z hz => adj_at hil (z := z) hz
          have hDI : ∀ z, DI ll t (i + 1) z → DI ll t i z ∨ ((ll.getD i (0, [])).1 = t ∧ z ∈ (ll.getD i (0, [])).2) := fun z ⟨i', h, h1, h2⟩ => by
            rcases Nat.lt_or_ge i' i with q | q
            · exact .inl ⟨i', q, h1, h2⟩
            · obtain rfl : i' = i := by omega
              exact .inr ⟨h1, h2⟩
          have hws := fun z (hz : z ∈ (ll.getD i (0, [])).2) => hwf z (flat_adj (hadj z hz))
          obtain ⟨y, ys, hy⟩ : ∃ y ys, ll.getD i (0, []) = (y, ys) := ⟨_, _, rfl⟩
          rw [hy] at hx0 hx1 hle' hC' hll hadj hDI hws
          simp only at hx0 hx1 hle' hC' hll hadj hDI hws
          clear hy
          by_cases hc : y = t
          · subst hc
            have hc1 : (y != y) = false := bne_eq_false_iff_eq.mpr rfl
            have hc2 : (y == y) = true := beq_iff_eq.mpr rfl
            gi_wp2
            have HM2 := HM.step (wr' := wr) hJ hW.size (.cells #[.int .i64 y, .slice A' ys.length c'] 29)
            have hsz2 : wr.heap.size + 1 = (wr.alloc (.cells #[.int .i64 y, .slice A' ys.length c'] 29)).heap.size := by simp
            obtain ⟨wr2, hwr2⟩ : ∃ wr2, wr.alloc (.cells #[.int .i64 y, .slice A' ys.length c'] 29) = wr2 := ⟨_, rfl⟩
            rw [hwr2] at HM2 ⊢
            clear hwr2 hsz2
            have HKm := HK
            gi_loopg [5, 41] (ys.length + 1) (fun k v5 v41 wr' => ∃ (j : Nat) (pre todo : List Int), v41 = .int .i64 j ∧ j ≤ ys.length ∧ ys.length - j < k ∧ Inv ll fr (fun z => DI ll y i z ∨ ∃ j', j' < j ∧ ys[j']? = some z) y pre todo ∧ Mem ll w W J pre todo v5 wr' ∧ todo.length + ((flat ll).length - pre.length) + 1 ≤ K0)
            case atStart => exact ⟨0, pre, todo, rfl, Nat.zero_le _, by omega, HI.less (fun z h => h.resolve_right (fun ⟨_, q, _⟩ => absurd q (by omega))), HM2, HT⟩
            case round =>
              clear HI HM HT HK hx0 hx1 HM2
              obtain ⟨j, pre, todo, rfl, hj, HK, HI, HM, HT⟩ := hrel
              obtain ⟨A5, c5, rfl⟩ := row_slice HM.row
              by_cases hjl : j < ys.length
              · obtain ⟨ad', rfl, hxc⟩ := atI (Kd.C_below hC' HM.below) j hjl
                have hxm : ys.getD j 0 ∈ ys := by rw [List.getD_eq_getElem?_getD, List.getElem?_eq_getElem hjl]; exact List.getElem_mem hjl
                have hxj : ys[j]? = some (ys.getD j 0) := by rw [List.getD_eq_getElem?_getD, List.getElem?_eq_getElem hjl]; rfl
                obtain ⟨x, hx⟩ : ∃ x, ys.getD j 0 = x := ⟨_, rfl⟩
                rw [hx] at hxc hxm hxj
                clear hx
                have e1 : (j : Int) < ((ys.length : Nat) : Int) := by omega
                have e2 : (0 : Int) ≤ (j : Int) := by omega
                have hlook := HM.seen.look (hws x hxm) (Try.zeroValue4 wr)
                have hD : ∀ z, (DI ll y i z ∨ ∃ j', j' < j + 1 ∧ ys[j']? = some z) → (DI ll y i z ∨ ∃ j', j' < j ∧ ys[j']? = some z) ∨ z = x := fun z hz => by
                  rcases hz with hz | ⟨j', h, hz⟩
                  · exact .inl (.inl hz)
                  · rcases Nat.lt_or_ge j' j with q | q
                    · exact .inl (.inr ⟨j', q, hz⟩)
                    · obtain rfl : j' = j := by omega
                      rw [hxj] at hz
                      exact .inr (Option.some.inj hz).symm
                by_cases hp : x ∈ pre
                · rw [decide_eq_true hp] at hlook
                  gi_wp2
                  gi_roundg (ys.length - j)
                  case measure => omega
                  case rel => exact ⟨j + 1, pre, todo, rfl, by omega, by omega, HI.old hp hD, HM, HT⟩
                · rw [decide_eq_false hp] at hlook
                  have HI' := HI.new hp (hadj x hxm) hD
                  have hlen' := HI'.len
                  have hlp : (pre ++ [x]).length = pre.length + 1 := by simp
                  obtain ⟨w1, hput, hs1, hg1⟩ := HM.seen.put (by unfold maxLen; omega) (hws x hxm)
                  have b1 : Below W.heap.size wr w1 := below_grown hg1 (by have := HM.size; omega) (fun k e => by cases e; exact Nat.le_refl _)
                  have hJ1 := hJ _ _ _ HM.inv b1
                  obtain ⟨fn, tmps, assign, body, hy, hR⟩ := hY pre x w1 hJ1
                  gi_wp2
                  refine hR.mono ?_
                  rintro e W3 (⟨rfl, hJ3, hk3⟩ | ⟨rfl, hJx3⟩)
                  · have hg : wr.heap.size ≤ w1.heap.size := hg1.size
                    have hsz := HM.size
                    have hrow1 := own_kept HM.row hg1 (fun r e => by cases e; omega)
                    have hrow3 := own_kept hrow1 hk3 (fun r e => by cases e; omega)
                    have hs3 : Seen W3 W.heap.size (pre ++ [x]) := World.ownsMap.kept hs1 hk3 (fun e => by cases e; omega)
                    have hsz3 : W.heap.size + 2 ≤ W3.heap.size := by have := hk3.size; omega
                    have hb3 : Below w.heap.size w W3 := (HM.below.trans (b1.mono hW.size)).grown hk3 (by have := hW.size; omega) (fun k e => by cases e; exact hwl)
                    have b3 : Below W.heap.size W3 (W3.alloc (.cells #[.int .i64 x] 3)) := (Below.refl _ W3).alloc (by omega) _
                    have b3' : Below W3.heap.size W3 (W3.alloc (.cells #[.int .i64 x] 3)) := (Below.refl _ W3).alloc (Nat.le_refl _) _
                    have hI' : todo.length + 1 ≤ 1000002 := by have := hlen'; omega
                    gi_wp2_with (gi_at_builtin; refine wpListIn_append_own _ rfl _ _ 27 rfl (W.heap.size + 1) 3 i3 (.int .i64 0) 1 8 Try.underlying27 hi3 hz0 hz1 hz2 rfl (by decide) _ _ _ rfl (hrow3.alloc _) ⟨W3.heap.size, 0, none⟩ 1 1 [.int .i64 x] rfl rfl (cell_one_new _ _ _) (by simp [Value.oneCell']) (by unfold maxLen; omega) (by omega) (by simp; omega) ?_; intro v' w4 hown4 hgrow4 _; obtain ⟨g', cap', rfl⟩ := ownsRow_succ hown4)
                    have hgrow5 : (W3.alloc (.cells #[.int .i64 x] 3)).grownBy w4 (Value.ownBlock (.slice A5 todo.length c5)) := hgrow4
                    have hob := own_ge hrow3
                    have b4 : Below W.heap.size W3 w4 := b3.grown hgrow5 (by simp; omega) (fun k e => by have := hob k e; omega)
                    have hsz4 := hgrow5.size
                    clear hgrow4
                    gi_roundg (ys.length - j)
                    case measure => omega
                    case rel => exact ⟨j + 1, pre ++ [x], todo ++ [x], rfl, by omega, by omega, HI', ⟨World.ownsMap.kept (hs3.alloc _) hgrow5 (fun e => by have := hob _ e.symm; omega), by simpa using hown4, hb3.trans (b4.mono hW.size), by simp at hsz4; omega, hJ _ _ _ hJ3 b4⟩, by simp; omega⟩
                  · gi_wp2
                    refine bodyPost_ret (results_none rfl _ _ _) rfl ?_
                    exact ⟨⟨_, rfl⟩, .inr ⟨pre ++ [x], HI'.sound, hJx3⟩⟩
              · have e1 : ¬ ((j : Int) < ((ys.length : Nat) : Int)) := by omega
                gi_wp2
                gi_roundg (ll.length - i)
                case measure => omega
                case rel => exact ⟨i + 1, pre, todo, rfl, by omega, by omega, HI.less (fun z hz => (hDI z hz).imp id (fun q => by
                  obtain ⟨j', hj', rfl⟩ := List.mem_iff_getElem.1 q.2
                  exact ⟨j', by omega, List.getElem?_eq_getElem hj'⟩)), HM, HT⟩
          · have hc1 : (y != t) = true := bne_iff_ne.mpr hc
            have hc2 : (y == t) = false := beq_eq_false_iff_ne.mpr hc
            gi_wp2
            gi_roundg (ll.length - i)
            case measure => omega
            case rel => exact ⟨i + 1, pre, todo, rfl, by omega, by omega, HI.less (fun z hz => (hDI z hz).resolve_right (fun q => hc q.1)), HM.step (wr' := wr) hJ hW.size _, HT⟩
        · have e1 : ¬ ((i : Int) < ((ll.length : Nat) : Int)) := by omega
          gi_wp2
          gi_roundg K0
          case measure => omega
          case rel => exact ⟨pre, todo, t, DI ll t i, HI, fun z hz => (show i = ll.length by omega) ▸ DI_all hz, HM, by omega, by omega⟩
end Go.Proofs.Ytdpdghahmapgkaa.Hand
