/- DiskSome: behind a crash that tears nothing each sector is one that was written there. -/
import Derived.Test.YtghhmbagjhmgfaaDiskEnds
import Derived.BigQuiet
namespace Go.Proofs.Ytghhmbagjhmgfaa.Print
open Go.RowKit Go.Proofs.YtghhmbagjhmgfaaW.PrintWords Go.Proofs.YtghhmbagjhmgfaaW.PrintLast Go.Proofs.YtghhmbagjhmgfaaW.PrintMore
set_option linter.unusedVariables false
set_option linter.unusedSimpArgs false
def Wr (l : List S35) (i : Nat) (s : List Int) : Prop := ∃ c, s = sect c ∧ (c = 0 ∨ ∃ x ∈ l, x.f0 = 0 ∧ x.f1 = i ∧ x.f3 = c)
structure SmI (l : List S35) (d : DS) : Prop where
  dur : ∀ i, i < d.D.length → Wr l i (d.D.getD i [])
  last : ∀ i, i < d.L.length → Wr l i (d.L.getD i [])
  waits : ∀ x ∈ d.W, Wr l x.1.toNat x.2
theorem getD_set_any {l : List (List Int)} {i j : Nat} {s : List Int} {p : List Int → Prop} (h1 : j < l.length) (h2 : p (l.getD j [])) (h3 : i = j → p s) : p ((l.set i s).getD j []) := by
  by_cases e : i = j
  · subst e
    rw [List.getD_eq_getElem?_getD, List.getElem?_set_self h1]
    exact h3 rfl
  · rw [getD_set_ne _ _ _ _ _ e]
    exact h2
theorem SmI.write {l : List S35} {d : DS} (h : SmI l d) (x : S35) (hx : x ∈ l) (h0 : x.f0 = 0) : SmI l (writeD d x.f1 (sect x.f3)) := by
  unfold writeD
  split
  · exact h
  · rename_i hc
    split
    · exact ⟨h.dur, h.last, h.waits⟩
    · have hb : (0 ≤ x.f1 ∧ x.f1 < d.D.length) := Decidable.not_not.1 (fun y => hc (.inr (.inl y)))
      have hw : Wr l x.f1.toNat (sect x.f3) := ⟨_, rfl, .inr ⟨x, hx, h0, by omega, rfl⟩⟩
      refine ⟨h.dur, ?_, ?_⟩
      · intro i hi
        have hi' : i < d.L.length := by
          have : (d.L.set x.f1.toNat (sect x.f3)).length = d.L.length := List.length_set
          have hi2 : i < (d.L.set x.f1.toNat (sect x.f3)).length := hi
          omega
        exact getD_set_any (p := Wr l i) hi' (h.last i hi') (fun e => e ▸ hw)
      · intro y hy
        rcases List.mem_append.1 hy with e | e
        · exact h.waits y e
        · simp at e
          subst e
          exact hw
theorem SmI.sync {l : List S35} {d : DS} (h : SmI l d) : SmI l (syncD d) := by
  unfold syncD
  split
  · exact h
  · split
    · exact ⟨h.dur, h.last, h.waits⟩
    · exact ⟨h.last, h.last, fun x hx => by cases hx⟩
theorem newD_some (l : List S35) : SmI l (newD 20) := by
  have hh : ∀ i, i < 20 → Wr l i ((List.replicate 20 (sect 0)).getD i []) := fun i hi => ⟨0, by rw [List.getD_eq_getElem?_getD, List.getElem?_replicate, if_pos hi]; rfl, .inl rfl⟩
  exact ⟨fun i hi => hh i (by simpa [newD] using hi), fun i hi => hh i (by simpa [newD] using hi), fun x hx => by cases hx⟩
theorem run_some (l : List S35) : SmI l (runD l) := go l (newD 20) (fun x hx => hx) (newD_some l)
where
  go : ∀ (t : List S35) (d : DS), (∀ x ∈ t, x ∈ l) → SmI l d → SmI l (t.foldl runS d)
  | [], _, _, h => h
  | x :: t, d, hs, h => go t _ (fun y hy => hs y (List.mem_cons_of_mem _ hy)) (by
    unfold runS
    split
    · rename_i h0
      exact h.write x (hs x (List.mem_cons_self ..)) h0
    · split
      · exact h.sync
      · exact h)
theorem SmI.crash {l : List S35} {d : DS} {m : Nat} (h : SmI l d) (hO : d.Ok m) (f : Nat → Int) (hf : ∀ i, f i = 0 ∨ f i = 256) : ∀ i, i < d.D.length → Wr l i ((crashD d f).L.getD i []) := by
  intro i hi
  show Wr l i ((crL d f (List.range d.W.length)).getD i [])
  by_cases hW : 0 < d.W.length
  · refine (fold_keeps (fun D => (D.length = d.D.length ∧ ∀ s ∈ D, s.length = 256) ∧ Wr l i (D.getD i [])) (crStep d f) (fun D x hD => ?_) _ _ ⟨⟨rfl, hO.dur⟩, h.dur i hi⟩).2
    have hw := w_ok hO hW x
    have hlt : wAt d x < D.length := by rw [hD.1.1]; exact hw.1
    have hol : (D.getD (wAt d x) []).length = 256 := by
      rw [List.getD_eq_getElem?_getD, List.getElem?_eq_getElem hlt]
      exact hD.1.2 _ (List.getElem_mem hlt)
    have hp : partL (D.getD (wAt d x) []) (wS d x) (f x) = D.getD (wAt d x) [] ∨ partL (D.getD (wAt d x) []) (wS d x) (f x) = wS d x := by
      rcases hf x with e | e <;> rw [e]
      · left
        unfold partL
        simp
      · right
        exact part_all hol hw.2.1
    unfold crStep
    have hWx : Wr l (wAt d x) (wS d x) := by
      have hl : min x (d.W.length - 1) < d.W.length := by omega
      have hm := h.waits (d.W.getD (min x (d.W.length - 1)) (0, [])) (by rw [List.getD_eq_getElem?_getD, List.getElem?_eq_getElem hl]; exact List.getElem_mem hl)
      exact hm
    refine ⟨⟨by rw [List.length_set]; exact hD.1.1, ?_⟩, ?_⟩
    · intro s hs
      rcases List.mem_or_eq_of_mem_set hs with e | e
      · exact hD.1.2 s e
      · rw [e]
        rcases hp with k | k <;> rw [k]
        · exact hol
        · exact hw.2.1
    · refine getD_set_any (p := Wr l i) (by rw [hD.1.1]; exact hi) hD.2 (fun e => ?_)
      rcases hp with k | k <;> rw [k]
      · rw [e]; exact hD.2
      · rw [← e]; exact hWx
  · rw [show d.W.length = 0 by omega]
    exact h.dur i hi
theorem kf_whole (kb : Nat → Bool) (nk : Nat) (i : Nat) : kf kb nk (-1) 0 i = 0 ∨ kf kb nk (-1) 0 i = 256 := by
  unfold kf
  rw [if_neg (by omega)]
  split
  · exact .inr rfl
  · exact .inl rfl
/-- Was it written by one of the first k calls? -/
def wrB (l : List S35) (i : Nat) (c : Int) : Nat → Bool
  | 0 => c == 0
  | k + 1 => wrB l i c k || ((rd_T35 l k).f0 == 0 && (rd_T35 l k).f1 == i && (rd_T35 l k).f3 == c)
theorem wrB_up (l : List S35) (i : Nat) (c : Int) : ∀ (k j : Nat), wrB l i c j = true → j ≤ k → wrB l i c k = true
  | 0, j, h, hj => by obtain rfl : j = 0 := by omega
                      exact h
  | k + 1, j, h, hj => by
    by_cases e : j = k + 1
    · rw [← e]; exact h
    · show (wrB l i c k || _) = true
      rw [wrB_up l i c k j h (by omega)]
      rfl
theorem wrB_of {l : List S35} {i : Nat} {c : Int} (h : c = 0 ∨ ∃ x ∈ l, x.f0 = 0 ∧ x.f1 = i ∧ x.f3 = c) : wrB l i c l.length = true := by
  rcases h with h | ⟨x, hx, h0, h1, h3⟩
  · exact wrB_up l i c _ 0 (by simpa [wrB] using h) (Nat.zero_le _)
  · obtain ⟨k, hk, rfl⟩ := List.mem_iff_getElem.1 hx
    refine wrB_up l i c _ (k + 1) ?_ hk
    have e : rd_T35 l k = l[k] := by
      unfold rd_T35
      rw [List.getD_eq_getElem?_getD, List.getElem?_eq_getElem hk]
      rfl
    show (wrB l i c k || _) = true
    rw [e]
    simp [h0, h1, h3]
set_option maxHeartbeats 1000000 in
set_option maxRecDepth 100000 in
theorem some_walk (A0 : Option Addr) (c0 : Nat) (l0 : List S35) (Ak : Option Addr) (ck : Nat) (lk : List Bool) (w : World) (hr0 : Kd.C k35 w A0 l0.length l0) (hc0 : l0.length ≤ c0) (hk0 : Kd.bool.C w Ak lk.length lk) (hck : lk.length ≤ ck) (hl : l0.length ≤ 60) (hl2 : lk.length ≤ 60) :
    Calls Try.prog 3 #[.slice A0 l0.length c0, .slice Ak lk.length ck] w fun e w' => e = .returned (.bool true) ∧ Below w.heap.size w w' := by
  have HR := Aside0.mk (fun X (hb : Below w.heap.size w X) => Kd.C_below hr0 hb)
  have HO := Aside0.mk (fun i hi => ops_at hr0 i hi)
  have HK := Aside0.mk (fun j hj => bools_at hk0 j hj)
  have hlkm : lk.length ≤ 9223372036854775807 := hk0.2.1
  clear hr0 hk0
  have haw := Aside0.mk awake_calls
  have e3 : decide ((l0.length : Int) > 60) = false := by simp; omega
  have e4 : decide ((lk.length : Int) > 60) = false := by simp; omega
  go_enter Try.func3, Try.ntmps3
  go_wp2_with fail
  refine (haw.out w).mono ?_
  rintro e w1 ⟨rfl, hb1⟩
  replace hb1 := Aside0.mk hb1
  go_wp2_with fail
  have hc1 := HR.out w1 hb1.out
  refine (run_any A0 c0 l0 w1 hc1 hc0 hl).mono ?_
  rintro e w2 ⟨g, rfl, hd2, hok2, hln2, hb2⟩
  have hsm := Aside0.mk ((run_some l0).crash hok2 (kf (fun j => lk.getD j false) lk.length (-1) 0) (kf_whole _ _))
  have hB2 := Aside0.mk (hb1.out.trans (hb2.mono hb1.out.size))
  replace hd2 := Aside0.mk (hd2.base hb1.out.size)
  replace hok2 := Aside0.mk hok2
  replace hln2 := Aside0.mk hln2
  clear hc1 hb2 hb1
  generalize runD l0 = d at *
  go_wp2_with fail
  refine (hd2.out.crash hB2.out hok2.out (by decide) (by rw [hln2.out]; decide) Ak lk.length ck (fun j => lk.getD j false) (-1) 0 hlkm (fun j hj => by
    obtain ⟨ak, h1, h2⟩ := HK.out j hj
    exact ⟨ak, h1, pw_cell_below hB2.out h2⟩)).mono ?_
  rintro e w3 ⟨g3, rfl, hd3, hb3⟩
  have hB3 := Aside0.mk (hB2.out.trans (hb3.mono hB2.out.size))
  have hok3 := Aside0.mk (crashD_ok hok2.out (kf (fun j => lk.getD j false) lk.length (-1) 0) (kf_ok _ _ _ _))
  have hln3 := Aside0.mk ((crashD_len d (kf (fun j => lk.getD j false) lk.length (-1) 0)).trans hln2.out)
  have hdd3 : Aside0 ((crashD d (kf (fun j => lk.getD j false) lk.length (-1) 0)).dead = false) := ⟨rfl⟩
  replace hsm : Aside0 (∀ i, i < 20 → Wr l0 i ((crashD d (kf (fun j => lk.getD j false) lk.length (-1) 0)).L.getD i [])) := ⟨fun i hi => hsm.out i (by rw [hln2.out]; exact hi)⟩
  replace hd3 := Aside0.mk hd3
  clear hb3 hd2 hB2 hok2 hln2
  generalize crashD d (kf (fun j => lk.getD j false) lk.length (-1) 0) = d3 at *
  clear d HK HR
  have hrd : Aside0 (∀ X i, Below w3.heap.size w3 X → i < 20 → Calls Try.prog 12 #[.pointer (some ⟨g3, 0, none⟩), .int .i64 ((i : Nat) : Int)] X fun e w' => ∃ v0, e = .returned (.tuple #[v0, .int .i64 0]) ∧ Kd.R (Kd.int .u8) 5 w' X.heap.size (fun _ => True) v0 (d3.L.getD i []) ∧ Below X.heap.size X w') := ⟨fun X i hX hi => by
    have := (hd3.out.below hX).read hok3.out (i : Int)
    rwa [readE_live' hdd3.out (by omega) (by rw [hln3.out]; omega), readB_live hdd3.out (by rw [hln3.out]; exact hi)] at this⟩
  have hB0 := Aside0.mk (Below.refl w3.heap.size w3)
  clear hd3 hok3 hln3 hdd3
  go_wp2_with fail
  go_loopw [7] (fun v7 wr => ∃ k : Nat, k ≤ 20 ∧ v7 = .int .i64 k ∧ Aside0 (Below w3.heap.size w3 wr)) (fun v7 _ => 20 - (intOf v7).toNat)
  case atStart => exact ⟨0, Nat.zero_le _, rfl, hB0⟩
  case round =>
    obtain ⟨k, hk, rfl, HB⟩ := hrel
    by_cases hlk : k < 20
    · obtain ⟨c, hs, hwr⟩ := hsm.out k hlk
      have hr1 := fun X hX => hrd.out X k hX hlk
      rw [hs] at hr1
      replace hr1 := Aside0.mk hr1
      replace hwr := Aside0.mk (wrB_of hwr)
      clear hs
      go_wp2_with fail
      refine (hr1.out wr HB.out).mono ?_
      rintro e w4 ⟨v, rfl, hR4, hb4⟩
      obtain ⟨q4, c4, rfl, _, _, hc4, _⟩ := own_form hR4 (sect_len c)
      have h40 := (own_at hR4 (sect_len c) 0 (by decide)).1
      rw [sect_getD c 0 (by decide)] at h40
      have hC4 := Aside0.mk (Kd.R_reads' hR4).2.2
      have HB4 := Aside0.mk (HB.out.trans (hb4.mono HB.out.size))
      have HBi := Aside0.mk (Below.refl w4.heap.size w4)
      have HBw := Aside0.mk (hB3.out.trans (HB4.out.mono hB3.out.size))
      clear hR4 hb4 HB
      go_wp2_with fail
      go_loopw [10, 11] (fun v10 v11 wq => ∃ j : Nat, j ≤ l0.length ∧ v11 = .int .i64 j ∧ v10 = .bool (wrB l0 k c j) ∧ Aside0 (Below w4.heap.size w4 wq)) (fun _ v11 _ => l0.length - (intOf v11).toNat)
      case atStart => exact ⟨0, Nat.zero_le _, rfl, rfl, HBi⟩
      case round =>
        obtain ⟨j, hj, rfl, rfl, HC⟩ := hrel
        by_cases hlj : j < l0.length
        · obtain ⟨ad, A1, c1, rfl, ho⟩ := HO.out j hlj
          have hst : Aside0 (wrB l0 k c (j + 1) = (wrB l0 k c j || ((rd_T35 l0 j).f0 == 0 && (rd_T35 l0 j).f1 == k && (rd_T35 l0 j).f3 == c))) := ⟨rfl⟩
          generalize rd_T35 l0 j = x at *
          have hq0 := pw_cell_below HC.out h40
          obtain ⟨z0, z1, _, z3, _, _, _, _, _⟩ := ho.below (HBw.out.trans (HC.out.mono HBw.out.size))
          replace ho := Aside0.mk ho
          generalize wrB l0 k c j = bo at *
          cases bo
          · by_cases h0 : x.f0 = 0
            · have t0 : (x.f0 == 0) = true := by simpa using h0
              by_cases h1 : x.f1 = k
              · have t1 : (x.f1 == (k : Int)) = true := by simpa using h1
                by_cases h3 : x.f3 = c
                · have t3 : (x.f3 == c) = true := by simpa using h3
                  clear h0 h1 h3
                  go_wp2_with fail
                  go_quiet (fail)
                  go_wp2_with fail
                  go_roundw
                  case rel => exact ⟨j + 1, by omega, by go_num, by rw [hst.out]; simp [t0, t1, t3], ⟨pw_below_drewN HC.out _⟩⟩
                  case measure => simp only [intOf]; omega
                · have t3 : (x.f3 == c) = false := by simpa using h3
                  clear h0 h1 h3
                  go_wp2_with fail
                  go_quiet (fail)
                  go_wp2_with fail
                  go_roundw
                  case rel => exact ⟨j + 1, by omega, by go_num, by rw [hst.out]; simp [t0, t1, t3], ⟨pw_below_drewN HC.out _⟩⟩
                  case measure => simp only [intOf]; omega
              · have t1 : (x.f1 == (k : Int)) = false := by simpa using h1
                clear h0 h1
                go_wp2_with fail
                go_quiet (fail)
                go_wp2_with fail
                go_roundw
                case rel => exact ⟨j + 1, by omega, by go_num, by rw [hst.out]; simp [t0, t1], ⟨pw_below_drewN HC.out _⟩⟩
                case measure => simp only [intOf]; omega
            · have t0 : (x.f0 == 0) = false := by simpa using h0
              clear h0
              go_wp2_with fail
              go_quiet (fail)
              go_wp2_with fail
              go_roundw
              case rel => exact ⟨j + 1, by omega, by go_num, by rw [hst.out]; simp [t0], ⟨pw_below_drewN HC.out _⟩⟩
              case measure => simp only [intOf]; omega
          · skip
            go_wp2_with fail
            go_quiet (fail)
            go_wp2_with fail
            go_roundw
            case rel => exact ⟨j + 1, by omega, by go_num, by rw [hst.out]; simp, ⟨pw_below_drewN HC.out _⟩⟩
            case measure => simp only [intOf]; omega
        · obtain rfl : j = l0.length := by omega
          rw [hwr.out]
          have hq0 := pw_cell_below HC.out h40
          have hC4 := Aside0.mk (Kd.C_below hC4.out HC.out)
          have HB5 := Aside0.mk (HB4.out.trans (HC.out.mono HB4.out.size))
          clear HC HBi HB4 h40 HBw
          go_wp2_with fail
          refine (sector_own c wr).mono ?_
          rintro e w6 ⟨q6, c6, rfl, hR6, hb6, _, _, hc6⟩
          have hC6 := Aside0.mk (Kd.R_reads' hR6).2.2
          have hC4 := Aside0.mk (Kd.C_below hC4.out hb6)
          have HB6 := Aside0.mk (HB5.out.trans (hb6.mono HB5.out.size))
          clear hR6 hb6 HB5
          go_wp2_with fail
          refine (same_any _ _ 256 256 c4 c6 (sect c) w6 (sect_len c) (sect_len c) hC4.out hc4 hC6.out hc6 (by rw [sect_len]; decide)).mono ?_
          rintro e w7 ⟨rfl, hdr⟩
          obtain ⟨m7, rfl⟩ := hdr
          have HB7 := Aside0.mk (pw_below_drewN HB6.out m7)
          clear hC4 hC6 HB6
          generalize w6.drewN m7 = w8 at *
          go_wp2_with fail
          go_roundw
          case rel => exact ⟨k + 1, by omega, by go_num, HB7⟩
          case measure => simp only [intOf]; omega
    · obtain rfl : k = 20 := by omega
      go_wp2_with fail
      go_ret
      exact ⟨rfl, hB3.out.trans (HB.out.mono hB3.out.size)⟩
set_option maxHeartbeats 1000000 in
set_option maxRecDepth 100000 in
theorem some_out (A0 : Option Addr) (len c0 : Nat) (Ak : Option Addr) (nk ck : Nat) (w : World) (hm : len ≤ 9223372036854775807) (hm2 : nk ≤ 9223372036854775807) (h : 60 < len ∨ 60 < nk) :
    Calls Try.prog 3 #[.slice A0 len c0, .slice Ak nk ck] w fun e w' => e = .returned (.bool true) ∧ Below w.heap.size w w' := by
  have haw := Aside0.mk awake_calls
  by_cases h1 : 60 < len
  · have e3 : decide ((len : Int) > 60) = true := by simp; omega
    clear h h1
    go_enter Try.func3, Try.ntmps3
    go_wp2_with (go_at_call 9; refine (haw.out _).mono ?_; rintro e w1 ⟨rfl, hb1⟩; replace hb1 := Aside0.mk hb1)
    go_ret
    exact ⟨rfl, hb1.out⟩
  · have e3 : decide ((len : Int) > 60) = false := by simp; omega
    have e4 : decide ((nk : Int) > 60) = true := by simp; omega
    clear h h1
    go_enter Try.func3, Try.ntmps3
    go_wp2_with (go_at_call 9; refine (haw.out _).mono ?_; rintro e w1 ⟨rfl, hb1⟩; replace hb1 := Aside0.mk hb1)
    go_ret
    exact ⟨rfl, hb1.out⟩
def bobbinlaw03_DiskSome.f (l0 : List S35) (l1 : List Bool) : Option Bool := some true
theorem bobbinlaw03_DiskSome.calls (A0 : Option Addr) (c0 : Nat) (l0 : List S35) (A1 : Option Addr) (c1 : Nat) (l1 : List Bool) (r : Bool) (w : World) (hr0 : Kd.C k35 w A0 l0.length l0) (hc0 : l0.length ≤ c0) (hr1 : Kd.bool.C w A1 l1.length l1) (hc1 : l1.length ≤ c1) (h : bobbinlaw03_DiskSome.f l0 l1 = some r) :
    Calls Try.prog 3 #[.slice A0 l0.length c0, .slice A1 l1.length c1] w fun e w' => e = .returned (.bool r) ∧ Below w.heap.size w w' := by
  obtain rfl : true = r := Option.some.inj h
  by_cases hh : 60 < l0.length ∨ 60 < l1.length
  · exact some_out A0 _ c0 A1 _ c1 w hr0.2.1 hr1.2.1 hh
  · exact some_walk A0 c0 l0 A1 c1 l1 w hr0 hc0 hr1 hc1 (by omega) (by omega)
end Go.Proofs.Ytghhmbagjhmgfaa.Print
