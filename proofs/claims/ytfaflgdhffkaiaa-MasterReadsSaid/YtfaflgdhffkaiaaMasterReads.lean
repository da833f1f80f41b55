/- MasterReads: whatever stands in the two sectors, of it is read what the document says. -/
import Derived.Test.YtfaflgdhffkaiaaRTell
import Derived.Test.YtfaflgdhffkaiaaMAwake
import Derived.Deep.CutRange
namespace Go.Proofs.Ytfaflgdhffkaiaa.Print
open Go.RowKit Go.Proofs.YtfaflgdhffkaiaaW.PrintWords Go.Proofs.YtfaflgdhffkaiaaW.PrintLast Go.Proofs.YtfaflgdhffkaiaaW.PrintMore
set_option linter.unusedVariables false
set_option linter.unusedSimpArgs false
theorem DevK.writeG {w0 W : World} {g m : Nat} {d : DS} {K ok : Nat → Prop} (h : DevK w0 W g d K) (hB : Below w0.heap.size w0 W) (hK : ∀ k, K k → k < W.heap.size) (hO : d.Ok m) (hm : m ≤ 100000) (i : Int) {A : Option Addr} {c n : Nat} {s : List Int} (hn : n = s.length) (hF : Kd.F (Kd.int .u8) W ok A s.length s) (hok : ∀ k, ok k → k < w0.heap.size ∨ K k) (hc : s.length ≤ c) :
    Calls Try.prog 11 #[.pointer (some ⟨g, 0, none⟩), .int .i64 i, .slice A n c] W fun e w' => e = .returned (.int .i64 (writeE d i s)) ∧ DevK w0 w' g (writeD d i s) K ∧ Below w0.heap.size w0 w' ∧ ∀ k, K k → w'.heap[k]? = W.heap[k]? := by
  subst hn
  obtain ⟨Rs, Sec, hk, h1, h2⟩ := h
  refine (write_any g Rs Sec d i m A c s W hk hO hm (fun X hX => Kd.F_now (Kd.F_step hF (fun k hk hlt => hX.block k hlt (fun e => (hok k hk).elim (fun q => by have := (h1 k e).1; omega) (fun q => (h1 k e).2.2 q))))) hc).mono ?_
  rintro e w' ⟨rfl, hp⟩
  exact ⟨rfl, DevK.post h1 h2 hB (Below.refl _ _) hK hp⟩
def norm (l : List Int) : List Int := if l.length = 256 then l else sect 0
theorem norm_len (l : List Int) : (norm l).length = 256 := by
  unfold norm
  split
  · assumption
  · exact sect_len 0
theorem norm_bytes {l : List Int} (h : ∀ x ∈ l, 0 ≤ x ∧ x ≤ 255) : Bytes (norm l) := by
  unfold norm
  split
  · exact h
  · exact fun v hv => by rw [List.eq_of_mem_replicate hv]; omega
theorem made_F (W X : World) (h : X.heap[W.heap.size]? = some (.cells (madeCells #[.int .u8 0] 256) 5 (0, 0))) : Kd.F (Kd.int .u8) X (fun k => k = W.heap.size) (some ⟨W.heap.size, 0, none⟩) (sect 0).length (sect 0) := by
  obtain ⟨A, c, e, _, hF⟩ := kS_open (madeF W X h)
  injection e with e _
  injection e with e1 e2 e3
  rw [e1]
  exact hF
theorem reads_dev (a b : List Int) (ha : a.length = 256) (hb : b.length = 256) : St (newD 3) 3 ∧ (writeD (writeD (newD 3) 0 a) 1 b).L = [a, b, sect 0] ∧ (writeD (writeD (newD 3) 0 a) 1 b).dead = false ∧ (writeD (writeD (newD 3) 0 a) 1 b).D.length = 3 := by
  have s0 := St.new 3 (by decide)
  obtain ⟨_, e1, _⟩ := mw_step s0 0 (by decide) (by decide) a ha
  have hl : (writeF (livesF (newD 3)) 0 a).dead = false := rfl
  have hl2 : (livesF (writeF (livesF (newD 3)) 0 a)).dead = false := rfl
  have e2 : writeD (writeF (livesF (newD 3)) 0 a) 1 b = writeF (livesF (writeF (livesF (newD 3)) 0 a)) 1 b := by
    unfold writeD
    rw [if_neg (by rintro (q | q | q); rw [hl] at q; cases q; exact q ⟨by decide, by show (1 : Int) < ((newD 3).D.length : Int); decide⟩; exact q hb), if_neg (by rw [hl2]; decide)]
  rw [e1, e2]
  exact ⟨s0, rfl, rfl, rfl⟩
structure RA (w w3 wc : World) (A : Option Addr) (c : Nat) (s : List Int) : Prop where
  cap : 256 ≤ c
  F : Kd.F (Kd.int .u8) wc (fun k => k < w.heap.size ∨ (w3.heap.size ≤ k ∧ k < wc.heap.size)) A s.length s
theorem RA.below {w w3 wc X : World} {A : Option Addr} {c : Nat} {s : List Int} (h : RA w w3 wc A c s) (hb : Below wc.heap.size wc X) : RA w w3 X A c s :=
  ⟨h.cap, Kd.F_mono (Kd.F_below h.F hb) (fun k a => a.imp id (fun q => ⟨q.1, Nat.lt_of_lt_of_le q.2 hb.size⟩))⟩
theorem RA.in_ {w w3 wc : World} {A : Option Addr} {c n : Nat} {l : List Int} (hC : Kd.C (Kd.int .u8) w A l.length l) (hc : l.length ≤ c) (hb : Below w.heap.size w wc) (hl : l.length = 256) : RA w w3 wc A c (norm l) := by
  have hn : norm l = l := if_pos hl
  rw [hn]
  exact ⟨by omega, Kd.F_mono (Kd.F_below (Kd.C_F (Kd.heap_int .u8) hC) hb) (fun k a => .inl a)⟩
theorem RA.made {w w3 wc : World} {l : List Int} (h3 : Below w3.heap.size w3 wc) (hl : l.length ≠ 256) : RA w w3 (wc.alloc (.cells (madeCells #[.int .u8 0] 256) 5)) (some ⟨wc.heap.size, 0, none⟩) 256 (norm l) := by
  have hn : norm l = sect 0 := if_neg hl
  rw [hn]
  exact ⟨Nat.le_refl _, Kd.F_mono (made_F wc _ (heap_alloc_new _ _)) (fun k a => .inr ⟨by have := h3.size; omega, by rw [World.size_alloc]; omega⟩)⟩
set_option maxHeartbeats 2000000 in
set_option maxRecDepth 100000 in
theorem reads_walk (A0 : Option Addr) (c0 : Nat) (l0 : List Int) (A1 : Option Addr) (c1 : Nat) (l1 : List Int) (w : World) (hr0 : Kd.C (Kd.int .u8) w A0 l0.length l0) (hc0 : l0.length ≤ c0) (hr1 : Kd.C (Kd.int .u8) w A1 l1.length l1) (hc1 : l1.length ≤ c1) (hb0 : ∀ x ∈ l0, 0 ≤ x ∧ x ≤ 255) (hb1 : ∀ x ∈ l1, 0 ≤ x ∧ x ≤ 255) :
    Calls Try.prog 3 #[.slice A0 l0.length c0, .slice A1 l1.length c1] w fun e w' => e = .returned (.bool true) ∧ Below w.heap.size w w' := by
  have hmk0 := print_make (P := Try.prog) 22 5 .u8 1 Try.underlying22 info5 (by decide) 256 (by decide)
  have hmk : ∀ W : World, (Instr.makeSlice 22 (.int .i64 256) (.int .i64 256)).run Try.prog W = .ok (.slice (some ⟨W.heap.size, 0, none⟩) 256 256) (W.alloc (.cells (madeCells #[.int .u8 0] 256) 5)) := fun W => hmk0 W
  clear hmk0
  have haw := Aside0.mk awake_calls
  have h630 := hr0.2.1
  have h631 := hr1.2.1
  have HA := Aside0.mk (fun (w3 wc : World) (hb : Below w.heap.size w wc) (hl : l0.length = 256) => RA.in_ (n := 0) (w3 := w3) hr0 hc0 hb hl)
  have HB := Aside0.mk (fun (w3 wc : World) (hb : Below w.heap.size w wc) (hl : l1.length = 256) => RA.in_ (n := 0) (w3 := w3) hr1 hc1 hb hl)
  have hBa := Aside0.mk (norm_bytes hb0)
  have hBb := Aside0.mk (norm_bytes hb1)
  have HM := Aside0.mk (fun (w3 wc : World) (h3 : Below w3.heap.size w3 wc) (hl : l0.length ≠ 256) => RA.made (w := w) h3 hl)
  have HN := Aside0.mk (fun (w3 wc : World) (h3 : Below w3.heap.size w3 wc) (hl : l1.length ≠ 256) => RA.made (w := w) h3 hl)
  obtain ⟨S0, hL, hdd, hln⟩ := reads_dev (norm l0) (norm l1) (norm_len l0) (norm_len l1)
  have hrs := reads_same (L := [norm l0, norm l1, sect 0]) (norm_len l0) (norm_len l1) hBa.out hBb.out rfl rfl
  have hby : ∀ k, k < 2 → Bytes (([norm l0, norm l1, sect 0] : List (List Int)).getD k []) := fun k hk => by
    match k, hk with
    | 0, _ => exact hBa.out
    | 1, _ => exact hBb.out
  have hrr := Aside0.mk (fun (A B : Option Addr) (c d : Nat) (X : World) => rread_any A B c d (norm l0) (norm l1) X (norm_len l0) (norm_len l1) hBa.out hBb.out)
  have hna := Aside0.mk (norm_len l0)
  have hnb := Aside0.mk (norm_len l1)
  replace hL := Aside0.mk hL
  replace hdd := Aside0.mk hdd
  replace hln := Aside0.mk hln
  replace hrs := Aside0.mk hrs
  replace hby := Aside0.mk hby
  clear hr0 hr1 hb0 hb1 hBa hBb S0
  generalize norm l0 = sa at *
  generalize norm l1 = sb at *
  generalize l0.length = n0 at *
  generalize l1.length = n1 at *
  go_enter Try.func3, Try.ntmps3
  go_wp2_with fail
  refine (haw.out w).mono ?_
  rintro e w1 ⟨rfl, hw1⟩
  replace hw1 := Aside0.mk hw1
  go_wp2_with fail
  refine (Dev.new 3 w w1 hw1.out (by decide) (by decide)).mono ?_
  rintro e w3 ⟨g, rfl, hd3, hB3⟩
  replace hd3 := Aside0.mk hd3
  replace hB3 := Aside0.mk hB3
  clear hw1
  go_upto_if 21 with fail
  go_cut [0] from 22 to 22 (fun v0 wc => ∃ (A : Option Addr) (c : Nat), v0 = .slice A 256 c ∧ Aside0 (RA w w3 wc A c sa ∧ Below w3.heap.size w3 wc))
  case first =>
    by_cases hl : n0 = 256
    · have f1 : ((n0 : Int) != 256) = false := by simp [hl]
      have hR := HA.out w3 w3 hB3.out hl
      subst hl
      go_wp2_with fail
      go_meet
      case rel => exact ⟨A0, c0, rfl, ⟨hR, Below.refl _ _⟩⟩
    · have f1 : ((n0 : Int) != 256) = true := by simp; omega
      have hR := Aside0.mk (HM.out w3 w3 (Below.refl _ _) hl)
      have hal := Aside0.mk (below_alloc (Below.refl w3.heap.size w3) (.cells (madeCells #[.int .u8 0] 256) 5))
      go_wp2_with fail
      go_meet
      case rel => exact ⟨_, 256, rfl, ⟨hR.out, hal.out⟩⟩
  case rest =>
    obtain ⟨A, c, rfl, HRA⟩ := hcut
    clear HA HM
    generalize wc = w4 at *
    go_upto_if 25 with fail
    go_cut [1] from 26 to 26 (fun v1 wc => ∃ (B : Option Addr) (d : Nat), v1 = .slice B 256 d ∧ Aside0 (RA w w3 wc B d sb ∧ RA w w3 wc A c sa ∧ Below w3.heap.size w3 wc))
    case first =>
      by_cases hl : n1 = 256
      · have f1 : ((n1 : Int) != 256) = false := by simp [hl]
        have hR := HB.out w3 w4 (hB3.out.trans (HRA.out.2.mono hB3.out.size)) hl
        subst hl
        go_wp2_with fail
        go_meet
        case rel => exact ⟨A1, c1, rfl, ⟨hR, HRA.out.1, HRA.out.2⟩⟩
      · have f1 : ((n1 : Int) != 256) = true := by simp; omega
        have hR := Aside0.mk (HN.out w3 w4 HRA.out.2 hl)
        have hal := Aside0.mk (below_alloc (Below.refl w4.heap.size w4) (.cells (madeCells #[.int .u8 0] 256) 5))
        go_wp2_with fail
        go_meet
        case rel => exact ⟨_, 256, rfl, ⟨hR.out, HRA.out.1.below hal.out, HRA.out.2.trans (hal.out.mono HRA.out.2.size)⟩⟩
    case rest =>
      obtain ⟨B, d, rfl, HRB⟩ := hcut
      clear HRA HB HN
      generalize wc = w5 at *
      have hB5 := Aside0.mk (hB3.out.trans (HRB.out.2.2.mono hB3.out.size))
      have hd5 := Aside0.mk (DevK.of hd3.out HRB.out.2.2)
      have hK5 : Aside0 (∀ k, (w3.heap.size ≤ k ∧ k < w5.heap.size) → k < w5.heap.size) := ⟨fun k a => a.2⟩
      have hcA := HRB.out.2.1.cap
      have hcB := HRB.out.1.cap
      have hFA := Aside0.mk HRB.out.2.1.F
      have hFB := Aside0.mk HRB.out.1.F
      have hw5 := hB5.out.size
      generalize hKd : (fun k => w3.heap.size ≤ k ∧ k < w5.heap.size) = K at *
      have hok : Aside0 (∀ k, (k < w.heap.size ∨ (w3.heap.size ≤ k ∧ k < w5.heap.size)) → k < w.heap.size ∨ K k) := ⟨fun k a => a.imp id (fun q => by rw [← hKd]; exact q)⟩
      have hKl : Aside0 (∀ k, K k → k < w5.heap.size) := ⟨fun k a => by rw [← hKd] at a; exact a.2⟩
      clear hKd HRB hd3 hB3 hK5
      go_wp2_with fail
      refine (hd5.out.writeG hB5.out hKl.out (newD_ok 3 (by decide)) (by decide) 0 hna.out.symm hFA.out hok.out (by rw [hna.out]; exact hcA)).mono ?_
      rintro e w6 ⟨rfl, hd6, hB6, hk6⟩
      have hkk6 : ∀ k, (k < w.heap.size ∨ (w3.heap.size ≤ k ∧ k < w5.heap.size)) → k < w5.heap.size → w6.heap[k]? = w5.heap[k]? := fun k a b => (hok.out k a).elim (fun q => ((hB6.block k q).trans (hB5.out.block k q).symm)) (fun q => hk6 k q)
      have hKl6 := Aside0.mk (fun k (a : K k) => show k < w6.heap.size from by
        have h0 := hKl.out k a
        have h1 := hk6 k a
        rw [Array.getElem?_eq_getElem h0] at h1
        exact (Array.getElem?_eq_some_iff.1 h1).1)
      have hFA6 := Aside0.mk (Kd.F_step hFA.out hkk6)
      have hFB6 := Aside0.mk (Kd.F_step hFB.out hkk6)
      replace hd6 := Aside0.mk hd6
      replace hB6 := Aside0.mk hB6
      clear hk6 hkk6 hd5 hB5 hFA hFB hKl
      generalize writeE (newD 3) 0 sa = e6 at *
      go_wp2_with fail
      refine (hd6.out.writeG hB6.out hKl6.out (writeD_ok (newD_ok 3 (by decide)) 0 sa) (by decide) 1 hnb.out.symm hFB6.out hok.out (by rw [hnb.out]; exact hcB)).mono ?_
      rintro e w7 ⟨rfl, hd7, hB7, hk7⟩
      have hkk7 : ∀ k, (k < w.heap.size ∨ (w3.heap.size ≤ k ∧ k < w5.heap.size)) → k < w6.heap.size → w7.heap[k]? = w6.heap[k]? := fun k a b => (hok.out k a).elim (fun q => ((hB7.block k q).trans (hB6.out.block k q).symm)) (fun q => hk7 k q)
      have hFA7 := Aside0.mk (Kd.F_step hFA6.out hkk7)
      have hFB7 := Aside0.mk (Kd.F_step hFB6.out hkk7)
      have hmr := mread_any hd7.dev (writeD_ok (writeD_ok (newD_ok 3 (by decide)) 0 sa) 1 sb) hdd.out (by rw [hln.out]; decide) (by rw [hL.out]; exact hby.out)
      rw [hL.out, hrs.out.1, hrs.out.2] at hmr
      replace hmr := Aside0.mk hmr
      replace hB7 := Aside0.mk hB7
      clear hk7 hkk7 hd6 hB6 hFA6 hFB6 hKl6 hd7
      generalize writeE (writeD (newD 3) 0 sa) 1 sb = e7 at *
      clear hL hdd hln hrs hby
      have hE := fun X => equalM (rrM sa sb) (rrM sa sb) X
      rw [sameM_self] at hE
      generalize rrM sa sb = mm at *
      generalize rrE sa sb = ee at *
      replace hE : ∀ X, (Op.equalIn 10000 30 (.agg #[.int .i64 mm.no, .int .i64 mm.ep, .int .i64 mm.st, .int .i64 mm.ck]) (.agg #[.int .i64 mm.no, .int .i64 mm.ep, .int .i64 mm.st, .int .i64 mm.ck])).run Try.prog X = .ok true X := hE
      replace hE := Aside0.mk hE
      go_wp2_with fail
      refine hmr.out.mono ?_
      rintro e w8 ⟨rfl, hb8⟩
      have hal := below_alloc (Below.refl w8.heap.size w8) (.cells (agM mm) 30)
      have hB9 := Aside0.mk (hB7.out.trans ((hb8.trans (hal.mono hb8.size)).mono hB7.out.size))
      have hFA9 := Aside0.mk (Kd.F_below (Kd.F_below hFA7.out hb8) hal)
      have hFB9 := Aside0.mk (Kd.F_below (Kd.F_below hFB7.out hb8) hal)
      have hm9 := heap_alloc_new w8 (.cells (agM mm) 30)
      have hl9 : w8.heap.size < (w8.alloc (.cells (agM mm) 30)).heap.size := by rw [World.size_alloc]; omega
      clear hmr hb8 hal hFA7 hFB7 hB7
      replace hm9 := Aside0.mk hm9
      go_upto_region 12 with fail
      generalize w8.alloc (.cells (agM mm) 30) = w9 at *
      generalize w8.heap.size = b8 at *
      have hrx := Aside0.mk (hrr.out A B c d w9 (by have := Kd.F_now hFA9.out; rwa [hna.out] at this) hcA (by have := Kd.F_now hFB9.out; rwa [hnb.out] at this) hcB)
      clear hrr hFA9 hFB9
      go_wp2_with fail
      refine hrx.out.mono ?_
      rintro e w10 ⟨rfl, hb10⟩
      have hm10 := (hb10.block _ hl9).trans hm9.out
      have hB10 := hB9.out.trans (hb10.mono hB9.out.size)
      have hal := below_alloc (Below.refl w10.heap.size w10) (.cells (agM mm) 30)
      have hm11 := (hal.block _ (Array.getElem?_eq_some_iff.1 hm10).1).trans hm10
      have hB11 := Aside0.mk (hB10.trans (hal.mono hB10.size))
      have hn11 := heap_alloc_new w10 (.cells (agM mm) 30)
      clear hb10 hm9 hm10 hB10 hal hB9 hrx
      replace hm11 := Aside0.mk hm11
      replace hn11 := Aside0.mk hn11
      go_upto_region 13 with fail
      generalize w10.alloc (.cells (agM mm) 30) = w11 at *
      generalize w10.heap.size = b10 at *
      obtain ⟨x0, x1, x2, x3⟩ := m_cells hm11.out
      obtain ⟨y0, y1, y2, y3⟩ := m_cells hn11.out
      have hE := hE.out
      have eee : (ee == ee) = true := by simp
      go_wp2_with fail
      go_ret
      exact ⟨rfl, hB11.out⟩
def bobbinlaw09_MasterReads.f (l0 l1 : List Int) : Option Bool := if (∀ x ∈ l0, 0 ≤ x ∧ x ≤ 255) ∧ (∀ x ∈ l1, 0 ≤ x ∧ x ≤ 255) then some true else none
theorem bobbinlaw09_MasterReads.calls (A0 : Option Addr) (c0 : Nat) (l0 : List Int) (A1 : Option Addr) (c1 : Nat) (l1 : List Int) (r : Bool) (w : World) (hr0 : Kd.C (Kd.int .u8) w A0 l0.length l0) (hc0 : l0.length ≤ c0) (hr1 : Kd.C (Kd.int .u8) w A1 l1.length l1) (hc1 : l1.length ≤ c1) (h : bobbinlaw09_MasterReads.f l0 l1 = some r) :
    Calls Try.prog 3 #[.slice A0 l0.length c0, .slice A1 l1.length c1] w fun e w' => e = .returned (.bool r) ∧ Below w.heap.size w w' := by
  unfold bobbinlaw09_MasterReads.f at h
  split at h
  · rename_i hn
    obtain rfl := Option.some.inj h
    exact reads_walk A0 c0 l0 A1 c1 l1 w hr0 hc0 hr1 hc1 hn.1 hn.2
  · cases h
end Go.Proofs.Ytfaflgdhffkaiaa.Print
