/- The walk of BytReads: of any bytes any gets and takes answer what the document says, with as much left. -/
import Derived.Test.YtkniklgecmdeoaaByt1
namespace Go.Proofs.Ytkniklgecmdeoaa.Print
open Go.RowKit Go.Proofs.YtkniklgecmdeoaaW.PrintWords Go.Proofs.YtkniklgecmdeoaaW.PrintLast Go.Proofs.YtkniklgecmdeoaaW.PrintMore Go.Proofs.Ytkniklgecmdeoaa.Pure
set_option linter.unusedVariables false
set_option linter.unusedSimpArgs false
theorem bytes_getL {l : List Int} (h : Bytes l) (m : Int) : Bytes (getL l m) := by
  unfold getL
  split
  · exact fun x hx => h x (List.mem_of_mem_drop hx)
  · exact h
theorem bytes_takeL {l : List Int} (h : Bytes l) : Bytes (takeL l) := by
  unfold takeL
  split
  · exact fun x hx => h x (List.mem_of_mem_drop hx)
  · exact h
theorem getL_len (l : List Int) (m : Int) : (getL l m).length ≤ l.length := by unfold getL; split <;> simp
theorem takeL_len (l : List Int) : (takeL l).length ≤ l.length := by unfold takeL; split <;> simp
theorem takeB_len (l : List Int) : (takeB l).length ≤ l.length := by unfold takeB; split <;> simp; omega
/-- Behind some calls: the Reader and the row have the same bytes left. -/
def RI (w : World) (g : Nat) (v : Value) (wr : World) : Prop :=
  ∃ ok L, Rd wr g ok L ∧ Kd.V (Kd.int .u8) 5 wr 0 (fun k => k ≠ g) v L ∧ Bytes L ∧ L.length ≤ 2000 ∧ w.heap.size ≤ g ∧ Below w.heap.size w wr
theorem rdPost_below {w wr w1 : World} {g : Nat} {ok : Nat → Prop} {L : List Int} (h : RdPost g ok L wr w1) (hg : w.heap.size ≤ g) (hb : Below w.heap.size w wr) : Below w.heap.size w w1 := Chg.then_ hb h.2 (fun k hk => by rw [hk]; exact hg) hb.size
set_option maxHeartbeats 1000000 in
set_option maxRecDepth 100000 in
theorem bobbinlaw01_BytReads.walk (A0 : Option Addr) (c0 : Nat) (l0 : List Int) (A1 : Option Addr) (c1 : Nat) (l1 : List Int) (w : World) (hr0 : Kd.C (Kd.int .u8) w A0 l0.length l0) (hc0 : l0.length ≤ c0) (hr1 : Kd.C (Kd.int .i64) w A1 l1.length l1) (hc1 : l1.length ≤ c1) (hl0 : l0.length ≤ 140737488351232) (hB0 : Bytes l0) :
    Calls Try.prog 6 #[.slice A0 l0.length c0, .slice A1 l1.length c1] w fun e w' => e = .returned (.bool true) ∧ Below w.heap.size w w' := by
  have HR : ∀ {X : World}, Below w.heap.size w X → Kd.C (Kd.int .u8) X A0 l0.length l0 := fun hb => Kd.C_below hr0 hb
  have HS : ∀ {X : World}, Below w.heap.size w X → Kd.C (Kd.int .i64) X A1 l1.length l1 := fun hb => Kd.C_below hr1 hb
  replace HR := Aside0.mk @HR
  replace HS := Aside0.mk @HS
  have h64 : l1.length ≤ 9223372036854775807 := hr1.2.1
  have haw := Aside0.mk awake_calls
  replace hB0 := Aside0.mk hB0
  clear hr0 hr1
  go_enter Try.func6, Try.ntmps6
  go_wp2_with fail
  refine (haw.out _).mono ?_
  rintro e w1 ⟨rfl, hb1⟩
  replace hb1 := Aside0.mk hb1
  go_wp2_with fail
  refine (newReader_any A0 c0 l0 _ (HR.out hb1.out) hc0 hl0).mono ?_
  rintro e w2 ⟨g, rfl, hg1, hR2, hd2⟩
  have hg : w.heap.size ≤ g := by have := hb1.out.size; omega
  have hb2 := Aside0.mk (below_then hb1.out hb1.out.size hd2)
  replace hR2 := Aside0.mk hR2
  replace hg := Aside0.mk hg
  clear hd2 hg1
  by_cases hn : l0.length ≤ 2000
  case neg =>
    have e1 : decide (2000 < l0.length) = true := by simp; omega
    have e2 : decide ((2000 : Int) < (l0.length : Int)) = true := by simp; omega
    clear hn
    go_wp2_with fail
    go_ret
    exact ⟨rfl, hb2.out⟩
  have e1 : decide (2000 < l0.length) = false := by simp; omega
  have e2 : decide ((2000 : Int) < (l0.length : Int)) = false := by simp; omega
  by_cases hm : l1.length ≤ 100
  case neg =>
    have e3 : decide (100 < l1.length) = true := by simp; omega
    have e4 : decide ((100 : Int) < (l1.length : Int)) = true := by simp; omega
    clear hm
    go_wp2_with fail
    go_ret
    exact ⟨rfl, hb2.out⟩
  have e3 : decide (100 < l1.length) = false := by simp; omega
  have e4 : decide ((100 : Int) < (l1.length : Int)) = false := by simp; omega
  go_wp2_with ((with_reducible refine gate_builtin (b := .append) (xs := #[.const (.slice none 0 0), .tmp 44]) rfl ?_); at_builtin; refine Kd.R_append_rows (Kd.int .u8) (w0 := w2) w2.heap.size rfl (.const (.slice none 0 0)) (.tmp 44) 26 5 (.int .u8 0) 1 rfl Try.underlying26 info5 rfl (by decide) (by decide) (.slice none 0 0) [] l0 A0 l0.length c0 (fun _ => True) (fun _ => False) rfl rfl (Kd.R_nil _ _ _ _ _) (HR.out hb2.out) (fun _ _ h => h) (fun _ h => h.elim) (fun _ _ => trivial) (Below.refl _ _) (Nat.le_refl _) (by simp; omega) ?_; intro v3 w3 hR3 hb3 _ _; rw [List.nil_append] at hR3; have HI := Aside0.mk (show RI w g v3 w3 from ⟨_, l0, hR2.out.below hb3, by obtain ⟨A3, c3, rfl, hl3, hC3⟩ := Kd.R_reads hR3; exact Kd.V_mk hl3 (Kd.R_F (Kd.R_mono (Kd.R_bound hR3) (fun k hk => by have := hR2.out.lt; have := hk.2.1; omega))), hB0.out, hn, hg.out, below_then hb2.out hb2.out.size hb3⟩); obtain ⟨A3, c3, rfl⟩ := Kd.R_slice hR3; clear hR3 hb3)
  go_loopw [7, 8] (fun v7 v8 wr => ∃ k : Nat, k ≤ l1.length ∧ v8 = .int .i64 k ∧ Aside0 (RI w g v7 wr)) (fun _ v8 _ => l1.length - (intOf v8).toNat)
  case atStart => exact ⟨0, Nat.zero_le _, rfl, HI⟩
  case round =>
    obtain ⟨k, hk, rfl, HJ⟩ := hrel
    obtain ⟨ok, L, hRd, ⟨A7, c7, rfl, hl7, hF⟩, hBy, hLn, _, hB⟩ := HJ.out
    by_cases hlk : k < l1.length
    · obtain ⟨ad, rfl, hcell⟩ := C_cells' (HS.out (Below.refl _ w)) (by omega)
      have hxw := Aside0.mk (hcell k hlk)
      generalize l1.getD k 0 = x at hxw
      have hx := pw_cell_below hB hxw.out
      clear hcell HJ HI
      have hgr := hRd.lt
      replace hRd := Aside0.mk hRd
      replace hF := Aside0.mk hF
      replace hBy := Aside0.mk hBy
      replace hB := Aside0.mk hB
      have hV : ∀ {M : List Int} {ok1 : Nat → Prop} {w5 : World}, RdPost g ok1 M wr w5 → Kd.V (Kd.int .u8) 5 w5 w5.heap.size (fun k => k ≠ g) (.slice A7 L.length c7) L := fun hp => Kd.V_mk hl7 (Kd.F_step hF.out (fun k hk hlt => hp.2.block k hlt (fun e => hk e)))
      replace hV := Aside0.mk @hV
      by_cases h0 : x = 0
      · subst h0
        go_wp2_with fail
        refine (take_any g ok L _ hRd.out hBy.out).mono ?_
        rintro e w5 ⟨v5, rfl, hR5, hp5⟩
        have hB5 := Aside0.mk (rdPost_below hp5 hg.out hB.out)
        have hV5 := Aside0.mk (hV.out hp5)
        have hs5 := hp5.2.size
        obtain ⟨A5, c5, rfl, hl5, hC5⟩ := Kd.R_reads hR5
        replace hC5 := Aside0.mk hC5
        replace hp5 := Aside0.mk hp5
        clear hR5
        go_wp2_with fail
        refine (ref_take (fun k => k ≠ g) A7 c7 L _ hV5.out hBy.out (by omega)).mono ?_
        rintro e w6 ⟨v6, v7, rfl, hR6, hV6, hb6⟩
        have hB6 := Aside0.mk (below_then hB5.out hB5.out.size hb6)
        have HN := Aside0.mk (show RI w g v7 w6 from ⟨ok, takeL L, hp5.out.1.below hb6, Kd.V_mono hV6 (fun k hk => hk.1.elim (fun h => h) (fun h => by omega)), bytes_takeL hBy.out, Nat.le_trans (takeL_len L) hLn, hg.out, hB6.out⟩)
        have hC56 := Aside0.mk (Kd.C_below hC5.out hb6)
        have hp6 := Aside0.mk (hp5.out.1.below hb6)
        obtain ⟨A6, c6, rfl, hl6, hC6⟩ := Kd.R_reads hR6
        obtain ⟨A8, c8, rfl, hl8, _⟩ := hV6
        replace hC6 := Aside0.mk hC6
        have htl := takeB_len L
        clear hR6 hb6 hC5
        generalize takeB L = B at *
        generalize takeE L = E at *
        generalize takeL L = M at *
        go_wp2_with fail
        refine (ref_same A5 A6 c5 c6 B B _ hC56.out hl5 hC6.out hl6 (by omega) true (by simp)).mono ?_
        rintro e w9 ⟨rfl, hd9⟩
        have hR9 := Aside0.mk (hp6.out.below hd9.below)
        have HN9 := Aside0.mk (show RI w g (.slice A8 M.length c8) w9 by
          obtain ⟨ok', L', a1, a2, a3, a4, a5, a6⟩ := HN.out
          exact ⟨ok', L', a1.below hd9.below, Kd.V_below a2 hd9.below, a3, a4, a5, below_then a6 a6.size hd9.below⟩)
        clear hd9
        go_wp2_with fail
        refine (left_any g ok M _ hR9.out).mono ?_
        rintro e w10 ⟨rfl, rfl⟩
        go_wp2_with fail
        go_roundw
        case rel => exact ⟨k + 1, by omega, by go_num, HN9⟩
        case measure => simp [intOf]; omega
      · have e0 : (x == 0) = false := by simpa using h0
        replace h0 := Aside0.mk h0
        go_wp2_with fail
        refine (get_any g ok L x _ hRd.out hBy.out).mono ?_
        rintro e w5 ⟨rfl, hp5⟩
        have hB5 := Aside0.mk (rdPost_below hp5 hg.out hB.out)
        have hV5 := Aside0.mk (hV.out hp5)
        have hs5 := hp5.2.size
        have hx5 := pw_cell_below hB5.out hxw.out
        replace hp5 := Aside0.mk hp5
        have hby2 := bytes_getL hBy.out x
        have hgl := getL_len L x
        go_wp2_with fail
        refine (ref_get (fun k => k ≠ g) A7 c7 L x _ hV5.out hBy.out).mono ?_
        rintro e w6 ⟨v7, rfl, hV6, hb6⟩
        have hB6 := Aside0.mk (below_then hB5.out hB5.out.size hb6)
        have HN := Aside0.mk (show RI w g v7 w6 from ⟨ok, getL L x, hp5.out.1.below hb6, Kd.V_mono hV6 (fun k hk => hk.elim (fun h => h) (fun h => by omega)), hby2, by omega, hg.out, hB6.out⟩)
        have hp6 := Aside0.mk (hp5.out.1.below hb6)
        obtain ⟨A8, c8, rfl, hl8, _⟩ := hV6
        clear hb6 hby2
        generalize getV L x = B at *
        generalize getE L x = E at *
        generalize getL L x = M at *
        go_wp2_with fail
        refine (left_any g ok M _ hp6.out).mono ?_
        rintro e w10 ⟨rfl, rfl⟩
        go_wp2_with fail
        go_roundw
        case rel => exact ⟨k + 1, by omega, by go_num, HN⟩
        case measure => simp [intOf]; omega
    · obtain rfl : k = l1.length := by omega
      replace hB := Aside0.mk hB
      clear hRd hF hBy HJ
      go_wp2_with fail
      go_ret
      exact ⟨rfl, hB.out⟩
def bobbinlaw01_BytReads.f (l0 : List Int) (l1 : List Int) : Option Bool := if l0.length ≤ 140737488351232 ∧ ∀ x ∈ l0, 0 ≤ x ∧ x ≤ 255 then some true else none
theorem bobbinlaw01_BytReads.calls (A0 : Option Addr) (c0 : Nat) (l0 : List Int) (A1 : Option Addr) (c1 : Nat) (l1 : List Int) (r : Bool) (w : World) (hr0 : Kd.C (Kd.int .u8) w A0 l0.length l0) (hc0 : l0.length ≤ c0) (hr1 : Kd.C (Kd.int .i64) w A1 l1.length l1) (hc1 : l1.length ≤ c1) (h : bobbinlaw01_BytReads.f l0 l1 = some r) :
    Calls Try.prog 6 #[.slice A0 l0.length c0, .slice A1 l1.length c1] w fun e w' => e = .returned (.bool r) ∧ Below w.heap.size w w' := by
  unfold bobbinlaw01_BytReads.f at h
  split at h
  · rename_i hn
    obtain rfl := Option.some.inj h
    exact bobbinlaw01_BytReads.walk A0 c0 l0 A1 c1 l1 w hr0 hc0 hr1 hc1 hn.1 hn.2
  · cases h
end Go.Proofs.Ytkniklgecmdeoaa.Print
