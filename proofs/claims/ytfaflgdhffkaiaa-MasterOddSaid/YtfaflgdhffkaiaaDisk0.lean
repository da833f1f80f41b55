/- disk.Disk: what a device in memory holds; what only looks at it. -/
import Derived.Test.YtfaflgdhffkaiaaFrames
import Derived.Test.YtfaflgdhffkaiaaPrint0
import Derived.Test.YtfaflgdhffkaiaaWNEv
import Derived.Outline
namespace Go.Proofs.Ytfaflgdhffkaiaa.Print
open Go.RowKit Go.Proofs.YtfaflgdhffkaiaaW.PrintWords Go.Proofs.YtfaflgdhffkaiaaW.PrintLast Go.Proofs.YtfaflgdhffkaiaaW.PrintMore
set_option linter.unusedVariables false
set_option linter.unusedSimpArgs false
/-- A device: its sectors, durable and last; what waits; whether it is armed, dead; how many are left. -/
structure DS where
  D : List (List Int)
  L : List (List Int)
  W : List (Int × List Int)
  armed : Bool
  dead : Bool
  left : Int
abbrev kS : Kd (List Int) := Kd.slice 5 (Kd.int .u8)
abbrev kWr : Kd (Int × List Int) := Kd.pair (Kd.int .i64) (Kd.slice 5 (Kd.int .u8))
theorem infoS : (Try.prog.info? 22).map (fun i => (i.zero, i.size, i.bytes)) = some (some (.slice none 0 0), 1, 24) := by kernel_rfl
theorem infoWr : (Try.prog.info? 59).map (fun i => (i.zero, i.size, i.bytes)) = some (some (.agg #[(.int .i64 0), (.slice none 0 0)]), 2, 32) := by kernel_rfl
theorem kS_mk {W : World} {ok : Nat → Prop} {s : List Int} {A : Option Addr} {c : Nat} (hl : s.length ≤ c) (hF : Kd.F (Kd.int .u8) W ok A s.length s) : Kd.FK kS W ok s [.slice A s.length c] := fun W' hW => ⟨A, c, rfl, hl, hF W' hW⟩
theorem kWr_mk {W : World} {ok : Nat → Prop} {i : Int} {s : List Int} {A : Option Addr} {c : Nat} (hl : s.length ≤ c) (hF : Kd.F (Kd.int .u8) W ok A s.length s) : Kd.FK kWr W ok (i, s) [.int .i64 i, .slice A s.length c] := fun W' hW => ⟨[.int .i64 i], [.slice A s.length c], rfl, rfl, ⟨A, c, rfl, hl, hF W' hW⟩⟩
theorem kS_open {W : World} {ok : Nat → Prop} {s : List Int} {cs : List Value} (h : Kd.FK kS W ok s cs) : ∃ A c, cs = [.slice A s.length c] ∧ s.length ≤ c ∧ Kd.F (Kd.int .u8) W ok A s.length s := by
  obtain ⟨A, c, rfl, hl, _⟩ := Kd.FK_now h
  refine ⟨A, c, rfl, hl, fun W' hW => ?_⟩
  obtain ⟨A', c', e, _, h'⟩ := h W' hW
  injection e with e _
  injection e with e1 e2 e3
  rw [e1]
  exact h'
theorem kWr_open {W : World} {ok : Nat → Prop} {x : Int × List Int} {cs : List Value} (h : Kd.FK kWr W ok x cs) : ∃ A c, cs = [.int .i64 x.1, .slice A x.2.length c] ∧ x.2.length ≤ c ∧ Kd.F (Kd.int .u8) W ok A x.2.length x.2 := by
  obtain ⟨_, _, rfl, rfl, ⟨A, c, rfl, hl, _⟩⟩ := Kd.FK_now h
  refine ⟨A, c, rfl, hl, fun W' hW => ?_⟩
  obtain ⟨c0, c1, e, e0, ⟨A', c', e1, _, h'⟩⟩ := h W' hW
  subst e0 e1
  simp at e
  rw [e.1]
  exact h'
/-- A row of the device's: what its elements lead to lies in Sec. -/
def Rw {α : Type} (d : Kd α) (e : Nat) (w : World) (v : Value) (Sec : Nat → Prop) (xs : List α) : Prop := Kd.N d e w 0 (fun k => Sec k ∨ some k = v.ownBlock) v xs
/-- The device at block g: its rows lie in Rs, its sectors in Sec. -/
structure DkAt (w : World) (g : Nat) (Rs Sec : Nat → Prop) (d : DS) (vd vl vw : Value) : Prop where
  blk : w.heap[g]? = some (.cells #[vd, vl, vw, .bool d.armed, .bool d.dead, .int .i64 d.left] 55 (0, 0))
  rd : Rw kS 22 w vd Sec d.D
  rl : Rw kS 22 w vl Sec d.L
  rw_ : Rw kWr 59 w vw Sec d.W
  ne : ∀ k, vd.ownBlock = some k → vl.ownBlock ≠ some k
  rs : ∀ k, Rs k → k < w.heap.size
  rg : Rs g
  rsd : ∀ k, vd.ownBlock = some k → Rs k
  rsl : ∀ k, vl.ownBlock = some k → Rs k
  rsw : ∀ k, vw.ownBlock = some k → Rs k
  apart : ∀ k, Sec k → ¬ Rs k
def Dk (w : World) (g : Nat) (Rs Sec : Nat → Prop) (d : DS) : Prop := ∃ vd vl vw, DkAt w g Rs Sec d vd vl vw
theorem Rw.typed {α : Type} {d : Kd α} {e : Nat} {w : World} {v : Value} {Sec : Nat → Prop} {xs : List α} (h : Rw d e w v Sec xs) : ∀ k, v.ownBlock = some k → ∃ cur, w.heap[k]? = some (.cells cur e (0, 0)) := fun k hk => Kd.N_typed h k hk
theorem Rw.step {α : Type} {d : Kd α} {e : Nat} {w w1 : World} {v : Value} {Sec S : Nat → Prop} {xs : List α} (h : Rw d e w v Sec xs) (hc : Chg S w w1) (hs : ∀ k, Sec k → ¬ S k) (ho : ∀ k, v.ownBlock = some k → ¬ S k) : Rw d e w1 v Sec xs :=
  Kd.N_step h (fun k hk hlt => hc.block k hlt (by rcases hk with hk | hk; exact hs k hk; exact ho k hk.symm))
theorem Rw.mono {α : Type} {d : Kd α} {e : Nat} {w : World} {v : Value} {Sec Sec' : Nat → Prop} {xs : List α} (h : Rw d e w v Sec xs) (hs : ∀ k, Sec k → Sec' k) : Rw d e w v Sec' xs := Kd.N_mono h (fun k hk => hk.elim (fun a => .inl (hs k a)) .inr)
/-- Its elements are read. -/
theorem Rw.reads {α : Type} {d : Kd α} {e : Nat} {w : World} {v : Value} {Sec : Nat → Prop} {xs : List α} (h : Rw d e w v Sec xs) : ∃ A c, v = .slice A xs.length c ∧ xs.length ≤ c ∧ Kd.F d w (fun k => Sec k ∨ some k = v.ownBlock) A xs.length xs := by
  obtain ⟨A, c, rfl⟩ := Kd.N_slice h
  exact ⟨A, c, rfl, (Kd.N_reads' h).2.1, Kd.N_F h⟩
theorem DkAt.lt {w : World} {g : Nat} {Rs Sec : Nat → Prop} {d : DS} {vd vl vw : Value} (h : DkAt w g Rs Sec d vd vl vw) : g < w.heap.size := (Array.getElem?_eq_some_iff.1 h.blk).1
theorem DkAt.step {w w1 : World} {g : Nat} {Rs Sec S : Nat → Prop} {d : DS} {vd vl vw : Value} (h : DkAt w g Rs Sec d vd vl vw) (hc : Chg S w w1) (hr : ∀ k, Rs k → ¬ S k) (hs : ∀ k, Sec k → ¬ S k) : DkAt w1 g Rs Sec d vd vl vw :=
  ⟨hc.obj h.blk (hr g h.rg), h.rd.step hc hs (fun k hk => hr k (h.rsd k hk)), h.rl.step hc hs (fun k hk => hr k (h.rsl k hk)), h.rw_.step hc hs (fun k hk => hr k (h.rsw k hk)),
   h.ne, fun k hk => Nat.lt_of_lt_of_le (h.rs k hk) hc.size, h.rg, h.rsd, h.rsl, h.rsw, h.apart⟩
theorem Dk.step {w w1 : World} {g : Nat} {Rs Sec S : Nat → Prop} {d : DS} (h : Dk w g Rs Sec d) (hc : Chg S w w1) (hr : ∀ k, Rs k → ¬ S k) (hs : ∀ k, Sec k → ¬ S k) : Dk w1 g Rs Sec d := by
  obtain ⟨vd, vl, vw, h⟩ := h
  exact ⟨vd, vl, vw, h.step hc hr hs⟩
theorem Dk.below {w w1 : World} {g : Nat} {Rs Sec : Nat → Prop} {d : DS} (h : Dk w g Rs Sec d) (hb : Below w.heap.size w w1) : Dk w1 g Rs Sec d := h.step (S := fun _ => False) (.of_new hb _) (fun _ _ x => x) (fun _ _ x => x)
theorem six_cells {W : World} {g : Nat} {a b c d e f : Value} {t : TypeId} (h : W.heap[g]? = some (.cells #[a, b, c, d, e, f] t (0, 0))) :
    W.cell? ⟨g, 0, none⟩ = some a ∧ W.cell? ⟨g, 1, none⟩ = some b ∧ W.cell? ⟨g, 2, none⟩ = some c ∧ W.cell? ⟨g, 3, none⟩ = some d ∧ W.cell? ⟨g, 4, none⟩ = some e ∧ W.cell? ⟨g, 5, none⟩ = some f ∧
    W.frozen? ⟨g, 0, none⟩ = false ∧ W.frozen? ⟨g, 1, none⟩ = false ∧ W.frozen? ⟨g, 2, none⟩ = false ∧ W.frozen? ⟨g, 3, none⟩ = false ∧ W.frozen? ⟨g, 4, none⟩ = false ∧ W.frozen? ⟨g, 5, none⟩ = false :=
  ⟨(blk_cell h 0).trans rfl, (blk_cell h 1).trans rfl, (blk_cell h 2).trans rfl, (blk_cell h 3).trans rfl, (blk_cell h 4).trans rfl, (blk_cell h 5).trans rfl, blk_frozen h _, blk_frozen h _, blk_frozen h _, blk_frozen h _, blk_frozen h _, blk_frozen h _⟩
/-! #### what only looks -/
set_option maxHeartbeats 1000000 in
theorem len_walk (g : Nat) (A : Option Addr) (n c : Nat) (vl vw : Value) (b1 b2 : Bool) (x : Int) (w : World) (hb : w.heap[g]? = some (.cells #[.slice A n c, vl, vw, .bool b1, .bool b2, .int .i64 x] 55 (0, 0))) (hm : n ≤ 9223372036854775807) :
    Calls Try.prog 26 #[.pointer (some ⟨g, 0, none⟩)] w fun e w' => e = .returned (.int .i64 n) ∧ w' = w := by
  obtain ⟨hc, _⟩ := six_cells hb
  clear hb
  go_enter Try.func26, Try.ntmps26
  go_wp2_with fail
  go_ret
  exact ⟨rfl, rfl⟩
theorem len_any (g : Nat) (Rs Sec : Nat → Prop) (d : DS) (w : World) (h : Dk w g Rs Sec d) : Calls Try.prog 26 #[.pointer (some ⟨g, 0, none⟩)] w fun e w' => e = .returned (.int .i64 d.D.length) ∧ w' = w := by
  obtain ⟨vd, vl, vw, h⟩ := h
  obtain ⟨A, c, rfl, _, hF⟩ := h.rd.reads
  exact len_walk g A _ c vl vw _ _ _ w h.blk (Kd.F_max hF)
set_option maxHeartbeats 1000000 in
theorem len_nil (w : World) : Calls Try.prog 26 #[.pointer none] w fun e w' => e = .returned (.int .i64 0) ∧ w' = w := by
  go_enter Try.func26, Try.ntmps26
  go_wp2_with fail
  go_ret
  exact ⟨rfl, rfl⟩
set_option maxHeartbeats 1000000 in
theorem dead_walk (g : Nat) (vd vl vw : Value) (b1 b2 : Bool) (x : Int) (w : World) (hb : w.heap[g]? = some (.cells #[vd, vl, vw, .bool b1, .bool b2, .int .i64 x] 55 (0, 0))) :
    Calls Try.prog 25 #[.pointer (some ⟨g, 0, none⟩)] w fun e w' => e = .returned (.bool b2) ∧ w' = w := by
  obtain ⟨_, _, _, _, hc, _⟩ := six_cells hb
  clear hb
  go_enter Try.func25, Try.ntmps25
  go_wp2_with fail
  go_ret
  exact ⟨rfl, rfl⟩
theorem dead_any (g : Nat) (Rs Sec : Nat → Prop) (d : DS) (w : World) (h : Dk w g Rs Sec d) : Calls Try.prog 25 #[.pointer (some ⟨g, 0, none⟩)] w fun e w' => e = .returned (.bool d.dead) ∧ w' = w := by
  obtain ⟨vd, vl, vw, h⟩ := h
  exact dead_walk g _ _ _ _ _ _ w h.blk
set_option maxHeartbeats 1000000 in
theorem dead_nil (w : World) : Calls Try.prog 25 #[.pointer none] w fun e w' => e = .returned (.bool true) ∧ w' = w := by
  go_enter Try.func25, Try.ntmps25
  go_wp2_with fail
  go_ret
  exact ⟨rfl, rfl⟩
end Go.Proofs.Ytfaflgdhffkaiaa.Print
