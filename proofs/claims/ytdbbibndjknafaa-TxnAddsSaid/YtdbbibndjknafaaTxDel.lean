/- slices.DeleteFunc of []int with Undo's closure: what is greater than k goes. -/
import Derived.Test.YtdbbibndjknafaaHandFrames
import Derived.Test.YtdbbibndjknafaaPrint3
import Derived.Shelf.SlicesE.DeleteFunc
import Derived.Lib.SliceRun
namespace Go.Proofs.Ytdbbibndjknafaa.Print
open Go.RowKit Go.Proofs.YtdbbibndjknafaaW.PrintWords Go.Proofs.YtdbbibndjknafaaW.PrintLast Go.Proofs.YtdbbibndjknafaaW.PrintMore
open Go.Shelf Go.Sort
set_option linter.unusedVariables false
set_option linter.unusedSimpArgs false
def ren14 : Go.Shelf.Ren := ⟨fun | 6 => 43 | 10 => 35 | n => n, fun | 22 => 23 | 23 => 3 | 25 => 59 | n => n, fun n => n⟩
theorem lays14 : SlLaysH.n10 Try.prog ren14 where
  mixed := by kernel_rfl
  f6 := ⟨"slices.IndexFunc[[]int,int]", by decide, Try.func43.trans (congrArg some (by kernel_rfl))⟩
  f10 := ⟨"slices.DeleteFunc[[]int,int]", by decide, Try.func35.trans (congrArg some (by kernel_rfl))⟩
  t0 := Try.underlying0
  a0 := Try.isAgg0
  z0 := Try.sizeOf0
  v0 := Try.zeroValue0
  t3 := Try.underlying3
  a3 := Try.isAgg3
  z3 := Try.sizeOf3
  v3 := Try.zeroValue3
  t4 := Try.underlying4
  a4 := Try.isAgg4
  z4 := Try.sizeOf4
  v4 := Try.zeroValue4
  t22 := Try.underlying23
  a22 := Try.isAgg23
  z22 := Try.sizeOf23
  v22 := Try.zeroValue23
  a23 := Try.isAgg3
  z23 := Try.sizeOf3
  t25 := Try.underlying59
  a25 := Try.isAgg59
  z25 := Try.sizeOf59
  v25 := Try.zeroValue59
theorem clo_gives (lim x : Int) (B : Nat) (W : World) (hc : W.cell? ⟨B, 0, none⟩ = some (.int .i64 lim)) :
    FnGives Try.prog 36 #[.pointer (some ⟨B, 0, none⟩)] #[.int .i64 x] (.bool (decide (lim < x))) W := by
  show Calls Try.prog 36 #[.int .i64 x, .pointer (some ⟨B, 0, none⟩)] W _
  go_enter Try.func36, Try.ntmps36
  go_wp2
  all_goals (go_ret; exact ⟨by simp_all, 0, rfl⟩)
theorem cell_same {W W1 : World} {a : Addr} (h : W1.heap[a.block]? = W.heap[a.block]?) : W1.cell? a = W.cell? a := by
  unfold World.cell?
  rw [h]
theorem del_int (k : Int) (ba g c : Nat) (l : List Int) (W : World) (hl : ba < W.heap.size) (hcell : W.cell? ⟨ba, 0, none⟩ = some (.int .i64 k)) (hne : ba ≠ g) (hH : ∀ j, j < l.length → W.cell? ⟨g, j, none⟩ = some (.int .i64 (l.getD j 0)) ∧ W.frozen? ⟨g, j, none⟩ = false) (hc : l.length ≤ c) (hm : l.length ≤ 9223372036854775807) :
    Calls Try.prog 35 #[.slice (some ⟨g, 0, none⟩) l.length c, .func (.func 36) #[] #[.pointer (some ⟨ba, 0, none⟩)]] W fun e w' => e = .returned (.slice (some ⟨g, 0, none⟩) (l.filter fun x => !decide (k < x)).length c) ∧ Kd.F (Kd.int .i64) w' (fun j => j = g) (some ⟨g, 0, none⟩) (l.filter fun x => !decide (k < x)).length (l.filter fun x => !decide (k < x)) ∧ Chg (fun j => j = g) W w' := by
  have eg : ∀ args w, (callFunc 36 args).run Try.prog w = .ok (.enter 36 args) w := enters_of Try.func36 (by kernel_rfl) rfl
  have hH' : Holds (Value.int .i64) W g 0 l.toArray := fun j hj => by
    have hj' : j < l.length := by simpa using hj
    have h := hH j hj'
    rw [show l.toArray[j]! = l.getD j 0 by rw [List.getD_eq_getElem?_getD, List.getElem?_eq_getElem hj']; simp [hj']]
    rwa [Nat.zero_add]
  have hcon := AnyE.slices_DeleteFunc lays14 (Value.int .i64) (fun _ => rfl) (fun x => decide (k < x)) 36 #[.pointer (some ⟨ba, 0, none⟩)] eg 0 Try.zeroValue3 g 0 c l.toArray W
    (fun W' x hb => clo_gives k x ba W' ((hb.cell (p := ⟨ba, 0, none⟩) hl).trans hcell))
    (fun n os dk x _ => clo_gives k x ba _ (by
      unfold sortWorld
      rw [cell?_grow _ _ _ (by show ba < (putRow _ _ _ _ _).heap.size; rw [size_putRow]; exact hl), cell?_putRow_other _ _ g 0 _ _ (Or.inl hne)]
      exact hcell)) hH' (by simpa using hm) (by simpa using hc)
  change Calls Try.prog 35 _ _ _ at hcon
  have hsz : l.toArray.size = l.length := by simp
  rw [hsz] at hcon
  refine hcon.mono ?_
  rintro e w' ⟨rfl, q, rfl⟩
  have hfl : (l.filter fun x => !decide (k < x)).length ≤ l.length := List.length_filter_le _ _
  rw [show l.toArray.toList = l from by simp]
  generalize hr : (l.filter fun x => !decide (k < x)) = r at *
  have hsz2 : ((r ++ List.replicate (l.length - r.length) 0).toArray).size = l.toArray.size := by simp; omega
  have hh := holds_putRow (Value.int .i64) (Sort.ahead W q) g 0 l.toArray (r ++ List.replicate (l.length - r.length) 0).toArray (fun j hj => hH' j hj) hsz2
  refine ⟨rfl, fun W' hW => ?_, ⟨rfl, rfl, rfl, by simp [Sort.ahead], fun j hj hn => ?_⟩⟩
  · refine Kd.C_of_reads (d := (0 : Int)) ⟨rfl, by omega, fun hn => ⟨_, rfl, fun j hj => ?_⟩⟩
    have h1 := (hh j (by rw [hsz2]; simp; omega)).1
    rw [getElem!_pos _ j (by rw [hsz2]; simp; omega)] at h1
    have h2 : (r ++ List.replicate (l.length - r.length) (0 : Int)).toArray[j]'(by rw [hsz2]; simp; omega) = r.getD j 0 := by
      rw [List.getD_eq_getElem?_getD, List.getElem?_eq_getElem hj]
      simp [List.getElem_append_left hj]
    rw [h2] at h1
    rw [← h1]
    have hlt : g < (putRow (Value.int .i64) (Sort.ahead W q) g 0 (r ++ List.replicate (l.length - r.length) 0).toArray).heap.size := World.block_lt_of_cell? _ _ h1
    have := cell_same (a := ⟨g, j, none⟩) (hW g rfl hlt)
    rw [show (⟨g, 0, none⟩ : Addr).add j = ⟨g, j, none⟩ from add_plain g j]
    simpa using this
  · show (Array.modify _ _ _)[j]? = _
    rw [Array.getElem?_modify, if_neg (fun e => hn e.symm)]
    rfl
end Go.Proofs.Ytdbbibndjknafaa.Print
