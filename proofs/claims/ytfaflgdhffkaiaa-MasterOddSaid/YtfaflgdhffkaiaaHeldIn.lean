/- A region that draws, inside a round of a range over a function under the wide fence, walked by the unfenced held walk (go_region_held3's own). -/
import Derived.Deep.RegionHeld3
import Derived.OrdersIn
import Derived.TacticsIn
import Derived.RangeFuncCalls
namespace Go.Proofs.Ytfaflgdhffkaiaa.HeldIn
open Go
section
variable {ro : Option Nat} {n : Nat} {P : Program} {ops : Array Oper} {Q : Exit → Act → World → Prop} {md : Region.Mode}
/-- The wide fence, in whatever round. -/
def wideIn (ro : Option Nat) : Fence := { Fence.wide with round := ro }
def OnlyN (Q : Exit → Act → World → Prop) : Exit → Act → World → Prop
  | .normal, a, w => Q .normal a w
  | _, _, _ => False
theorem OnlyN.imp : ∀ (e : Exit) (a : Act) (w : World), OnlyN Q e a w → Q e a w := fun e a w h => by
  cases e <;> first | exact h | exact (h : False).elim
theorem OnlyN.lets : ¬ LetsOut (OnlyN Q) := fun ⟨_, _, h⟩ => h
theorem callsIn_of {f : FuncId} {args : Array Value} {w : World} {R : Ending → World → Prop} (h : CallsIn Fence.wide n P f args w R) : CallsIn (wideIn ro) n P f args w R := h
theorem wpIn_of_wp {o : Oper} {a : Act} {w : World} {K : Act → World → Prop} (hd : ∀ c, o.op ≠ .defer c) (h : o.wp P a w K Q) : o.wpIn (wideIn ro) n P a w K Q := by
  refine ⟨fun _ _ => trivial, ?_⟩
  rw [Oper.semAt_eq _ _ _ hd]
  unfold Oper.wp at h
  generalize (execOp a.eval o).run P w = r at *
  cases r with
  | ok x w' =>
    cases x <;> simp only [Oper.upon, Oper.uponIn] at h ⊢ <;>
      first
        | exact h
        | exact ⟨fun e => by simp [wideIn, Fence.wide] at e, callsIn_of (CallsIn.mono (callsIn_wide.2 h) (fun e w'' he => by cases e <;> exact he))⟩
        | exact ⟨fun e => by simp [wideIn, Fence.wide] at e, fun c cs _ => let ⟨v, w', r, s⟩ := h c cs; ⟨v, w', r, stepsIn_wide.2 s⟩⟩
  | halt x w' => cases x <;> simp only [Oper.upon, Oper.uponIn] at h ⊢ <;> exact h
theorem wpOpIn_of_wpOp {i : Nat} {a : Act} {w : World} {K : Act → World → Prop} (hd : ∀ o ∈ ops.toList, ∀ c, o.op ≠ .defer c) (h : wpOp P ops (OnlyN Q) i K a w) : wpOpIn (wideIn ro) n P ops (OnlyN Q) i K a w := by
  unfold wpOp at h
  unfold wpOpIn
  split
  · rename_i ho
    simpa [ho] using h
  · rename_i o ho
    simp only [ho] at h
    split
    · rename_i hw
      simp only [hw, if_true] at h
      rcases h with h | ⟨_, h⟩
      · exact wpIn_of_wp (hd o (by have := Array.getElem?_eq_some_iff.1 ho; obtain ⟨hl, e⟩ := this; rw [← e]; simp)) h
      · exact absurd h OnlyN.lets
    · rename_i hw
      simp only [hw] at h
      exact ⟨fun _ _ => trivial, h⟩
theorem wpAnyIn_of_wpAny (hd : ∀ o ∈ ops.toList, ∀ c, o.op ≠ .defer c) : ∀ (fuel : Nat) (listed : Array Bool) (a : Act) (w : World), wpAny P md ops (OnlyN Q) fuel listed a w → wpAnyIn (wideIn ro) n P md ops (OnlyN Q) fuel listed a w
  | 0, _, _, _, h => h
  | fuel + 1, _, _, _, h => ⟨h.1, fun i hi => wpOpIn_mono (fun a' w' h' => wpAnyIn_of_wpAny hd fuel _ a' w' h') (wpOpIn_of_wpOp hd (h.2 i hi))⟩
def noDefer : Oper → Bool := fun o => match o.op with | .defer _ => false | _ => true
theorem wpIn_held {id : Nat} {a : Act} {w : World} {L : List Oper} {S : World → Prop} (hm : P.follows .mixedOrders = true) (hd : L.all noDefer = true) (hS : S w.drew)
    (h : S w.drew → wpAnyH P .any L.toArray (OnlyN Q) S L.toArray.size (Array.replicate L.toArray.size false) a w.drew) : (Code.region id L.toArray true).wpIn (wideIn ro) n P Q a w :=
  Code.wpIn_mono OnlyN.imp (wpIn_region_any hm (wpAnyIn_of_wpAny (fun o ho c e => by
    have := List.all_eq_true.1 hd o (by simpa using ho)
    simp [noDefer, e] at this) _ _ _ _ (wpAny_of_held _ _ _ _ (h hS))))
theorem wpIn_held_round {l : Nat} {id : Nat} {a : Act} {w : World} {L : List Oper} {S : World → Prop} (hm : P.follows .mixedOrders = true) (hd : L.all noDefer = true) (hS : S w.drew)
    (h : S w.drew → wpAnyH P .any L.toArray (OnlyN Q) S L.toArray.size (Array.replicate L.toArray.size false) a w.drew) : (Code.region id L.toArray true).wpIn (Fence.wide.inRound l) n P Q a w := wpIn_held (ro := some l) hm hd hS h
theorem wpIn_held_plain {id : Nat} {a : Act} {w : World} {L : List Oper} {S : World → Prop} (hm : P.follows .mixedOrders = true) (hd : L.all noDefer = true) (hS : S w.drew)
    (h : S w.drew → wpAnyH P .any L.toArray (OnlyN Q) S L.toArray.size (Array.replicate L.toArray.size false) a w.drew) : (Code.region id L.toArray true).wpIn Fence.wide n P Q a w := wpIn_held (ro := none) hm hd hS h
end
end Go.Proofs.Ytfaflgdhffkaiaa.HeldIn
