/-
  A list of operations, a region that draws its order: walked as anywhere, within a round of a range over a function.
-/
import Derived.Test.YtnoobifdaldfiaaStableR
import Derived.RangeFuncNested
import Derived.RangeFuncBound
import Derived.RangeFuncCalls
import Derived.RangeFuncLeaves
import Derived.Shelf.Abstract
import Derived.Shelf.RegionOpen
import Derived.WalkKit
import Derived.OwnWalkIn
import Derived.TacticsInMore
import Derived.LoopNIn
import Derived.LoopIn
namespace Go.Proofs.Ytnoobifdaldfiaa.Fr
open Go.RowKit
set_option maxRecDepth 100000

section
variable {P : Program} {ops : Array Oper} {Q : Exit → Act → World → Prop} {l n : Nat}
def noDefer (o : Oper) : Bool := match o.op with | .defer _ => false | _ => true
theorem opIn_of {o : Oper} {a : Act} {w : World} {K K' : Act → World → Prop} (hd : noDefer o = true) (hK : ∀ a w, K a w → K' a w) (h : o.wp P a w K Q) : o.wpIn (Fence.wide.inRound l) n P a w K' Q := by
  refine ⟨fun _ _ => trivial, ?_⟩
  have hs : o.semAt (Fence.wide.inRound l).round a.eval = execOp a.eval o := Oper.semAt_eq _ _ _ (fun c hc => by unfold noDefer at hd; rw [hc] at hd; cases hd)
  rw [hs]
  unfold Oper.wp at h
  generalize (execOp a.eval o).run P w = r at h ⊢
  cases r with
  | ok x w' =>
    cases x with
    | value v => exact hK _ _ h
    | skip => exact hK _ _ h
    | «defer» d => exact hK _ _ h
    | enter f args =>
      refine ⟨fun hh => (by cases hh), CallsIn.inRound l (callsIn_wide.2 (Calls.mono h ?_))⟩
      intro e w'' he
      cases e <;> first | exact hK _ _ he | exact he
    | row row args =>
      refine ⟨fun hh => (by cases hh), fun c cs _ => ?_⟩
      obtain ⟨v, w2, r, s⟩ := h c cs
      exact ⟨v, w2, hK _ _ r, stepsIn_wide.2 s⟩
    | _ => exact h.elim
  | halt x w' => cases x <;> exact h
theorem listIn_of (hq : ¬ LetsOut Q) : ∀ (rest : List Oper) (a : Act) (w : World), rest.all noDefer = true → wpList P ops Q rest a w → wpListIn (Fence.wide.inRound l) n P ops Q rest a w := by
  intro rest
  induction rest with
  | nil => intro a w _ h; exact h
  | cons o rest ih =>
    intro a w hd h
    simp only [List.all_cons, Bool.and_eq_true] at hd
    unfold wpList at h
    unfold wpListIn
    split at h
    · rename_i hw
      rw [if_pos hw]
      rcases h with h | ⟨_, h⟩
      · exact opIn_of hd.1 (fun a w h => ih a w hd.2 h) h
      · exact absurd h hq
    · rename_i hw
      rw [if_neg hw]
      exact ⟨fun _ _ => trivial, ih _ _ hd.2 h⟩
theorem anyIn_of (hq : ¬ LetsOut Q) (hd : ops.all noDefer = true) : ∀ (fuel : Nat) (listed : Array Bool) (a : Act) (w : World), wpAny P .any ops Q fuel listed a w → wpAnyIn (Fence.wide.inRound l) n P .any ops Q fuel listed a w := by
  intro fuel
  induction fuel with
  | zero => intro listed a w h; exact h
  | succ fuel ih =>
    intro listed a w h
    refine ⟨h.1, fun i hi => ?_⟩
    have h' := h.2 i hi
    unfold wpOp at h'
    unfold wpOpIn
    cases ho : ops[i]? with
    | none =>
      rw [ho] at h'
      exact ih _ _ _ h'
    | some o =>
      rw [ho] at h'
      simp only at h' ⊢
      have hdo : noDefer o = true := by
        rw [Array.all_eq_true] at hd
        obtain ⟨hlt, he⟩ := Array.getElem?_eq_some_iff.1 ho
        rw [← he]
        exact hd i hlt
      split at h'
      · rename_i hw
        rw [if_pos hw]
        rcases h' with h' | ⟨_, h'⟩
        · exact opIn_of hdo (fun a w h => ih _ a w h) h'
        · exact absurd h' hq
      · rename_i hw
        rw [if_neg hw]
        exact ⟨fun _ _ => trivial, ih _ _ _ h'⟩
theorem regionIn_list {id : Nat} {r : List Oper} {a : Act} {w : World} (hq : ¬ LetsOut Q) (hd : r.all noDefer = true) (h : wpList P r.toArray Q r a w) : (Code.region id r.toArray false).wpIn (Fence.wide.inRound l) n P Q a w :=
  wpIn_region_lit (listIn_of hq r a w hd h)
theorem regionIn_any {id : Nat} {a : Act} {w : World} (hm : P.follows .mixedOrders = true) (hq : ¬ LetsOut Q) (hd : ops.all noDefer = true) (h : wpAny P .any ops Q ops.size (Array.replicate ops.size false) a w.drew) : (Code.region id ops true).wpIn (Fence.wide.inRound l) n P Q a w :=
  wpIn_region_any hm (anyIn_of hq hd _ _ _ _ h)
theorem wpIn_region_stepsR {k : Keep} {id : Nat} {r : List Oper} {a0 : Act} {w : World} (hq : ¬ LetsOut Q) (hd : r.toArray.all noDefer = true) (hm : P.follows .mixedOrders = true) (T : Nat) (φ : Nat → StR k) (ds : List Nat) (hok : regionOkR r.toArray T a0.tmps.size = true)
    (hds : (List.range T).map (dstOf r.toArray) = ds)
    (hstep : AllSteps (StepOkGR P r.toArray Q φ T a0 w.drew) 0 (r.take T))
    (hfin : ∀ (f : Nat → Value) (W : World), k.R w.drew W → (∀ i, i < T → (φ i).p (f i) W) →
      wpAny P .any r.toArray Q (r.length - T) ((List.range r.length).map (fun i => decide (i < T))).toArray ⟨putAll f 0 ds a0.tmps, a0.defers⟩ W) :
    (Code.region id r.toArray true).wpIn (Fence.wide.inRound l) n P Q a0 w :=
  regionIn_any hm hq hd (wpAny_stepsR T φ ds hok hds hstep hfin)
end
end Go.Proofs.Ytnoobifdaldfiaa.Fr
