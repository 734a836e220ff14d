/-
  A region that draws its order, each operation looked at once: what an operation yields is said by a word that stays true along a relation of one's own between worlds ('Keep'), so that an operation may write, too.
  An edge that binds in no order that is walked may point forward. Every later operation stands behind the first T ones, if only through others.
-/
import Derived.Test.YtnoobifdaldfiaaStableG
namespace Go.Proofs.Ytnoobifdaldfiaa
open Go.RowKit
set_option maxRecDepth 100000

structure Keep where
  R : World → World → Prop
  refl : ∀ W, R W W
  trans : ∀ {a b c : World}, R a b → R b c → R a c
def Keep.kp : Keep := ⟨Kp, Kp.refl, Kp.trans⟩
/-- a word on a value, true on along the relation -/
structure StR (k : Keep) where
  p : Value → World → Prop
  st : ∀ v W W', p v W → k.R W W' → p v W'
def StR.val {k : Keep} (x : Value) : StR k := ⟨fun v _ => v = x, fun _ _ _ h _ => h⟩
def StR.any {k : Keep} : StR k := ⟨fun _ _ => True, fun _ _ _ h _ => h⟩

/-- operation i stands behind operation j -/
def belowOp (ops : Array Oper) : Nat → Nat → Nat → Bool
  | 0, _, _ => false
  | f + 1, i, j => (ops[i]?).any fun o => (o.after.any fun e => Region.binds .any e && decide (e.on = j)) || (o.after.any fun e => Region.binds .any e && belowOp ops f e.on j)
theorem belowOp_listed (ops : Array Oper) (listed : Array Bool) (hcl : ∀ i o, ops[i]? = some o → listed.getD i false = true → ∀ e ∈ o.after, Region.binds .any e = true → listed.getD e.on false = true) :
    ∀ (f i j : Nat) (o : Oper), ops[i]? = some o → (∀ e ∈ o.after, Region.binds .any e = true → listed.getD e.on false = true) → belowOp ops f i j = true → listed.getD j false = true := by
  intro f
  induction f with
  | zero => intro i j o _ _ h; cases h
  | succ f ih =>
    intro i j o ho hd h
    unfold belowOp at h
    rw [ho] at h
    simp only [Option.any_some, Bool.or_eq_true] at h
    rcases h with h | h
    · rw [Array.any_eq_true] at h
      obtain ⟨k, hk, hb⟩ := h
      simp only [Bool.and_eq_true, decide_eq_true_eq] at hb
      rw [← hb.2]
      exact hd _ (Array.getElem_mem hk) hb.1
    · rw [Array.any_eq_true] at h
      obtain ⟨k, hk, hb⟩ := h
      simp only [Bool.and_eq_true] at hb
      have hl := hd _ (Array.getElem_mem hk) hb.1
      cases ho2 : ops[(o.after[k]).on]? with
      | none =>
        cases f with
        | zero => simp [belowOp] at hb
        | succ f => unfold belowOp at hb; rw [ho2] at hb; simp at hb
      | some o2 => exact ih _ j o2 ho2 (hcl _ _ ho2 hl) hb.2

section
variable {P : Program} {ops : Array Oper} {Q : Exit → Act → World → Prop} {k : Keep}

/-- the first T operations: a slot each, no slot twice, a guard stands behind its guarding operation; every later one stands behind all of them -/
def regionOkR (ops : Array Oper) (T size : Nat) : Bool :=
  decide (T ≤ ops.size) &&
  (List.range T).all (fun i => (ops[i]?).any fun o => (o.guard.all fun g => o.after.any fun e => Region.binds .any e && decide (e.on = g.1)) && o.dst.isSome && decide (dstOf ops i < size) && (List.range T).all fun j => decide (j = i) || decide (dstOf ops j ≠ dstOf ops i)) &&
  (List.range ops.size).all (fun i => (ops[i]?).any fun o => o.after.all fun e => !Region.binds .any e || decide (e.on < i)) &&
  (List.range ops.size).all (fun i => decide (i < T) || (List.range T).all fun j => belowOp ops ops.size i j)

/-- one operation, over whatever the others may have left -/
def StepOkR (P : Program) (ops : Array Oper) (Q : Exit → Act → World → Prop) (φ : Nat → StR k) (T : Nat) (a0 : Act) (w0 : World) (i : Nat) (o : Oper) : Prop :=
  ∀ (a : Act) (W : World), k.R w0 W → (∀ s, ((List.range T).all fun j => decide (dstOf ops j ≠ s)) = true → a.tmps.getD s undef = a0.tmps.getD s undef) →
    (∀ e ∈ o.after, Region.binds .any e = true → (φ e.on).p (a.tmps.getD (dstOf ops e.on) undef) W) →
    ∀ K : Act → World → Prop, (∀ v W', k.R W W' → (φ i).p v W' → K (a.put o.dst v) W') → o.wp P a W K Q
/-- one operation, guarded or not -/
def StepOkGR (P : Program) (ops : Array Oper) (Q : Exit → Act → World → Prop) (φ : Nat → StR k) (T : Nat) (a0 : Act) (w0 : World) (i : Nat) (o : Oper) : Prop :=
  (o.guard = none ∧ StepOkR P ops Q φ T a0 w0 i o) ∨
  (∃ g b, o.guard = some (g, b) ∧ (∀ x W, (φ g).p x W → x = .bool b) ∧ StepOkR P ops Q φ T a0 w0 i o) ∨
  (∃ g b, o.guard = some (g, b) ∧ (∀ x W, (φ g).p x W → x = .bool (!b)) ∧ ∀ W, (φ i).p undef W)
theorem stepR_free {φ : Nat → StR k} {T i : Nat} {a0 : Act} {w0 : World} {o : Oper} (hg : o.guard = none) (h : StepOkR P ops Q φ T a0 w0 i o) : StepOkGR P ops Q φ T a0 w0 i o := .inl ⟨hg, h⟩
theorem stepR_on {φ : Nat → StR k} {T i : Nat} {a0 : Act} {w0 : World} {o : Oper} {g : Nat} {b : Bool} (hg : o.guard = some (g, b)) (hv : ∀ x W, (φ g).p x W → x = .bool b) (h : StepOkR P ops Q φ T a0 w0 i o) : StepOkGR P ops Q φ T a0 w0 i o := .inr (.inl ⟨g, b, hg, hv, h⟩)
theorem stepR_off {φ : Nat → StR k} {T i : Nat} {a0 : Act} {w0 : World} {o : Oper} {g : Nat} {b : Bool} (hg : o.guard = some (g, b)) (hv : ∀ x W, (φ g).p x W → x = .bool (!b)) (h : ∀ W, (φ i).p undef W) : StepOkGR P ops Q φ T a0 w0 i o := .inr (.inr ⟨g, b, hg, hv, h⟩)

theorem wpAny_stableR {a0 : Act} {w : World} (T : Nat) (φ : Nat → StR k) (hok : regionOkR ops T a0.tmps.size = true)
    (hstep : ∀ i o, i < T → ops[i]? = some o → StepOkGR P ops Q φ T a0 w.drew i o)
    (hfin : ∀ (f : Nat → Value) (W : World), k.R w.drew W → (∀ i, i < T → (φ i).p (f i) W) →
      wpAny P .any ops Q (ops.size - T) ((List.range ops.size).map (fun i => decide (i < T))).toArray ⟨slotsOf ops f (Array.replicate T true) T a0.tmps, a0.defers⟩ W) :
    wpAny P .any ops Q ops.size (Array.replicate ops.size false) a0 w.drew := by
  simp only [regionOkR, Bool.and_eq_true, List.all_eq_true, List.mem_range, decide_eq_true_eq] at hok
  obtain ⟨⟨⟨hT, h1⟩, h3⟩, h2⟩ := hok
  have hg : ∀ i, i < T → ∃ o, ops[i]? = some o ∧ (∀ g b, o.guard = some (g, b) → ∃ e ∈ o.after, Region.binds .any e = true ∧ e.on = g) ∧ o.dst = some (dstOf ops i) ∧ dstOf ops i < a0.tmps.size ∧ ∀ j, j < T → j ≠ i → dstOf ops j ≠ dstOf ops i := by
    intro i hi
    have h := h1 i hi
    cases ho : ops[i]? with
    | none => rw [ho] at h; simp at h
    | some o =>
      rw [ho] at h
      simp only [Option.any_some, Bool.and_eq_true, List.all_eq_true, List.mem_range, Bool.or_eq_true, decide_eq_true_eq] at h
      obtain ⟨⟨⟨hg, hd⟩, hlt⟩, hne⟩ := h
      refine ⟨o, rfl, fun g b hgb => ?_, ?_, hlt, fun j hj hji => ?_⟩
      · rw [hgb] at hg
        simp only [Option.all_some] at hg
        rw [Array.any_eq_true] at hg
        obtain ⟨kk, hk, hb⟩ := hg
        simp only [Bool.and_eq_true, decide_eq_true_eq] at hb
        exact ⟨_, Array.getElem_mem hk, hb.1, hb.2⟩
      · obtain ⟨d, hd⟩ := Option.isSome_iff_exists.1 hd
        simp [dstOf, ho, hd]
      · rcases hne j hj with h | h
        · exact absurd h hji
        · exact h
  have hbefore : ∀ (i : Nat) (o : Oper), ops[i]? = some o → ∀ e ∈ o.after, Region.binds .any e = true → e.on < i := by
    intro i o ho e he hbd
    have hi : i < ops.size := (Array.getElem?_eq_some_iff.1 ho).1
    have h := h3 i hi
    rw [ho] at h
    simp only [Option.any_some, Array.all_eq_true] at h
    obtain ⟨kk, hk, rfl⟩ := Array.mem_iff_getElem.1 he
    have h' := h kk hk
    simp only [Bool.or_eq_true, Bool.not_eq_true', decide_eq_true_eq] at h'
    rcases h' with h' | h'
    · rw [hbd] at h'; cases h'
    · exact h'
  have htailE : ∀ (i : Nat) (o : Oper), T ≤ i → ops[i]? = some o → ∀ j, j < T → belowOp ops ops.size i j = true := by
    intro i o hi ho j hj
    have h := h2 i (Array.getElem?_eq_some_iff.1 ho).1
    simp only [Bool.or_eq_true, decide_eq_true_eq, List.all_eq_true, List.mem_range] at h
    rcases h with h | h
    · omega
    · exact h j hj
  have gd : ∀ (l : Array Bool) (i : Nat), l.size = ops.size → i < ops.size → l.getD i true = l.getD i false := by
    intro l i hl hi
    simp [Array.getD_eq_getD_getElem?, Array.getElem?_eq_getElem (show i < l.size by omega)]
  have gset : ∀ (l : Array Bool) (i j : Nat), l.size = ops.size → i < ops.size → (l.setIfInBounds i true).getD j false = if j = i then true else l.getD j false := by
    intro l i j hl hi
    simp only [Array.getD_eq_getD_getElem?, Array.getElem?_setIfInBounds]
    by_cases h : i = j
    · subst h; simp [show i < l.size by omega]
    · simp [h, Ne.symm h]
  -- the walk over whatever order
  have main : ∀ (left : Nat) (listed : Array Bool) (f : Nat → Value) (W : World), listed.size = ops.size → left = ((List.range T).filter fun i => !listed.getD i false).length →
      (∀ i, T ≤ i → i < ops.size → listed.getD i false = false) → (∀ i o, ops[i]? = some o → listed.getD i false = true → ∀ e ∈ o.after, Region.binds .any e = true → listed.getD e.on false = true) → k.R w.drew W → (∀ i, i < T → listed.getD i false = true → (φ i).p (f i) W) →
      wpAny P .any ops Q (ops.size - T + left) listed ⟨slotsOf ops f listed T a0.tmps, a0.defers⟩ W := by
    intro left
    induction left with
    | zero =>
      intro listed f W hs hf htail hcl hk hφ
      have hall : ∀ i, i < T → listed.getD i false = true := by
        intro i hi
        have : (List.range T).filter (fun i => !listed.getD i false) = [] := List.eq_nil_of_length_eq_zero hf.symm
        rw [List.filter_eq_nil_iff] at this
        simpa using this i (List.mem_range.2 hi)
      have e1 : listed = ((List.range ops.size).map (fun i => decide (i < T))).toArray := by
        apply Array.ext
        · simp [hs]
        · intro i hi1 hi2
          have hi : i < ops.size := by omega
          have hv : listed.getD i false = listed[i] := by simp [Array.getD_eq_getD_getElem?, Array.getElem?_eq_getElem hi1]
          rw [← hv]
          by_cases hiT : i < T
          · rw [hall i hiT]; simp [hiT]
          · rw [htail i (by omega) hi]; simp [hiT]
      have e2 : slotsOf ops f listed T a0.tmps = slotsOf ops f (Array.replicate T true) T a0.tmps := by
        unfold slotsOf
        have hc : ∀ j ∈ List.range T, listed.getD j false = true ∧ (Array.replicate T true).getD j false = true := fun j hj => by
          have hjT := List.mem_range.1 hj
          exact ⟨hall j hjT, by simp [Array.getD_eq_getD_getElem?, hjT]⟩
        generalize a0.tmps = t
        revert hc
        generalize List.range T = l
        intro hc
        induction l generalizing t with
        | nil => rfl
        | cons j l ih =>
          obtain ⟨c1, c2⟩ := hc j (List.mem_cons_self ..)
          rw [List.foldl_cons, List.foldl_cons, if_pos c1, if_pos c2]
          exact ih _ fun kk hk => hc kk (List.mem_cons_of_mem _ hk)
      rw [e2, e1]
      exact hfin f W hk fun i hi => hφ i hi (hall i hi)
    | succ left ih =>
      intro listed f W hs hf htail hcl hk hφ
      have hsome : ∃ i, i < T ∧ listed.getD i false = false := by
        have : (List.range T).filter (fun i => !listed.getD i false) ≠ [] := by intro h; rw [h] at hf; cases hf
        obtain ⟨i, hi⟩ := List.exists_mem_of_ne_nil _ this
        rw [List.mem_filter] at hi
        exact ⟨i, List.mem_range.1 hi.1, by simpa using hi.2⟩
      have hleast : ∃ i, i < T ∧ listed.getD i false = false ∧ ∀ j, j < i → listed.getD j false = true := by
        obtain ⟨i, hi⟩ := hsome
        induction i using Nat.strongRecOn with
        | ind i ihi =>
          by_cases hex : ∃ j, j < i ∧ listed.getD j false = false
          · obtain ⟨j, hj, hlj⟩ := hex
            exact ihi j hj ⟨by omega, hlj⟩
          · refine ⟨i, hi.1, hi.2, fun j hj => ?_⟩
            cases h : listed.getD j false with
            | true => rfl
            | false => exact absurd ⟨j, hj, h⟩ hex
      rw [show ops.size - T + (left + 1) = (ops.size - T + left) + 1 from rfl]
      refine ⟨fun hnone => ?_, fun i hi => ?_⟩
      · exfalso
        obtain ⟨i, hiT, hil, hlt⟩ := hleast
        obtain ⟨o, ho, _⟩ := hg i hiT
        have : i ∈ Region.ready .any ops listed := by
          simp only [Region.ready, List.mem_filter, List.mem_range]
          refine ⟨by omega, ?_⟩
          rw [gd listed i hs (by omega), hil, ho]
          simp only [Bool.not_false, Option.map_some, Option.getD_some, Bool.true_and, Array.all_eq_true]
          intro kk hk'
          cases hbd : Region.binds .any (o.after[kk]) with
          | false => rfl
          | true =>
            have := hbefore i o ho _ (Array.getElem_mem hk') hbd
            rw [hlt _ this]
            rfl
        rw [hnone] at this
        cases this
      · simp only [Region.ready, List.mem_filter, List.mem_range, Bool.and_eq_true, Bool.not_eq_true'] at hi
        obtain ⟨hin, hil, hedges⟩ := hi
        rw [gd listed i hs hin] at hil
        obtain ⟨o, ho⟩ : ∃ o, ops[i]? = some o := ⟨_, Array.getElem?_eq_getElem hin⟩
        rw [ho] at hedges
        simp only [Option.map_some, Option.getD_some, Array.all_eq_true] at hedges
        have hed : ∀ e ∈ o.after, Region.binds .any e = true → listed.getD e.on false = true := by
          intro e he hb
          obtain ⟨kk, hk', rfl⟩ := Array.mem_iff_getElem.1 he
          have := hedges kk hk'
          rw [hb] at this
          simpa using this
        have hiT : i < T := by
          rcases Nat.lt_or_ge i T with h | h
          · exact h
          · exfalso
            obtain ⟨j, hjT, hjl⟩ := hsome
            rw [belowOp_listed ops listed hcl ops.size i j o ho hed (htailE i o h ho j hjT)] at hjl
            cases hjl
        obtain ⟨o', ho', hguard, hdst, hlt, hne⟩ := hg i hiT
        rw [ho] at ho'
        injection ho' with ho'
        subst ho'
        unfold wpOp
        rw [ho]
        simp only
        have cont : ∀ v W', k.R W W' → (φ i).p v W' → wpAny P .any ops Q (ops.size - T + left) (listed.setIfInBounds i true) ((⟨slotsOf ops f listed T a0.tmps, a0.defers⟩ : Act).put o.dst v) W' := by
          intro v W' hkW hv
          have e3 : ((⟨slotsOf ops f listed T a0.tmps, a0.defers⟩ : Act).put o.dst v) = ⟨slotsOf ops (fun j => if j = i then v else f j) (listed.setIfInBounds i true) T a0.tmps, a0.defers⟩ := by
            rw [hdst]
            simp only [Act.put]
            rw [slotsOf_put _ _ _ _ i v hiT (by omega) hlt hne]
          rw [e3]
          refine ih _ _ W' (by simpa using hs) ?_ ?_ ?_ (k.trans hk hkW) ?_
          · have hcount : ∀ (l : List Nat), l.Nodup → i ∈ l → (l.filter fun j => !listed.getD j false).length = (l.filter fun j => !(listed.setIfInBounds i true).getD j false).length + 1 := by
              intro l
              induction l with
              | nil => intro _ h; cases h
              | cons j l ihl =>
                intro hnd hmem
                rw [List.nodup_cons] at hnd
                by_cases hji : j = i
                · subst hji
                  have e5 : (l.filter fun kk => !(listed.setIfInBounds j true).getD kk false) = (l.filter fun kk => !listed.getD kk false) := by
                    apply List.filter_congr
                    intro kk hk'
                    rw [gset listed j kk hs hin, if_neg (by rintro rfl; exact hnd.1 hk')]
                  rw [List.filter_cons, List.filter_cons, gset listed j j hs hin, if_pos rfl, hil, e5]
                  simp
                · have hm' : i ∈ l := by
                    rcases List.mem_cons.1 hmem with h | h
                    · exact absurd h.symm hji
                    · exact h
                  have := ihl hnd.2 hm'
                  rw [List.filter_cons, List.filter_cons, gset listed i j hs hin, if_neg hji]
                  cases listed.getD j false
                  · simp only [Bool.not_false, ↓reduceIte, List.length_cons]; omega
                  · simp only [Bool.not_true, Bool.false_eq_true, ↓reduceIte]; omega
            have := hcount (List.range T) List.nodup_range (List.mem_range.2 hiT)
            omega
          · intro j hj hjs
            rw [gset listed i j hs hin, if_neg (by omega)]
            exact htail j hj hjs
          · intro j oj hoj hlj e he hb
            rw [gset listed i _ hs hin]
            split
            · rfl
            · rw [gset listed i j hs hin] at hlj
              by_cases hji : j = i
              · subst hji
                rw [ho] at hoj
                injection hoj with hoj
                subst hoj
                exact hed e he hb
              · rw [if_neg hji] at hlj
                exact hcl j oj hoj hlj e he hb
          · intro j hj hlj
            rw [gset listed i j hs hin] at hlj
            by_cases hji : j = i
            · subst hji; simpa using hv
            · rw [if_neg hji] at hlj
              simp only [if_neg hji]
              exact (φ j).st _ _ _ (hφ j hj hlj) hkW
        have hfr : ∀ s, ((List.range T).all fun j => decide (dstOf ops j ≠ s)) = true → (slotsOf ops f listed T a0.tmps).getD s undef = a0.tmps.getD s undef := by
          intro s hsall
          simp only [List.all_eq_true, List.mem_range, decide_eq_true_eq] at hsall
          simp only [Array.getD_eq_getD_getElem?]
          rw [slotsOf_other _ _ _ _ s fun j hj _ => hsall j hj]
        have hop : ∀ e ∈ o.after, Region.binds .any e = true → (φ e.on).p ((slotsOf ops f listed T a0.tmps).getD (dstOf ops e.on) undef) W := by
          intro e he hb
          have hle := hed e he hb
          have hlt' := hbefore i o ho e he hb
          obtain ⟨_, _, _, _, hd', hne'⟩ := hg e.on (by omega)
          simp only [Array.getD_eq_getD_getElem?]
          rw [slotsOf_at _ _ _ _ e.on (by omega) hle hd' hne']
          exact hφ e.on (by omega) hle
        have hyield : ∀ g b v, o.guard = some (g, b) → (∀ x W, (φ g).p x W → x = .bool v) → yielded ops (slotsOf ops f listed T a0.tmps) g = some v := by
          intro g b v hgb hv
          obtain ⟨e, he, hb, rfl⟩ := hguard g b hgb
          have hle := hed e he hb
          have hlt' := hbefore i o ho e he hb
          obtain ⟨og, hog, _, hdg, hd', hne'⟩ := hg e.on (by omega)
          unfold yielded
          rw [hog]
          simp only [Option.bind_some, hdg]
          rw [slotsOf_at _ _ _ _ e.on (by omega) hle hd' hne', hv _ _ (hφ e.on (by omega) hle)]
        rcases hstep i o hiT ho with ⟨hgn, hst⟩ | ⟨g, b, hgb, hv, hst⟩ | ⟨g, b, hgb, hv, hun⟩
        · rw [if_pos (by simp [Region.wanted, hgn])]
          exact .inl (hst ⟨slotsOf ops f listed T a0.tmps, a0.defers⟩ W hk hfr hop _ cont)
        · rw [if_pos (by simp [Region.wanted, hgb, hyield g b b hgb hv])]
          exact .inl (hst ⟨slotsOf ops f listed T a0.tmps, a0.defers⟩ W hk hfr hop _ cont)
        · rw [if_neg (by simp [Region.wanted, hgb, hyield g b (!b) hgb hv])]
          exact cont undef W (k.refl _) (hun W)
  have h0 := main ((List.range T).filter fun i => !(Array.replicate ops.size false).getD i false).length (Array.replicate ops.size false) (fun _ => undef) w.drew (by simp) rfl
    (fun i _ hi => by simp [Array.getD_eq_getD_getElem?, hi]) (fun i o ho h => by have hi := (Array.getElem?_eq_some_iff.1 ho).1; simp [Array.getD_eq_getD_getElem?, hi] at h) (k.refl _) (fun i hi h => by simp [Array.getD_eq_getD_getElem?, show i < ops.size by omega] at h)
  have e6 : slotsOf ops (fun _ => undef) (Array.replicate ops.size false) T a0.tmps = a0.tmps := by
    apply Array.ext_getElem?
    intro s
    exact slotsOf_other _ _ _ _ s fun j hj h => by simp [Array.getD_eq_getD_getElem?, show j < ops.size by omega] at h
  have e7 : ops.size - T + ((List.range T).filter fun i => !(Array.replicate ops.size false).getD i false).length = ops.size := by
    have : ((List.range T).filter fun i => !(Array.replicate ops.size false).getD i false) = List.range T := by
      rw [List.filter_eq_self]
      intro i hi
      have := List.mem_range.1 hi
      simp [Array.getD_eq_getD_getElem?, show i < ops.size by omega]
    rw [this, List.length_range]
    omega
  rw [e6, e7] at h0
  exact h0

theorem wp_region_stableR {id : Nat} {a0 : Act} {w : World} (hm : P.follows .mixedOrders = true) (T : Nat) (φ : Nat → StR k) (hok : regionOkR ops T a0.tmps.size = true)
    (hstep : ∀ i o, i < T → ops[i]? = some o → StepOkGR P ops Q φ T a0 w.drew i o)
    (hfin : ∀ (f : Nat → Value) (W : World), k.R w.drew W → (∀ i, i < T → (φ i).p (f i) W) →
      wpAny P .any ops Q (ops.size - T) ((List.range ops.size).map (fun i => decide (i < T))).toArray ⟨slotsOf ops f (Array.replicate T true) T a0.tmps, a0.defers⟩ W) :
    (Code.region id ops true).wp P Q a0 w := by
  exact wp_region_any hm (wpAny_stableR T φ hok hstep hfin)

theorem wp_region_stepsR {id : Nat} {l : List Oper} {a0 : Act} {w : World} {Q : Exit → Act → World → Prop} (hm : P.follows .mixedOrders = true) (T : Nat) (φ : Nat → StR k) (ds : List Nat) (hok : regionOkR l.toArray T a0.tmps.size = true)
    (hds : (List.range T).map (dstOf l.toArray) = ds)
    (hstep : AllSteps (StepOkGR P l.toArray Q φ T a0 w.drew) 0 (l.take T))
    (hfin : ∀ (f : Nat → Value) (W : World), k.R w.drew W → (∀ i, i < T → (φ i).p (f i) W) →
      wpAny P .any l.toArray Q (l.length - T) ((List.range l.length).map (fun i => decide (i < T))).toArray ⟨putAll f 0 ds a0.tmps, a0.defers⟩ W) :
    (Code.region id l.toArray true).wp P Q a0 w := by
  refine wp_region_stableR hm T φ hok (fun i o hi ho => ?_) (fun f W hk hφ => ?_)
  · have := hstep.get i o (by rw [List.getElem?_take, if_pos hi]; simpa using ho)
    rwa [Nat.zero_add] at this
  · rw [slotsOf_putAll f T a0.tmps ds hds]
    simpa using hfin f W hk hφ
theorem wpAny_stepsR {l : List Oper} {a0 : Act} {w : World} {Q : Exit → Act → World → Prop} (T : Nat) (φ : Nat → StR k) (ds : List Nat) (hok : regionOkR l.toArray T a0.tmps.size = true)
    (hds : (List.range T).map (dstOf l.toArray) = ds)
    (hstep : AllSteps (StepOkGR P l.toArray Q φ T a0 w.drew) 0 (l.take T))
    (hfin : ∀ (f : Nat → Value) (W : World), k.R w.drew W → (∀ i, i < T → (φ i).p (f i) W) →
      wpAny P .any l.toArray Q (l.length - T) ((List.range l.length).map (fun i => decide (i < T))).toArray ⟨putAll f 0 ds a0.tmps, a0.defers⟩ W) :
    wpAny P .any l.toArray Q l.toArray.size (Array.replicate l.toArray.size false) a0 w.drew := by
  refine wpAny_stableR T φ hok (fun i o hi ho => ?_) (fun f W hk hφ => ?_)
  · have := hstep.get i o (by rw [List.getElem?_take, if_pos hi]; simpa using ho)
    rwa [Nat.zero_add] at this
  · rw [slotsOf_putAll f T a0.tmps ds hds]
    simpa using hfin f W hk hφ
end
end Go.Proofs.Ytnoobifdaldfiaa
