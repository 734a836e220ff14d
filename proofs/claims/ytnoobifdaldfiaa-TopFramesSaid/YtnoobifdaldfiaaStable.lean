/-
  A region that draws its order, whose operations only read what was there and make new memory: each operation is looked at ONCE, over whatever world the others may have left.
  What an operation yields is said by a word that stays true while what was there stays as it was ('St'). No program in sight.
-/
import Derived.Test.YtnoobifdaldfiaaMem
import Derived.Test.YtnoobifdaldfiaaCut
import Derived.Lib.ConvBytes
import Derived.RegionTactic
namespace Go.Proofs.Ytnoobifdaldfiaa
open Go.RowKit
set_option maxRecDepth 100000

/-- a word on a value, true on in every later world -/
structure St where
  p : Value → World → Prop
  st : ∀ v W W', p v W → Kp W W' → p v W'

/-- this very value -/
def St.val (x : Value) : St := ⟨fun v _ => v = x, fun _ _ _ h _ => h⟩
/-- a slice of these bytes -/
def St.rd (n : Nat) (l : List UInt8) : St := ⟨fun v W => ∃ A c, v = .slice A n c ∧ Rd W 0 A n l, fun _ _ _ ⟨A, c, h1, h2⟩ k => ⟨A, c, h1, h2.keep k⟩⟩
/-- a slice of these bytes, not below block lo -/
def RdK (W : World) (lo n : Nat) (l : List UInt8) (v : Value) : Prop := ∃ A c, v = .slice A n c ∧ Rd W lo A n l ∧ SlOk A n c
theorem RdK.keep {W W' : World} {lo n : Nat} {l : List UInt8} {v : Value} (h : RdK W lo n l v) (k : Kp W W') : RdK W' lo n l v := by
  obtain ⟨A, c, h1, h2, h3⟩ := h; exact ⟨A, c, h1, h2.keep k, h3⟩
def St.rdk (lo n : Nat) (l : List UInt8) : St := ⟨fun v W => RdK W lo n l v, fun _ _ _ h k => h.keep k⟩
/-- what a function makes of such a slice -/
def St.withRd (lo n : Nat) (l : List UInt8) (g : Option Addr → Nat → Value) : St :=
  ⟨fun v W => ∃ A c, v = g A c ∧ Rd W lo A n l ∧ SlOk A n c, fun _ _ _ ⟨A, c, h1, h2, h3⟩ k => ⟨A, c, h1, h2.keep k, h3⟩⟩

/-- '[]byte(s)' -/
theorem kp_bytes (w : World) (e : TypeId) (s : ByteArray) : Kp w (Lib.bytesWorld w e s) :=
  ⟨rfl, rfl, rfl, by rw [Lib.bytesWorld_size]; omega, fun k hk => Lib.bytesWorld_at_old w e s k hk⟩
theorem rd_bytes (w : World) (e : TypeId) (l : List UInt8) (hl : l.length ≤ 1048576) : Rd (Lib.bytesWorld w e (str l)) w.heap.size (some ⟨w.heap.size, 0, none⟩) l.length l ∧ SlOk (some ⟨w.heap.size, 0, none⟩) l.length (grownCap w l.length 0 e) := by
  refine ⟨⟨by simp [bvs], fun _ => ⟨_, _, rfl, Nat.le_refl _, fun j u hu => ?_⟩⟩, SlOk.some_ (grownCap_ge _ _ _ _) (grownCap_le_maxLen _ _ _ _ (by unfold maxLen; omega))⟩
  have hj : j < l.length := by
    rcases Nat.lt_or_ge j l.length with h | h
    · exact h
    · rw [List.getElem?_eq_none (by simpa [bvs] using h)] at hu; cases hu
  rw [Nat.zero_add, Lib.bytesWorld_cell w e (str l) j (by rw [str_size]; exact hj), str_list]
  simp [bvs, List.getElem?_eq_getElem hj] at hu
  rw [← hu]
  simp [List.getD, List.getElem?_eq_getElem hj]
/-- nothing is said -/
def St.any : St := ⟨fun _ _ => True, fun _ _ _ h _ => h⟩

section
variable {P : Program} {ops : Array Oper} {Q : Exit → Act → World → Prop}

def dstOf (ops : Array Oper) (i : Nat) : Nat := (((ops[i]?).bind (·.dst)).getD 0)

/-- the first T operations: no guard, a slot each, no slot twice; every later one stands behind all of them -/
def regionOk (ops : Array Oper) (T size : Nat) : Bool :=
  decide (T ≤ ops.size) &&
  (List.range T).all (fun i => (ops[i]?).any fun o => o.guard.isNone && o.dst.isSome && decide (dstOf ops i < size) && (List.range T).all fun j => decide (j = i) || decide (dstOf ops j ≠ dstOf ops i)) &&
  (List.range ops.size).all (fun i => (ops[i]?).any fun o => o.after.all fun e => decide (e.on < i)) &&
  (List.range ops.size).all (fun i => decide (i < T) || (ops[i]?).any fun o => (List.range T).all fun j => o.after.any fun e => Region.binds .any e && decide (e.on = j))

/-- the frame when the operations in 'listed' have yielded 'f' -/
def slotsOf (ops : Array Oper) (f : Nat → Value) (listed : Array Bool) (T : Nat) (t0 : Array Value) : Array Value :=
  (List.range T).foldl (fun t i => if listed.getD i false then t.setIfInBounds (dstOf ops i) (f i) else t) t0

/-- one operation, over whatever the others may have left -/
def StepOk (P : Program) (ops : Array Oper) (Q : Exit → Act → World → Prop) (φ : Nat → St) (T : Nat) (a0 : Act) (w0 : World) (i : Nat) (o : Oper) : Prop :=
  ∀ (a : Act) (W : World), Kp w0 W → (∀ s, ((List.range T).all fun j => decide (dstOf ops j ≠ s)) = true → a.tmps.getD s undef = a0.tmps.getD s undef) →
    (∀ e ∈ o.after, Region.binds .any e = true → (φ e.on).p (a.tmps.getD (dstOf ops e.on) undef) W) →
    ∀ K : Act → World → Prop, (∀ v W', Kp W W' → (φ i).p v W' → K (a.put o.dst v) W') → o.wp P a W K Q

theorem getD_set (t : Array Value) (d s : Nat) (v : Value) (hd : d < t.size) : (t.setIfInBounds d v).getD s undef = if s = d then v else t.getD s undef := by
  simp only [Array.getD_eq_getD_getElem?, Array.getElem?_setIfInBounds]
  by_cases h : d = s
  · subst h; simp [hd]
  · simp [h, Ne.symm h]

theorem size_slotsOf (f : Nat → Value) (listed : Array Bool) (T : Nat) (t0 : Array Value) : (slotsOf ops f listed T t0).size = t0.size := by
  unfold slotsOf
  generalize List.range T = l
  induction l generalizing t0 with
  | nil => rfl
  | cons i l ih =>
    rw [List.foldl_cons, ih]
    split <;> simp

theorem slotsOf_other (f : Nat → Value) (listed : Array Bool) (T : Nat) (t0 : Array Value) (s : Nat) (h : ∀ j, j < T → listed.getD j false = true → dstOf ops j ≠ s) :
    (slotsOf ops f listed T t0)[s]? = t0[s]? := by
  unfold slotsOf
  have h' : ∀ j ∈ List.range T, listed.getD j false = true → dstOf ops j ≠ s := fun j hj => h j (List.mem_range.1 hj)
  revert h'
  generalize List.range T = l
  intro h'
  induction l generalizing t0 with
  | nil => rfl
  | cons i l ih =>
    rw [List.foldl_cons, ih _ fun j hj => h' j (List.mem_cons_of_mem _ hj)]
    split
    · rename_i hl
      rw [Array.getElem?_setIfInBounds_ne (h' i (List.mem_cons_self ..) hl)]
    · rfl

theorem slotsOf_at (f : Nat → Value) (listed : Array Bool) (T : Nat) (t0 : Array Value) (i : Nat) (hi : i < T) (hl : listed.getD i false = true) (hd : dstOf ops i < t0.size) (hne : ∀ j, j < T → j ≠ i → dstOf ops j ≠ dstOf ops i) :
    (slotsOf ops f listed T t0)[dstOf ops i]? = some (f i) := by
  have h1 : ∀ (l : List Nat) (t : Array Value), (∀ j ∈ l, j < T) → t.size = t0.size → (t[dstOf ops i]? = some (f i) ∨ i ∈ l) →
      (l.foldl (fun t i => if listed.getD i false then t.setIfInBounds (dstOf ops i) (f i) else t) t)[dstOf ops i]? = some (f i) := by
    intro l
    induction l with
    | nil => intro t _ _ h; rcases h with h | h; exact h; cases h
    | cons j l ih =>
      intro t hT hs h
      rw [List.foldl_cons]
      refine ih _ (fun k hk => hT k (List.mem_cons_of_mem _ hk)) (by split <;> simp [hs]) ?_
      by_cases hji : j = i
      · subst hji
        left
        rw [if_pos hl, Array.getElem?_setIfInBounds_self_of_lt (by omega)]
      · rcases h with h | h
        · left
          split
          · rw [Array.getElem?_setIfInBounds_ne (hne j (hT j (List.mem_cons_self ..)) hji)]; exact h
          · exact h
        · right
          rcases List.mem_cons.1 h with h | h
          · exact absurd h.symm hji
          · exact h
  exact h1 _ _ (fun j hj => List.mem_range.1 hj) rfl (.inr (List.mem_range.2 hi))

theorem slotsOf_put (f : Nat → Value) (listed : Array Bool) (T : Nat) (t0 : Array Value) (i : Nat) (v : Value) (hi : i < T) (hls : i < listed.size) (hd : dstOf ops i < t0.size) (hne : ∀ j, j < T → j ≠ i → dstOf ops j ≠ dstOf ops i) :
    (slotsOf ops f listed T t0).setIfInBounds (dstOf ops i) v = slotsOf ops (fun j => if j = i then v else f j) (listed.setIfInBounds i true) T t0 := by
  have hl : ∀ j, (listed.setIfInBounds i true).getD j false = if j = i then true else listed.getD j false := by
    intro j
    simp only [Array.getD_eq_getD_getElem?, Array.getElem?_setIfInBounds]
    by_cases h : i = j
    · subst h; simp [hls]
    · simp [h, Ne.symm h]
  apply Array.ext_getElem?
  intro s
  by_cases hs : dstOf ops i = s
  · subst hs
    rw [Array.getElem?_setIfInBounds_self_of_lt (by rw [size_slotsOf]; exact hd), slotsOf_at _ _ _ _ i hi (by rw [hl, if_pos rfl]) hd hne, if_pos rfl]
  · rw [Array.getElem?_setIfInBounds_ne hs]
    by_cases hex : ∃ j, j < T ∧ listed.getD j false = true ∧ dstOf ops j = s
    · have key : ∀ (l : List Nat) (t : Array Value), (l.foldl (fun t j => if listed.getD j false then t.setIfInBounds (dstOf ops j) (f j) else t) t)[s]? =
          (l.foldl (fun t j => if (listed.setIfInBounds i true).getD j false then t.setIfInBounds (dstOf ops j) (if j = i then v else f j) else t) t)[s]? := by
        have gen : ∀ (l : List Nat) (t t' : Array Value), t[s]? = t'[s]? → t.size = t'.size → (l.foldl (fun t j => if listed.getD j false then t.setIfInBounds (dstOf ops j) (f j) else t) t)[s]? =
          (l.foldl (fun t j => if (listed.setIfInBounds i true).getD j false then t.setIfInBounds (dstOf ops j) (if j = i then v else f j) else t) t')[s]? := by
          intro l
          induction l with
          | nil => intro t t' h _; exact h
          | cons j l ih =>
            intro t t' h hsz
            rw [List.foldl_cons, List.foldl_cons]
            refine ih _ _ ?_ ?_
            · by_cases hji : j = i
              · subst hji
                have hl' := hl j
                rw [if_pos rfl] at hl'
                rw [if_pos hl', if_pos rfl, Array.getElem?_setIfInBounds_ne hs]
                by_cases hx : listed.getD j false = true
                · rw [if_pos hx, Array.getElem?_setIfInBounds_ne hs]; exact h
                · rw [if_neg hx]; exact h
              · have hl' := hl j
                rw [if_neg hji] at hl'
                rw [hl', if_neg hji]
                by_cases hx : listed.getD j false = true
                · rw [if_pos hx, if_pos hx]
                  simp only [Array.getElem?_setIfInBounds, h, hsz]
                · rw [if_neg hx, if_neg hx]; exact h
            · (repeat' split) <;> simp [hsz]
        intro l t
        exact gen l t t rfl rfl
      exact key _ _
    · rw [slotsOf_other _ _ _ _ s (fun j hj hlj e => hex ⟨j, hj, hlj, e⟩), slotsOf_other _ _ _ _ s ?_]
      intro j hj hlj e
      rw [hl] at hlj
      by_cases hji : j = i
      · subst hji; exact hs e
      · rw [if_neg hji] at hlj; exact hex ⟨j, hj, hlj, e⟩

theorem wp_region_stable {id : Nat} {a0 : Act} {w : World} (hm : P.follows .mixedOrders = true) (T : Nat) (φ : Nat → St) (hok : regionOk ops T a0.tmps.size = true)
    (hstep : ∀ i o, i < T → ops[i]? = some o → StepOk P ops Q φ T a0 w.drew i o)
    (hfin : ∀ (f : Nat → Value) (W : World), Kp w.drew W → (∀ i, i < T → (φ i).p (f i) W) →
      wpAny P .any ops Q (ops.size - T) ((List.range ops.size).map (fun i => decide (i < T))).toArray ⟨slotsOf ops f (Array.replicate T true) T a0.tmps, a0.defers⟩ W) :
    (Code.region id ops true).wp P Q a0 w := by
  simp only [regionOk, Bool.and_eq_true, List.all_eq_true, List.mem_range, decide_eq_true_eq] at hok
  obtain ⟨⟨⟨hT, h1⟩, h3⟩, h2⟩ := hok
  have hg : ∀ i, i < T → ∃ o, ops[i]? = some o ∧ o.guard = none ∧ o.dst = some (dstOf ops i) ∧ dstOf ops i < a0.tmps.size ∧ ∀ j, j < T → j ≠ i → dstOf ops j ≠ dstOf ops i := by
    intro i hi
    have h := h1 i hi
    cases ho : ops[i]? with
    | none => rw [ho] at h; simp at h
    | some o =>
      rw [ho] at h
      simp only [Option.any_some, Bool.and_eq_true, Option.isNone_iff_eq_none, List.all_eq_true, List.mem_range, Bool.or_eq_true, decide_eq_true_eq] at h
      obtain ⟨⟨⟨hg, hd⟩, hlt⟩, hne⟩ := h
      refine ⟨o, rfl, hg, ?_, hlt, fun j hj hji => ?_⟩
      · obtain ⟨d, hd⟩ := Option.isSome_iff_exists.1 hd
        simp [dstOf, ho, hd]
      · rcases hne j hj with h | h
        · exact absurd h hji
        · exact h
  have hbefore : ∀ (i : Nat) (o : Oper), ops[i]? = some o → ∀ e ∈ o.after, e.on < i := by
    intro i o ho e he
    have hi : i < ops.size := (Array.getElem?_eq_some_iff.1 ho).1
    have h := h3 i hi
    rw [ho] at h
    simp only [Option.any_some, Array.all_eq_true] at h
    obtain ⟨k, hk, rfl⟩ := Array.mem_iff_getElem.1 he
    simpa using h k hk
  have htailE : ∀ (i : Nat) (o : Oper), T ≤ i → ops[i]? = some o → ∀ j, j < T → ∃ e ∈ o.after, Region.binds .any e = true ∧ e.on = j := by
    intro i o hi ho j hj
    have h := h2 i (Array.getElem?_eq_some_iff.1 ho).1
    rw [ho] at h
    simp only [Option.any_some, Bool.or_eq_true, decide_eq_true_eq, List.all_eq_true, List.mem_range] at h
    rcases h with h | h
    · omega
    · have := h j hj
      rw [Array.any_eq_true] at this
      obtain ⟨k, hk, hb⟩ := this
      simp only [Bool.and_eq_true, decide_eq_true_eq] at hb
      exact ⟨_, Array.getElem_mem hk, hb.1, hb.2⟩
  have gd : ∀ (l : Array Bool) (i : Nat), l.size = ops.size → i < ops.size → l.getD i true = l.getD i false := by
    intro l i hl hi
    simp [Array.getD_eq_getD_getElem?, Array.getElem?_eq_getElem (show i < l.size by omega)]
  have gset : ∀ (l : Array Bool) (i j : Nat), l.size = ops.size → i < ops.size → (l.setIfInBounds i true).getD j false = if j = i then true else l.getD j false := by
    intro l i j hl hi
    simp only [Array.getD_eq_getD_getElem?, Array.getElem?_setIfInBounds]
    by_cases h : i = j
    · subst h; simp [show i < l.size by omega]
    · simp [h, Ne.symm h]
  refine wp_region_any hm ?_
  -- the walk over whatever order
  have main : ∀ (left : Nat) (listed : Array Bool) (f : Nat → Value) (W : World), listed.size = ops.size → left = ((List.range T).filter fun i => !listed.getD i false).length →
      (∀ i, T ≤ i → i < ops.size → listed.getD i false = false) → Kp w.drew W → (∀ i, i < T → listed.getD i false = true → (φ i).p (f i) W) →
      wpAny P .any ops Q (ops.size - T + left) listed ⟨slotsOf ops f listed T a0.tmps, a0.defers⟩ W := by
    intro left
    induction left with
    | zero =>
      intro listed f W hs hf htail hk hφ
      have hall : ∀ i, i < T → listed.getD i false = true := by
        intro i hi
        have : (List.range T).filter (fun i => !listed.getD i false) = [] := List.eq_nil_of_length_eq_zero hf.symm
        rw [List.filter_eq_nil_iff] at this
        simpa using this i (List.mem_range.2 hi)
      have e1 : listed = ((List.range ops.size).map (fun i => decide (i < T))).toArray := by
        apply Array.ext
        · simp [hs]
        · intro i hi1 hi2
          have hi : i < ops.size := by omega
          have hv : listed.getD i false = listed[i] := by simp [Array.getD_eq_getD_getElem?, Array.getElem?_eq_getElem hi1]
          rw [← hv]
          by_cases hiT : i < T
          · rw [hall i hiT]; simp [hiT]
          · rw [htail i (by omega) hi]; simp [hiT]
      have e2 : slotsOf ops f listed T a0.tmps = slotsOf ops f (Array.replicate T true) T a0.tmps := by
        unfold slotsOf
        have hc : ∀ j ∈ List.range T, listed.getD j false = true ∧ (Array.replicate T true).getD j false = true := fun j hj => by
          have hjT := List.mem_range.1 hj
          exact ⟨hall j hjT, by simp [Array.getD_eq_getD_getElem?, hjT]⟩
        generalize a0.tmps = t
        revert hc
        generalize List.range T = l
        intro hc
        induction l generalizing t with
        | nil => rfl
        | cons j l ih =>
          obtain ⟨c1, c2⟩ := hc j (List.mem_cons_self ..)
          rw [List.foldl_cons, List.foldl_cons, if_pos c1, if_pos c2]
          exact ih _ fun k hk => hc k (List.mem_cons_of_mem _ hk)
      rw [e2, e1]
      exact hfin f W hk fun i hi => hφ i hi (hall i hi)
    | succ left ih =>
      intro listed f W hs hf htail hk hφ
      have hsome : ∃ i, i < T ∧ listed.getD i false = false := by
        have : (List.range T).filter (fun i => !listed.getD i false) ≠ [] := by intro h; rw [h] at hf; cases hf
        obtain ⟨i, hi⟩ := List.exists_mem_of_ne_nil _ this
        rw [List.mem_filter] at hi
        exact ⟨i, List.mem_range.1 hi.1, by simpa using hi.2⟩
      have hleast : ∃ i, i < T ∧ listed.getD i false = false ∧ ∀ j, j < i → listed.getD j false = true := by
        obtain ⟨i, hi⟩ := hsome
        induction i using Nat.strongRecOn with
        | ind i ihi =>
          by_cases hex : ∃ j, j < i ∧ listed.getD j false = false
          · obtain ⟨j, hj, hlj⟩ := hex
            exact ihi j hj ⟨by omega, hlj⟩
          · refine ⟨i, hi.1, hi.2, fun j hj => ?_⟩
            cases h : listed.getD j false with
            | true => rfl
            | false => exact absurd ⟨j, hj, h⟩ hex
      rw [show ops.size - T + (left + 1) = (ops.size - T + left) + 1 from rfl]
      refine ⟨fun hnone => ?_, fun i hi => ?_⟩
      · exfalso
        obtain ⟨i, hiT, hil, hlt⟩ := hleast
        obtain ⟨o, ho, _⟩ := hg i hiT
        have : i ∈ Region.ready .any ops listed := by
          simp only [Region.ready, List.mem_filter, List.mem_range]
          refine ⟨by omega, ?_⟩
          rw [gd listed i hs (by omega), hil, ho]
          simp only [Bool.not_false, Option.map_some, Option.getD_some, Bool.true_and, Array.all_eq_true]
          intro k hk'
          have := hbefore i o ho _ (Array.getElem_mem hk')
          rw [hlt _ this]
          simp
        rw [hnone] at this
        cases this
      · simp only [Region.ready, List.mem_filter, List.mem_range, Bool.and_eq_true, Bool.not_eq_true'] at hi
        obtain ⟨hin, hil, hedges⟩ := hi
        rw [gd listed i hs hin] at hil
        obtain ⟨o, ho⟩ : ∃ o, ops[i]? = some o := ⟨_, Array.getElem?_eq_getElem hin⟩
        rw [ho] at hedges
        simp only [Option.map_some, Option.getD_some, Array.all_eq_true] at hedges
        have hed : ∀ e ∈ o.after, Region.binds .any e = true → listed.getD e.on false = true := by
          intro e he hb
          obtain ⟨k, hk', rfl⟩ := Array.mem_iff_getElem.1 he
          have := hedges k hk'
          rw [hb] at this
          simpa using this
        have hiT : i < T := by
          rcases Nat.lt_or_ge i T with h | h
          · exact h
          · exfalso
            obtain ⟨j, hjT, hjl⟩ := hsome
            obtain ⟨e, he, hb, rfl⟩ := htailE i o h ho j hjT
            rw [hed e he hb] at hjl
            cases hjl
        obtain ⟨o', ho', hguard, hdst, hlt, hne⟩ := hg i hiT
        rw [ho] at ho'
        injection ho' with ho'
        subst ho'
        unfold wpOp
        rw [ho]
        simp only
        rw [if_pos (by simp [Region.wanted, hguard])]
        refine .inl (hstep i o hiT ho ⟨slotsOf ops f listed T a0.tmps, a0.defers⟩ W hk ?_ ?_ _ ?_)
        · intro s hsall
          simp only [List.all_eq_true, List.mem_range, decide_eq_true_eq] at hsall
          simp only [Array.getD_eq_getD_getElem?]
          rw [slotsOf_other _ _ _ _ s fun j hj _ => hsall j hj]
        · intro e he hb
          have hle := hed e he hb
          have hlt' := hbefore i o ho e he
          obtain ⟨_, _, _, _, hd', hne'⟩ := hg e.on (by omega)
          simp only [Array.getD_eq_getD_getElem?]
          rw [slotsOf_at _ _ _ _ e.on (by omega) hle hd' hne']
          exact hφ e.on (by omega) hle
        · intro v W' hkW hv
          have e3 : ((⟨slotsOf ops f listed T a0.tmps, a0.defers⟩ : Act).put o.dst v) = ⟨slotsOf ops (fun j => if j = i then v else f j) (listed.setIfInBounds i true) T a0.tmps, a0.defers⟩ := by
            rw [hdst]
            simp only [Act.put]
            rw [slotsOf_put _ _ _ _ i v hiT (by omega) hlt hne]
          rw [e3]
          refine ih _ _ W' (by simpa using hs) ?_ ?_ (hk.trans hkW) ?_
          · have hcount : ∀ (l : List Nat), l.Nodup → i ∈ l → (l.filter fun j => !listed.getD j false).length = (l.filter fun j => !(listed.setIfInBounds i true).getD j false).length + 1 := by
              intro l
              induction l with
              | nil => intro _ h; cases h
              | cons j l ihl =>
                intro hnd hmem
                rw [List.nodup_cons] at hnd
                by_cases hji : j = i
                · subst hji
                  have e5 : (l.filter fun k => !(listed.setIfInBounds j true).getD k false) = (l.filter fun k => !listed.getD k false) := by
                    apply List.filter_congr
                    intro k hk'
                    rw [gset listed j k hs hin, if_neg (by rintro rfl; exact hnd.1 hk')]
                  rw [List.filter_cons, List.filter_cons, gset listed j j hs hin, if_pos rfl, hil, e5]
                  simp
                · have hm' : i ∈ l := by
                    rcases List.mem_cons.1 hmem with h | h
                    · exact absurd h.symm hji
                    · exact h
                  have := ihl hnd.2 hm'
                  rw [List.filter_cons, List.filter_cons, gset listed i j hs hin, if_neg hji]
                  cases listed.getD j false
                  · simp only [Bool.not_false, ↓reduceIte, List.length_cons]; omega
                  · simp only [Bool.not_true, Bool.false_eq_true, ↓reduceIte]; omega
            have := hcount (List.range T) List.nodup_range (List.mem_range.2 hiT)
            omega
          · intro j hj hjs
            rw [gset listed i j hs hin, if_neg (by omega)]
            exact htail j hj hjs
          · intro j hj hlj
            rw [gset listed i j hs hin] at hlj
            by_cases hji : j = i
            · subst hji; simpa using hv
            · rw [if_neg hji] at hlj
              simp only [if_neg hji]
              exact (φ j).st _ _ _ (hφ j hj hlj) hkW
  have h0 := main ((List.range T).filter fun i => !(Array.replicate ops.size false).getD i false).length (Array.replicate ops.size false) (fun _ => undef) w.drew (by simp) rfl
    (fun i _ hi => by simp [Array.getD_eq_getD_getElem?, hi]) (Kp.refl _) (fun i hi h => by simp [Array.getD_eq_getD_getElem?, show i < ops.size by omega] at h)
  have e6 : slotsOf ops (fun _ => undef) (Array.replicate ops.size false) T a0.tmps = a0.tmps := by
    apply Array.ext_getElem?
    intro s
    exact slotsOf_other _ _ _ _ s fun j hj h => by simp [Array.getD_eq_getD_getElem?, show j < ops.size by omega] at h
  have e7 : ops.size - T + ((List.range T).filter fun i => !(Array.replicate ops.size false).getD i false).length = ops.size := by
    have : ((List.range T).filter fun i => !(Array.replicate ops.size false).getD i false) = List.range T := by
      rw [List.filter_eq_self]
      intro i hi
      have := List.mem_range.1 hi
      simp [Array.getD_eq_getD_getElem?, show i < ops.size by omega]
    rw [this, List.length_range]
    omega
  rw [e6, e7] at h0
  exact h0

/-- the frame behind such a region, written as so many stores into slots -/
def putAll (f : Nat → Value) : Nat → List Nat → Array Value → Array Value
  | _, [], t => t
  | k, d :: ds, t => putAll f (k + 1) ds (t.setIfInBounds d (f k))

theorem slotsOf_putAll (f : Nat → Value) (T : Nat) (t0 : Array Value) (ds : List Nat) (hds : (List.range T).map (dstOf ops) = ds) : slotsOf ops f (Array.replicate T true) T t0 = putAll f 0 ds t0 := by
  subst hds
  unfold slotsOf
  have key : ∀ (n k : Nat) (t : Array Value), k + n ≤ T → (List.range' k n).foldl (fun t i => if (Array.replicate T true).getD i false then t.setIfInBounds (dstOf ops i) (f i) else t) t = putAll f k ((List.range' k n).map (dstOf ops)) t := by
    intro n
    induction n with
    | zero => intro k t _; rfl
    | succ n ih =>
      intro k t hk
      rw [List.range'_succ, List.foldl_cons, List.map_cons, putAll, ← ih (k + 1) _ (by omega), if_pos (by simp [Array.getD_eq_getD_getElem?, show k < T by omega])]
  rw [List.range_eq_range']
  exact key T 0 t0 (by omega)

/-- each operation of a list, with its number -/
def AllSteps (f : Nat → Oper → Prop) : Nat → List Oper → Prop
  | _, [] => True
  | k, o :: l => f k o ∧ AllSteps f (k + 1) l

theorem AllSteps.get {f : Nat → Oper → Prop} : ∀ {l : List Oper} {k : Nat}, AllSteps f k l → ∀ i o, l[i]? = some o → f (k + i) o
  | [], _, _, i, o, h => by simp at h
  | x :: l, k, hs, 0, o, h => by simp at h; subst h; exact hs.1
  | x :: l, k, hs, i + 1, o, h => by
    have := AllSteps.get hs.2 i o (by simpa using h)
    rwa [show k + 1 + i = k + (i + 1) by omega] at this

theorem wp_region_steps {id : Nat} {l : List Oper} {a0 : Act} {w : World} {Q : Exit → Act → World → Prop} (hm : P.follows .mixedOrders = true) (T : Nat) (φ : Nat → St) (ds : List Nat) (hok : regionOk l.toArray T a0.tmps.size = true)
    (hds : (List.range T).map (dstOf l.toArray) = ds)
    (hstep : AllSteps (StepOk P l.toArray Q φ T a0 w.drew) 0 (l.take T))
    (hfin : ∀ (f : Nat → Value) (W : World), Kp w.drew W → (∀ i, i < T → (φ i).p (f i) W) →
      wpAny P .any l.toArray Q (l.length - T) ((List.range l.length).map (fun i => decide (i < T))).toArray ⟨putAll f 0 ds a0.tmps, a0.defers⟩ W) :
    (Code.region id l.toArray true).wp P Q a0 w := by
  refine wp_region_stable hm T φ hok (fun i o hi ho => ?_) (fun f W hk hφ => ?_)
  · have := hstep.get i o (by rw [List.getElem?_take, if_pos hi]; simpa using ho)
    rwa [Nat.zero_add] at this
  · rw [slotsOf_putAll f T a0.tmps ds hds]
    simpa using hfin f W hk hφ
end
end Go.Proofs.Ytnoobifdaldfiaa
