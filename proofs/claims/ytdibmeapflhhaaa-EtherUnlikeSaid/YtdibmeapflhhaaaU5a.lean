/-
  A struct that lies within a block is loaded; four variables are made, each of which takes a part of an array: what is known whatever has been carried out of it.
-/
import Derived.Test.YtdibmeapflhhaaaStableI
import Derived.Test.YtdibmeapflhhaaaWBack5
namespace Go.Proofs.Ytdibmeapflhhaaa
open Go.RowKit

section
variable {P : Program} {w : World} {g off : Nat}
theorem run_loadVar_part (ty : TypeId) (vs : List Value) (d : TypeDesc) (hc : ∀ j v, vs[j]? = some v → w.cell? ⟨g, off + j, none⟩ = some v)
    (hu : P.underlying ty = some d) (hd : (match d with | .struct _ | .array _ _ => true | _ => false) = true) (hi : (P.info? ty).map (·.size) = some vs.length) :
    (loadVar ty ⟨g, off, none⟩).run P w = .ok (.agg vs.toArray) w := by
  have hl : (loadCells ⟨g, off, none⟩ vs.length).run P w = .ok vs.toArray w :=
    run_loadCells_list (P := P) w ⟨g, off, none⟩ vs (fun j v hv => by
      have hadd : (⟨g, off, none⟩ : Addr).add j = ⟨g, off + j, none⟩ := by unfold Addr.add; split <;> simp_all
      rw [hadd]
      exact hc j v hv)
  cases hq : P.info? ty with
  | none => simp [hq] at hi
  | some i =>
    have hs : i.size = vs.length := by simpa [hq] using hi
    have hagg : (isAgg ty).run P w = .ok true w := by
      unfold isAgg
      rw [Sem.run_bind, run_underlying hu w]
      cases d <;> simp_all
    simp [loadVar, Sem.run_bind, hagg, sizeOf, typeInfo, hq, hs, hl]
theorem old_part {o : Oper} {a : Act} {K : Act → World → Prop} {Q : Exit → Act → World → Prop} {cs : Array Value} {T : TypeId} {mm : Nat × Nat} (p : Operand) (ty : TypeId) (d : TypeDesc) (vs : List Value) (ho : o.op = .load ty p)
    (hp : a.eval p = .pointer (some ⟨g, off, none⟩)) (hrow : w.heap[g]? = some (.cells cs T mm)) (hsub : (cs.toList.drop off).take vs.length = vs)
    (hu : P.underlying ty = some d) (hd : (match d with | .struct _ | .array _ _ => true | _ => false) = true) (hi : (P.info? ty).map (·.size) = some vs.length)
    (h : K (a.put o.dst (.agg vs.toArray)) w) : Oper.wp P o a w K Q := by
  have hr := run_loadVar_part (P := P) (w := w) (g := g) (off := off) ty vs d (fun j v hv => by
    rw [cell_of_row w g (off + j) cs T mm hrow]
    rw [← hsub, List.getElem?_take] at hv
    split at hv
    · rw [List.getElem?_drop] at hv
      simpa using hv
    · cases hv) hu hd hi
  unfold Oper.wp execOp
  simp only [ho, hp, Instr.loadAt, Instr.sureAddr, Sem.run_bind, Sem.run_pure, Result.andThen_ok, hr]
  exact h
end

/-- eight values, then four new blocks, then a store into each -/
structure JU (w1 : World) (X : Nat → Value) (C Z : Nat → Array Value) (T : Nat → TypeId) (L : Nat → Bool) (f : Nat → Value) (W : World) : Prop where
  kp : Kp w1 W
  val : ∀ i, i < 8 → L i = true → f i = X i
  al : ∀ j, j < 4 → L (8 + j) = true → ∃ b, f (8 + j) = .pointer (some ⟨b, 0, none⟩) ∧ w1.heap.size ≤ b ∧ b < W.heap.size ∧ W.heap[b]? = some (.cells (if L (12 + j) = true then C j else Z j) (T j) (0, 0))
  ne : ∀ j k, j < 4 → k < 4 → j ≠ k → L (8 + j) = true → L (8 + k) = true → f (8 + j) ≠ f (8 + k)
  cl : ∀ j, j < 4 → L (12 + j) = true → L (8 + j) = true
section
variable {w1 W : World} {X : Nat → Value} {C Z : Nat → Array Value} {T : Nat → TypeId} {L : Nat → Bool} {f : Nat → Value}
theorem JU.start (w1 : World) (X : Nat → Value) (C Z : Nat → Array Value) (T : Nat → TypeId) : JU w1 X C Z T (fun _ => false) (fun _ => undef) w1.drew :=
  ⟨(Kp.refl _).drew, fun _ _ h => (by cases h), fun _ _ h => (by cases h), fun _ _ _ _ _ h => (by cases h), fun _ _ h => (by cases h)⟩
theorem JU.put (h : JU w1 X C Z T L f W) (i : Nat) (hi : i < 8) : JU w1 X C Z T (upd L i true) (upd f i (X i)) W := by
  have e1 : ∀ j, 8 ≤ j → upd L i true j = L j := fun j hj => upd_ne _ _ (by omega)
  have e2 : ∀ j, 8 ≤ j → upd f i (X i) j = f j := fun j hj => upd_ne _ _ (by omega)
  refine ⟨h.kp, fun k hk hl => ?_, fun j hj hl => ?_, fun j k hj hk hjk h1 h2 => ?_, fun j hj hl => ?_⟩
  · by_cases hki : k = i
    · subst hki; rw [upd_same]
    · rw [upd_ne _ _ hki] at hl ⊢; exact h.val k hk hl
  · rw [e1 _ (by omega)] at hl
    rw [e2 _ (by omega), e1 _ (by omega)]
    exact h.al j hj hl
  · rw [e1 _ (by omega)] at h1 h2
    rw [e2 _ (by omega), e2 _ (by omega)]
    exact h.ne j k hj hk hjk h1 h2
  · rw [e1 _ (by omega)] at hl ⊢
    exact h.cl j hj hl
theorem JU.alloc (h : JU w1 X C Z T L f W) (j : Nat) (hj : j < 4) (hL : L (8 + j) = false) : JU w1 X C Z T (upd L (8 + j) true) (upd f (8 + j) (.pointer (some ⟨W.heap.size, 0, none⟩))) (W.alloc (.cells (Z j) (T j))) := by
  have hno : L (12 + j) = false := by
    cases hh : L (12 + j) with
    | false => rfl
    | true => rw [h.cl j hj hh] at hL; cases hL
  refine ⟨h.kp.alloc _, fun k hk hl => ?_, fun k hk hl => ?_, fun k l hk hl hkl h1 h2 => ?_, fun k hk hl => ?_⟩
  · rw [upd_ne _ _ (by omega)] at hl ⊢
    exact h.val k hk hl
  · rw [upd_ne L true (show 12 + k ≠ 8 + j by omega)]
    by_cases hkj : k = j
    · subst hkj
      rw [upd_same, hno]
      exact ⟨_, rfl, h.kp.size, by simp, heap_alloc_new W _⟩
    · rw [upd_ne _ _ (show 8 + k ≠ 8 + j by omega)] at hl ⊢
      obtain ⟨b, e, h1, h2, h3⟩ := h.al k hk hl
      exact ⟨b, e, h1, by simp; omega, (Below.heap_alloc W _ b h2).trans h3⟩
  · by_cases hkj : k = j
    · subst hkj
      rw [upd_same, upd_ne _ _ (show 8 + l ≠ 8 + k by omega)]
      rw [upd_ne _ _ (show 8 + l ≠ 8 + k by omega)] at h2
      obtain ⟨b, e, _, h3, _⟩ := h.al l hl h2
      rw [e]
      intro e2
      injection e2 with e2
      injection e2 with e2
      injection e2 with e2
      omega
    · by_cases hlj : l = j
      · subst hlj
        rw [upd_same, upd_ne _ _ (show 8 + k ≠ 8 + l by omega)]
        rw [upd_ne _ _ (show 8 + k ≠ 8 + l by omega)] at h1
        obtain ⟨b, e, _, h3, _⟩ := h.al k hk h1
        rw [e]
        intro e2
        injection e2 with e2
        injection e2 with e2
        injection e2 with e2
        omega
      · rw [upd_ne _ _ (show 8 + k ≠ 8 + j by omega)] at h1 ⊢
        rw [upd_ne _ _ (show 8 + l ≠ 8 + j by omega)] at h2 ⊢
        exact h.ne k l hk hl hkl h1 h2
  · rw [upd_ne _ _ (show 12 + k ≠ 8 + j by omega)] at hl
    by_cases hkj : k = j
    · subst hkj; rw [upd_same]
    · rw [upd_ne _ _ (show 8 + k ≠ 8 + j by omega)]; exact h.cl k hk hl
theorem JU.store (h : JU w1 X C Z T L f W) (j : Nat) (hj : j < 4) (hL : L (8 + j) = true) {b : Nat} (hb : f (8 + j) = .pointer (some ⟨b, 0, none⟩)) (hlo : w1.heap.size ≤ b) (hZ : W.heap[b]? = some (.cells (Z j) (T j) (0, 0))) (v : Value) :
    JU w1 X C Z T (upd L (12 + j) true) (upd f (12 + j) v) (W.setRow b (C j)) := by
  refine ⟨h.kp.setRow hlo, fun k hk hl => ?_, fun k hk hl => ?_, fun k l hk hl hkl h1 h2 => ?_, fun k hk hl => ?_⟩
  · rw [upd_ne _ _ (by omega)] at hl ⊢
    exact h.val k hk hl
  · rw [upd_ne _ _ (show 8 + k ≠ 12 + j by omega)] at hl ⊢
    obtain ⟨b', e, h1, h2, h3⟩ := h.al k hk hl
    refine ⟨b', e, h1, by simpa [World.setRow] using h2, ?_⟩
    by_cases hkj : k = j
    · subst hkj
      rw [hb] at e
      injection e with e
      injection e with e
      injection e with e
      subst e
      rw [upd_same, if_pos rfl]
      simp only [World.setRow, Array.getElem?_modify, if_pos, hZ, Option.map_some]
    · rw [upd_ne _ _ (show 12 + k ≠ 12 + j by omega)]
      have hne : b ≠ b' := by
        intro e2
        have := h.ne k j hk hj hkj hl hL
        rw [e, hb, e2] at this
        exact this rfl
      exact (setRow_other W b b' _ (Ne.symm hne)).trans h3
  · rw [upd_ne _ _ (by omega)] at h1 h2
    rw [upd_ne _ _ (by omega), upd_ne _ _ (by omega)]
    exact h.ne k l hk hl hkl h1 h2
  · rw [upd_ne L true (show 8 + k ≠ 12 + j by omega)]
    by_cases hkj : k = j
    · subst hkj; exact hL
    · rw [upd_ne _ _ (show 12 + k ≠ 12 + j by omega)] at hl
      exact h.cl k hk hl
/-- all of it has been carried out -/
theorem JU.done (h : JU w1 X C Z T L f W) (hall : ∀ i, i < 16 → L i = true) : ∃ b0 b1 b2 b3, Kp w1 W ∧ (f 0 = X 0 ∧ f 1 = X 1 ∧ f 2 = X 2 ∧ f 3 = X 3 ∧ f 4 = X 4 ∧ f 5 = X 5 ∧ f 6 = X 6 ∧ f 7 = X 7) ∧
    (f 8 = .pointer (some ⟨b0, 0, none⟩) ∧ f 9 = .pointer (some ⟨b1, 0, none⟩) ∧ f 10 = .pointer (some ⟨b2, 0, none⟩) ∧ f 11 = .pointer (some ⟨b3, 0, none⟩)) ∧
    W.heap[b0]? = some (.cells (C 0) (T 0) (0, 0)) ∧ W.heap[b1]? = some (.cells (C 1) (T 1) (0, 0)) ∧ W.heap[b2]? = some (.cells (C 2) (T 2) (0, 0)) ∧ W.heap[b3]? = some (.cells (C 3) (T 3) (0, 0)) := by
  have v := fun i (hi : i < 8) => h.val i hi (hall i (by omega))
  have a := fun j (hj : j < 4) => h.al j hj (hall (8 + j) (by omega))
  have c := fun j (hj : j < 4) => hall (12 + j) (by omega)
  obtain ⟨b0, e0, _, _, r0⟩ := a 0 (by omega)
  obtain ⟨b1, e1, _, _, r1⟩ := a 1 (by omega)
  obtain ⟨b2, e2, _, _, r2⟩ := a 2 (by omega)
  obtain ⟨b3, e3, _, _, r3⟩ := a 3 (by omega)
  rw [if_pos (c _ (by omega))] at r0 r1 r2 r3
  exact ⟨b0, b1, b2, b3, h.kp, ⟨v 0 (by omega), v 1 (by omega), v 2 (by omega), v 3 (by omega), v 4 (by omega), v 5 (by omega), v 6 (by omega), v 7 (by omega)⟩, ⟨e0, e1, e2, e3⟩, r0, r1, r2, r3⟩
end
end Go.Proofs.Ytdibmeapflhhaaa
