/-
  append in a region that draws its order, where it may write behind the bytes of the call's own row: what stays as it was.
-/
import Derived.Test.YtpjjanbcjkdciaaAppG
import Derived.Test.YtpjjanbcjkdciaaStableR
import Derived.Deep.DeepAppendRoom
namespace Go.Proofs.Ytpjjanbcjkdciaa
open Go.RowKit

/-- what was there below block lo; own rows that begin with these N, and with these M, bytes -/
def KApp (lo N M : Nat) (pb pm : List UInt8) : Keep where
  R W W' := Below lo W W' ∧ (∀ g cap, OwnV 5 W lo g N cap (bvs pb) → OwnV 5 W' lo g N cap (bvs pb)) ∧ (∀ g cap, OwnV 5 W lo g M cap (bvs pm) → OwnV 5 W' lo g M cap (bvs pm))
  refl W := ⟨Below.refl _ _, fun _ _ h => h, fun _ _ h => h⟩
  trans h k := ⟨Below.trans h.1 k.1, fun g c o => k.2.1 g c (h.2.1 g c o), fun g c o => k.2.2 g c (h.2.2 g c o)⟩
theorem kapp_of {lo N M : Nat} {pb pm : List UInt8} {W W' : World} (h : Kp W W') (hlo : lo ≤ W.heap.size) : (KApp lo N M pb pm).R W W' :=
  ⟨Below.mono h hlo, fun _ _ o => o.keep h, fun _ _ o => o.keep h⟩
theorem kapp_kp {lo : Nat} {w W : World} (hs : lo ≤ w.heap.size ∧ w.heap.size ≤ lo) (h : Below lo w.drew W) : Kp w W := by
  have e : lo = w.heap.size := by omega
  subst e
  exact Kp.trans ((Kp.refl w).drew) h
section
variable {k : Keep}
/-- an empty slice of a literal -/
def StR.nil8 : StR k := ⟨fun v _ => ∃ g, v = .slice (some ⟨g, 0, none⟩) 0 0, fun _ _ _ h _ => h⟩
end
def StR.own8 {lo M : Nat} {pm : List UInt8} (N : Nat) (pb : List UInt8) : StR (KApp lo N M pb pm) := ⟨fun v W => ∃ g cap, v = .slice (some ⟨g, 0, none⟩) N cap ∧ OwnV 5 W lo g N cap (bvs pb), fun _ _ _ ⟨g, cap, h1, h2⟩ k => ⟨g, cap, h1, k.2.1 g cap h2⟩⟩
def StR.own8b {lo N : Nat} {pb : List UInt8} (M : Nat) (pm : List UInt8) : StR (KApp lo N M pb pm) := ⟨fun v W => ∃ g cap, v = .slice (some ⟨g, 0, none⟩) M cap ∧ OwnV 5 W lo g M cap (bvs pm), fun _ _ _ ⟨g, cap, h1, h2⟩ k => ⟨g, cap, h1, k.2.2 g cap h2⟩⟩

theorem oapp_fresh {w : World} {lo2 g m c : Nat} {B : Option Addr} {l2 : List UInt8} {o : Oper} {a : Act} {K : Act → World → Prop} {Q : Exit → Act → World → Prop} (s x : Operand) (ho : o.op = .call { callee := .builtin .append, args := #[s, x], argTypes := #[23, 23] })
    (hs : a.eval s = .slice (some ⟨g, 0, none⟩) 0 0) (hx : a.eval x = .slice B m c) (hr : Rd w lo2 B m l2) (h0 : 0 < m) (hb : m ≤ 1048576)
    (h : ∀ cap' w', OwnV 5 w' w.heap.size w.heap.size m cap' (bvs l2) → Kp w w' → K (a.put o.dst (.slice (some ⟨w.heap.size, 0, none⟩) m cap')) w') : Oper.wp Try.prog o a w K Q := by
  obtain ⟨i0, hi0, hz0, hz1, hz2⟩ := info_parts info5
  obtain ⟨g2, off2, rfl, _, hc2⟩ := hr.2 h0
  have add_plain : ∀ (b off j : Nat), (⟨b, off, none⟩ : Addr).add j = ⟨b, off + j, none⟩ := by intro b off j; unfold Addr.add; split <;> simp_all
  have hl2 : (bvs l2).length = m := hr.1
  have hge := grownCap_ge w (0 + m) 0 5
  have hle := grownCap_le_maxLen w (0 + m) 0 5 (by unfold maxLen; omega)
  have hrun := run_append_grow w 23 o.type 5 i0 _ Try.underlying23 hi0 hz0 ⟨g, 0, none⟩ 0 0 [] (by rw [hz1]; rfl) (fun j v h => by simp at h) ⟨g2, off2, none⟩ m c (bvs l2) (by rw [hz1]; omega) (fun j v h => by rw [add_plain]; exact hc2 j v h) (by omega) (by omega) (by rw [hz2]; exact growslice_fits (by omega) (by omega))
  rw [Nat.zero_add] at hrun hge hle
  unfold Oper.wp execOp
  simp only [ho, resolve, invoke, builtin, Sem.run_bind, Sem.run_pure, Result.andThen_ok, List.map_toArray, List.map_cons, List.map_nil, hs, hx, hrun]
  refine h _ _ ?_ ((Kp.refl w).drew.alloc _)
  refine OwnV.mk' (cur := ([] : List Value).toArray ++ (bvs l2).toArray ++ Builtin.zeroCells (Value.int .u8 0).cells (grownCap w m 0 5 - m)) (Nat.le_refl _) ?_ hge hle ?_ ?_
  · exact heap_alloc_new w.drew _
  · simp [Builtin.zeroCells, Value.cells, hl2]; omega
  · simp only [Array.toList_append]
    rw [List.take_append_of_le_length (by simp [hl2]), List.take_of_length_le (by simp [hl2])]
    rfl

theorem OwnV.lower8 {e : TypeId} {w : World} {lo lo' g n cap : Nat} {xs : List Value} (h : OwnV e w lo g n cap xs) (hl : lo' ≤ lo) : OwnV e w lo' g n cap xs := by
  obtain ⟨h1, _, h3, h4, cur, h5, h6, h7⟩ := h.out
  exact OwnV.mk' (Nat.le_trans hl h1) h5 h3 h4 h6 h7
theorem run_append_keep {w : World} {lo lo2 g N cap m c M : Nat} {B : Option Addr} {pb l2 pm : List UInt8} (ty : TypeId) (hown : OwnV 5 w lo g N cap (bvs pb)) (hr : Rd w lo2 B m l2) (hM : N + m = M) (hpm : pb ++ l2 = pm) (h0 : 0 < N) (hb : M ≤ 1048576) (hlo : lo ≤ w.heap.size) :
    ∃ g' cap' w', (Builtin.append_ #[23, 23] ty #[.slice (some ⟨g, 0, none⟩) N cap, .slice B m c]).run Try.prog w = .ok (.slice (some ⟨g', 0, none⟩) M cap') w' ∧ OwnV 5 w' lo g' M cap' (bvs pm) ∧ (KApp lo N M pb pm).R w w' := by
  obtain ⟨i0, hi0, hz0, hz1, hz2⟩ := info_parts info5
  subst hM
  subst hpm
  obtain ⟨hlg, hlenp, hnc, hcm, cur, hh, hsz, htk⟩ := hown.out
  rcases Nat.eq_zero_or_pos m with hm | hm
  · subst hm
    have hl2 : l2 = [] := List.eq_nil_of_length_eq_zero hr.len
    subst hl2
    rw [Nat.add_zero, List.append_nil]
    refine ⟨g, cap, w, ?_, hown, Keep.refl _ _⟩
    cases B <;> simp [Builtin.append_, run_underlying Try.underlying23, sizeOf, typeInfo, hi0, Builtin.lenOf, Builtin.firstCells, storeCells, loadCells, loadCellsFrom, hnc]
  · by_cases hroom : N + m ≤ cap
    · obtain ⟨g2, off2, rfl, _, hc2⟩ := hr.2 hm
      have add_plain : ∀ (b off j : Nat), (⟨b, off, none⟩ : Addr).add j = ⟨b, off + j, none⟩ := by intro b off j; unfold Addr.add; split <;> simp_all
      obtain ⟨w', hrun, hown', hgr⟩ := run_append_own_spare (P := Try.prog) w lo 23 ty 5 i0 1 Try.underlying23 hi0 hz1 g N cap (bvs pb) hown ⟨g2, off2, none⟩ m c (bvs l2) (by rw [Nat.mul_one]; exact hr.1) (fun j v h => by rw [add_plain]; exact hc2 j v h) (bvs_one _) hroom
      rw [← bvs_append] at hown'
      have hown2 : OwnV 5 w' lo g (N + m) cap (bvs (pb ++ l2)) := hown'
      refine ⟨g, cap, w', hrun, hown2, Below.grown (Below.refl _ _) hgr hlo (fun k hk => by injection hk with hk; omega), fun g' cap' h => ?_, fun g' cap' h => ?_⟩
      · by_cases hg : g' = g
        · subst hg
          obtain ⟨_, _, h3, h4, cur', h5, h6, h7⟩ := h.out
          rw [hh] at h5
          injection h5 with h5
          injection h5 with h5
          subst h5
          obtain ⟨k1, k2, k3, k4, cur2, k5, k6, k7⟩ := hown2.out
          refine OwnV.mk' k1 k5 h3 h4 (by omega) ?_
          have : cur2.toList.take N = (bvs (pb ++ l2)).take N := by rw [← k7, List.take_take, Nat.min_eq_left (by omega)]
          rw [this, bvs_append, List.take_left' (by omega)]
        · exact h.far hgr (fun e => hg (by injection e with e; exact e.symm))
      · by_cases hg : g' = g
        · subst hg
          obtain ⟨_, _, h3, h4, cur', h5, h6, h7⟩ := h.out
          rw [hh] at h5
          injection h5 with h5
          injection h5 with h5
          subst h5
          have e : cap' = cap := by omega
          subst e
          exact hown2
        · exact h.far hgr (fun e => hg (by injection e with e; exact e.symm))
    · obtain ⟨cap', w', hrun, h2, h3⟩ := run_append8_new ty hown.rd0 hr h0 hm (cap := cap) (by omega) hb (c := c)
      exact ⟨_, cap', w', hrun, OwnV.lower8 h2 hlo, kapp_of h3 hlo⟩
theorem oapp_keep {w : World} {lo lo2 g N cap m c M : Nat} {B : Option Addr} {pb l2 pm : List UInt8} {o : Oper} {a : Act} {K : Act → World → Prop} {Q : Exit → Act → World → Prop} (s x : Operand) (ho : o.op = .call { callee := .builtin .append, args := #[s, x], argTypes := #[23, 23] })
    (hs : a.eval s = .slice (some ⟨g, 0, none⟩) N cap) (hx : a.eval x = .slice B m c) (hown : OwnV 5 w lo g N cap (bvs pb)) (hr : Rd w lo2 B m l2) (hM : N + m = M) (hpm : pb ++ l2 = pm) (h0 : 0 < N) (hb : M ≤ 1048576) (hlo : lo ≤ w.heap.size)
    (h : ∀ g' cap' w', OwnV 5 w' lo g' M cap' (bvs pm) → (KApp lo N M pb pm).R w w' → K (a.put o.dst (.slice (some ⟨g', 0, none⟩) M cap')) w') : Oper.wp Try.prog o a w K Q := by
  obtain ⟨g', cap', w', hrun, h1, h2⟩ := run_append_keep o.type hown hr hM hpm h0 hb hlo (c := c)
  unfold Oper.wp execOp
  simp only [ho, resolve, invoke, builtin, Sem.run_bind, Sem.run_pure, Result.andThen_ok, List.map_toArray, List.map_cons, List.map_nil, hs, hx, hrun]
  exact h g' cap' w' h1 h2
end Go.Proofs.Ytpjjanbcjkdciaa
