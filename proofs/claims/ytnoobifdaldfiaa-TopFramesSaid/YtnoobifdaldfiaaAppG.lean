/-
  append onto bytes that fill their row: the whole lies in a new row, the call's own.
-/
import Derived.Test.YtnoobifdaldfiaaApp8
namespace Go.Proofs.Ytnoobifdaldfiaa
open Go.RowKit
set_option maxRecDepth 100000

theorem run_append8_new {w : World} {lo1 lo2 n m cap c : Nat} {A B : Option Addr} {l l2 : List UInt8} (ty : TypeId) (hs : Rd w lo1 A n l) (hx : Rd w lo2 B m l2) (h0 : 0 < n) (h1 : 0 < m) (hc : cap < n + m) (hb : n + m ≤ 1048576) :
    ∃ cap' w', (Builtin.append_ #[24, 24] ty #[.slice A n cap, .slice B m c]).run Try.prog w = .ok (.slice (some ⟨w.heap.size, 0, none⟩) (n + m) cap') w' ∧ OwnV 5 w' w.heap.size w.heap.size (n + m) cap' (bvs (l ++ l2)) ∧ Kp w w' := by
  obtain ⟨i0, hi0, hz0, hz1, hz2⟩ := info_parts info5
  obtain ⟨g, off, rfl, _, hc1⟩ := hs.2 h0
  obtain ⟨g2, off2, rfl, _, hc2⟩ := hx.2 h1
  have add_plain : ∀ (b off j : Nat), (⟨b, off, none⟩ : Addr).add j = ⟨b, off + j, none⟩ := by intro b off j; unfold Addr.add; split <;> simp_all
  have hl1 : (bvs l).length = n := hs.1
  have hl2 : (bvs l2).length = m := hx.1
  refine ⟨_, _, run_append_grow w 24 ty 5 i0 _ Try.underlying24 hi0 hz0 ⟨g, off, none⟩ n cap (bvs l) (by rw [hz1]; omega) (fun j v h => by rw [add_plain]; exact hc1 j v h) ⟨g2, off2, none⟩ m c (bvs l2) (by rw [hz1]; omega) (fun j v h => by rw [add_plain]; exact hc2 j v h) hc (by omega) (by rw [hz2]; exact growslice_fits hc (by omega)), ?_, (Kp.refl w).drew.alloc _⟩
  have hge := grownCap_ge w (n + m) cap 5
  have hle := grownCap_le_maxLen w (n + m) cap 5 (by unfold maxLen; omega)
  refine OwnV.mk' (cur := (bvs l).toArray ++ (bvs l2).toArray ++ Builtin.zeroCells (Value.int .u8 0).cells (grownCap w (n + m) cap 5 - (n + m))) (Nat.le_refl _) ?_ hge hle ?_ ?_
  · exact heap_alloc_new w.drew _
  · simp [Builtin.zeroCells, Value.cells, hl1, hl2]; omega
  · rw [bvs_append]
    simp only [Array.toList_append]
    rw [List.take_append_of_le_length (by simp [hl1, hl2]), List.take_of_length_le (by simp [hl1, hl2])]

theorem app8g {w : World} {lo1 lo2 n m cap c : Nat} {A B : Option Addr} {l l2 : List UInt8} {ops : Array Oper} {rest : List Oper} {o : Oper} {a : Act} {Q : Exit → Act → World → Prop} (hw : Region.wanted o (yielded ops a.tmps) = true) (s x : Operand)
    (ho : o.op = .call { callee := .builtin .append, args := #[s, x], argTypes := #[24, 24] })
    (hs : a.eval s = .slice A n cap) (hx : a.eval x = .slice B m c) (hr1 : Rd w lo1 A n l) (hr2 : Rd w lo2 B m l2) (h0 : 0 < n) (h1 : 0 < m) (hc : cap < n + m) (hb : n + m ≤ 1048576) (N : Nat) (L : List UInt8) (hN : n + m = N) (hL : l ++ l2 = L) (G : Nat) (hG : w.heap.size = G)
    (h : ∀ cap' w', OwnV 5 w' G G N cap' (bvs L) → Kp w w' → wpList Try.prog ops Q rest (a.put o.dst (.slice (some ⟨G, 0, none⟩) N cap')) w') : wpList Try.prog ops Q (o :: rest) a w := by
  subst hN
  subst hL
  subst hG
  obtain ⟨cap', w', hrun, h2, h3⟩ := run_append8_new o.type hr1 hr2 h0 h1 hc hb (c := c)
  unfold wpList
  rw [if_pos hw]
  refine .inl ?_
  unfold Oper.wp execOp
  simp only [ho, resolve, invoke, builtin, Sem.run_bind, Sem.run_pure, Result.andThen_ok, List.map_toArray, List.map_cons, List.map_nil, hs, hx, hrun]
  exact h cap' w' h2 h3
end Go.Proofs.Ytnoobifdaldfiaa
