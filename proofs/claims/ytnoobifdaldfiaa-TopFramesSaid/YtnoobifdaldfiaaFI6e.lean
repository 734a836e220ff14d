/-
  append onto an empty literal, as one step of a region that draws its order: nothing that was there turns.
-/
import Derived.Test.YtnoobifdaldfiaaFI6c
import Derived.Test.YtnoobifdaldfiaaAppG
namespace Go.Proofs.Ytnoobifdaldfiaa.Fr
open Go.RowKit
set_option maxRecDepth 100000


theorem run_append8_empty {w : World} {lo2 g m c : Nat} {B : Option Addr} {l2 : List UInt8} (ty : TypeId) (hx : Rd w lo2 B m l2) (hb : m ≤ 1048576) :
    ∃ gd cap' w', (Builtin.append_ #[24, 24] ty #[.slice (some ⟨g, 0, none⟩) 0 0, .slice B m c]).run Try.prog w = .ok (.slice (some ⟨gd, 0, none⟩) m cap') w' ∧ Rd w' w.heap.size (some ⟨gd, 0, none⟩) m l2 ∧ SlOk (some ⟨gd, 0, none⟩) m cap' ∧ Kp w w' := by
  obtain ⟨i0, hi0, hz0, hz1, hz2⟩ := info_parts info5
  rcases Nat.eq_zero_or_pos m with h0 | h0
  · subst h0
    have hl : l2 = [] := List.eq_nil_of_length_eq_zero hx.len
    subst hl
    refine ⟨g, 0, w, ?_, ⟨rfl, fun h => absurd h (by omega)⟩, ⟨Nat.le_refl _, Nat.zero_le _, fun h => by cases h⟩, Kp.refl _⟩
    cases B <;> simp [Builtin.append_, run_underlying Try.underlying24, sizeOf, typeInfo, hi0, Builtin.lenOf, Builtin.firstCells, storeCells, loadCells, loadCellsFrom]
  · obtain ⟨g2, off2, rfl, _, hc2⟩ := hx.2 h0
    have add_plain : ∀ (b off j : Nat), (⟨b, off, none⟩ : Addr).add j = ⟨b, off + j, none⟩ := by intro b off j; unfold Addr.add; split <;> simp_all
    have hl2 : (bvs l2).length = m := hx.1
    have hge := grownCap_ge w (0 + m) 0 5
    have hle := grownCap_le_maxLen w (0 + m) 0 5 (by unfold maxLen; omega)
    have hr := run_append_grow w 24 ty 5 i0 _ Try.underlying24 hi0 hz0 ⟨g, 0, none⟩ 0 0 [] (by rw [hz1]; rfl) (fun j v h => by simp at h) ⟨g2, off2, none⟩ m c (bvs l2) (by rw [hz1]; omega) (fun j v h => by rw [add_plain]; exact hc2 j v h) (by omega) (by omega) (by rw [hz2]; exact growslice_fits (by omega) (by omega))
    rw [Nat.zero_add] at hr hge hle
    refine ⟨_, _, _, hr, ?_, ⟨hge, hle, fun h => by cases h⟩, (Kp.refl w).drew.alloc _⟩
    refine ⟨hl2, fun _ => ⟨_, 0, rfl, Nat.le_refl _, fun j u hu => ?_⟩⟩
    rw [Nat.zero_add]
    refine (cell_new w.drew _ _ _ j).trans ?_
    have hj : j < (bvs l2).length := by
      rcases Nat.lt_or_ge j (bvs l2).length with h | h
      · exact h
      · rw [List.getElem?_eq_none h] at hu; cases hu
    rw [Array.getElem?_append_left (by simp; omega), Array.getElem?_append_right (by simp)]
    simpa using hu

theorem oapp_empty {w : World} {lo2 g m c : Nat} {B : Option Addr} {l2 : List UInt8} {o : Oper} {a : Act} {K : Act → World → Prop} {Q : Exit → Act → World → Prop} (s x : Operand) (ho : o.op = .call { callee := .builtin .append, args := #[s, x], argTypes := #[24, 24] })
    (hs : a.eval s = .slice (some ⟨g, 0, none⟩) 0 0) (hx : a.eval x = .slice B m c) (hr : Rd w lo2 B m l2) (hb : m ≤ 1048576)
    (h : ∀ gd cap' w', Rd w' w.heap.size (some ⟨gd, 0, none⟩) m l2 → SlOk (some ⟨gd, 0, none⟩) m cap' → Kp w w' → K (a.put o.dst (.slice (some ⟨gd, 0, none⟩) m cap')) w') : Oper.wp Try.prog o a w K Q := by
  obtain ⟨gd, cap', w', hrun, h1, h2, h3⟩ := run_append8_empty (g := g) (c := c) o.type hr hb
  unfold Oper.wp execOp
  simp only [ho, resolve, invoke, builtin, Sem.run_bind, Sem.run_pure, Result.andThen_ok, List.map_toArray, List.map_cons, List.map_nil, hs, hx, hrun]
  exact h gd cap' w' h1 h2 h3

/-- a slice of these bytes at the head of its block -/
def St.rd0 (lo m : Nat) (l : List UInt8) : St := ⟨fun v W => ∃ gd c, v = .slice (some ⟨gd, 0, none⟩) m c ∧ Rd W lo (some ⟨gd, 0, none⟩) m l ∧ SlOk (some ⟨gd, 0, none⟩) m c, fun _ _ _ ⟨gd, c, h1, h2, h3⟩ k => ⟨gd, c, h1, h2.keep k, h3⟩⟩
def St.with0 (lo m : Nat) (l : List UInt8) (f : Nat → Nat → Value) : St := ⟨fun v W => ∃ gd c, v = f gd c ∧ Rd W lo (some ⟨gd, 0, none⟩) m l ∧ SlOk (some ⟨gd, 0, none⟩) m c, fun _ _ _ ⟨gd, c, h1, h2, h3⟩ k => ⟨gd, c, h1, h2.keep k, h3⟩⟩
/-- bytes stay where another block is turned; such a block does not begin with a byte -/
theorem rd0_other {w : World} {lo gd m nb : Nat} {l : List UInt8} {cs cs' : Array Value} {T : TypeId} {fr : Nat × Nat} {k : IntKind} {z : Int} (h : Rd w lo (some ⟨gd, 0, none⟩) m l) (hrow : w.heap[nb]? = some (.cells cs T fr)) (h0 : cs[0]? = some (.int k z)) (hk : k ≠ .u8) :
    Rd (w.setRow nb cs') lo (some ⟨gd, 0, none⟩) m l := by
  rcases Nat.eq_zero_or_pos m with hm | hm
  · subst hm; exact ⟨h.1, fun h => absurd h (by omega)⟩
  · have hne : gd ≠ nb := by
      rintro rfl
      obtain ⟨c, _, hc⟩ := h.cell (k := 0) hm
      rw [Nat.zero_add, cell_of_row w gd 0 cs T fr hrow, h0] at hc
      injection hc with hc
      injection hc with hc
      exact hk hc
    refine ⟨h.1, fun _ => ?_⟩
    obtain ⟨g', o', e, hl, hc⟩ := h.2 hm
    refine ⟨g', o', e, hl, fun j u hu => ?_⟩
    have he : gd = g' := by injection e with e; injection e
    have := hc j u hu
    unfold World.cell? at this ⊢
    simp only at this ⊢
    rw [setRow_other w nb g' cs' (by rw [← he]; exact hne)]
    exact this
theorem rd0_grown {w w' : World} {lo gd m nb : Nat} {l : List UInt8} {cs : Array Value} {T : TypeId} {fr : Nat × Nat} {k : IntKind} {z : Int} (h : Rd w lo (some ⟨gd, 0, none⟩) m l) (hrow : w.heap[nb]? = some (.cells cs T fr)) (h0 : cs[0]? = some (.int k z)) (hk : k ≠ .u8)
    (hg : w.grownBy w' (some nb)) : Rd w' lo (some ⟨gd, 0, none⟩) m l := by
  rcases Nat.eq_zero_or_pos m with hm | hm
  · subst hm; exact ⟨h.1, fun h => absurd h (by omega)⟩
  · have hne : gd ≠ nb := by
      rintro rfl
      obtain ⟨c, _, hc⟩ := h.cell (k := 0) hm
      rw [Nat.zero_add, cell_of_row w gd 0 cs T fr hrow, h0] at hc
      injection hc with hc
      injection hc with hc
      exact hk hc
    obtain ⟨c, _, hc0⟩ := h.cell (k := 0) hm
    have hlt : gd < w.heap.size := World.block_lt_of_cell? w _ hc0
    have hb := hg.block gd hlt (fun e => hne (Option.some.inj e))
    refine ⟨h.1, fun _ => ?_⟩
    obtain ⟨g', o', e, hl, hc⟩ := h.2 hm
    refine ⟨g', o', e, hl, fun j u hu => ?_⟩
    have he : gd = g' := by injection e with e; injection e
    have := hc j u hu
    unfold World.cell? at this ⊢
    simp only at this ⊢
    rw [← he] at this ⊢
    rw [hb]
    exact this
def St.emp : St := ⟨fun v _ => ∃ g, v = .slice (some ⟨g, 0, none⟩) 0 0, fun _ _ _ h _ => h⟩
end Go.Proofs.Ytnoobifdaldfiaa.Fr
