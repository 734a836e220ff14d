/-
  Drawn regions with an append onto an empty literal; rows of a segment; what a segment is.
-/
import Derived.Test.YtnoobifdaldfiaaP9
import Derived.Test.YtnoobifdaldfiaaAppG
import Derived.Test.YtnoobifdaldfiaaRow
import Derived.Test.YtnoobifdaldfiaaStable
import Derived.Test.YtnoobifdaldfiaaOp9
namespace Go.Proofs.Ytnoobifdaldfiaa
open Go.RowKit
set_option maxRecDepth 100000

theorem row_setCell {w : World} {b : Nat} {cs : Array Value} {T : TypeId} {m : Nat × Nat} (h : w.heap[b]? = some (.cells cs T m)) (i : Nat) (v : Value) : (w.setCell ⟨b, i, none⟩ v).heap[b]? = some (.cells (cs.setIfInBounds i v) T m) := by
  simp [World.setCell, Array.getElem?_modify, h]

/-- a pointer to a new block of these cells -/
def St.row (lo : Nat) (cs : Array Value) (T : TypeId) : St :=
  ⟨fun v W => ∃ b, v = .pointer (some ⟨b, 0, none⟩) ∧ lo ≤ b ∧ W.heap[b]? = some (.cells cs T (0, 0)), fun v W W' ⟨b, h1, h2, h3⟩ k => ⟨b, h1, h2, by
    rcases Nat.lt_or_ge b W.heap.size with h | h
    · rw [k.block b h]; exact h3
    · rw [Array.getElem?_eq_none h] at h3; cases h3⟩⟩

theorem run_append8_empty {w : World} {lo2 g m c : Nat} {B : Option Addr} {l2 : List UInt8} (ty : TypeId) (hx : Rd w lo2 B m l2) (hb : m ≤ 1048576) :
    ∃ gd cap' w', (Builtin.append_ #[24, 24] ty #[.slice (some ⟨g, 0, none⟩) 0 0, .slice B m c]).run Try.prog w = .ok (.slice (some ⟨gd, 0, none⟩) m cap') w' ∧ Rd w' w.heap.size (some ⟨gd, 0, none⟩) m l2 ∧ SlOk (some ⟨gd, 0, none⟩) m cap' ∧ Kp w w' := by
  obtain ⟨i0, hi0, hz0, hz1, hz2⟩ := info_parts info5
  rcases Nat.eq_zero_or_pos m with h0 | h0
  · subst h0
    have hl : l2 = [] := List.eq_nil_of_length_eq_zero hx.len
    subst hl
    refine ⟨g, 0, w, ?_, ⟨rfl, fun h => absurd h (by omega)⟩, ⟨Nat.le_refl _, Nat.zero_le _, fun h => by cases h⟩, Kp.refl _⟩
    cases B <;> simp [Builtin.append_, run_underlying Try.underlying24, sizeOf, typeInfo, hi0, Builtin.lenOf, Builtin.firstCells, storeCells, loadCells, loadCellsFrom]
  · obtain ⟨g2, off2, rfl, _, hc2⟩ := hx.2 h0
    have add_plain : ∀ (b off j : Nat), (⟨b, off, none⟩ : Addr).add j = ⟨b, off + j, none⟩ := by intro b off j; unfold Addr.add; split <;> simp_all
    have hl2 : (bvs l2).length = m := hx.1
    have hge := grownCap_ge w (0 + m) 0 5
    have hle := grownCap_le_maxLen w (0 + m) 0 5 (by unfold maxLen; omega)
    have hr := run_append_grow w 24 ty 5 i0 _ Try.underlying24 hi0 hz0 ⟨g, 0, none⟩ 0 0 [] (by rw [hz1]; rfl) (fun j v h => by simp at h) ⟨g2, off2, none⟩ m c (bvs l2) (by rw [hz1]; omega) (fun j v h => by rw [add_plain]; exact hc2 j v h) (by omega) (by omega) (by rw [hz2]; exact growslice_fits (by omega) (by omega))
    rw [Nat.zero_add] at hr hge hle
    refine ⟨_, _, _, hr, ?_, ⟨hge, hle, fun h => by cases h⟩, (Kp.refl w).drew.alloc _⟩
    refine ⟨hl2, fun _ => ⟨_, 0, rfl, Nat.le_refl _, fun j u hu => ?_⟩⟩
    rw [Nat.zero_add]
    refine (cell_new w.drew _ _ _ j).trans ?_
    have hj : j < (bvs l2).length := by
      rcases Nat.lt_or_ge j (bvs l2).length with h | h
      · exact h
      · rw [List.getElem?_eq_none h] at hu; cases hu
    rw [Array.getElem?_append_left (by simp; omega), Array.getElem?_append_right (by simp)]
    simpa using hu

theorem oapp_empty {w : World} {lo2 g m c : Nat} {B : Option Addr} {l2 : List UInt8} {o : Oper} {a : Act} {K : Act → World → Prop} {Q : Exit → Act → World → Prop} (s x : Operand) (ho : o.op = .call { callee := .builtin .append, args := #[s, x], argTypes := #[24, 24] })
    (hs : a.eval s = .slice (some ⟨g, 0, none⟩) 0 0) (hx : a.eval x = .slice B m c) (hr : Rd w lo2 B m l2) (hb : m ≤ 1048576)
    (h : ∀ gd cap' w', Rd w' w.heap.size (some ⟨gd, 0, none⟩) m l2 → SlOk (some ⟨gd, 0, none⟩) m cap' → Kp w w' → K (a.put o.dst (.slice (some ⟨gd, 0, none⟩) m cap')) w') : Oper.wp Try.prog o a w K Q := by
  obtain ⟨gd, cap', w', hrun, h1, h2, h3⟩ := run_append8_empty (g := g) (c := c) o.type hr hb
  unfold Oper.wp execOp
  simp only [ho, resolve, invoke, builtin, Sem.run_bind, Sem.run_pure, Result.andThen_ok, List.map_toArray, List.map_cons, List.map_nil, hs, hx, hrun]
  exact h gd cap' w' h1 h2 h3

/-- a slice of these bytes at the head of its block -/
def St.rd0 (lo m : Nat) (l : List UInt8) : St := ⟨fun v W => ∃ gd c, v = .slice (some ⟨gd, 0, none⟩) m c ∧ Rd W lo (some ⟨gd, 0, none⟩) m l ∧ SlOk (some ⟨gd, 0, none⟩) m c, fun _ _ _ ⟨gd, c, h1, h2, h3⟩ k => ⟨gd, c, h1, h2.keep k, h3⟩⟩
def St.with0 (lo m : Nat) (l : List UInt8) (f : Nat → Nat → Value) : St := ⟨fun v W => ∃ gd c, v = f gd c ∧ Rd W lo (some ⟨gd, 0, none⟩) m l ∧ SlOk (some ⟨gd, 0, none⟩) m c, fun _ _ _ ⟨gd, c, h1, h2, h3⟩ k => ⟨gd, c, h1, h2.keep k, h3⟩⟩
/-- bytes stay where another block is turned; such a block does not begin with a byte -/
theorem rd0_other {w : World} {lo gd m nb : Nat} {l : List UInt8} {cs cs' : Array Value} {T : TypeId} {fr : Nat × Nat} {k : IntKind} {z : Int} (h : Rd w lo (some ⟨gd, 0, none⟩) m l) (hrow : w.heap[nb]? = some (.cells cs T fr)) (h0 : cs[0]? = some (.int k z)) (hk : k ≠ .u8) :
    Rd (w.setRow nb cs') lo (some ⟨gd, 0, none⟩) m l := by
  rcases Nat.eq_zero_or_pos m with hm | hm
  · subst hm; exact ⟨h.1, fun h => absurd h (by omega)⟩
  · have hne : gd ≠ nb := by
      rintro rfl
      obtain ⟨c, _, hc⟩ := h.cell (k := 0) hm
      rw [Nat.zero_add, cell_of_row w gd 0 cs T fr hrow, h0] at hc
      injection hc with hc
      injection hc with hc
      exact hk hc
    refine ⟨h.1, fun _ => ?_⟩
    obtain ⟨g', o', e, hl, hc⟩ := h.2 hm
    refine ⟨g', o', e, hl, fun j u hu => ?_⟩
    have he : gd = g' := by injection e with e; injection e
    have := hc j u hu
    unfold World.cell? at this ⊢
    simp only at this ⊢
    rw [setRow_other w nb g' cs' (by rw [← he]; exact hne)]
    exact this
theorem rd0_grown {w w' : World} {lo gd m nb : Nat} {l : List UInt8} {cs : Array Value} {T : TypeId} {fr : Nat × Nat} {k : IntKind} {z : Int} (h : Rd w lo (some ⟨gd, 0, none⟩) m l) (hrow : w.heap[nb]? = some (.cells cs T fr)) (h0 : cs[0]? = some (.int k z)) (hk : k ≠ .u8)
    (hg : w.grownBy w' (some nb)) : Rd w' lo (some ⟨gd, 0, none⟩) m l := by
  rcases Nat.eq_zero_or_pos m with hm | hm
  · subst hm; exact ⟨h.1, fun h => absurd h (by omega)⟩
  · have hne : gd ≠ nb := by
      rintro rfl
      obtain ⟨c, _, hc⟩ := h.cell (k := 0) hm
      rw [Nat.zero_add, cell_of_row w gd 0 cs T fr hrow, h0] at hc
      injection hc with hc
      injection hc with hc
      exact hk hc
    obtain ⟨c, _, hc0⟩ := h.cell (k := 0) hm
    have hlt : gd < w.heap.size := World.block_lt_of_cell? w _ hc0
    have hb := hg.block gd hlt (fun e => hne (Option.some.inj e))
    refine ⟨h.1, fun _ => ?_⟩
    obtain ⟨g', o', e, hl, hc⟩ := h.2 hm
    refine ⟨g', o', e, hl, fun j u hu => ?_⟩
    have he : gd = g' := by injection e with e; injection e
    have := hc j u hu
    unfold World.cell? at this ⊢
    simp only at this ⊢
    rw [← he] at this ⊢
    rw [hb]
    exact this
def St.emp : St := ⟨fun v _ => ∃ g, v = .slice (some ⟨g, 0, none⟩) 0 0, fun _ _ _ h _ => h⟩

theorem results_cell2 {fn : Func} {a e b : Nat} {k : Nat} {ty : TypeId} {w : World} {cs : Array Value} {T : TypeId} {m : Nat × Nat} {tmps : Array Value} {v : Value} (hi : (Try.prog.info? ty).map (·.size) = some k) (hu : ∃ fs, Try.prog.underlying ty = some (.struct fs))
    (hrow : w.heap[b]? = some (.cells cs T m)) (hk : cs.size = k) (hr : fn.results = #[.cell a ty, .tmp e]) (ha : tmps.getD a undef = .pointer (some ⟨b, 0, none⟩)) (he : tmps.getD e undef = v) :
    (results fn tmps).run Try.prog w = .ok (.tuple #[.agg cs, v]) w := by
  subst hk
  obtain ⟨fs, hu⟩ := hu
  have := run_loadVar_row (P := Try.prog) w b T ty cs m _ hrow hu rfl hi
  rw [Array.getD_eq_getD_getElem?] at ha he
  simp [results, hr, ha, he, asAddr, this]

theorem OwnV.slOk {w : World} {e : TypeId} {lo g n c : Nat} {xs : List Value} (h : OwnV e w lo g n c xs) : SlOk (some ⟨g, 0, none⟩) n c := ⟨h.out.2.2.1, h.out.2.2.2.1, fun e => by cases e⟩
theorem szSeg : (Try.prog.info? 26).map (·.size) = some 8 := by kernel_rfl
theorem uSeg : ∃ fs, Try.prog.underlying 26 = some (.struct fs) := ⟨_, Try.underlying26⟩

structure Sg where
  sp : Nat
  dp : Nat
  sq : Nat
  ak : Nat
  fl : UInt8
  wn : Nat
  ms : Nat
  data : List UInt8

/-- the segment of bytes, or an error's number -/
def out9 (src dst l : List UInt8) : Int ⊕ Sg :=
  if l.length < 20 then .inl 6
  else if 4 * ((l.getD 12 0).toNat / 16) < 20 then .inl 7
  else if l.length < 4 * ((l.getD 12 0).toNat / 16) then .inl 6
  else if 1000 < l.length then .inl 4
  else if Ck.ck (pseudo src dst 6 l.length ++ l) ≠ 65535 then .inl 8
  else match opts ((l.take (4 * ((l.getD 12 0).toNat / 16))).drop 20) 0 with
    | none => .inl 7
    | some k => .inr ⟨be (l.take 2), be ((l.take 4).drop 2), be ((l.take 8).drop 4), be ((l.take 12).drop 8), UInt8.ofNat ((l.getD 13 0).toNat % 32), be ((l.take 16).drop 14),
        if (l.getD 13 0).toNat / 2 % 2 = 0 then 0 else k, l.drop (4 * ((l.getD 12 0).toNat / 16))⟩

/-- no segment -/
def SegNo (w : World) (k : Int) (e : Ending) (w' : World) : Prop := Kp w w' ∧ e = .returned (.tuple #[.agg #[.int .u16 0, .int .u16 0, .int .u32 0, .int .u32 0, .int .u8 0, .int .u16 0, .int .u16 0, .slice none 0 0], .int .i64 k])
/-- this segment: its data lie in new memory -/
def SegOk (w : World) (s : Sg) (e : Ending) (w' : World) : Prop :=
  Kp w w' ∧ ∃ A c, e = .returned (.tuple #[.agg #[.int .u16 (s.sp : Int), .int .u16 (s.dp : Int), .int .u32 (s.sq : Int), .int .u32 (s.ak : Int), .int .u8 (s.fl.toNat : Int), .int .u16 (s.wn : Int), .int .u16 (s.ms : Int), .slice A s.data.length c], .int .i64 0]) ∧ Rd w' w.heap.size A s.data.length s.data ∧ SlOk A s.data.length c
def SegFits (s : Sg) : Prop := s.sp ≤ 65535 ∧ s.dp ≤ 65535 ∧ s.sq < 4294967296 ∧ s.ak < 4294967296 ∧ s.fl.toNat ≤ 31 ∧ s.wn ≤ 65535 ∧ s.ms ≤ 65535 ∧ (s.ms ≠ 0 → s.fl.toNat / 2 % 2 = 1)
def O9Post (w : World) (src dst l : List UInt8) (e : Ending) (w' : World) : Prop :=
  (∃ k, k ≠ 0 ∧ out9 src dst l = .inl k ∧ SegNo w k e w') ∨ ∃ s : Sg, out9 src dst l = .inr s ∧ SegFits s ∧ s.data.length ≤ 980 ∧ SegOk w s e w'

theorem and_31 (x : UInt8) : bits BinOp.and IntKind.u8 (x.toNat : Int) 31 = ((x.toNat % 32 : Nat) : Int) := by
  have h : ∀ n : Fin 256, bits BinOp.and IntKind.u8 ((n.val : Nat) : Int) 31 = ((n.val % 32 : Nat) : Int) := by decide +kernel
  exact h ⟨x.toNat, x.toNat_lt⟩
theorem opts_le : ∀ (q : Nat) (l : List UInt8) (m k : Nat), l.length ≤ q → m ≤ 65535 → opts l m = some k → k ≤ 65535 := by
  intro q
  induction q with
  | zero =>
    intro l m k hl hm h
    obtain rfl : l = [] := List.eq_nil_of_length_eq_zero (by omega)
    rw [opts_nil] at h
    injection h with h
    omega
  | succ q ih =>
    intro l m k hl hm h
    rcases l with _ | ⟨x, r⟩
    · rw [opts_nil] at h; injection h with h; omega
    · rw [List.length_cons] at hl
      by_cases h0 : x = 0
      · subst h0; rw [opts_zero] at h; injection h with h; omega
      by_cases h1 : x = 1
      · subst h1; rw [opts_one] at h; exact ih r m k (by omega) hm h
      by_cases hb : r = [] ∨ sec r < 2 ∨ r.length + 1 < sec r ∨ (x = 2 ∧ sec r ≠ 4)
      · rw [opts_bad x r m h0 h1 hb] at h; cases h
      · rw [opts_go x r m h0 h1 hb] at h
        refine ih _ _ k ?_ ?_ h
        · rw [List.length_drop]; omega
        · split
          · exact be2_le _ (by rw [List.length_take]; omega)
          · exact hm

/-- bytes stay where a cell of another block is turned; such a block does not begin with a byte -/
theorem rd0_cell {w : World} {lo gd m nb j : Nat} {l : List UInt8} {cs : Array Value} {T : TypeId} {fr : Nat × Nat} {k : IntKind} {z : Int} {u : Value} (h : Rd w lo (some ⟨gd, 0, none⟩) m l) (hrow : w.heap[nb]? = some (.cells cs T fr)) (h0 : cs[0]? = some (.int k z)) (hk : k ≠ .u8) :
    Rd (w.setCell ⟨nb, j, none⟩ u) lo (some ⟨gd, 0, none⟩) m l := by
  rcases Nat.eq_zero_or_pos m with hm | hm
  · subst hm; exact ⟨h.1, fun h => absurd h (by omega)⟩
  · have hne : gd ≠ nb := by
      rintro rfl
      obtain ⟨c, _, hc⟩ := h.cell (k := 0) hm
      rw [Nat.zero_add, cell_of_row w gd 0 cs T fr hrow, h0] at hc
      injection hc with hc
      injection hc with hc
      exact hk hc
    refine ⟨h.1, fun _ => ?_⟩
    obtain ⟨g', o', e, hl, hc⟩ := h.2 hm
    refine ⟨g', o', e, hl, fun i v hv => ?_⟩
    have he : gd = g' := by injection e with e; injection e
    rw [World.cell?_setCell_other _ _ _ _ (fun e => by have := congrArg Addr.block e; simp at this; omega)]
    exact hc i v hv
end Go.Proofs.Ytnoobifdaldfiaa
