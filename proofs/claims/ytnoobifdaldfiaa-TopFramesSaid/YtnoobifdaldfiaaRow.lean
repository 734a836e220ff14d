/-
  A whole struct out of a block and into it: one step for all its cells. No program in sight.
-/
import Derived.Test.YtnoobifdaldfiaaMem
import Derived.Deep.WholeRow
import Derived.Laws.CopyRow
namespace Go.Proofs.Ytnoobifdaldfiaa
open Go.RowKit
set_option maxRecDepth 100000
section
variable {P : Program} {w w' w0 : World} {b n : Nat} {cs cur : Array Value} {T : TypeId} {m : Nat × Nat}

theorem ld_row (h : w.heap[b]? = some (.cells cs T m)) (hn : cs.size = n) : (loadCellsFrom ⟨b, 0, none⟩ 0 n #[]).run P w = .ok cs w := by
  subst hn
  have := run_loadCells_list (P := P) w ⟨b, 0, none⟩ cs.toList (fun j v hv => by
    have hadd : (⟨b, 0, none⟩ : Addr).add j = ⟨b, j, none⟩ := by unfold Addr.add; split <;> simp_all
    rw [hadd, cell_of_row _ _ j cs T m h]
    simpa using hv)
  simpa [loadCells] using this
theorem st_row (h : w.heap[b]? = some (.cells cur T (0, 0))) (vs : List Value) (hl : vs.length = cur.size) (h1 : vs.all (·.oneCell') = true) : (storeCells ⟨b, 0, none⟩ vs 0).run P w = .ok () (w.setRow b vs.toArray) := by
  have := run_storeCells_at (P := P) b 0 T vs 0 cur w h (by omega) (fun v hv => (List.all_eq_true.1 h1) v hv)
  rw [this]
  congr 2
  simp [hl]
theorem setRow_below (h : Below n w w') (hb : n ≤ b) : Below n w (w'.setRow b cs) :=
  ⟨h.os, h.tape, h.output, by simpa [World.setRow] using h.size, fun k hk => (setRow_other w' b k cs (by omega)).trans (h.block k hk)⟩
theorem Kp.setRow (h : Kp w w') (hb : w.heap.size ≤ b) : Kp w (w'.setRow b cs) := setRow_below h hb
theorem RdV.setRow {lo k : Nat} {A : Option Addr} {xs : List Value} (h : RdV w lo A k xs) (hb : b < lo) : RdV (w.setRow b cs) lo A k xs :=
  ⟨h.1, fun hn => by
    obtain ⟨g, off, e, hl, hc⟩ := h.2 hn
    refine ⟨g, off, e, hl, fun j u hu => ?_⟩
    have := hc j u hu
    unfold World.cell? at this ⊢
    simp only at this ⊢
    rw [setRow_other w b g cs (by omega)]
    exact this⟩

/-- a whole struct into its block -/
theorem lst_row {ops : Array Oper} {rest : List Oper} {o : Oper} {a : Act} {Q : Exit → Act → World → Prop} (hw : Region.wanted o (yielded ops a.tmps) = true) (p x : Operand) (ty : TypeId) (ho : o.op = .store ty p x)
    (hp : a.eval p = .pointer (some ⟨b, 0, none⟩)) (hx : a.eval x = .agg cs) (hrow : w.heap[b]? = some (.cells cur T (0, 0))) (hi : (P.info? ty).map (·.size) = some cs.size) (hc : cur.size = cs.size) (h1 : cs.toList.all (·.oneCell') = true) (hd : o.dst = none)
    (h : wpList P ops Q rest a (w.setRow b cs)) : wpList P ops Q (o :: rest) a w := by
  have hr := run_storeVar_row (P := P) w b T ty cur cs hrow hi hc (by rw [← Array.all_toList]; exact h1)
  unfold wpList
  rw [if_pos hw]
  refine .inl ?_
  unfold Oper.wp execOp
  simp only [ho, hp, hx, Instr.storeAt, Instr.sureAddr, Sem.run_bind, Sem.run_pure, Result.andThen_ok, hr]
  rw [Oper.upon_skip, hd]
  exact h
theorem lst_new {ops : Array Oper} {rest : List Oper} {o : Oper} {a : Act} {Q : Exit → Act → World → Prop} (hw : Region.wanted o (yielded ops a.tmps) = true) (p x : Operand) (ty : TypeId) (ho : o.op = .store ty p x)
    (hp : a.eval p = .pointer (some ⟨w.heap.size, 0, none⟩)) (hx : a.eval x = .agg cs) (hi : (P.info? ty).map (·.size) = some cs.size) (hc : cur.size = cs.size) (h1 : cs.toList.all (·.oneCell') = true) (hd : o.dst = none)
    (h : wpList P ops Q rest a (w.alloc (.cells cs T))) : wpList P ops Q (o :: rest) a (w.alloc (.cells cur T)) := by
  refine lst_row hw p x ty ho hp hx (heap_alloc_last w _) hi hc h1 hd ?_
  rw [World.setRow_alloc_new]
  exact h
/-- a whole struct out of its block -/
theorem lld_row {ops : Array Oper} {rest : List Oper} {o : Oper} {a : Act} {Q : Exit → Act → World → Prop} (hw : Region.wanted o (yielded ops a.tmps) = true) (p : Operand) (ty : TypeId) (d : TypeDesc) (ho : o.op = .load ty p)
    (hp : a.eval p = .pointer (some ⟨b, 0, none⟩)) (hrow : w.heap[b]? = some (.cells cs T m)) (hu : P.underlying ty = some d) (hd : (match d with | .struct _ | .array _ _ => true | _ => false) = true) (hi : (P.info? ty).map (·.size) = some cs.size)
    (h : wpList P ops Q rest (a.put o.dst (.agg cs)) w) : wpList P ops Q (o :: rest) a w := by
  have hr := run_loadVar_row (P := P) w b T ty cs m d hrow hu hd hi
  unfold wpList
  rw [if_pos hw]
  refine .inl ?_
  unfold Oper.wp execOp
  simp only [ho, hp, Instr.loadAt, Instr.sureAddr, Sem.run_bind, Sem.run_pure, Result.andThen_ok, hr]
  exact h
/-- one operation whose run is known -/
theorem lstep {ops : Array Oper} {rest : List Oper} {o : Oper} {a : Act} {Q : Exit → Act → World → Prop} {v : Value} (hw : Region.wanted o (yielded ops a.tmps) = true)
    (hrun : (execOp a.eval o).run P w = .ok (.value v) w') (h : wpList P ops Q rest (a.put o.dst v) w') : wpList P ops Q (o :: rest) a w := by
  unfold wpList
  rw [if_pos hw]
  refine .inl ?_
  unfold Oper.wp
  rw [hrun]
  exact h
theorem run_build0 {ty : TypeId} {a : Act} {o : Oper} (ho : o.op = .build ty #[]) (hz : (Instr.build ty #[]).run P w = .ok (.agg cs) w) : (execOp a.eval o).run P w = .ok (.value (.agg cs)) w := by
  simp [execOp, ho, hz]
theorem run_build1 {ty : TypeId} {a : Act} {o : Oper} {k : Nat} {x : Operand} {u v : Value} (ho : o.op = .build ty #[(k, x)]) (hx : a.eval x = u) (hz : (Instr.build ty #[(k, u)]).run P w = .ok v w) : (execOp a.eval o).run P w = .ok (.value v) w := by
  simp [execOp, ho, hx, hz]
theorem run_alloc1 {ty : TypeId} {a : Act} {o : Oper} {v : Value} (ho : o.op = .alloc ty) (hz : (Instr.alloc ty true (.tuple #[])).run P w = .ok v w') : (execOp a.eval o).run P w = .ok (.value v) w' := by
  simp [execOp, ho, hz]
/-- the same store as one step of a region that draws its order -/
theorem ost_row {o : Oper} {a : Act} {K : Act → World → Prop} {Q : Exit → Act → World → Prop} (p x : Operand) (ty : TypeId) (ho : o.op = .store ty p x) (hd : o.dst = none)
    (hp : a.eval p = .pointer (some ⟨b, 0, none⟩)) (hx : a.eval x = .agg cs) (hrow : w.heap[b]? = some (.cells cur T (0, 0))) (hi : (P.info? ty).map (·.size) = some cs.size) (hc : cur.size = cs.size) (h1 : cs.toList.all (·.oneCell') = true)
    (h : K a (w.setRow b cs)) : Oper.wp P o a w K Q := by
  have hr := run_storeVar_row (P := P) w b T ty cur cs hrow hi hc (by rw [← Array.all_toList]; exact h1)
  unfold Oper.wp execOp
  simp only [ho, hp, hx, Instr.storeAt, Instr.sureAddr, Sem.run_bind, Sem.run_pure, Result.andThen_ok, hr]
  rw [Oper.upon_skip, hd]
  exact h
end
end Go.Proofs.Ytnoobifdaldfiaa
