/-
  Parts laid together: both, lay; holes that share nothing: clone, Age; at no hole or at one.
-/
import Derived.Test.YtnoobifdaldfiaaTb
import Derived.Test.YtnoobifdaldfiaaStableR
import Derived.Deep.RegionLaw
namespace Go.Proofs.Ytnoobifdaldfiaa.Fr
open Go.RowKit
set_option maxRecDepth 100000

section
variable {P : Program}
theorem cells_lit (w : World) (vs : List Value) (T : TypeId) (m : Nat × Nat) (B : Nat) (hB : w.heap.size = B) : ∀ j u, vs[j]? = some u → (w.alloc (.cells vs.toArray T m)).cell? ((⟨B, 0, none⟩ : Addr).add j) = some u := by
  subst hB
  intro j u h
  have hadd : (⟨w.heap.size, 0, none⟩ : Addr).add j = ⟨w.heap.size, j, none⟩ := by unfold Addr.add; split <;> simp_all
  rw [hadd, cell_of_row _ _ j _ _ _ (heap_alloc_new w _)]
  simpa using h
/-- one struct onto no struct: a new row -/
theorem lapp_one {W : World} {ops : Array Oper} {rest : List Oper} {o : Oper} {a : Act} {Q : Exit → Act → World → Prop} {e t : TypeId} {z : Value} {k bytes B c : Nat} (hw : o.guard = none) (s x : Operand) (vs : List Value) (lo : Nat)
    (ho : o.op = .call { callee := .builtin .append, args := #[s, x], argTypes := #[t, t] }) (hs : a.eval s = .slice none 0 0) (hx : a.eval x = .slice (some ⟨B, 0, none⟩) 1 c)
    (ht : P.underlying t = some (.slice e)) (hi : (P.info? e).map (fun i => (i.zero, i.size, i.bytes)) = some (some z, k, bytes)) (hzs : z.cells.size = k) (hk : 0 < k) (hl : vs.length = 1 * k) (h1 : vs.all (·.oneCell') = true) (hb : 1 * bytes ≤ 140737488355328)
    (hc : ∀ j u, vs[j]? = some u → W.cell? ((⟨B, 0, none⟩ : Addr).add j) = some u) (hlo : lo ≤ W.heap.size)
    (h : ∀ g cap w', w'.ownsRow lo e k (.slice (some ⟨g, 0, none⟩) 1 cap) 1 vs → Kp W w' → W.heap.size ≤ g → wpList P ops Q rest (a.put o.dst (.slice (some ⟨g, 0, none⟩) 1 cap)) w') : wpList P ops Q (o :: rest) a W := by
  obtain ⟨i0, hi0, hz0, hz1, hz2⟩ := info_parts hi
  refine wpList_append_own W hw s x t ho W.heap.size e i0 z k bytes ht hi0 hz0 hz1 hz2 hzs hk (.slice none 0 0) 0 [] hs (World.ownsRow_nil _ _ _ _) ⟨B, 0, none⟩ 1 c vs hx hl hc (fun u hu => (List.all_eq_true.1 h1) u hu) (by simp [maxLen]) (by simpa using hb) (Nat.le_refl _) ?_
  intro v' w' hown hgr _
  obtain ⟨g, cap, rfl, hg, _⟩ := orow_succ hown
  exact h g cap w' (orow_lo (by simpa using hown) hlo) (kp_new hgr) hg
theorem step_copy8m {w : World} {e : TypeId} {g : Nat} {ops : Array Oper} {o : Oper} {a : Act} {K : Act → World → Prop} {Q : Exit → Act → World → Prop} {E : Prop} (hgd : o.guard = none) (d s : Operand) (dT sT : TypeId)
    (ho : o.op = .call { callee := .builtin .copy, args := #[d, s], argTypes := #[dT, sT] }) (hu : P.underlying dT = some (.slice e)) (hsz : (P.info? e).map (·.size) = some 1)
    {off k D dCap sCap lo' : Nat} {A : Option Addr} {l : List UInt8} {cur : Array Value} {t : TypeId} (hd : a.eval d = .slice (some ⟨g, off, none⟩) D dCap) (hs : a.eval s = .slice A k sCap) (hk : 0 < k) (hkD : k ≤ D)
    (hg : w.heap[g]? = some (.cells cur t (0, 0))) (hr : Rd w lo' A k l) (hfit : off + k ≤ cur.size)
    (h : ∀ w', w'.heap[g]? = some (.cells (cur.toList.take off ++ (bvs l ++ cur.toList.drop (off + k))).toArray t (0, 0)) → w.grownBy w' (some g) → K (a.put o.dst (goInt k)) w') :
    if Region.wanted o (yielded ops a.tmps) = true then Oper.wp P o a w K Q else E := by
  have hw : Region.wanted o (yielded ops a.tmps) = true := by simp [Region.wanted, hgd]
  rw [if_pos hw]
  obtain ⟨b, off', rfl, _, hc⟩ := hr.2 hk
  have hl : (bvs l).length = k := hr.1
  have add_plain : ∀ (b off j : Nat), (⟨b, off, none⟩ : Addr).add j = ⟨b, off + j, none⟩ := by intro b off j; unfold Addr.add; split <;> simp_all
  have hrun := run_copy_row (P := P) w dT sT o.type e g off D dCap ⟨b, off', none⟩ k sCap cur t (bvs l) hu hsz hg (by rw [hl]; exact (Nat.min_eq_left hkD).symm) (fun j u hj => by rw [add_plain]; exact hc j u hj) (by rw [hl]; exact hfit) (bvs_one l)
  unfold Oper.wp
  simp [execOp, ho, resolve, invoke, builtin, hd, hs, hrun, Result.andThen]
  rw [hl]
  refine h _ (setRow_heap w g cur _ t _ hg) ⟨rfl, rfl, rfl, by simp, fun j _ hj => setRow_other w g j _ (fun e => hj (by rw [e]))⟩
end

theorem lapp_part {W : World} {ops : Array Oper} {rest : List Oper} {o : Oper} {a : Act} {Q : Exit → Act → World → Prop} {B c : Nat} (hw : o.guard = none) (s x : Operand) (off : Int) (A : Option Addr) (n k : Nat) (lo : Nat)
    (ho : o.op = .call { callee := .builtin .append, args := #[s, x], argTypes := #[88, 88] }) (hs : a.eval s = .slice none 0 0) (hx : a.eval x = .slice (some ⟨B, 0, none⟩) 1 c)
    (hc : ∀ j u, ([.int .i64 off, .slice A n k] : List Value)[j]? = some u → W.cell? ((⟨B, 0, none⟩ : Addr).add j) = some u) (hlo : lo ≤ W.heap.size)
    (h : ∀ g cap w', w'.ownsRow lo 98 2 (.slice (some ⟨g, 0, none⟩) 1 cap) 1 [.int .i64 off, .slice A n k] → Kp W w' → W.heap.size ≤ g → wpList Try.prog ops Q rest (a.put o.dst (.slice (some ⟨g, 0, none⟩) 1 cap)) w') : wpList Try.prog ops Q (o :: rest) a W :=
  lapp_one hw s x [.int .i64 off, .slice A n k] lo ho hs hx Try.underlying88 infoPart rfl (by decide) rfl (by simp [Value.oneCell']) (by decide) hc hlo h
theorem lapp_hole {W : World} {ops : Array Oper} {rest : List Oper} {o : Oper} {a : Act} {Q : Exit → Act → World → Prop} {B c : Nat} (hw : o.guard = none) (s x : Operand) (s0 s1 s2 s3 d0 d1 d2 d3 : UInt8) (tot : Int) (A : Option Addr) (n k : Nat) (lo : Nat)
    (ho : o.op = .call { callee := .builtin .append, args := #[s, x], argTypes := #[39, 39] }) (hs : a.eval s = .slice none 0 0) (hx : a.eval x = .slice (some ⟨B, 0, none⟩) 1 c)
    (hc : ∀ j u, ([.int .u8 (s0.toNat : Int), .int .u8 (s1.toNat : Int), .int .u8 (s2.toNat : Int), .int .u8 (s3.toNat : Int), .int .u8 (d0.toNat : Int), .int .u8 (d1.toNat : Int), .int .u8 (d2.toNat : Int), .int .u8 (d3.toNat : Int), .int .u8 6, .int .u16 7, .int .u8 64, .int .u64 0, .int .i64 tot, .slice A n k] : List Value)[j]? = some u → W.cell? ((⟨B, 0, none⟩ : Addr).add j) = some u) (hlo : lo ≤ W.heap.size)
    (h : ∀ g cap w', w'.ownsRow lo 90 14 (.slice (some ⟨g, 0, none⟩) 1 cap) 1 [.int .u8 (s0.toNat : Int), .int .u8 (s1.toNat : Int), .int .u8 (s2.toNat : Int), .int .u8 (s3.toNat : Int), .int .u8 (d0.toNat : Int), .int .u8 (d1.toNat : Int), .int .u8 (d2.toNat : Int), .int .u8 (d3.toNat : Int), .int .u8 6, .int .u16 7, .int .u8 64, .int .u64 0, .int .i64 tot, .slice A n k] → Kp W w' → W.heap.size ≤ g → wpList Try.prog ops Q rest (a.put o.dst (.slice (some ⟨g, 0, none⟩) 1 cap)) w') : wpList Try.prog ops Q (o :: rest) a W :=
  lapp_one hw s x [.int .u8 (s0.toNat : Int), .int .u8 (s1.toNat : Int), .int .u8 (s2.toNat : Int), .int .u8 (s3.toNat : Int), .int .u8 (d0.toNat : Int), .int .u8 (d1.toNat : Int), .int .u8 (d2.toNat : Int), .int .u8 (d3.toNat : Int), .int .u8 6, .int .u16 7, .int .u8 64, .int .u64 0, .int .i64 tot, .slice A n k] lo ho hs hx Try.underlying39 infoHole rfl (by decide) rfl (by simp [Value.oneCell']) (by decide) hc hlo h
theorem lapp_pkt {W : World} {ops : Array Oper} {rest : List Oper} {o : Oper} {a : Act} {Q : Exit → Act → World → Prop} {B c : Nat} (hw : o.guard = none) (s x : Operand) (s0 s1 s2 s3 d0 d1 d2 d3 : UInt8) (mo : Bool) (off : Int) (A : Option Addr) (n k : Nat) (lo : Nat)
    (ho : o.op = .call { callee := .builtin .append, args := #[s, x], argTypes := #[34, 34] }) (hs : a.eval s = .slice none 0 0) (hx : a.eval x = .slice (some ⟨B, 0, none⟩) 1 c)
    (hc : ∀ j u, ([.int .u16 7, .bool mo, .int .i64 off, .int .u8 64, .int .u8 6, .int .u8 (s0.toNat : Int), .int .u8 (s1.toNat : Int), .int .u8 (s2.toNat : Int), .int .u8 (s3.toNat : Int), .int .u8 (d0.toNat : Int), .int .u8 (d1.toNat : Int), .int .u8 (d2.toNat : Int), .int .u8 (d3.toNat : Int), .slice A n k] : List Value)[j]? = some u → W.cell? ((⟨B, 0, none⟩ : Addr).add j) = some u) (hlo : lo ≤ W.heap.size)
    (h : ∀ g cap w', w'.ownsRow lo 38 14 (.slice (some ⟨g, 0, none⟩) 1 cap) 1 [.int .u16 7, .bool mo, .int .i64 off, .int .u8 64, .int .u8 6, .int .u8 (s0.toNat : Int), .int .u8 (s1.toNat : Int), .int .u8 (s2.toNat : Int), .int .u8 (s3.toNat : Int), .int .u8 (d0.toNat : Int), .int .u8 (d1.toNat : Int), .int .u8 (d2.toNat : Int), .int .u8 (d3.toNat : Int), .slice A n k] → Kp W w' → W.heap.size ≤ g → wpList Try.prog ops Q rest (a.put o.dst (.slice (some ⟨g, 0, none⟩) 1 cap)) w') : wpList Try.prog ops Q (o :: rest) a W :=
  lapp_one hw s x [.int .u16 7, .bool mo, .int .i64 off, .int .u8 64, .int .u8 6, .int .u8 (s0.toNat : Int), .int .u8 (s1.toNat : Int), .int .u8 (s2.toNat : Int), .int .u8 (s3.toNat : Int), .int .u8 (d0.toNat : Int), .int .u8 (d1.toNat : Int), .int .u8 (d2.toNat : Int), .int .u8 (d3.toNat : Int), .slice A n k] lo ho hs hx Try.underlying34 infoPkt rfl (by decide) rfl (by simp [Value.oneCell']) (by decide) hc hlo h
theorem uPart : ∃ fs, Try.prog.underlying 98 = some (.struct fs) := ⟨_, Try.underlying98⟩
theorem results_cell1 {fn : Func} {a b : Nat} {k : Nat} {ty : TypeId} {w : World} {cs : Array Value} {T : TypeId} {m : Nat × Nat} {tmps : Array Value} (hi : (Try.prog.info? ty).map (·.size) = some k) (hu : ∃ fs, Try.prog.underlying ty = some (.struct fs))
    (hrow : w.heap[b]? = some (.cells cs T m)) (hk : cs.size = k) (hr : fn.results = #[.cell a ty]) (ha : tmps.getD a undef = .pointer (some ⟨b, 0, none⟩)) :
    (results fn tmps).run Try.prog w = .ok (.agg cs) w := by
  subst hk
  obtain ⟨fs, hu⟩ := hu
  have hv := run_loadVar_row (P := Try.prog) w b T ty cs m _ hrow hu rfl hi
  rw [Array.getD_eq_getD_getElem?] at ha
  simp [results, hr, ha, asAddr, hv]
theorem results_cell4 {fn : Func} {a e e1 e2 b : Nat} {k : Nat} {ty : TypeId} {w : World} {cs : Array Value} {T : TypeId} {m : Nat × Nat} {tmps : Array Value} {v v1 v2 : Value} (hi : (Try.prog.info? ty).map (·.size) = some k) (hu : ∃ fs, Try.prog.underlying ty = some (.struct fs))
    (hrow : w.heap[b]? = some (.cells cs T m)) (hk : cs.size = k) (hr : fn.results = #[.tmp e, .cell a ty, .tmp e1, .tmp e2]) (ha : tmps.getD a undef = .pointer (some ⟨b, 0, none⟩)) (he : tmps.getD e undef = v) (he1 : tmps.getD e1 undef = v1) (he2 : tmps.getD e2 undef = v2) :
    (results fn tmps).run Try.prog w = .ok (.tuple #[v, .agg cs, v1, v2]) w := by
  subst hk
  obtain ⟨fs, hu⟩ := hu
  have hv := run_loadVar_row (P := Try.prog) w b T ty cs m _ hrow hu rfl hi
  rw [Array.getD_eq_getD_getElem?] at ha he he1 he2
  simp [results, hr, ha, he, he1, he2, asAddr, hv]
theorem rd_of_row {w : World} {g lo n : Nat} {cur : Array Value} {T : TypeId} {m : Nat × Nat} {L : List UInt8} (h : w.heap[g]? = some (.cells cur T m)) (hl : cur.toList = bvs L) (hL : L.length = n) (hg : lo ≤ g) : Rd w lo (some ⟨g, 0, none⟩) n L :=
  ⟨by simp [bvs, hL], fun _ => ⟨g, 0, rfl, hg, fun j u hu => by
    rw [Nat.zero_add, cell_of_row w g j cur T m h, ← Array.getElem?_toList, hl]
    exact hu⟩⟩

theorem make8 (w : World) (k : Nat) (hk : k ≤ 1048576) :
    ∃ w', (Instr.makeSlice 24 (.int .i64 (k : Int)) (.int .i64 (k : Int))).run Try.prog w = .ok (.slice (some ⟨w.heap.size, 0, none⟩) k k) w' ∧
      OwnV 5 w' w.heap.size w.heap.size k k (bvs (List.replicate k 0)) ∧ Kp w w' := by
  obtain ⟨i0, hi0, hz0, hz1, hz2⟩ := info_parts info5
  have hr := run_make (P := Try.prog) w 24 5 i0 _ Try.underlying24 hi0 hz0 .i64 .i64 (k : Int) (k : Int) (by omega) (Int.le_refl _) (by rw [hz2]; omega) (by omega)
  simp only [Int.toNat_natCast] at hr
  refine ⟨_, hr, ?_, (Kp.refl w).alloc _⟩
  have e : madeCells (Value.int .u8 0).cells (k * i0.size) = (bvs (List.replicate k 0)).toArray := by
    rw [hz1, Nat.mul_one]
    apply Array.toList_inj.1
    apply List.ext_getElem?
    intro j
    simp only [madeCells, bvs]
    by_cases hj : j < k
    · simp [hj, Value.cells, Nat.mod_one]
    · simp [hj]
  rw [e]
  exact OwnV.lit rfl (Nat.le_refl _) (by simp [bvs]) (by unfold maxLen; omega)

set_option maxHeartbeats 2000000 in
theorem both_any (w : World) (A1 A2 : Option Addr) (n2 c1 c2 : Nat) (l1 l2 : List UInt8) (h1 : Rd w 0 A1 176 l1) (h2 : Rd w 0 A2 n2 l2) (hn : 0 < n2 ∧ n2 ≤ 4) :
    Calls Try.prog 57 #[.agg #[.int .i64 176, .slice A2 n2 c2], .agg #[.int .i64 0, .slice A1 176 c1]] w
      fun e w' => Kp w w' ∧ ∃ g N cap, N = 176 + n2 ∧ e = .returned (.agg #[.int .i64 0, .slice (some ⟨g, 0, none⟩) N cap]) ∧ Rd w' w.heap.size (some ⟨g, 0, none⟩) N (l1 ++ l2) ∧ SlOk (some ⟨g, 0, none⟩) N cap := by
  have H1 := Lib.hid h1
  have H2 := Lib.hid h2
  clear h1 h2
  have HL1 := Lib.hid H1.out.len
  have HL2 := Lib.hid H2.out.len
  obtain ⟨W3, hW3⟩ : ∃ W3, ((w.alloc (.cells #[.int .i64 176, .slice A2 n2 c2] 98)).alloc (.cells #[.int .i64 0, .slice A1 176 c1] 98)).alloc (.cells #[.int .i64 0, .slice none 0 0] 98) = W3 := ⟨_, rfl⟩
  have hk3 : Kp w W3 := by rw [← hW3]; exact (((Kp.refl _).alloc _).alloc _).alloc _
  have hs3 : W3.heap.size = w.heap.size + 1 + 1 + 1 := by rw [← hW3]; simp
  have r0 : W3.heap[w.heap.size]? = some (.cells #[.int .i64 176, .slice A2 n2 c2] 98 (0, 0)) := by
    rw [← hW3]
    exact (Below.heap_alloc _ _ _ (by simp; omega)).trans ((Below.heap_alloc _ _ _ (by simp)).trans (heap_alloc_new w _))
  have r1 : W3.heap[w.heap.size + 1]? = some (.cells #[.int .i64 0, .slice A1 176 c1] 98 (0, 0)) := by
    rw [← hW3]
    refine (Below.heap_alloc _ _ _ (by simp)).trans ?_
    have := heap_alloc_new (w.alloc (.cells #[.int .i64 176, .slice A2 n2 c2] 98)) (.cells #[.int .i64 0, .slice A1 176 c1] 98)
    rw [show (w.alloc (.cells #[.int .i64 176, .slice A2 n2 c2] 98)).heap.size = w.heap.size + 1 by simp] at this
    exact this
  have r2 : W3.heap[w.heap.size + 1 + 1]? = some (.cells #[.int .i64 0, .slice none 0 0] 98 (0, 0)) := by
    rw [← hW3]
    have := heap_alloc_new ((w.alloc (.cells #[.int .i64 176, .slice A2 n2 c2] 98)).alloc (.cells #[.int .i64 0, .slice A1 176 c1] 98)) (.cells #[.int .i64 0, .slice none 0 0] 98)
    rw [show ((w.alloc (.cells #[.int .i64 176, .slice A2 n2 c2] 98)).alloc (.cells #[.int .i64 0, .slice A1 176 c1] 98)).heap.size = w.heap.size + 1 + 1 by simp] at this
    exact this
  obtain ⟨w4, mk, own4, hk4⟩ := make8 W3 (176 + n2) (by omega)
  have mk' : (Instr.makeSlice 24 (.int .i64 (176 + (n2 : Int))) (.int .i64 (176 + (n2 : Int)))).run Try.prog W3 = .ok (.slice (some ⟨W3.heap.size, 0, none⟩) (176 + n2) (176 + n2)) w4 := by simpa using mk
  have KD : ∀ W, Kp W3 W → (W.cell? ⟨w.heap.size, 0, none⟩ = some (.int .i64 176) ∧ W.cell? ⟨w.heap.size, 1, none⟩ = some (.slice A2 n2 c2) ∧ W.cell? ⟨w.heap.size + 1, 0, none⟩ = some (.int .i64 0) ∧ W.cell? ⟨w.heap.size + 1, 1, none⟩ = some (.slice A1 176 c1)) ∧
      W.heap[w.heap.size + 1 + 1]? = some (.cells #[.int .i64 0, .slice none 0 0] 98 (0, 0)) ∧ Rd W 0 A1 176 l1 ∧ Rd W 0 A2 n2 l2 := fun W hk => by
    have q0 := (hk.block _ (Array.getElem?_eq_some_iff.1 r0).1).trans r0
    have q1 := (hk.block _ (Array.getElem?_eq_some_iff.1 r1).1).trans r1
    have q2 := (hk.block _ (Array.getElem?_eq_some_iff.1 r2).1).trans r2
    exact ⟨⟨(cell_of_row W _ 0 _ _ _ q0).trans rfl, (cell_of_row W _ 1 _ _ _ q0).trans rfl, (cell_of_row W _ 0 _ _ _ q1).trans rfl, (cell_of_row W _ 1 _ _ _ q1).trans rfl⟩, q2, H1.out.keep (hk3.trans hk), H2.out.keep (hk3.trans hk)⟩
  have KDH := Lib.hid KD
  have HK3 := Lib.hid hk3
  have HMK := Lib.hid mk'
  have HS3 := Lib.hid hs3
  have HW3 := Lib.hid hW3
  clear KD hk3 mk mk' hs3 hW3 r0 r1 r2 H1 H2
  obtain ⟨g, hg⟩ : ∃ g, W3.heap.size = g := ⟨_, rfl⟩
  have hgl : w.heap.size + 1 + 1 < g ∧ W3.heap.size ≤ g := by rw [← hg, HS3.out]; omega
  obtain ⟨N, hN⟩ : ∃ N, 176 + n2 = N := ⟨_, rfl⟩
  obtain ⟨_, _, _, _, cur, hrow4, hcs, hct⟩ := own4.out
  have hmk : (Instr.makeSlice 24 (.int .i64 (176 + (n2 : Int))) (.int .i64 (176 + (n2 : Int)))).run Try.prog W3 = .ok (.slice (some ⟨g, 0, none⟩) N N) w4 := by
    have := HMK.out
    rw [hg, hN] at this
    exact this
  rw [hg] at hrow4
  rw [hN] at hcs
  clear own4 hct HMK
  have HG := Lib.hid hg
  have HN := Lib.hid hN
  clear hg hN
  go_enter Try.func57, Try.ntmps57
  have hW3 := HW3.out
  obtain ⟨⟨z0, z1, z2, z3⟩, _, _, _⟩ := KDH.out W3 (Kp.refl _)
  go_wp2
  clear hW3 HW3 z0 z1 z2 z3
  obtain ⟨⟨z0, z1, z2, z3⟩, _, rd1, rd2⟩ := KDH.out w4 hk4
  clear hmk
  have hN2 : 176 ≤ N ∧ N - 176 = n2 := by have := HN.out; omega
  have hN0 : ¬ N = 0 := by omega
  have hi1 : (176 : Int) ≤ (N : Int) := by omega
  have hi2 : ¬ N = 176 := by omega
  have hi3 : N - 176 = n2 := by omega
  have w00 : IntKind.i64.wrap 0 = 0 := rfl
  have w17 : IntKind.i64.wrap 176 = 176 := rfl
  go_region_law (refine step_copy8m rfl (.tmp 33) (.tmp 35) _ _ rfl Try.underlying24 szB rfl rfl (by decide) (by omega) hrow4 rd1 (by simp only [hcs]; omega) ?_; intro w5 hrow5 gr5; have hk5 := hk4.drew.grown gr5 hgl.2)
  all_goals
    obtain ⟨_, _, _, _, cur5, hrow5', hcs5⟩ : ∃ (_ _ _ _ : Unit) (cur5 : Array Value), w5.heap[g]? = some (.cells cur5 5 (0, 0)) ∧ cur5.toList = bvs l1 ++ cur.toList.drop 176 := ⟨(), (), (), (), _, hrow5, by simp⟩
    clear hrow5 z0 z1 z2 z3 rd1 rd2 hrow4 gr5
    have hc5 : cur5.size = N := by
      have h9 := congrArg List.length hcs5
      rw [List.length_append, List.length_drop] at h9
      simp only [Array.length_toList, bvs, List.length_map, HL1.out, hcs] at h9
      omega
    obtain ⟨⟨z0, z1, z2, z3⟩, _, rd1, rd2⟩ := KDH.out w5 hk5
    go_wp2
    go_region_law (refine step_copy8m rfl (.tmp 42) (.tmp 44) _ _ rfl Try.underlying24 szB rfl rfl (by omega) (by omega) hrow5' rd2 (by simp only [hc5]; omega) ?_; intro w6 hrow6 gr6; have hk6 := hk5.drew.grown gr6 hgl.2)
    all_goals
      clear z0 z1 z2 z3 rd1 rd2 hrow5' gr6
      obtain ⟨cur6, hrow6', hcs6⟩ : ∃ (cur6 : Array Value), w6.heap[g]? = some (.cells cur6 5 (0, 0)) ∧ cur6.toList = cur5.toList.take 176 ++ (bvs l2 ++ cur5.toList.drop (176 + n2)) := ⟨_, hrow6, by simp⟩
      have hl6 : cur6.toList = bvs (l1 ++ l2) := by
        have e1 : (bvs l1).length = 176 := by simp [bvs, HL1.out]
        rw [hcs6, hcs5, List.take_left' e1, List.drop_of_length_le (by rw [List.length_append, e1, List.length_drop, Array.length_toList, hcs]; omega), List.append_nil, bvs_append]
      obtain ⟨⟨z0, z1, z2, z3⟩, zr, _, _⟩ := KDH.out w6 hk6
      go_wp2_with (refine lst_row (by rfl) (.tmp 4) (.tmp 48) _ rfl rfl rfl zr szPart rfl rfl rfl ?_)
      have hk7 : Kp w (w6.setRow (w.heap.size + 1 + 1) #[.int .i64 0, .slice (some ⟨g, 0, none⟩) N N]) := (HK3.out.trans hk6).setRow (by omega)
      have hr7 : (w6.setRow (w.heap.size + 1 + 1) #[.int .i64 0, .slice (some ⟨g, 0, none⟩) N N]).heap[g]? = some (.cells cur6 5 (0, 0)) := (setRow_other w6 _ g _ (by omega)).trans hrow6'
      have hr8 : (w6.setRow (w.heap.size + 1 + 1) #[.int .i64 0, .slice (some ⟨g, 0, none⟩) N N]).heap[w.heap.size + 1 + 1]? = some (.cells #[.int .i64 0, .slice (some ⟨g, 0, none⟩) N N] 98 (0, 0)) := setRow_heap w6 _ _ _ _ _ zr
      have hL : (l1 ++ l2).length = N := by rw [List.length_append, HL1.out, HL2.out]; exact HN.out
      refine bodyPost_ret (v := .agg #[.int .i64 0, .slice (some ⟨g, 0, none⟩) N N]) (results_cell1 (fn := Try.f57) szPart uPart hr8 rfl Try.results57 rfl) rfl ⟨hk7, g, N, N, HN.out.symm, rfl, rd_of_row hr7 hl6 hL (by omega), ⟨Nat.le_refl _, by unfold maxLen; omega, fun e => by cases e⟩⟩
end Go.Proofs.Ytnoobifdaldfiaa.Fr
