/-
  append onto a row of bytes that the call itself made: the source nil, empty or not; under a guard or not. No program in sight.
-/
import Derived.Test.YtnoobifdaldfiaaMem
import Derived.Maps.AppendAt
import Derived.Laws.CopyOwn
namespace Go.Proofs.Ytnoobifdaldfiaa
open Go.RowKit
set_option maxRecDepth 100000

/-- the call's own row at the head of block g: n elements of type e, the values xs; room for cap -/
def OwnV (e : TypeId) (w : World) (lo g n cap : Nat) (xs : List Value) : Prop := w.ownsRow lo e 1 (.slice (some ⟨g, 0, none⟩) n cap) n xs

section
variable {P : Program} {e : TypeId} {w w' w0 : World} {lo g n cap : Nat} {xs : List Value} {l : List UInt8} {A : Option Addr}

theorem OwnV.mk' {cur : Array Value} (hlo : lo ≤ g) (hg : w.heap[g]? = some (.cells cur e (0, 0))) (hn : n ≤ cap) (hc : cap ≤ maxLen) (hs : cur.size = cap) (hx : cur.toList.take n = xs) : OwnV e w lo g n cap xs :=
  ⟨by subst hx; rw [List.length_take, Array.length_toList]; omega, .inr ⟨g, cap, cur, rfl, hlo, hg, hn, hc, by omega, by rw [Nat.mul_one]; exact hx⟩⟩
theorem OwnV.out (h : OwnV e w lo g n cap xs) : lo ≤ g ∧ xs.length = n ∧ n ≤ cap ∧ cap ≤ maxLen ∧ ∃ cur, w.heap[g]? = some (.cells cur e (0, 0)) ∧ cur.size = cap ∧ cur.toList.take n = xs := by
  obtain ⟨h1, h2⟩ := h
  rcases h2 with ⟨h2, _⟩ | ⟨g', cap', cur, hv, hg, hh, hn, hc, hs, hx⟩
  · cases h2
  · injection hv with ha _ hc'
    injection ha with ha
    injection ha with ha
    subst ha
    subst hc'
    exact ⟨hg, by omega, hn, hc, cur, hh, by omega, by rw [Nat.mul_one] at hx; exact hx⟩
theorem OwnV.lt (h : OwnV e w lo g n cap xs) : g < w.heap.size := by
  obtain ⟨_, _, _, _, cur, hh, _⟩ := h.out
  exact (Array.getElem?_eq_some_iff.1 hh).1
theorem OwnV.len (h : OwnV e w lo g n cap xs) : xs.length = n := h.out.2.1
theorem OwnV.lo_le (h : OwnV e w lo g n cap xs) : lo ≤ g := h.out.1
theorem OwnV.keep (h : OwnV e w lo g n cap xs) (k : Kp w w') : OwnV e w' lo g n cap xs := by
  obtain ⟨h1, h2, h3, h4, cur, h5, h6, h7⟩ := h.out
  exact OwnV.mk' h1 ((k.block g h.lt).trans h5) h3 h4 h6 h7
theorem OwnV.rd (h : OwnV e w lo g n cap xs) : RdV w lo (some ⟨g, 0, none⟩) n xs := by
  obtain ⟨h1, h2, h3, h4, cur, h5, h6, h7⟩ := h.out
  refine ⟨h2, fun _ => ⟨g, 0, rfl, h1, fun j u hu => ?_⟩⟩
  subst h7
  rw [List.getElem?_take] at hu
  split at hu
  · rw [Nat.zero_add]
    simpa [World.cell?, h5] using hu
  · cases hu
theorem RdV.lo0 (h : RdV w lo A n xs) : RdV w 0 A n xs :=
  ⟨h.1, fun hn => by obtain ⟨g, off, e, _, hc⟩ := h.2 hn; exact ⟨g, off, e, Nat.zero_le _, hc⟩⟩
theorem OwnV.rd0 (h : OwnV e w lo g n cap (bvs l)) : Rd w 0 (some ⟨g, 0, none⟩) n l := RdV.lo0 h.rd
theorem OwnV.frozen (h : OwnV e w lo g n cap xs) (i : Nat) : w.frozen? ⟨g, i, none⟩ = false := by
  obtain ⟨_, _, _, _, cur, h5, _⟩ := h.out
  simp [World.frozen?, h5]

theorem OwnV.set (h : OwnV e w lo g n cap xs) (j : Nat) (u : Value) : OwnV e (w.setCell ⟨g, j, none⟩ u) lo g n cap (xs.set j u) := (World.ownsRow.stored h j u).1
theorem bvs_set (l : List UInt8) (j : Nat) (z : Int) (h0 : 0 ≤ z) (h1 : z < 256) : bvs (l.set j (UInt8.ofNat z.toNat)) = (bvs l).set j (.int .u8 z) := by
  have : z = (((UInt8.ofNat z.toNat).toNat : Nat) : Int) := by rw [UInt8.toNat_ofNat']; omega
  unfold bvs
  rw [List.map_set, ← this]
theorem OwnV.set8 (h : OwnV e w lo g n cap (bvs l)) (j : Nat) (z : Int) (h0 : 0 ≤ z) (h1 : z < 256) :
    OwnV e (w.setCell ⟨g, j, none⟩ (.int .u8 z)) lo g n cap (bvs (l.set j (UInt8.ofNat z.toNat))) := by
  rw [bvs_set l j z h0 h1]; exact h.set j _
theorem OwnV.setb (h : OwnV e w lo g n cap (bvs l)) (j : Nat) (c : UInt8) : OwnV e (w.setCell ⟨g, j, none⟩ (.int .u8 (c.toNat : Int))) lo g n cap (bvs (l.set j c)) := by
  have : bvs (l.set j c) = (bvs l).set j (.int .u8 (c.toNat : Int)) := by unfold bvs; rw [List.map_set]
  rw [this]; exact h.set j _
theorem OwnV.other (h : OwnV e w lo g n cap xs) {a : Addr} (ha : g ≠ a.block) (u : Value) : OwnV e (w.setCell a u) lo g n cap xs := by
  obtain ⟨h1, h2, h3, h4, cur, h5, h6, h7⟩ := h.out
  exact OwnV.mk' h1 ((Below.heap_setCell w a u g ha).trans h5) h3 h4 h6 h7
theorem OwnV.drew (h : OwnV e w lo g n cap xs) : OwnV e w.drew lo g n cap xs := h
theorem OwnV.drawn (h : OwnV e w lo g n cap xs) (k : Nat) : OwnV e (w.drewN k) lo g n cap xs := h
theorem OwnV.cell8 (h : OwnV e w lo g n cap (bvs l)) {k : Nat} (hk : k < n) : ∃ c : UInt8, l[k]? = some c ∧ w.cell? ⟨g, k, none⟩ = some (.int .u8 (c.toNat : Int)) := by
  have hl : k < l.length := by have := h.len; simp [bvs] at this; omega
  obtain ⟨_, _, _, _, cur, hh, _, hx⟩ := h.out
  refine ⟨l[k], List.getElem?_eq_getElem hl, ?_⟩
  have h2 : (bvs l)[k]? = some (.int .u8 (l[k].toNat : Int)) := by simp [bvs, List.getElem?_eq_getElem hl]
  rw [← hx, List.getElem?_take, if_pos hk] at h2
  simpa [World.cell?, hh] using h2

/-- a literal's row -/
theorem OwnV.lit {vs : List Value} (hg : w.heap.size = g) (hlo : lo ≤ g) (hn : vs.length = n) (hm : n ≤ maxLen) : OwnV e (w.alloc (.cells vs.toArray e)) lo g n n vs := by
  subst hg
  exact OwnV.mk' hlo (heap_alloc_new w _) (Nat.le_refl _) hm (by simpa using hn) (by rw [← hn]; simp)

theorem Kp.grown (h : Kp w0 w) (hg : w.grownBy w' (some g)) (hlo : w0.heap.size ≤ g) : Kp w0 w' :=
  Below.grown h hg h.size (fun k hk => by injection hk with hk; omega)

theorem run_append_rd (t ty : TypeId) (i : TypeInfo) (z : Value) (bytes : Nat) (ht : P.underlying t = some (.slice e)) (hi : P.info? e = some i) (hz : i.zero = some z)
    (hsize : i.size = 1) (hby : i.bytes = bytes) (hzs : z.cells.size = 1)
    (hown : OwnV e w lo g n cap xs) {lo' : Nat} {A : Option Addr} {m c : Nat} {news : List Value} (hr : RdV w lo' A m news) (h1 : ∀ u ∈ news, u.oneCell' = true)
    (h63 : n + m ≤ maxLen) (hbytes : (n + m) * bytes ≤ 140737488355328) (hlo : lo ≤ w.heap.size) :
    ∃ g' cap' w', (Builtin.append_ #[t, t] ty #[.slice (some ⟨g, 0, none⟩) n cap, .slice A m c]).run P w = .ok (.slice (some ⟨g', 0, none⟩) (n + m) cap') w' ∧ OwnV e w' lo g' (n + m) cap' (xs ++ news) ∧ w.grownBy w' (some g) ∧
      (g' = g ∨ g' = w.heap.size) := by
  have fin : ∀ (ad : Addr), (∀ j u, news[j]? = some u → w.cell? (ad.add j) = some u) → news.length = m →
      ∃ g' cap' w', (Builtin.append_ #[t, t] ty #[.slice (some ⟨g, 0, none⟩) n cap, .slice (some ad) m c]).run P w = .ok (.slice (some ⟨g', 0, none⟩) (n + m) cap') w' ∧ OwnV e w' lo g' (n + m) cap' (xs ++ news) ∧ w.grownBy w' (some g) ∧
      (g' = g ∨ g' = w.heap.size) := by
    intro ad hc hl
    obtain ⟨v', w', hrun, hown', hgr, hnil, hat⟩ := run_append_own_at (P := P) w lo t ty e i z 1 bytes ht hi hz hsize hby hzs (by omega) _ n xs hown ad m c news (by omega) hc h1 h63 hbytes hlo
    rcases hown'.2 with ⟨rfl, _⟩ | ⟨g', cap', cur, rfl, _⟩
    · have := hnil.1 rfl
      cases this.1
    · exact ⟨g', cap', w', hrun, hown', hgr, by simpa [Value.ownBlock] using hat⟩
  have add_plain : ∀ (b off j : Nat), (⟨b, off, none⟩ : Addr).add j = ⟨b, off + j, none⟩ := by intro b off j; unfold Addr.add; split <;> simp_all
  rcases Nat.eq_zero_or_pos m with h0 | h0
  · subst h0
    have hn : news = [] := List.eq_nil_of_length_eq_zero hr.1
    subst hn
    cases A with
    | some ad => exact fin ad (fun j u hu => by simp at hu) rfl
    | none =>
      obtain ⟨_, _, hnc, _, cur, hh, _⟩ := hown.out
      refine ⟨g, cap, w, ?_, by simpa using hown, ⟨rfl, rfl, rfl, Nat.le_refl _, fun _ _ _ => rfl⟩, .inl rfl⟩
      simp [Builtin.append_, run_underlying ht, sizeOf, typeInfo, hi, Builtin.lenOf, Builtin.firstCells, hnc, storeCells]
  · obtain ⟨b, off, rfl, _, hc⟩ := hr.2 h0
    exact fin ⟨b, off, none⟩ (fun j u hu => by rw [add_plain]; exact hc j u hu) hr.1

/-- the law at the operation, guarded or not -/
theorem wpList_append_rd {ops : Array Oper} {rest : List Oper} {o : Oper} {a : Act} {Q : Exit → Act → World → Prop} (hw : Region.wanted o (yielded ops a.tmps) = true) (s x : Operand) (t : TypeId)
    (ho : o.op = .call { callee := .builtin .append, args := #[s, x], argTypes := #[t, t] })
    (i : TypeInfo) (z : Value) (bytes : Nat) (ht : P.underlying t = some (.slice e)) (hi : P.info? e = some i) (hz : i.zero = some z)
    (hsize : i.size = 1) (hby : i.bytes = bytes) (hzs : z.cells.size = 1)
    {lo' : Nat} {A : Option Addr} {m c : Nat} {news : List Value} (hs : a.eval s = .slice (some ⟨g, 0, none⟩) n cap) (hx : a.eval x = .slice A m c)
    (hown : OwnV e w lo g n cap xs) (hr : RdV w lo' A m news) (h1 : ∀ u ∈ news, u.oneCell' = true)
    (h63 : n + m ≤ maxLen) (hbytes : (n + m) * bytes ≤ 140737488355328) (hlo : lo ≤ w.heap.size)
    (h : ∀ g' cap' w', OwnV e w' lo g' (n + m) cap' (xs ++ news) → w.grownBy w' (some g) → (g' = g ∨ g' = w.heap.size) → wpList P ops Q rest (a.put o.dst (.slice (some ⟨g', 0, none⟩) (n + m) cap')) w') : wpList P ops Q (o :: rest) a w := by
  obtain ⟨g', cap', w', hrun, h2, h3, h4⟩ := run_append_rd (P := P) t o.type i z bytes ht hi hz hsize hby hzs hown hr h1 h63 hbytes hlo (c := c)
  unfold wpList
  rw [if_pos hw]
  refine .inl ?_
  unfold Oper.wp execOp
  simp only [ho, resolve, invoke, builtin, Sem.run_bind, Sem.run_pure, Result.andThen_ok, List.map_toArray, List.map_cons, List.map_nil, hs, hx, hrun]
  exact h g' cap' w' h2 h3 h4

/-- the same as one step of a region that draws its order -/
theorem step_append_rd {ops : Array Oper} {o : Oper} {a : Act} {K : Act → World → Prop} {Q : Exit → Act → World → Prop} {E : Prop} (hg : o.guard = none) (s x : Operand) (t : TypeId)
    (ho : o.op = .call { callee := .builtin .append, args := #[s, x], argTypes := #[t, t] })
    (i : TypeInfo) (z : Value) (bytes : Nat) (ht : P.underlying t = some (.slice e)) (hi : P.info? e = some i) (hz : i.zero = some z)
    (hsize : i.size = 1) (hby : i.bytes = bytes) (hzs : z.cells.size = 1)
    {lo' : Nat} {A : Option Addr} {m c : Nat} {news : List Value} (hs : a.eval s = .slice (some ⟨g, 0, none⟩) n cap) (hx : a.eval x = .slice A m c)
    (hown : OwnV e w lo g n cap xs) (hr : RdV w lo' A m news) (h1 : ∀ u ∈ news, u.oneCell' = true)
    (h63 : n + m ≤ maxLen) (hbytes : (n + m) * bytes ≤ 140737488355328) (hlo : lo ≤ w.heap.size)
    (h : ∀ g' cap' w', OwnV e w' lo g' (n + m) cap' (xs ++ news) → w.grownBy w' (some g) → (g' = g ∨ g' = w.heap.size) → K (a.put o.dst (.slice (some ⟨g', 0, none⟩) (n + m) cap')) w') :
    if Region.wanted o (yielded ops a.tmps) = true then Oper.wp P o a w K Q else E := by
  have hw : Region.wanted o (yielded ops a.tmps) = true := by simp [Region.wanted, hg]
  rw [if_pos hw]
  obtain ⟨g', cap', w', hrun, h2, h3, h4⟩ := run_append_rd (P := P) t o.type i z bytes ht hi hz hsize hby hzs hown hr h1 h63 hbytes hlo (c := c)
  unfold Oper.wp execOp
  simp only [ho, resolve, invoke, builtin, Sem.run_bind, Sem.run_pure, Result.andThen_ok, List.map_toArray, List.map_cons, List.map_nil, hs, hx, hrun]
  exact h g' cap' w' h2 h3 h4

/-- two rows whose elements' types differ never share a block -/
theorem OwnV.ne {e1 e2 : TypeId} {lo1 lo2 g1 g2 n1 n2 c1 c2 : Nat} {xs1 xs2 : List Value} (h1 : OwnV e1 w lo1 g1 n1 c1 xs1) (h2 : OwnV e2 w lo2 g2 n2 c2 xs2) (he : e1 ≠ e2) : g1 ≠ g2 := by
  rintro rfl
  obtain ⟨_, _, _, _, cur1, hh1, _⟩ := h1.out
  obtain ⟨_, _, _, _, cur2, hh2, _⟩ := h2.out
  rw [hh1] at hh2
  injection hh2 with hh2
  injection hh2 with _ ht
  exact he ht
theorem OwnV.far {e1 : TypeId} {row : Option Nat} (h : OwnV e1 w lo g n cap xs) (hg : w.grownBy w' row) (hne : row ≠ some g) : OwnV e1 w' lo g n cap xs := by
  obtain ⟨h1, h2, h3, h4, cur, h5, h6, h7⟩ := h.out
  exact OwnV.mk' h1 ((hg.block g h.lt (fun e => hne e.symm)).trans h5) h3 h4 h6 h7
theorem Kp.grownR {row : Option Nat} (h : Kp w0 w) (hg : w.grownBy w' row) (hlo : ∀ k, row = some k → w0.heap.size ≤ k) : Kp w0 w' := Below.grown h hg h.size hlo

/-- append of one element onto a row of the call's own that may be nil -/
theorem wpList_append_one {ops : Array Oper} {rest : List Oper} {o : Oper} {a : Act} {Q : Exit → Act → World → Prop} (hw : Region.wanted o (yielded ops a.tmps) = true) (s x : Operand) (t : TypeId)
    (ho : o.op = .call { callee := .builtin .append, args := #[s, x], argTypes := #[t, t] })
    (i : TypeInfo) (z : Value) (bytes : Nat) (ht : P.underlying t = some (.slice e)) (hi : P.info? e = some i) (hz : i.zero = some z)
    (hsize : i.size = 1) (hby : i.bytes = bytes) (hzs : z.cells.size = 1)
    {v u : Value} {b off c : Nat} (hs : a.eval s = v) (hx : a.eval x = .slice (some ⟨b, off, none⟩) 1 c)
    (hown : w.ownsRow lo e 1 v n xs) (hr : w.cell? ⟨b, off, none⟩ = some u) (h1 : u.oneCell' = true)
    (h63 : n + 1 ≤ maxLen) (hbytes : (n + 1) * bytes ≤ 140737488355328) (hlo : lo ≤ w.heap.size)
    (h : ∀ g' cap' w', OwnV e w' lo g' (n + 1) cap' (xs ++ [u]) → w.grownBy w' v.ownBlock → wpList P ops Q rest (a.put o.dst (.slice (some ⟨g', 0, none⟩) (n + 1) cap')) w') : wpList P ops Q (o :: rest) a w := by
  obtain ⟨v', w', hrun, hown', hgr, hnil, _⟩ := run_append_own_at (P := P) w lo t o.type e i z 1 bytes ht hi hz hsize hby hzs (by omega) v n xs hown ⟨b, off, none⟩ 1 c [u] rfl
    (fun j y hj => by
      match j, hj with
      | 0, hj => simp at hj; subst hj; simpa [Addr.add] using hr) (by intro y hy; simp at hy; subst hy; exact h1) h63 hbytes hlo
  rcases hown'.2 with ⟨rfl, _⟩ | ⟨g', cap', cur, rfl, _⟩
  · have := (hnil.1 rfl).2; omega
  · unfold wpList
    rw [if_pos hw]
    refine .inl ?_
    unfold Oper.wp execOp
    simp only [ho, resolve, invoke, builtin, Sem.run_bind, Sem.run_pure, Result.andThen_ok, List.map_toArray, List.map_cons, List.map_nil, hs, hx, hrun]
    exact h g' cap' w' hown' hgr

theorem bvs_one (l : List UInt8) : ∀ u ∈ bvs l, u.oneCell' = true := by
  intro u hu
  simp only [bvs, List.mem_map] at hu
  obtain ⟨c, _, rfl⟩ := hu
  rfl
/-- copy into a part of a block of the call's own, as one step of a region that draws its order -/
theorem step_copy8 {ops : Array Oper} {o : Oper} {a : Act} {K : Act → World → Prop} {Q : Exit → Act → World → Prop} {E : Prop} (hgd : o.guard = none) (d s : Operand) (dT sT : TypeId)
    (ho : o.op = .call { callee := .builtin .copy, args := #[d, s], argTypes := #[dT, sT] }) (hu : P.underlying dT = some (.slice e)) (hsz : (P.info? e).map (·.size) = some 1)
    {off k dCap sCap lo' : Nat} {A : Option Addr} {l : List UInt8} {cur : Array Value} {t : TypeId} (hd : a.eval d = .slice (some ⟨g, off, none⟩) k dCap) (hs : a.eval s = .slice A k sCap) (hk : 0 < k)
    (hg : w.heap[g]? = some (.cells cur t (0, 0))) (hr : Rd w lo' A k l) (hfit : off + k ≤ cur.size)
    (h : ∀ w', w'.heap[g]? = some (.cells (cur.toList.take off ++ (bvs l ++ cur.toList.drop (off + k))).toArray t (0, 0)) → w.grownBy w' (some g) → K (a.put o.dst (goInt k)) w') :
    if Region.wanted o (yielded ops a.tmps) = true then Oper.wp P o a w K Q else E := by
  have hw : Region.wanted o (yielded ops a.tmps) = true := by simp [Region.wanted, hgd]
  rw [if_pos hw]
  obtain ⟨b, off', rfl, _, hc⟩ := hr.2 hk
  have hl : (bvs l).length = k := hr.1
  have add_plain : ∀ (b off j : Nat), (⟨b, off, none⟩ : Addr).add j = ⟨b, off + j, none⟩ := by intro b off j; unfold Addr.add; split <;> simp_all
  have hrun := run_copy_row (P := P) w dT sT o.type e g off k dCap ⟨b, off', none⟩ k sCap cur t (bvs l) hu hsz hg (by simp [hl]) (fun j u hj => by rw [add_plain]; exact hc j u hj) (by rw [hl]; exact hfit) (bvs_one l)
  unfold Oper.wp
  simp [execOp, ho, resolve, invoke, builtin, hd, hs, hrun, Result.andThen]
  rw [hl]
  refine h _ (setRow_heap w g cur _ t _ hg) ⟨rfl, rfl, rfl, by simp, fun j _ hj => setRow_other w g j _ (fun e => hj (by rw [e]))⟩

theorem bvs_append (a b : List UInt8) : bvs (a ++ b) = bvs a ++ bvs b := by simp [bvs]
end
end Go.Proofs.Ytnoobifdaldfiaa
