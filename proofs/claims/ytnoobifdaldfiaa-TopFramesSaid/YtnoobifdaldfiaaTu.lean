/-
  frag.Split: what is known of its pieces between two rounds.
-/
import Derived.Test.YtnoobifdaldfiaaTt
namespace Go.Proofs.Ytnoobifdaldfiaa.Fr
open Go.RowKit
set_option maxRecDepth 100000

/-- whatever is cells lies as it lay -/
def CK (A B : World) : Prop := ∀ (k : Nat) (o : Obj), A.heap[k]? = some o → o.isCells = true → B.heap[k]? = some o
theorem ck_of {A B : World} {row : Option Nat} {n : Nat} (hg : A.grownBy B row) (hr : ∀ r, row = some r → n ≤ r ∧ ∃ o : Obj, A.heap[r]? = some o ∧ o.isCells = false) : CK A B := fun k o ho hc =>
  (hg.block k (Array.getElem?_eq_some_iff.1 ho).1 (fun e => by
    obtain ⟨_, o', ho', hn⟩ := hr k e.symm
    rw [ho] at ho'
    injection ho' with ho'
    subst ho'
    rw [hc] at hn
    cases hn)).trans ho
theorem row_ck {A B : World} {b : Nat} {cs : Array Value} {T : TypeId} {m : Nat × Nat} (h : CK A B) (hr : A.heap[b]? = some (.cells cs T m)) : B.heap[b]? = some (.cells cs T m) := h _ _ hr rfl
theorem cell_ck {A B : World} {a : Addr} {v : Value} (h : CK A B) (hc : A.cell? a = some v) : B.cell? a = some v := by
  unfold World.cell? at hc ⊢
  cases ho : A.heap[a.block]? with
  | none => rw [ho] at hc; cases hc
  | some o =>
    rw [ho] at hc
    cases o with
    | cells c T m => rw [h _ _ ho rfl]; exact hc
    | _ => cases hc
theorem rd_ck {A B : World} {lo n : Nat} {P : Option Addr} {l : List UInt8} (h : CK A B) (hr : Rd A lo P n l) : Rd B lo P n l :=
  ⟨hr.1, fun hn => by
    obtain ⟨g, off, e, h1, h2⟩ := hr.2 hn
    exact ⟨g, off, e, h1, fun j u hu => cell_ck h (h2 j u hu)⟩⟩
theorem orow_ck {A B : World} {lo n k : Nat} {e : TypeId} {v : Value} {xs : List Value} (h : CK A B) (hr : A.ownsRow lo e k v n xs) : B.ownsRow lo e k v n xs := by
  obtain ⟨h1, h2⟩ := hr
  refine ⟨h1, ?_⟩
  rcases h2 with h2 | ⟨g, cap, cur, e1, h3, h4, h5⟩
  · exact .inl h2
  · exact .inr ⟨g, cap, cur, e1, h3, row_ck h h4, h5⟩

section
variable (n : Nat) (bs : List UInt8) (s0 s1 s2 s3 d0 d1 d2 d3 : UInt8)
/-- the piece that stands at place j -/
def pkc (j : Nat) (x : Ck n) (gd c : Nat) : List Value := [.int .u16 7, .bool (decide (176 * (j : Int) + (x.1.2 : Int) < (n : Int))), .int .i64 (176 * (j : Int)), .int .u8 64, .int .u8 6, .int .u8 (s0.toNat : Int), .int .u8 (s1.toNat : Int), .int .u8 (s2.toNat : Int), .int .u8 (s3.toNat : Int), .int .u8 (d0.toNat : Int), .int .u8 (d1.toNat : Int), .int .u8 (d2.toNat : Int), .int .u8 (d3.toNat : Int), .slice (some ⟨gd, 0, none⟩) x.1.2 c]
def ckBytes (x : Ck n) : List UInt8 := (bs.drop x.1.1).take x.1.2
def OutV (lo : Nat) (v : Value) : List (Ck n) → World → Prop
  | [], _ => v = .slice none 0 0
  | [x], W => ∃ g cap A c, v = .slice (some ⟨g, 0, none⟩) 1 cap ∧ W.ownsRow lo 38 14 v 1 (pkc n s0 s1 s2 s3 d0 d1 d2 d3 0 x A c) ∧ Rd W lo (some ⟨A, 0, none⟩) x.1.2 (ckBytes n bs x) ∧ SlOk (some ⟨A, 0, none⟩) x.1.2 c
  | [x, y], W => ∃ g cap A c B k, v = .slice (some ⟨g, 0, none⟩) 2 cap ∧ W.ownsRow lo 38 14 v 2 (pkc n s0 s1 s2 s3 d0 d1 d2 d3 0 x A c ++ pkc n s0 s1 s2 s3 d0 d1 d2 d3 1 y B k) ∧ Rd W lo (some ⟨A, 0, none⟩) x.1.2 (ckBytes n bs x) ∧ SlOk (some ⟨A, 0, none⟩) x.1.2 c ∧ Rd W lo (some ⟨B, 0, none⟩) y.1.2 (ckBytes n bs y) ∧ SlOk (some ⟨B, 0, none⟩) y.1.2 k
  | _, _ => False
theorem OutV.ck {lo : Nat} {v : Value} {A B : World} (h : CK A B) : ∀ {pre : List (Ck n)}, OutV n bs s0 s1 s2 s3 d0 d1 d2 d3 lo v pre A → OutV n bs s0 s1 s2 s3 d0 d1 d2 d3 lo v pre B
  | [], hv => hv
  | [_], ⟨g, cap, P, c, h1, h2, h3, h4⟩ => ⟨g, cap, P, c, h1, orow_ck h h2, rd_ck h h3, h4⟩
  | [_, _], ⟨g, cap, P, c, Q, k, h1, h2, h3, h4, h5, h6⟩ => ⟨g, cap, P, c, Q, k, h1, orow_ck h h2, rd_ck h h3, h4, rd_ck h h5, h6⟩
  | _ :: _ :: _ :: _, hv => hv
theorem OutV.low {lo lo' : Nat} {v : Value} {A : World} (h : lo' ≤ lo) : ∀ {pre : List (Ck n)}, OutV n bs s0 s1 s2 s3 d0 d1 d2 d3 lo v pre A → OutV n bs s0 s1 s2 s3 d0 d1 d2 d3 lo' v pre A
  | [], hv => hv
  | [_], ⟨g, cap, P, c, h1, h2, h3, h4⟩ => ⟨g, cap, P, c, h1, orow_lo h2 h, rd_lo h3 h, h4⟩
  | [_, _], ⟨g, cap, P, c, Q, k, h1, h2, h3, h4, h5, h6⟩ => ⟨g, cap, P, c, Q, k, h1, orow_lo h2 h, rd_lo h3 h, h4, rd_lo h5 h, h6⟩
  | _ :: _ :: _ :: _, hv => hv
/-- between two rounds -/
def SpI (w : World) (P : Option Addr) (c lo b1 : Nat) (pre : List (Ck n)) (W : World) : Prop :=
  (∃ v, W.heap[b1 + 1]? = some (.cells #[v] 34 (0, 0)) ∧ OutV n bs s0 s1 s2 s3 d0 d1 d2 d3 lo v pre W) ∧ W.heap[b1]? = some (.cells #[.int .u16 7, .bool false, .int .i64 0, .int .u8 64, .int .u8 6, .int .u8 (s0.toNat : Int), .int .u8 (s1.toNat : Int), .int .u8 (s2.toNat : Int), .int .u8 (s3.toNat : Int), .int .u8 (d0.toNat : Int), .int .u8 (d1.toNat : Int), .int .u8 (d2.toNat : Int), .int .u8 (d3.toNat : Int), .slice P n c] 38 (0, 0)) ∧ Kp w W ∧ lo ≤ W.heap.size
theorem SpI.own (w : World) (P : Option Addr) (c lo b1 : Nat) (hlo : w.heap.size ≤ lo) : OwnFrom lo (SpI n bs s0 s1 s2 s3 d0 d1 d2 d3 w P c lo b1) := by
  intro pre A B row ⟨⟨v, h1, h2⟩, h3, h4, h5⟩ hg hr
  have hc := ck_of hg hr
  exact ⟨⟨v, row_ck hc h1, h2.ck n bs s0 s1 s2 s3 d0 d1 d2 d3 hc⟩, row_ck hc h3, h4.grownR hg (fun r e => by have := (hr r e).1; omega), Nat.le_trans h5 hg.size⟩
end

def St.cl0 (lo n : Nat) (l : List UInt8) : St := ⟨fun v W => ∃ gd c, v = .slice (some ⟨gd, 0, none⟩) n c ∧ Rd W lo (some ⟨gd, 0, none⟩) n l ∧ SlOk (some ⟨gd, 0, none⟩) n c, fun _ _ _ ⟨gd, c, h1, h2, h3⟩ k => ⟨gd, c, h1, h2.keep k, h3⟩⟩
noncomputable def spphi (lp b1 b6 j cv b o ko m : Nat) (V : Option Addr) (L : List UInt8) : Nat → StR Keep.kp := fun i => ([StR.val (.slice V j cv),
  StR.val (.int .i64 (j : Int)),
  StR.val (.int .i64 (176 * (j : Int))),
  StR.val (.slice (some ⟨b, o + ko, none⟩) m m),
  stR (St.cl0 lp m L),
  StR.val (.pointer (some ⟨b6, 2, none⟩))] : List (StR Keep.kp)).getD i StR.any
theorem rd_sub {w : World} {lo b o n k m : Nat} {l : List UInt8} (h : Rd w lo (some ⟨b, o, none⟩) n l) (hk : k + m ≤ n) : Rd w lo (some ⟨b, o + k, none⟩) m ((l.drop k).take m) :=
  ⟨by have := h.len; simp [bvs]; omega, fun hm => by
    obtain ⟨g, off, e, h1, h2⟩ := h.2 (by omega)
    injection e with e
    injection e with e1 e2
    subst e1
    subst e2
    refine ⟨_, _, rfl, h1, fun j u hu => ?_⟩
    have hj : j < m := by
      rcases Nat.lt_or_ge j m with h' | h'
      · exact h'
      · rw [List.getElem?_eq_none (by simp [bvs]; omega)] at hu; cases hu
    have := h2 (k + j) u (by
      simp only [bvs, List.getElem?_map, List.getElem?_take, List.getElem?_drop, hj, if_true] at hu ⊢
      exact hu)
    rw [show o + k + j = o + (k + j) by omega]
    exact this⟩

theorem own_of_row {w : World} {b k : Nat} {cs : List Value} {T : TypeId} (h : w.heap[b]? = some (.cells cs.toArray T (0, 0))) (hl : cs.length = k) : w.ownsRow b T k (.slice (some ⟨b, 0, none⟩) 1 1) 1 cs :=
  ⟨by omega, .inr ⟨b, 1, _, rfl, Nat.le_refl _, h, Nat.le_refl _, by decide, by simp [hl], by rw [List.toList_toArray, Nat.one_mul, ← hl, List.take_length]⟩⟩
theorem row_of_own {w : World} {lo b k : Nat} {cs : List Value} {T : TypeId} (h : w.ownsRow lo T k (.slice (some ⟨b, 0, none⟩) 1 1) 1 cs) : w.heap[b]? = some (.cells cs.toArray T (0, 0)) := by
  obtain ⟨hl, ⟨h, _⟩ | ⟨g, cap, cur, h1, _, h3, _, _, h6, h7⟩⟩ := h
  · cases h
  · injection h1 with h1 _ h2
    injection h1 with h1
    injection h1 with h1
    subst h1
    subst h2
    rw [← h6, ← Array.length_toList, List.take_length] at h7
    rw [h3, ← h7]

section
variable {W W' : World} {lo j : Nat} {e : TypeId} {v : Value} {xs : List Value}
theorem own_blk (h : W.ownsRow lo e 14 v j xs) : ∀ r, v.ownBlock = some r → lo ≤ r ∧ ∃ cur, W.heap[r]? = some (.cells cur e (0, 0)) ∧ (0 < j → cur.toList[0]? = xs[0]?) := by
  intro r hr
  obtain ⟨hl, ⟨h1, _⟩ | ⟨g, cap, cur, h1, h2, h3, h4, _, h6, h7⟩⟩ := h
  · subst h1; cases hr
  · subst h1
    cases hr
    refine ⟨h2, cur, h3, fun hj => ?_⟩
    rw [← h7, List.getElem?_take, if_pos (by omega)]
theorem rd_kept {lo' gd m : Nat} {l : List UInt8} (hown : W.ownsRow lo e 14 v j xs) (hx : v.ownBlock = none ∨ (0 < j ∧ xs[0]? = some (.int .u16 7))) (hg : W.grownBy W' v.ownBlock) (h : Rd W lo' (some ⟨gd, 0, none⟩) m l) : Rd W' lo' (some ⟨gd, 0, none⟩) m l :=
  ⟨h.1, fun hn => by
    obtain ⟨g, off, ea, h1, h2⟩ := h.2 hn
    injection ea with ea
    injection ea with e1 e2
    subst e1
    subst e2
    refine ⟨_, _, rfl, h1, fun k u hu => ?_⟩
    have hc := h2 k u hu
    have hlt := World.block_lt_of_cell? W _ hc
    have hne : some gd ≠ v.ownBlock := fun hb => by
      obtain ⟨_, cur, hrow, h0⟩ := own_blk hown gd hb.symm
      rcases hx with hx | ⟨hj, hx⟩
      · rw [hx] at hb; cases hb
      · obtain ⟨c, hc0, hcell⟩ := h.cell (k := 0) hn
        rw [cell_of_row W _ _ _ _ _ hrow] at hcell
        have q := h0 hj
        rw [hx] at q
        rw [← Array.getElem?_toList] at hcell
        simp only [Nat.add_zero] at hcell
        rw [q] at hcell
        cases hcell
    unfold World.cell? at hc ⊢
    simp only at hc hlt ⊢
    rw [hg.block gd hlt (fun hb => hne (by rw [hb]))]
    exact hc⟩
theorem orow_setCell {n k : Nat} {a : Addr} {u : Value} (h : W.ownsRow lo e k v n xs) (hb : a.block < lo) : (W.setCell a u).ownsRow lo e k v n xs := by
  obtain ⟨h1, h2⟩ := h
  refine ⟨h1, ?_⟩
  rcases h2 with h | ⟨g, cap, cur, e1, h3, h4, h5⟩
  · exact .inl h
  · exact .inr ⟨g, cap, cur, e1, h3, (Below.heap_setCell W a u g (by omega)).trans h4, h5⟩
end
/-- one packet onto a row of one's own -/
theorem lapp_more {W : World} {ops : Array Oper} {rest : List Oper} {o : Oper} {a : Act} {Q : Exit → Act → World → Prop} {B c lo n : Nat} {v : Value} {xs vs : List Value} (hw : o.guard = none) (s x : Operand)
    (ho : o.op = .call { callee := .builtin .append, args := #[s, x], argTypes := #[34, 34] }) (hs : a.eval s = v) (hown : W.ownsRow lo 38 14 v n xs) (hn : n ≤ 1) (hx : a.eval x = .slice (some ⟨B, 0, none⟩) 1 c)
    (hl : vs.length = 14) (h1 : vs.all (·.oneCell') = true) (hc : ∀ j u, vs[j]? = some u → W.cell? ((⟨B, 0, none⟩ : Addr).add j) = some u) (hlo : lo ≤ W.heap.size)
    (h : ∀ v' w', w'.ownsRow lo 38 14 v' (n + 1) (xs ++ vs) → W.grownBy w' v.ownBlock → wpList Try.prog ops Q rest (a.put o.dst v') w') : wpList Try.prog ops Q (o :: rest) a W := by
  obtain ⟨i0, hi0, hz0, hz1, hz2⟩ := info_parts infoPkt
  refine wpList_append_own W hw s x 34 ho lo 38 i0 _ 14 56 Try.underlying34 hi0 hz0 hz1 hz2 rfl (by decide) v n xs hs hown ⟨B, 0, none⟩ 1 c vs hx (by omega) hc (fun u hu => (List.all_eq_true.1 h1) u hu) (by simp only [maxLen]; omega) (by omega) hlo ?_
  intro v' w' ho' hgr _
  exact h v' w' ho' hgr

set_option maxHeartbeats 4000000 in
theorem split_in (w : World) (s0 s1 s2 s3 d0 d1 d2 d3 : UInt8) (b o n c : Nat) (bs : List UInt8) (hA : Rd w 0 (some ⟨b, o, none⟩) n bs) (hok : SlOk (some ⟨b, o, none⟩) n c) (hn : 0 < n) (hn2 : n ≤ 352) :
    CallsIn Fence.wide 6 Try.prog 11 #[.agg #[.int .u16 7, .bool false, .int .i64 0, .int .u8 64, .int .u8 6, .int .u8 (s0.toNat : Int), .int .u8 (s1.toNat : Int), .int .u8 (s2.toNat : Int), .int .u8 (s3.toNat : Int), .int .u8 (d0.toNat : Int), .int .u8 (d1.toNat : Int), .int .u8 (d2.toNat : Int), .int .u8 (d3.toNat : Int), .slice (some ⟨b, o, none⟩) n c]] w fun e w' => Kp w w' ∧ ∃ v xs, e = .returned (.tuple #[v, .int .i64 0]) ∧ Cks n xs ∧ OutV n bs s0 s1 s2 s3 d0 d1 d2 d3 w.heap.size v xs w' := by
  have hi : ¬ (1000 : Int) < (n : Int) := by omega
  refine callsIn_of_wp_marks Try.func11 rfl trivial ?_ rfl
  simp only [Try.ntmps11, List.size_toArray, List.length_cons, List.length_nil, Nat.reduceAdd, Nat.reduceSub, Array.replicate_succ, Array.replicate_zero, List.push_toArray, List.append_toArray, List.nil_append, List.cons_append]
  refine wpIn_wide.2 ?_
  go_wp2_with (go_at_call 29; refine (chunk_any _ _ n c).mono ?_; rintro e w1 ⟨rfl, rfl⟩)
  have hA1 := hA
  obtain ⟨b1, hb1⟩ : ∃ x, w.heap.size = x := ⟨_, rfl⟩
  obtain ⟨w1, hw1⟩ : ∃ w1, (((w.alloc (.cells #[.int .u16 7, .bool false, .int .i64 0, .int .u8 64, .int .u8 6, .int .u8 (s0.toNat : Int), .int .u8 (s1.toNat : Int), .int .u8 (s2.toNat : Int), .int .u8 (s3.toNat : Int), .int .u8 (d0.toNat : Int), .int .u8 (d1.toNat : Int), .int .u8 (d2.toNat : Int), .int .u8 (d3.toNat : Int), .slice (some ⟨b, o, none⟩) n c] 38)).alloc (.cells #[.slice none 0 0] 34)).alloc (.cells #[.slice (some ⟨b, o, none⟩) n c] 24)).alloc (.cells #[.int .i64 176] 3) = w1 := ⟨_, rfl⟩
  have hk1 : Kp w w1 := by rw [← hw1]; exact ((((Kp.refl w).alloc _).alloc _).alloc _).alloc _
  have hs1 : w1.heap.size = b1 + 1 + 1 + 1 + 1 := by rw [← hw1, ← hb1]; simp
  have r1 : w1.heap[b1]? = some (.cells #[.int .u16 7, .bool false, .int .i64 0, .int .u8 64, .int .u8 6, .int .u8 (s0.toNat : Int), .int .u8 (s1.toNat : Int), .int .u8 (s2.toNat : Int), .int .u8 (s3.toNat : Int), .int .u8 (d0.toNat : Int), .int .u8 (d1.toNat : Int), .int .u8 (d2.toNat : Int), .int .u8 (d3.toNat : Int), .slice (some ⟨b, o, none⟩) n c] 38 (0, 0)) := by
    rw [← hw1, ← hb1]
    exact (Below.heap_alloc _ _ _ (by simp <;> omega)).trans ((Below.heap_alloc _ _ _ (by simp <;> omega)).trans (row_alloc2 w _ _).1)
  have r2 : w1.heap[b1 + 1]? = some (.cells #[.slice none 0 0] 34 (0, 0)) := by
    rw [← hw1, ← hb1]
    exact (Below.heap_alloc _ _ _ (by simp <;> omega)).trans ((Below.heap_alloc _ _ _ (by simp)).trans (row_alloc2 w _ _).2)
  have r34 := row_alloc2 ((w.alloc (.cells #[.int .u16 7, .bool false, .int .i64 0, .int .u8 64, .int .u8 6, .int .u8 (s0.toNat : Int), .int .u8 (s1.toNat : Int), .int .u8 (s2.toNat : Int), .int .u8 (s3.toNat : Int), .int .u8 (d0.toNat : Int), .int .u8 (d1.toNat : Int), .int .u8 (d2.toNat : Int), .int .u8 (d3.toNat : Int), .slice (some ⟨b, o, none⟩) n c] 38)).alloc (.cells #[.slice none 0 0] 34)) (.cells #[.slice (some ⟨b, o, none⟩) n c] 24) (.cells #[.int .i64 176] 3)
  rw [World.size_alloc, World.size_alloc, hw1, hb1] at r34
  obtain ⟨r3, r4⟩ := r34
  rw [hw1]
  rw [hb1]
  have HA := Lib.hid hA
  have HOK := Lib.hid hok
  have HB1 := Lib.hid hb1
  have HK1 := Lib.hid hk1
  have HS1 := Lib.hid hs1
  clear hw1 hA hok
  refine (wpIn_wide (n := 6)).1 ?_
  refine wpIn_rangeFunc_ownG (α := Ck n) (encs := fun x => #[Ck.val b o x]) (Kp := K2 (b1 + 1 + 1) (b1 + 1 + 1 + 1)) (S := Cks n) (Sp := fun _ => True) (N := 2) (w0 := w1) rfl (by omega) (gf := 51) (lb := #[.pointer (some ⟨b1 + 1 + 1, 0, none⟩), .pointer (some ⟨b1 + 1 + 1 + 1, 0, none⟩)]) rfl trivial (enters_of Try.func51 (by kernel_rfl) rfl) ?seq (fun h k => K2.trans h k) ?kb (Below.refl _ _) (fun _ => rfl)
    (SpI n bs s0 s1 s2 s3 d0 d1 d2 d3 w (some ⟨b, o, none⟩) c w1.heap.size b1) (fun _ _ _ => False) (SpI.own n bs s0 s1 s2 s3 d0 d1 d2 d3 w _ c _ b1 (by rw [hs1]; omega)) (fun _ _ _ _ _ hs _ _ => hs) ⟨⟨_, r2, rfl⟩, r1, hk1, Nat.le_refl _⟩
    (fun x => { tmps := #[.agg #[.int .u16 7, .bool false, .int .i64 0, .int .u8 64, .int .u8 6, .int .u8 (s0.toNat : Int), .int .u8 (s1.toNat : Int), .int .u8 (s2.toNat : Int), .int .u8 (s3.toNat : Int), .int .u8 (d0.toNat : Int), .int .u8 (d1.toNat : Int), .int .u8 (d2.toNat : Int), .int .u8 (d3.toNat : Int), .slice (some ⟨b, o, none⟩) n c], .pointer (some ⟨b1, 0, none⟩), .slice none 0 0, .int .i64 0, .pointer (some ⟨b1 + 1, 0, none⟩), Ck.val b o x, undef, .pointer (some ⟨b1, 2, none⟩), .int .i64 0, .bool false, .bool false, .pointer (some ⟨b1, 1, none⟩), .bool false, .bool false, .pointer (some ⟨b1, 13, none⟩), .slice (some ⟨b, o, none⟩) n c, .int .i64 (n : Int), .bool false, .pointer (some ⟨b1, 13, none⟩), .slice (some ⟨b, o, none⟩) n c, .func (.func 51) #[] #[.pointer (some ⟨b1 + 1 + 1, 0, none⟩), .pointer (some ⟨b1 + 1 + 1 + 1, 0, none⟩)], Ck.val b o x, undef, undef, undef, undef, undef, undef, undef, undef, undef, undef, undef, undef, undef, undef, undef, undef, undef, undef, undef, undef, undef, undef, undef, undef, undef, undef, undef, undef], defers := [] }) ?assign ?body ?done ?stop
  case seq =>
    intro l J Jx W hW hJ _ hY h0
    exact ck_in _ l _ _ b o n c bs hn hn2 J Jx W hJ (HA.out.keep (HK1.out.trans hW)) HOK.out hY ((hW.block _ (Array.getElem?_eq_some_iff.1 r3).1).trans r3) ((hW.block _ (Array.getElem?_eq_some_iff.1 r4).1).trans r4) h0
  case kb =>
    intro W l o o' hl ho _ _ k hk o2 ho2
    exact (World.putObj_heap_other (by rw [hs1] at hl; omega)).trans ho2
  case assign =>
    intro l x W K hK
    refine regionIn_list (fun ⟨_, _, h⟩ => h) (by kernel_rfl) ?_
    simp only [List.zip_toArray, List.zip_cons_cons, List.zip_nil_right, List.foldl_toArray, List.foldl_cons, List.foldl_nil, List.setIfInBounds_toArray, List.set_cons_succ, List.set_cons_zero]
    go_wp2
    exact hK
  case body =>
    rintro l pre x W0 ⟨⟨v, hv, hov⟩, hrow, hk, hlo⟩ hpl
    obtain ⟨⟨ko, m⟩, hx1, hx2, hx3⟩ := x
    simp only at hx1 hx2 hx3
    simp only [Ck.val]
    have hst : ∃ (V : Option Addr) (j cv : Nat) (xs : List Value), v = .slice V j cv ∧ j ≤ 1 ∧ W0.ownsRow w1.heap.size 38 14 (.slice V j cv) j xs ∧ ((Value.slice V j cv).ownBlock = none ∨ (0 < j ∧ xs[0]? = some (.int .u16 7))) ∧
        (∀ (W0' : World) (v' : Value) (gd c' : Nat), W0'.ownsRow w1.heap.size 38 14 v' (j + 1) (xs ++ pkc n s0 s1 s2 s3 d0 d1 d2 d3 j ⟨(ko, m), hx1, hx2, hx3⟩ gd c') → (∀ gd0 m0 l0, Rd W0 w1.heap.size (some ⟨gd0, 0, none⟩) m0 l0 → Rd W0' w1.heap.size (some ⟨gd0, 0, none⟩) m0 l0) →
          Rd W0' w1.heap.size (some ⟨gd, 0, none⟩) m (ckBytes n bs ⟨(ko, m), hx1, hx2, hx3⟩) → SlOk (some ⟨gd, 0, none⟩) m c' → OutV n bs s0 s1 s2 s3 d0 d1 d2 d3 w1.heap.size v' (pre ++ [⟨(ko, m), hx1, hx2, hx3⟩]) W0') := by
      match pre, hpl, hov with
      | [], _, hov =>
        refine ⟨none, 0, 0, [], hov, by omega, World.ownsRow_nil _ _ _ _, .inl rfl, fun W0' v' gd c' h1 h2 h3 h4 => ?_⟩
        obtain ⟨g, cap, rfl, _⟩ := orow_succ h1
        exact ⟨g, cap, gd, c', rfl, h1, h3, h4⟩
      | [y], _, hov =>
        obtain ⟨g, cap, A, c0, rfl, h1, h2, h3⟩ := hov
        refine ⟨_, 1, cap, _, rfl, by omega, h1, .inr ⟨by omega, rfl⟩, fun W0' v' gd c' k1 k2 k3 k4 => ?_⟩
        obtain ⟨g', cap', rfl, _⟩ := orow_succ k1
        exact ⟨g', cap', A, c0, gd, c', rfl, k1, k2 _ _ _ h2, h3, k3, k4⟩
    obtain ⟨V, j, cv, xs, rfl, hj, hown, hx0, hfin⟩ := hst
    have HFIN := Lib.hid hfin
    have HOWN := Lib.hid hown
    have HROW := Lib.hid hrow
    have HV := Lib.hid hv
    have HK := Lib.hid hk
    clear hfin hown hov hk
    have HQL0 : True := trivial
    refine wpIn_block ?_
    refine wpIn_seq ?_
    refine regionIn_list (fun ⟨_, _, h⟩ => h) (by kernel_rfl) ?_
    go_wp2_with (first
      | (refine lld_row (by rfl) (.tmp 1) _ _ rfl rfl HROW.out Try.underlying38 rfl szPkt ?_)
      | (refine lst_new (by rfl) (.tmp 6) (.tmp 22) _ rfl rfl rfl szPkt rfl rfl rfl ?_))
    have hwa : Kp W0 (W0.alloc (.cells #[.int .u16 7, .bool false, .int .i64 0, .int .u8 64, .int .u8 6, .int .u8 (s0.toNat : Int), .int .u8 (s1.toNat : Int), .int .u8 (s2.toNat : Int), .int .u8 (s3.toNat : Int), .int .u8 (d0.toNat : Int), .int .u8 (d1.toNat : Int), .int .u8 (d2.toNat : Int), .int .u8 (d3.toNat : Int), .slice (some ⟨b, o, none⟩) n c] 38)) := (Kp.refl W0).alloc _
    have hq6 := heap_alloc_new W0 (.cells #[.int .u16 7, .bool false, .int .i64 0, .int .u8 64, .int .u8 6, .int .u8 (s0.toNat : Int), .int .u8 (s1.toNat : Int), .int .u8 (s2.toNat : Int), .int .u8 (s3.toNat : Int), .int .u8 (d0.toNat : Int), .int .u8 (d1.toNat : Int), .int .u8 (d2.toNat : Int), .int .u8 (d3.toNat : Int), .slice (some ⟨b, o, none⟩) n c] 38)
    have hsa : (W0.alloc (.cells #[.int .u16 7, .bool false, .int .i64 0, .int .u8 64, .int .u8 6, .int .u8 (s0.toNat : Int), .int .u8 (s1.toNat : Int), .int .u8 (s2.toNat : Int), .int .u8 (s3.toNat : Int), .int .u8 (d0.toNat : Int), .int .u8 (d1.toNat : Int), .int .u8 (d2.toNat : Int), .int .u8 (d3.toNat : Int), .slice (some ⟨b, o, none⟩) n c] 38)).heap.size = W0.heap.size + 1 := by simp
    obtain ⟨wa, hwaa⟩ : ∃ wa, W0.alloc (.cells #[.int .u16 7, .bool false, .int .i64 0, .int .u8 64, .int .u8 6, .int .u8 (s0.toNat : Int), .int .u8 (s1.toNat : Int), .int .u8 (s2.toNat : Int), .int .u8 (s3.toNat : Int), .int .u8 (d0.toNat : Int), .int .u8 (d1.toNat : Int), .int .u8 (d2.toNat : Int), .int .u8 (d3.toNat : Int), .slice (some ⟨b, o, none⟩) n c] 38) = wa := ⟨_, rfl⟩
    obtain ⟨b6, hb6⟩ : ∃ x, W0.heap.size = x := ⟨_, rfl⟩
    rw [hwaa] at hwa hq6 hsa ⊢
    rw [hb6] at hq6 hsa ⊢
    have HB6 := Lib.hid hb6
    have HWA := Lib.hid hwa
    have HQ6 := Lib.hid hq6
    obtain ⟨lp, hlp⟩ : ∃ x, wa.heap.size = x := ⟨_, rfl⟩
    have HLP := Lib.hid hlp
    rw [hlp] at hsa
    clear hwaa hwa hq6 hlp hb6
    obtain ⟨L, hL⟩ : ∃ L, ckBytes n bs ⟨(ko, m), hx1, hx2, hx3⟩ = L := ⟨_, rfl⟩
    have HLL := Lib.hid hL
    have KC : ∀ W0', Kp wa.drew W0' → W0'.cell? ⟨b1 + 1, 0, none⟩ = some (.slice V j cv) ∧ Rd W0' 0 (some ⟨b, o + ko, none⟩) m L ∧ lp ≤ W0'.heap.size := fun W0' hW' => by
      have hk' : Kp wa W0' := ((Kp.refl wa).drew).trans hW'
      have q := ((HWA.out.trans hk').block _ (Array.getElem?_eq_some_iff.1 HV.out).1).trans HV.out
      refine ⟨(cell_of_row W0' _ 0 _ _ _ q).trans rfl, ?_, by rw [← HLP.out]; exact hk'.size⟩
      rw [← HLL.out]
      exact rd_sub (HA.out.keep (HK.out.trans (HWA.out.trans hk'))) hx1
    clear hL
    have hmul : IntKind.i64.wrap (176 * (j : Int)) = 176 * (j : Int) := by
      simp only [IntKind.wrap, IntKind.bits, IntKind.signed]
      simp
      omega
    refine wpIn_seq ?_
    have HQL : Hid (∀ (K : Act → World → Prop), ¬ LetsOut (Exit.then K (Exit.inBlock 1 (ownPostG w1.heap.size (K2 (b1 + 1 + 1) (b1 + 1 + 1 + 1)) (SpI n bs s0 s1 s2 s3 d0 d1 d2 d3 w (some ⟨b, o, none⟩) c w1.heap.size b1) (fun _ _ _ => False) (pre ++ [⟨(ko, m), hx1, hx2, hx3⟩]) W0)))) := Lib.hid (fun K ⟨_, _, h⟩ => h)
    refine wpIn_region_stepsR (HQL.out _) (by kernel_rfl) (by kernel_rfl) 6 (spphi lp b1 b6 j cv b o ko m V L) [23, 24, 25, 26, 27, 28] (by kernel_rfl) (by kernel_rfl) ⟨?_, ?_, ?_, ?_, ?_, ?_, trivial⟩ ?_
    · refine stepR_free rfl ?_
      intro a W hW hO hφ K hK
      have q4 : a.tmps.getD 4 undef = (.pointer (some ⟨b1 + 1, 0, none⟩)) := hO 4 (by kernel_rfl)
      have r4 := q4
      rw [Array.getD_eq_getD_getElem?] at r4
      clear hO hφ
      obtain ⟨z0, z1, z2⟩ := KC W hW
      clear KC
      go_simp
      exact hK _ _ (Kp.refl _) rfl
    · refine stepR_free rfl ?_
      intro a W hW hO hφ K hK
      have q23 : a.tmps.getD 23 undef = (.slice V j cv) := hφ ⟨0, .data⟩ (by simp) rfl
      have r23 := q23
      rw [Array.getD_eq_getD_getElem?] at r23
      clear hO hφ
      clear KC
      go_simp
      exact hK _ _ (Kp.refl _) rfl
    · refine stepR_free rfl ?_
      intro a W hW hO hφ K hK
      have q24 : a.tmps.getD 24 undef = (.int .i64 (j : Int)) := hφ ⟨1, .data⟩ (by simp) rfl
      have r24 := q24
      rw [Array.getD_eq_getD_getElem?] at r24
      clear hO hφ
      clear KC
      go_simp
      exact hK _ _ (Kp.refl _) rfl
    · refine stepR_free rfl ?_
      intro a W hW hO hφ K hK
      have q5 : a.tmps.getD 5 undef = (.slice (some ⟨b, o + ko, none⟩) m m) := hO 5 (by kernel_rfl)
      have r5 := q5
      rw [Array.getD_eq_getD_getElem?] at r5
      clear hO hφ
      clear KC
      go_simp
      exact hK _ _ (Kp.refl _) rfl
    · refine stepR_free rfl ?_
      intro a W hW hO hφ K hK
      have q26 : a.tmps.getD 26 undef = (.slice (some ⟨b, o + ko, none⟩) m m) := hφ ⟨3, .data⟩ (by simp) rfl
      have r26 := q26
      rw [Array.getD_eq_getD_getElem?] at r26
      clear hO hφ
      obtain ⟨z0, z1, z2⟩ := KC W hW
      clear KC
      go_simp
      go_at_call 30
      refine (clone8_any _ _ _ _ _ _ z1 hx2 (by omega)).mono ?_
      rintro e w' ⟨hk, gd, cap', rfl, hrd, hok⟩
      exact hK _ _ hk ⟨_, _, rfl, rd_lo hrd z2, hok⟩
    · refine stepR_free rfl ?_
      intro a W hW hO hφ K hK
      have q6 : a.tmps.getD 6 undef = (.pointer (some ⟨b6, 0, none⟩)) := hO 6 (by kernel_rfl)
      have r6 := q6
      rw [Array.getD_eq_getD_getElem?] at r6
      clear hO hφ
      clear KC
      go_simp
      exact hK _ _ (Kp.refl _) rfl
    intro f W hW hφ
    have v0 : f 0 = (.slice V j cv) := hφ 0 (by omega)
    have v1 : f 1 = (.int .i64 (j : Int)) := hφ 1 (by omega)
    have v2 : f 2 = (.int .i64 (176 * (j : Int))) := hφ 2 (by omega)
    have v3 : f 3 = (.slice (some ⟨b, o + ko, none⟩) m m) := hφ 3 (by omega)
    have v4 : (stR (St.cl0 lp m L)).p (f 4) W := hφ 4 (by omega)
    have v5 : f 5 = (.pointer (some ⟨b6, 2, none⟩)) := hφ 5 (by omega)
    clear hφ
    simp only [putAll, List.setIfInBounds_toArray, List.set_cons_succ, List.set_cons_zero, v0, v1, v2, v3, v5]
    clear v0 v1 v2 v3 v5
    have hkW : Kp wa W := ((Kp.refl wa).drew).trans hW
    obtain ⟨gd, c', hf, hrd, hok'⟩ := v4
    rw [hf]
    have own0 := own_of_row (k := 14) (cs := [.int .u16 7, .bool false, .int .i64 0, .int .u8 64, .int .u8 6, .int .u8 (s0.toNat : Int), .int .u8 (s1.toNat : Int), .int .u8 (s2.toNat : Int), .int .u8 (s3.toNat : Int), .int .u8 (d0.toNat : Int), .int .u8 (d1.toNat : Int), .int .u8 (d2.toNat : Int), .int .u8 (d3.toNat : Int), .slice (some ⟨b, o, none⟩) n c]) ((hkW.block _ (Array.getElem?_eq_some_iff.1 HQ6.out).1).trans HQ6.out) rfl
    have z2 : W.cell? ⟨b6, 2, none⟩ = some (.int .i64 0) := (own0.cellAt 2 (by omega)).trans rfl
    have y2 : W.frozen? ⟨b6, 2, none⟩ = false := own0.frozenAt 2
    have own1 := (own0.stored 2 (.int .i64 (176 * (j : Int)))).1
    have z13 : (W.setCell ⟨b6, 2, none⟩ (.int .i64 (176 * (j : Int)))).cell? ⟨b6, 13, none⟩ = some (.slice (some ⟨b, o, none⟩) n c) := (own1.cellAt 13 (by omega)).trans rfl
    have y13 : (W.setCell ⟨b6, 2, none⟩ (.int .i64 (176 * (j : Int)))).frozen? ⟨b6, 13, none⟩ = false := own1.frozenAt 13
    have own2 := (own1.stored 13 (.slice (some ⟨gd, 0, none⟩) m c')).1
    have OWN2 := Lib.hid own2
    have HRD := Lib.hid hrd
    clear own0 own1 own2 KC hf hrd hW
    refine wpAny_ready (rs := [6]) (by kernel_rfl) (by simp) (AllReady.cons rfl (fun K' hK' => ?_) AllReady.nil)
    split
    case isFalse hx => exact (hx rfl).elim
    go_simp
    refine hK' _ _ ?_
    refine wpAny_take (i := 7) (v := .pointer (some ⟨b6, 13, none⟩)) rfl (by kernel_rfl) (by kernel_rfl) (by kernel_rfl) (fun _ _ _ h => h) (Or.inl ⟨by rfl, ?_⟩) ?_
    · intro w; go_simp
    clear hK'
    refine wpAny_ready (rs := [8]) (by kernel_rfl) (by simp) (AllReady.cons rfl (fun K' hK' => ?_) AllReady.nil)
    split
    case isFalse hx => exact (hx rfl).elim
    go_simp
    refine hK' _ _ ?_
    refine wpAny_done (by kernel_rfl) ?_ _
    have row2 : (((W.setCell ⟨b6, 2, none⟩ (.int .i64 (176 * (j : Int)))).setCell ⟨b6, 13, none⟩ (.slice (some ⟨gd, 0, none⟩) m c')).heap[b6]? = some (.cells #[.int .u16 7, .bool false, .int .i64 (176 * (j : Int)), .int .u8 64, .int .u8 6, .int .u8 (s0.toNat : Int), .int .u8 (s1.toNat : Int), .int .u8 (s2.toNat : Int), .int .u8 (s3.toNat : Int), .int .u8 (d0.toNat : Int), .int .u8 (d1.toNat : Int), .int .u8 (d2.toNat : Int), .int .u8 (d3.toNat : Int), .slice (some ⟨gd, 0, none⟩) m c'] 38 (0, 0))) := row_of_own OWN2.out
    have hs0 : W.heap.size ≤ ((W.setCell ⟨b6, 2, none⟩ (.int .i64 (176 * (j : Int)))).setCell ⟨b6, 13, none⟩ (.slice (some ⟨gd, 0, none⟩) m c')).heap.size := by simp
    have hkR := (HWA.out.trans hkW).setCell (p := ⟨b6, 2, none⟩) (by show _ ≤ b6; rw [HB6.out]; exact Nat.le_refl _) (.int .i64 (176 * (j : Int)))
    have hkR := hkR.setCell (p := ⟨b6, 13, none⟩) (by show _ ≤ b6; rw [HB6.out]; exact Nat.le_refl _) (.slice (some ⟨gd, 0, none⟩) m c')
    have hrd2 : Rd ((W.setCell ⟨b6, 2, none⟩ (.int .i64 (176 * (j : Int)))).setCell ⟨b6, 13, none⟩ (.slice (some ⟨gd, 0, none⟩) m c')) lp (some ⟨gd, 0, none⟩) m L := (HRD.out.setCell (a := ⟨b6, 2, none⟩) (by show b6 < lp; omega) _).setCell (a := ⟨b6, 13, none⟩) (by show b6 < lp; omega) _
    obtain ⟨w2, hw2⟩ : ∃ w2, (W.setCell ⟨b6, 2, none⟩ (.int .i64 (176 * (j : Int)))).setCell ⟨b6, 13, none⟩ (.slice (some ⟨gd, 0, none⟩) m c') = w2 := ⟨_, rfl⟩
    rw [hw2] at row2 hkR hrd2 hs0 ⊢
    clear hw2 OWN2 HRD hK' z2 y2 z13 y13 hs0
    have own0 := own_of_row (k := 14) (cs := [.int .u16 7, .bool false, .int .i64 (176 * (j : Int)), .int .u8 64, .int .u8 6, .int .u8 (s0.toNat : Int), .int .u8 (s1.toNat : Int), .int .u8 (s2.toNat : Int), .int .u8 (s3.toNat : Int), .int .u8 (d0.toNat : Int), .int .u8 (d1.toNat : Int), .int .u8 (d2.toNat : Int), .int .u8 (d3.toNat : Int), .slice (some ⟨gd, 0, none⟩) m c']) row2 rfl
    have z1 : w2.cell? ⟨b6, 1, none⟩ = some (.bool false) := (own0.cellAt 1 (by omega)).trans rfl
    have y1 : w2.frozen? ⟨b6, 1, none⟩ = false := own0.frozenAt 1
    have z2 : w2.cell? ⟨b6, 2, none⟩ = some (.int .i64 (176 * (j : Int))) := (own0.cellAt 2 (by omega)).trans rfl
    have zd : w2.cell? ⟨b1, 13, none⟩ = some (.slice (some ⟨b, o, none⟩) n c) := (cell_of_row w2 _ 13 _ _ _ ((hkR.block _ (Array.getElem?_eq_some_iff.1 HROW.out).1).trans HROW.out)).trans rfl
    have own1 := (own0.stored 1 (.bool (decide (176 * (j : Int) + (m : Int) < (n : Int))))).1
    have row3 : (w2.setCell ⟨b6, 1, none⟩ (.bool (decide (176 * (j : Int) + (m : Int) < (n : Int))))).heap[b6]? = some (.cells #[.int .u16 7, .bool (decide (176 * (j : Int) + (m : Int) < (n : Int))), .int .i64 (176 * (j : Int)), .int .u8 64, .int .u8 6, .int .u8 (s0.toNat : Int), .int .u8 (s1.toNat : Int), .int .u8 (s2.toNat : Int), .int .u8 (s3.toNat : Int), .int .u8 (d0.toNat : Int), .int .u8 (d1.toNat : Int), .int .u8 (d2.toNat : Int), .int .u8 (d3.toNat : Int), .slice (some ⟨gd, 0, none⟩) m c'] 38 (0, 0)) := row_of_own own1
    have hkR3 := hkR.setCell (p := ⟨b6, 1, none⟩) (by show _ ≤ b6; rw [HB6.out]; exact Nat.le_refl _) (.bool (decide (176 * (j : Int) + (m : Int) < (n : Int))))
    have hrd3 : Rd (w2.setCell ⟨b6, 1, none⟩ (.bool (decide (176 * (j : Int) + (m : Int) < (n : Int))))) lp (some ⟨gd, 0, none⟩) m L := hrd2.setCell (a := ⟨b6, 1, none⟩) (by show b6 < lp; omega) _
    have HROW3 := Lib.hid row3
    have HKR3 := Lib.hid hkR3
    have HRD3 := Lib.hid hrd3
    have hmul2 : IntKind.i64.wrap (176 * (j : Int) + (m : Int)) = 176 * (j : Int) + (m : Int) := by
      simp only [IntKind.wrap, IntKind.bits, IntKind.signed]
      simp
      omega
    clear own0 own1 row2 row3 hkR hkR3 hrd2 hrd3
    refine wpIn_seq ?_
    refine regionIn_list (HQL.out _) (by kernel_rfl) ?_
    go_wp2
    obtain ⟨w3, hw3⟩ : ∃ w3, w2.setCell ⟨b6, 1, none⟩ (.bool (decide (176 * (j : Int) + (m : Int) < (n : Int)))) = w3 := ⟨_, rfl⟩
    have row3 := HROW3.out
    have hkR3 := HKR3.out
    have hrd3 := HRD3.out
    rw [hw3] at row3 hkR3 hrd3 ⊢
    have QROW3 := Lib.hid row3
    have QKR3 := Lib.hid hkR3
    have QRD3 := Lib.hid hrd3
    have z1' : w3.cell? ⟨b1 + 1, 0, none⟩ = some (.slice V j cv) := (cell_of_row w3 _ 0 _ _ _ ((hkR3.block _ (Array.getElem?_eq_some_iff.1 HV.out).1).trans HV.out)).trans rfl
    clear hw3 HROW3 HKR3 HRD3 row3 hkR3 hrd3 z1 y1 z2 zd hkW hmul hmul2
    have hown3 := orow_keep (orow_keep HOWN.out QKR3.out) ((Kp.refl w3).alloc (.cells #[.int .u16 7, .bool (decide (176 * (j : Int) + (m : Int) < (n : Int))), .int .i64 (176 * (j : Int)), .int .u8 64, .int .u8 6, .int .u8 (s0.toNat : Int), .int .u8 (s1.toNat : Int), .int .u8 (s2.toNat : Int), .int .u8 (s3.toNat : Int), .int .u8 (d0.toNat : Int), .int .u8 (d1.toNat : Int), .int .u8 (d2.toNat : Int), .int .u8 (d3.toNat : Int), .slice (some ⟨gd, 0, none⟩) m c'] 38))
    have HOWN3 := Lib.hid hown3
    have hlo3 : w1.heap.size ≤ w3.heap.size := Nat.le_trans hlo QKR3.out.size
    have hlb : b1 + 1 < w3.heap.size := by have := HS1.out; omega
    clear hown3
    refine regionIn_list (fun ⟨_, _, h⟩ => h) (by kernel_rfl) ?_
    go_wp2_with (first
      | (refine lld_row (by rfl) (.tmp 6) _ _ rfl rfl QROW3.out Try.underlying38 rfl szPkt ?_)
      | (at_builtin; go_loud (refine lapp_more (lo := w1.heap.size) (vs := pkc n s0 s1 s2 s3 d0 d1 d2 d3 j ⟨(ko, m), hx1, hx2, hx3⟩ gd c') rfl (.tmp 40) (.tmp 42) rfl rfl HOWN3.out (by omega) rfl rfl rfl (cells_lit _ _ _ _ _ (by first | rfl | simp)) (by simp <;> omega) ?_; intro v4 w4 hown4 hgr4; obtain ⟨g4, cap4, rfl, hg4, _⟩ := orow_succ hown4; have row4 := (hgr4.block (b1 + 1) (by rw [World.size_alloc]; omega) (fun hb => by have := (own_blk HOWN3.out _ hb.symm).1; rw [HS1.out] at this; omega)).trans ((Below.heap_alloc _ _ _ (by omega)).trans ((QKR3.out.block _ (Array.getElem?_eq_some_iff.1 HV.out).1).trans HV.out)); have z4 := (cell_of_row w4 _ 0 _ _ _ row4).trans rfl; have y4 := (own_of_row (k := 1) row4 rfl).frozenAt 0)))
    have hgr : (w3.alloc (.cells #[.int .u16 7, .bool (decide (176 * (j : Int) + (m : Int) < (n : Int))), .int .i64 (176 * (j : Int)), .int .u8 64, .int .u8 6, .int .u8 (s0.toNat : Int), .int .u8 (s1.toNat : Int), .int .u8 (s2.toNat : Int), .int .u8 (s3.toNat : Int), .int .u8 (d0.toNat : Int), .int .u8 (d1.toNat : Int), .int .u8 (d2.toNat : Int), .int .u8 (d3.toNat : Int), .slice (some ⟨gd, 0, none⟩) m c'] 38)).grownBy w4 (Value.slice V j cv).ownBlock := hgr4
    have hob : ∀ r, (Value.slice V j cv).ownBlock = some r → w1.heap.size ≤ r := fun r hr => (own_blk HOWN.out r hr).1
    have e1 := HS1.out
    have hblk : ∀ k, k < W0.heap.size → k ≠ b1 + 1 → some k ≠ (Value.slice V j cv).ownBlock → (w4.setCell ⟨b1 + 1, 0, none⟩ (.slice (some ⟨g4, 0, none⟩) (j + 1) cap4)).heap[k]? = W0.heap[k]? := fun k hk h1 h2 =>
      (Below.heap_setCell w4 _ _ k h1).trans ((hgr.block k (by rw [World.size_alloc]; have := QKR3.out.size; omega) (fun hb => h2 (by rw [hb]))).trans ((Below.heap_alloc _ _ _ (by have := QKR3.out.size; omega)).trans (QKR3.out.block k hk)))
    have hsz : W0.heap.size ≤ (w4.setCell ⟨b1 + 1, 0, none⟩ (.slice (some ⟨g4, 0, none⟩) (j + 1) cap4)).heap.size := by
      have h1 := hgr.size
      have h2 := QKR3.out.size
      rw [World.size_alloc] at h1
      simp
      omega
    have hrk : ∀ lo' gd0 m0 l0, b1 + 1 < lo' → Rd w3 lo' (some ⟨gd0, 0, none⟩) m0 l0 → Rd (w4.setCell ⟨b1 + 1, 0, none⟩ (.slice (some ⟨g4, 0, none⟩) (j + 1) cap4)) lo' (some ⟨gd0, 0, none⟩) m0 l0 := fun lo' gd0 m0 l0 hl h =>
      (rd_kept HOWN3.out hx0 hgr (h.keep ((Kp.refl w3).alloc _))).setCell (a := ⟨b1 + 1, 0, none⟩) hl _
    rw [← e1]
    refine ⟨⟨hsz, fun k ob hB hk hc => ?_⟩, ?_, ⟨.slice (some ⟨g4, 0, none⟩) (j + 1) cap4, ?_, ?_⟩, ?_, ?_, Nat.le_trans hlo hsz⟩
    · refine (hblk k (Array.getElem?_eq_some_iff.1 hk).1 (by omega) (fun hb => ?_)).trans hk
      obtain ⟨_, cur, hrw, _⟩ := own_blk HOWN.out k hb.symm
      rw [hrw] at hk
      injection hk with hk
      subst hk
      cases hc
    · intro k hk ob ho
      exact (hblk k (Array.getElem?_eq_some_iff.1 ho).1 (by omega) (fun hb => by have := hob k hb.symm; omega)).trans ho
    · exact row_of_own (own_of_row (k := 1) row4 rfl |>.stored 0 _).1
    · refine HFIN.out _ _ gd c' (orow_setCell hown4 (by show b1 + 1 < _; omega)) (fun gd0 m0 l0 h => hrk _ _ _ _ (by omega) (h.keep QKR3.out)) ?_ hok'
      rw [HLL.out]
      exact rd_lo (hrk _ _ _ _ (by have := HB6.out; omega) QRD3.out) (by have := HB6.out; omega)
    · exact (hblk b1 (Array.getElem?_eq_some_iff.1 HROW.out).1 (by omega) (fun hb => by have := hob b1 hb.symm; omega)).trans HROW.out
    · have hbb := HB1.out
      exact ((((HK.out.trans QKR3.out).alloc _).grownR hgr (fun k hk => by have := hob k hk; omega)).setCell (p := ⟨b1 + 1, 0, none⟩) (by show _ ≤ b1 + 1; omega) _)
  case done =>
    rintro D xs W hD hxs ⟨⟨v, hv, hov⟩, hrow, hk, hlo⟩ hDD
    have hc := (cell_of_row W (b1 + 1) 0 _ _ _ hv).trans (show _ = some v from rfl)
    obtain ⟨g, kk, cap, rfl, hkk⟩ : ∃ g kk cap, v = .slice (some ⟨g, 0, none⟩) kk cap ∧ 0 < kk := by
      rcases hxs with ⟨_, _, rfl⟩ | ⟨_, _, _, rfl⟩
      · obtain ⟨g, cap, _, _, rfl, _⟩ := hov; exact ⟨g, 1, cap, rfl, by omega⟩
      · obtain ⟨g, cap, _, _, _, _, rfl, _⟩ := hov; exact ⟨g, 2, cap, rfl, by omega⟩
    have HOV := Lib.hid hov
    have HKW := Lib.hid hk
    have HXS := Lib.hid hxs
    have HDD := Lib.hid hDD
    clear hov hk hxs hDD
    have hk0 : ¬ (kk : Int) = 0 := by omega
    go_wp2
    have hD1 : b1 + 1 + 1 + 1 + 1 ≤ D := by have := HS1.out; omega
    have hck : CK W (W.putObj D (.deferred none)) := ck_of (row := some D) (n := 0) (grownBy_putObj' W D _) (fun r e => by cases e; exact ⟨Nat.zero_le _, _, HDD.out, rfl⟩)
    have hkp : Kp w (W.putObj D (.deferred none)) := HKW.out.grownR (grownBy_putObj' W D _) (fun k e => by cases e; have := HB1.out; omega)
    refine ⟨by simp, .inl ⟨_, _, rfl, run_takeDeferred HDD.out, ?_⟩⟩
    refine ⟨_, results_tmp2 rfl _ _ _, hkp, _, xs, rfl, HXS.out, ?_⟩
    exact OutV.low n bs s0 s1 s2 s3 d0 d1 d2 d3 (by have h1 := HS1.out; have h2 := HB1.out; omega) (OutV.ck n bs s0 s1 s2 s3 d0 d1 d2 d3 hck HOV.out)
  case stop =>
    rintro D cc pre W _ _ h _
    exact h.elim
end Go.Proofs.Ytnoobifdaldfiaa.Fr
