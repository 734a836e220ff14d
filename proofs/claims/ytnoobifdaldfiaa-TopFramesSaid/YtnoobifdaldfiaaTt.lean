/-
  slices.Chunk over bytes: the iterator's contract, at pieces of 176, at most two.
-/
import Derived.Test.YtnoobifdaldfiaaTs
import Derived.Test.YtnoobifdaldfiaaTh
namespace Go.Proofs.Ytnoobifdaldfiaa.Fr
open Go.RowKit
set_option maxRecDepth 100000

/-- where a piece begins, and how long it is -/
abbrev Ck (n : Nat) : Type := { p : Nat × Nat // p.1 + p.2 ≤ n ∧ 0 < p.2 ∧ p.2 ≤ 176 }
def Ck.val {n : Nat} (b o : Nat) (x : Ck n) : Value := .slice (some ⟨b, o + x.1.1, none⟩) x.1.2 x.1.2

theorem chunk_any (w : World) (A : Option Addr) (n c : Nat) :
    Calls Try.prog 29 #[.slice A n c, .int .i64 176] w fun e w' => e = .returned (.func (.func 51) #[] #[.pointer (some ⟨w.heap.size, 0, none⟩), .pointer (some ⟨w.heap.size + 1, 0, none⟩)]) ∧
      w' = (w.alloc (.cells #[.slice A n c] 24)).alloc (.cells #[.int .i64 176] 3) := by
  have hmf : ∀ (fn : Fn) (first cap : Array Value) (w : World), (Instr.makeFunc fn first cap).run Try.prog w = .ok (.func fn first cap) w := fun _ _ _ _ => rfl
  go_enter Try.func29, Try.ntmps29
  go_wp2
  go_ret
  exact ⟨rfl, rfl⟩

def St.len (m : Nat) : St := ⟨fun v _ => ∃ B c, v = .slice B m c, fun _ _ _ h _ => h⟩
noncomputable def ckphi (i1 i2 b o n c k E : Nat) : Nat → StR Keep.kp := fun i => ([StR.val (.int .i64 176),
  StR.val (.slice (some ⟨b, o, none⟩) n c),
  StR.val (.int .i64 (k : Int)),
  stR (St.len (n - k)),
  StR.val (.int .i64 ((n - k : Nat) : Int)),
  StR.val (.int .i64 (E : Int)),
  StR.val (.int .i64 (E : Int))] : List (StR Keep.kp)).getD i StR.any

def K2 (i1 i2 : Nat) (W W' : World) : Prop := ∀ k, k = i1 ∨ k = i2 → ∀ o, W.heap[k]? = some o → W'.heap[k]? = some o
theorem K2.of_kp {i1 i2 : Nat} {W W' : World} (h : Kp W W') : K2 i1 i2 W W' := fun k _ o ho => (h.block k (Array.getElem?_eq_some_iff.1 ho).1).trans ho
theorem K2.trans {i1 i2 : Nat} {a b c : World} (h : K2 i1 i2 a b) (k : K2 i1 i2 b c) : K2 i1 i2 a c := fun j hj o ho => k j hj o (h j hj o ho)
theorem gb_of_kp {W W' : World} (h : Kp W W') : W.grownBy W' none := ⟨h.os, h.tape, h.output, h.size, fun k hk _ => h.block k hk⟩
def ck0 (n : Nat) (h : 0 < n) : Ck n := ⟨(0, min n 176), by simp; omega⟩
def ck1 (n : Nat) (h : 176 < n) (h2 : n ≤ 352) : Ck n := ⟨(176, n - 176), by simp; omega⟩
/-- the pieces that come -/
def Cks (n : Nat) (xs : List (Ck n)) : Prop := (∃ h : 0 < n, n ≤ 176 ∧ xs = [ck0 n h]) ∨ (∃ (h0 : 0 < n) (h : 176 < n) (h2 : n ≤ 352), xs = [ck0 n h0, ck1 n h h2])

set_option maxHeartbeats 4000000 in
theorem ck_in (nn l i1 i2 b o n c : Nat) (bs : List UInt8) (hn : 0 < n) (hn2 : n ≤ 352) (J Jx : List (Ck n) → World → Prop) (W0 : World) (hJA : AbidesFrom W0.heap.size J) (hR : Rd W0 0 (some ⟨b, o, none⟩) n bs) (hok : SlOk (some ⟨b, o, none⟩) n c)
    (hY : ∀ pre x W, J pre W → pre.length < 2 → YieldAt Fence.wide (nn - 1) Try.prog l #[Ck.val b o x] W fun e W' =>
      (e = .returned (.bool true) ∧ J (pre ++ [x]) W' ∧ K2 i1 i2 W W') ∨ (e = .returned (.bool false) ∧ Jx (pre ++ [x]) W'))
    (h1 : W0.heap[i1]? = some (.cells #[.slice (some ⟨b, o, none⟩) n c] 24 (0, 0))) (h2 : W0.heap[i2]? = some (.cells #[.int .i64 176] 3 (0, 0))) (h0 : J [] W0) :
    CallsIn Fence.wide nn Try.prog 51 #[.func (.yield l) #[] #[], .pointer (some ⟨i1, 0, none⟩), .pointer (some ⟨i2, 0, none⟩)] W0 fun e W' => (∃ v, e = .returned v) ∧ ((∃ xs, Cks n xs ∧ J xs W') ∨ (∃ pre, True ∧ Jx pre W')) := by
  have HR := Lib.hid hR
  have HOK := Lib.hid hok
  have HJA := Lib.hid hJA
  have hcn := hok.1
  have hcm := hok.2.1
  clear hR hok hJA
  obtain ⟨i0, hi0, hz0, hz1, hz2⟩ := info_parts info5
  refine callsIn_of_wp Try.func51 rfl trivial ?_ rfl
  simp only [Try.ntmps51, List.size_toArray, List.length_cons, List.length_nil, Nat.reduceAdd, Nat.reduceSub, Array.replicate_succ, Array.replicate_zero, List.push_toArray, List.append_toArray, List.nil_append, List.cons_append]
  gi_wp2
  gi_loopw [4] (fun i wr => ∃ k : Nat, i = .int .i64 (k : Int) ∧ wr.heap[i1]? = some (.cells #[.slice (some ⟨b, o, none⟩) n c] 24 (0, 0)) ∧ wr.heap[i2]? = some (.cells #[.int .i64 176] 3 (0, 0)) ∧
      ((k = 0 ∧ J [] wr) ∨ (k = 176 ∧ J [ck0 n hn] wr) ∨ (k = 352 ∧ ∃ h, J [ck0 n hn, ck1 n h hn2] wr)))
    (fun i _ => 352 - (intOf i).toNat)
  case atStart => exact ⟨0, rfl, h1, h2, .inl ⟨rfl, h0⟩⟩
  case round =>
    obtain ⟨k, rfl, hr1, hr2, hJ⟩ := hrel
    have z0 : wr.cell? ⟨i1, 0, none⟩ = some (.slice (some ⟨b, o, none⟩) n c) := (cell_of_row wr _ 0 _ _ _ hr1).trans rfl
    by_cases hlt : k < n
    · have hlt' : (k : Int) < (n : Int) := by omega
      gi_wp2
      obtain ⟨E, hE⟩ : ∃ E, min 176 (n - k) = E := ⟨_, rfl⟩
      have hE2 : 0 < E ∧ E ≤ 176 ∧ k + E ≤ n := by omega
      obtain ⟨A2, sl, _, _⟩ := cut_lo (P := Try.prog) (kd := .i64) Try.underlying24 hi0 hz1 HR.out HOK.out (m := k) (by omega)
      have HSL := Lib.hid sl
      have HMIN : Hid ((if ((n - k : Nat) : Int) < 176 then ((n - k : Nat) : Int) else 176) = (E : Int)) := Lib.hid (by split <;> omega)
      have KC : ∀ W, Kp wr.drew W → W.cell? ⟨i2, 0, none⟩ = some (.int .i64 176) ∧ W.cell? ⟨i1, 0, none⟩ = some (.slice (some ⟨b, o, none⟩) n c) := fun W hW => by
        have hk : Kp wr W := ((Kp.refl wr).drew).trans hW
        exact ⟨(cell_of_row W _ 0 _ _ _ ((hk.block _ (Array.getElem?_eq_some_iff.1 hr2).1).trans hr2)).trans rfl, (cell_of_row W _ 0 _ _ _ ((hk.block _ (Array.getElem?_eq_some_iff.1 hr1).1).trans hr1)).trans rfl⟩
      clear sl z0
      have HE := Lib.hid hE
      clear hE
      refine wpIn_wide.2 ?_
      refine wp_region_stepsR (by kernel_rfl) 7 (ckphi i1 i2 b o n c k E) [13, 14, 15, 16, 17, 18, 5] (by kernel_rfl) (by kernel_rfl) ⟨?_, ?_, ?_, ?_, ?_, ?_, ?_, trivial⟩ ?_
      · refine stepR_free rfl ?_
        intro a W hW hO hφ K hK
        have q2 : a.tmps.getD 2 undef = (.pointer (some ⟨i2, 0, none⟩)) := hO 2 (by kernel_rfl)
        have r2 := q2
        rw [Array.getD_eq_getD_getElem?] at r2
        clear hO hφ
        obtain ⟨z0, z1⟩ := KC W hW
        clear KC
        go_simp
        exact hK _ _ (Kp.refl _) rfl
      · refine stepR_free rfl ?_
        intro a W hW hO hφ K hK
        have q1 : a.tmps.getD 1 undef = (.pointer (some ⟨i1, 0, none⟩)) := hO 1 (by kernel_rfl)
        have r1 := q1
        rw [Array.getD_eq_getD_getElem?] at r1
        clear hO hφ
        obtain ⟨z0, z1⟩ := KC W hW
        clear KC
        go_simp
        exact hK _ _ (Kp.refl _) rfl
      · refine stepR_free rfl ?_
        intro a W hW hO hφ K hK
        have q4 : a.tmps.getD 4 undef = (.int .i64 (k : Int)) := hO 4 (by kernel_rfl)
        have r4 := q4
        rw [Array.getD_eq_getD_getElem?] at r4
        clear hO hφ
        clear KC
        go_simp
        exact hK _ _ (Kp.refl _) rfl
      · refine stepR_free rfl ?_
        intro a W hW hO hφ K hK
        have q14 : a.tmps.getD 14 undef = (.slice (some ⟨b, o, none⟩) n c) := hφ ⟨1, .data⟩ (by simp) rfl
        have q15 : a.tmps.getD 15 undef = (.int .i64 (k : Int)) := hφ ⟨2, .data⟩ (by simp) rfl
        have r14 := q14
        rw [Array.getD_eq_getD_getElem?] at r14
        have r15 := q15
        rw [Array.getD_eq_getD_getElem?] at r15
        clear hO hφ
        clear KC
        have hs := HSL.out W
        go_simp
        exact hK _ _ (Kp.refl _) ⟨_, _, rfl⟩
      · refine stepR_free rfl ?_
        intro a W hW hO hφ K hK
        have q16 : (stR (St.len (n - k))).p (a.tmps.getD 16 undef) W := hφ ⟨3, .data⟩ (by simp) rfl
        clear hO hφ
        obtain ⟨B, cc, q16'⟩ := q16
        have r16 := q16'
        rw [Array.getD_eq_getD_getElem?] at r16
        clear KC
        go_simp
        exact hK _ _ (Kp.refl _) rfl
      · refine stepR_free rfl ?_
        intro a W hW hO hφ K hK
        have q13 : a.tmps.getD 13 undef = (.int .i64 176) := hφ ⟨0, .data⟩ (by simp) rfl
        have q17 : a.tmps.getD 17 undef = (.int .i64 ((n - k : Nat) : Int)) := hφ ⟨4, .data⟩ (by simp) rfl
        have r13 := q13
        rw [Array.getD_eq_getD_getElem?] at r13
        have r17 := q17
        rw [Array.getD_eq_getD_getElem?] at r17
        clear hO hφ
        clear KC
        have hm := HMIN.out
        go_simp
        exact hK _ _ (Kp.refl _) rfl
      · refine stepR_free rfl ?_
        intro a W hW hO hφ K hK
        have q18 : a.tmps.getD 18 undef = (.int .i64 (E : Int)) := hφ ⟨5, .data⟩ (by simp) rfl
        have r18 := q18
        rw [Array.getD_eq_getD_getElem?] at r18
        clear hO hφ
        clear KC
        go_simp
        exact hK _ _ (Kp.refl _) rfl
      intro f W hW hφ
      have v0 : f 0 = (.int .i64 176) := hφ 0 (by omega)
      have v1 : f 1 = (.slice (some ⟨b, o, none⟩) n c) := hφ 1 (by omega)
      have v2 : f 2 = (.int .i64 (k : Int)) := hφ 2 (by omega)
      have v3 : (stR (St.len (n - k))).p (f 3) W := hφ 3 (by omega)
      have v4 : f 4 = (.int .i64 ((n - k : Nat) : Int)) := hφ 4 (by omega)
      have v5 : f 5 = (.int .i64 (E : Int)) := hφ 5 (by omega)
      have v6 : f 6 = (.int .i64 (E : Int)) := hφ 6 (by omega)
      clear hφ
      simp only [putAll, List.setIfInBounds_toArray, List.set_cons_succ, List.set_cons_zero, v0, v1, v2, v4, v5, v6]
      clear v0 v1 v2 v4 v5 v6
      refine wpAny_done (by kernel_rfl) ?_ _
      have hkW : Kp wr W := ((Kp.refl wr).drew).trans hW
      have hr1' := (hkW.block _ (Array.getElem?_eq_some_iff.1 hr1).1).trans hr1
      have hr2' := (hkW.block _ (Array.getElem?_eq_some_iff.1 hr2).1).trans hr2
      have z0 : W.cell? ⟨i1, 0, none⟩ = some (.slice (some ⟨b, o, none⟩) n c) := (cell_of_row W _ 0 _ _ _ hr1').trans rfl
      clear KC HSL HMIN
      have hpx : ∃ (pre : List (Ck n)) (x : Ck n), J pre W ∧ pre.length < 2 ∧ x.1 = (k, E) ∧ ((k = 0 ∧ pre ++ [x] = [ck0 n hn]) ∨ (k = 176 ∧ ∃ h, pre ++ [x] = [ck0 n hn, ck1 n h hn2])) := by
        have hgb := gb_of_kp hkW
        have hE := HE.out
        rcases hJ with ⟨rfl, hJ⟩ | ⟨rfl, hJ⟩ | ⟨rfl, _⟩
        · exact ⟨[], ck0 n hn, HJA.out _ _ _ none hJ hgb (fun r e => (by cases e)), by simp, by show ((0, min n 176) : Nat × Nat) = (0, E); rw [Prod.mk.injEq]; omega, .inl ⟨rfl, rfl⟩⟩
        · exact ⟨[ck0 n hn], ck1 n hlt hn2, HJA.out _ _ _ none hJ hgb (fun r e => (by cases e)), by simp, by show ((176, n - 176) : Nat × Nat) = (176, E); rw [Prod.mk.injEq]; omega, .inr ⟨rfl, hlt, rfl⟩⟩
        · omega
      obtain ⟨pre, x, hJp, hpl, hx, hnext⟩ := hpx
      obtain ⟨fn, tmps, assign, body, hy, hR⟩ := hY pre x W hJp hpl
      have hy' : (Instr.yield l #[.slice (some ⟨b, o + k, none⟩) E E]).run Try.prog W = .ok (.round l fn tmps assign body) W := by
        have := hy
        unfold Ck.val at this
        rw [hx] at this
        exact this
      have HRR := Lib.hid hR
      clear hy hR hJ hW v3
      gi_wp2
      refine ⟨fun h => (by cases h), HRR.out.mono ?_⟩
      rintro e W3 (⟨rfl, hJ3, hk3⟩ | ⟨rfl, hJx3⟩)
      · have hr1'' := hk3 i1 (.inl rfl) _ hr1'
        have hr2'' := hk3 i2 (.inr rfl) _ hr2'
        have y2 : W3.cell? ⟨i2, 0, none⟩ = some (.int .i64 176) := (cell_of_row W3 _ 0 _ _ _ hr2'').trans rfl
        gi_wp2
        go_roundw
        case rel =>
          refine ⟨k + 176, by simp, hr1'', hr2'', ?_⟩
          rcases hnext with ⟨rfl, e⟩ | ⟨rfl, h, e⟩
          · rw [e] at hJ3; exact .inr (.inl ⟨rfl, hJ3⟩)
          · rw [e] at hJ3; exact .inr (.inr ⟨rfl, h, hJ3⟩)
        case measure => simp [intOf]; omega
      · gi_wp2
        refine bodyPost_ret (results_none rfl _ _ _) rfl ?_
        exact ⟨⟨_, rfl⟩, .inr ⟨_, trivial, hJx3⟩⟩
    · have hlt' : ¬ (k : Int) < (n : Int) := by omega
      gi_wp2
      go_end0
      refine ⟨⟨_, rfl⟩, .inl ?_⟩
      rcases hJ with ⟨rfl, hJ⟩ | ⟨rfl, hJ⟩ | ⟨rfl, h, hJ⟩
      · omega
      · exact ⟨_, .inl ⟨hn, by omega, rfl⟩, hJ⟩
      · exact ⟨_, .inr ⟨hn, h, hn2, rfl⟩, hJ⟩
end Go.Proofs.Ytnoobifdaldfiaa.Fr
