/-
  frag.Add of a whole packet at no hole: the packet, its data copied.
-/
import Derived.Test.YtnoobifdaldfiaaTe
import Derived.Test.YtnoobifdaldfiaaTd
import Derived.Test.YtnoobifdaldfiaaTf
namespace Go.Proofs.Ytnoobifdaldfiaa.Fr
open Go.RowKit
set_option maxRecDepth 100000

section
variable {P : Program} {w : World} {g off : Nat}
theorem run_loadVar_part (ty : TypeId) (vs : List Value) (d : TypeDesc) (hc : ∀ j v, vs[j]? = some v → w.cell? ⟨g, off + j, none⟩ = some v)
    (hu : P.underlying ty = some d) (hd : (match d with | .struct _ | .array _ _ => true | _ => false) = true) (hi : (P.info? ty).map (·.size) = some vs.length) :
    (loadVar ty ⟨g, off, none⟩).run P w = .ok (.agg vs.toArray) w := by
  have hl : (loadCells ⟨g, off, none⟩ vs.length).run P w = .ok vs.toArray w :=
    run_loadCells_list (P := P) w ⟨g, off, none⟩ vs (fun j v hv => by
      have hadd : (⟨g, off, none⟩ : Addr).add j = ⟨g, off + j, none⟩ := by unfold Addr.add; split <;> simp_all
      rw [hadd]
      exact hc j v hv)
  cases hq : P.info? ty with
  | none => simp [hq] at hi
  | some i =>
    have hs : i.size = vs.length := by simpa [hq] using hi
    have hagg : (isAgg ty).run P w = .ok true w := by
      unfold isAgg
      rw [Sem.run_bind, run_underlying hu w]
      cases d <;> simp_all
    simp [loadVar, Sem.run_bind, hagg, sizeOf, typeInfo, hq, hs, hl]
theorem old_part {o : Oper} {a : Act} {K : Act → World → Prop} {Q : Exit → Act → World → Prop} {cs : Array Value} {T : TypeId} {mm : Nat × Nat} (p : Operand) (ty : TypeId) (d : TypeDesc) (vs : List Value) (ho : o.op = .load ty p)
    (hp : a.eval p = .pointer (some ⟨g, off, none⟩)) (hrow : w.heap[g]? = some (.cells cs T mm)) (hsub : (cs.toList.drop off).take vs.length = vs)
    (hu : P.underlying ty = some d) (hd : (match d with | .struct _ | .array _ _ => true | _ => false) = true) (hi : (P.info? ty).map (·.size) = some vs.length)
    (h : K (a.put o.dst (.agg vs.toArray)) w) : Oper.wp P o a w K Q := by
  have hr := run_loadVar_part (P := P) (w := w) (g := g) (off := off) ty vs d (fun j v hv => by
    rw [cell_of_row w g (off + j) cs T mm hrow]
    rw [← hsub, List.getElem?_take] at hv
    split at hv
    · rw [List.getElem?_drop] at hv
      simpa using hv
    · cases hv) hu hd hi
  unfold Oper.wp execOp
  simp only [ho, hp, Instr.loadAt, Instr.sureAddr, Sem.run_bind, Sem.run_pure, Result.andThen_ok, hr]
  exact h
end


theorem row_alloc2 (w : World) (o1 o2 : Obj) : ((w.alloc o1).alloc o2).heap[w.heap.size]? = some o1 ∧ ((w.alloc o1).alloc o2).heap[w.heap.size + 1]? = some o2 := by
  refine ⟨(Below.heap_alloc _ _ _ (by simp)).trans (heap_alloc_new w _), ?_⟩
  have := heap_alloc_new (w.alloc o1) o2
  rw [show (w.alloc o1).heap.size = w.heap.size + 1 by simp] at this
  exact this

noncomputable def adA (b4 : Nat) (s0 s1 s2 s3 d0 d1 d2 d3 : UInt8) (gd n k : Nat) : Nat → StR Keep.kp := fun i => ([StR.val (.slice none 0 0),
  StR.val (.agg #[.int .u16 7, .bool false, .int .i64 0, .int .u8 64, .int .u8 6, .int .u8 (s0.toNat : Int), .int .u8 (s1.toNat : Int), .int .u8 (s2.toNat : Int), .int .u8 (s3.toNat : Int), .int .u8 (d0.toNat : Int), .int .u8 (d1.toNat : Int), .int .u8 (d2.toNat : Int), .int .u8 (d3.toNat : Int), .slice (some ⟨gd, 0, none⟩) n k]),
  StR.val (.slice none 0 0)] : List (StR Keep.kp)).getD i StR.any

set_option maxHeartbeats 2000000 in
theorem add_a (w : World) (s0 s1 s2 s3 d0 d1 d2 d3 : UInt8) (A : Option Addr) (n c : Nat) (l : List UInt8) (hA : Rd w 0 A n l) (hn : 0 < n) (hn2 : n ≤ 1000) :
    Calls Try.prog 16 #[.slice none 0 0, .agg #[.int .u16 7, .bool false, .int .i64 0, .int .u8 64, .int .u8 6, .int .u8 (s0.toNat : Int), .int .u8 (s1.toNat : Int), .int .u8 (s2.toNat : Int), .int .u8 (s3.toNat : Int), .int .u8 (d0.toNat : Int), .int .u8 (d1.toNat : Int), .int .u8 (d2.toNat : Int), .int .u8 (d3.toNat : Int), .slice A n c], .int .u64 0] w fun e w' => Kp w w' ∧ ∃ gd k, e = .returned (.tuple #[.slice none 0 0, .agg #[.int .u16 7, .bool false, .int .i64 0, .int .u8 64, .int .u8 6, .int .u8 (s0.toNat : Int), .int .u8 (s1.toNat : Int), .int .u8 (s2.toNat : Int), .int .u8 (s3.toNat : Int), .int .u8 (d0.toNat : Int), .int .u8 (d1.toNat : Int), .int .u8 (d2.toNat : Int), .int .u8 (d3.toNat : Int), .slice (some ⟨gd, 0, none⟩) n k], .bool true, .int .i64 0]) ∧
      Rd w' w.heap.size (some ⟨gd, 0, none⟩) n l ∧ SlOk (some ⟨gd, 0, none⟩) n k := by
  obtain ⟨r4, r7⟩ := row_alloc2 w (.cells #[.int .u16 7, .bool false, .int .i64 0, .int .u8 64, .int .u8 6, .int .u8 (s0.toNat : Int), .int .u8 (s1.toNat : Int), .int .u8 (s2.toNat : Int), .int .u8 (s3.toNat : Int), .int .u8 (d0.toNat : Int), .int .u8 (d1.toNat : Int), .int .u8 (d2.toNat : Int), .int .u8 (d3.toNat : Int), .slice A n c] 38) (.cells #[.int .u16 0, .bool false, .int .i64 0, .int .u8 0, .int .u8 0, .int .u8 0, .int .u8 0, .int .u8 0, .int .u8 0, .int .u8 0, .int .u8 0, .int .u8 0, .int .u8 0, .slice none 0 0] 38)
  have kp : Kp w ((w.alloc (.cells #[.int .u16 7, .bool false, .int .i64 0, .int .u8 64, .int .u8 6, .int .u8 (s0.toNat : Int), .int .u8 (s1.toNat : Int), .int .u8 (s2.toNat : Int), .int .u8 (s3.toNat : Int), .int .u8 (d0.toNat : Int), .int .u8 (d1.toNat : Int), .int .u8 (d2.toNat : Int), .int .u8 (d3.toNat : Int), .slice A n c] 38)).alloc (.cells #[.int .u16 0, .bool false, .int .i64 0, .int .u8 0, .int .u8 0, .int .u8 0, .int .u8 0, .int .u8 0, .int .u8 0, .int .u8 0, .int .u8 0, .int .u8 0, .int .u8 0, .slice none 0 0] 38)) := ((Kp.refl w).alloc _).alloc _
  have HA := Lib.hid hA
  have R4 := Lib.hid r4
  have R7 := Lib.hid r7
  have HKP := Lib.hid kp
  clear hA r4 r7 kp
  have i1 : ¬ (1000 : Int) < (n : Int) := by omega
  go_enter Try.func16, Try.ntmps16
  go_wp2_with fail
  refine (age_nil _).mono ?_
  rintro e w1 ⟨rfl, hk1⟩
  have q4 := (hk1.block _ (Array.getElem?_eq_some_iff.1 R4.out).1).trans R4.out
  have q7 := (hk1.block _ (Array.getElem?_eq_some_iff.1 R7.out).1).trans R7.out
  have HK1 := Lib.hid (HKP.out.trans hk1)
  have hs1 : w.heap.size + 1 < w1.heap.size := (Array.getElem?_eq_some_iff.1 q7).1
  have z1 : w1.cell? ⟨w.heap.size, 1, none⟩ = some (.bool false) := (cell_of_row w1 _ 1 _ _ _ q4).trans rfl
  have z2 : w1.cell? ⟨w.heap.size, 2, none⟩ = some (.int .i64 0) := (cell_of_row w1 _ 2 _ _ _ q4).trans rfl
  have z13 : w1.cell? ⟨w.heap.size, 13, none⟩ = some (.slice A n c) := (cell_of_row w1 _ 13 _ _ _ q4).trans rfl
  have Q4 := Lib.hid q4
  have Q7 := Lib.hid q7
  clear q4 q7 hk1 HKP R4 R7
  go_wp2_with (go_at_call 30; refine (clone8_any _ _ _ _ _ _ (HA.out.keep HK1.out) hn (by omega)).mono ?_; rintro e w2 ⟨hk2, gd, k, rfl, hrd, hok⟩; have q4 := (hk2.block _ (Array.getElem?_eq_some_iff.1 Q4.out).1).trans Q4.out; have q7 := (hk2.block _ (Array.getElem?_eq_some_iff.1 Q7.out).1).trans Q7.out; have y13 : w2.cell? ⟨w.heap.size, 13, none⟩ = some (.slice A n c) := (cell_of_row w2 _ 13 _ _ _ q4).trans rfl; have fz13 : w2.frozen? ⟨w.heap.size, 13, none⟩ = false := by simp [World.frozen?, q4])
  have q4' := row_setCell q4 13 (.slice (some ⟨gd, 0, none⟩) n k)
  have q7' : (w2.setCell ⟨w.heap.size, 13, none⟩ (.slice (some ⟨gd, 0, none⟩) n k)).heap[w.heap.size + 1]? = _ := (Below.heap_setCell w2 ⟨w.heap.size, 13, none⟩ (.slice (some ⟨gd, 0, none⟩) n k) (w.heap.size + 1) (by show w.heap.size + 1 ≠ w.heap.size; omega)).trans q7
  have hrd' := RdV.setCell hrd (a := ⟨w.heap.size, 13, none⟩) (by show w.heap.size < w1.heap.size; omega) (.slice (some ⟨gd, 0, none⟩) n k)
  have hk3 : Kp w (w2.setCell ⟨w.heap.size, 13, none⟩ (.slice (some ⟨gd, 0, none⟩) n k)) := (HK1.out.trans hk2).setCell (p := ⟨w.heap.size, 13, none⟩) (Nat.le_refl _) _
  obtain ⟨w3, hw3⟩ : ∃ w3, w2.setCell ⟨w.heap.size, 13, none⟩ (.slice (some ⟨gd, 0, none⟩) n k) = w3 := ⟨_, rfl⟩
  rw [hw3] at q4' q7' hrd' hk3 ⊢
  obtain ⟨b4, hb4⟩ : ∃ b, w.heap.size = b := ⟨_, rfl⟩
  have HB4 := Lib.hid hb4
  rw [hb4] at q4' q7' ⊢
  have Q7' : Hid (w3.heap[b4 + 1]? = some (.cells #[.int .u16 0, .bool false, .int .i64 0, .int .u8 0, .int .u8 0, .int .u8 0, .int .u8 0, .int .u8 0, .int .u8 0, .int .u8 0, .int .u8 0, .int .u8 0, .int .u8 0, .slice none 0 0] 38 (0, 0))) := Lib.hid q7'
  have HRD := Lib.hid hrd'
  have HK3 := Lib.hid hk3
  clear hw3 hb4 q7' hrd' hk3 z1 z2 z13 y13 fz13 q4 q7 hk2 hrd Q4 Q7 HK1
  have KC : ∀ W, Keep.kp.R w3.drew W → W.heap[b4]? = some (.cells #[.int .u16 7, .bool false, .int .i64 0, .int .u8 64, .int .u8 6, .int .u8 (s0.toNat : Int), .int .u8 (s1.toNat : Int), .int .u8 (s2.toNat : Int), .int .u8 (s3.toNat : Int), .int .u8 (d0.toNat : Int), .int .u8 (d1.toNat : Int), .int .u8 (d2.toNat : Int), .int .u8 (d3.toNat : Int), .slice (some ⟨gd, 0, none⟩) n k] 38 (0, 0)) := fun W hW =>
    ((((Kp.refl w3).drew).trans hW).block _ (Array.getElem?_eq_some_iff.1 q4').1).trans q4'
  go_wp2
  refine wp_region_stepsR (by kernel_rfl) 3 (adA b4 s0 s1 s2 s3 d0 d1 d2 d3 gd n k) [51, 52, 6] (by kernel_rfl) (by kernel_rfl) ⟨?_, ?_, ?_, trivial⟩ ?_
  · refine stepR_free rfl ?_
    intro a W hW hO hφ K hK
    have q0 : a.tmps.getD 0 undef = (.slice none 0 0) := hO 0 (by kernel_rfl)
    have r0 := q0
    rw [Array.getD_eq_getD_getElem?] at r0
    clear hO hφ
    clear KC
    go_simp
    exact hK _ _ (Kp.refl _) rfl
  · refine stepR_free rfl ?_
    intro a W hW hO hφ K hK
    have q4 : a.tmps.getD 4 undef = (.pointer (some ⟨b4, 0, none⟩)) := hO 4 (by kernel_rfl)
    have r4 := q4
    rw [Array.getD_eq_getD_getElem?] at r4
    clear hO hφ
    have z0 := KC W hW
    clear KC
    refine old_part (.tmp 4) 38 _ [.int .u16 7, .bool false, .int .i64 0, .int .u8 64, .int .u8 6, .int .u8 (s0.toNat : Int), .int .u8 (s1.toNat : Int), .int .u8 (s2.toNat : Int), .int .u8 (s3.toNat : Int), .int .u8 (d0.toNat : Int), .int .u8 (d1.toNat : Int), .int .u8 (d2.toNat : Int), .int .u8 (d3.toNat : Int), .slice (some ⟨gd, 0, none⟩) n k] rfl q4 z0 rfl Try.underlying38 rfl szPkt ?_
    exact hK _ _ (Kp.refl _) rfl
  · refine stepR_free rfl ?_
    intro a W hW hO hφ K hK
    have q51 : a.tmps.getD 51 undef = (.slice none 0 0) := hφ ⟨0, .data⟩ (by simp) rfl
    have r51 := q51
    rw [Array.getD_eq_getD_getElem?] at r51
    clear hO hφ
    clear KC
    go_simp
    exact hK _ _ (Kp.refl _) rfl
  intro f W hW hφ
  have v0 : f 0 = (.slice none 0 0) := hφ 0 (by omega)
  have v1 : f 1 = (.agg #[.int .u16 7, .bool false, .int .i64 0, .int .u8 64, .int .u8 6, .int .u8 (s0.toNat : Int), .int .u8 (s1.toNat : Int), .int .u8 (s2.toNat : Int), .int .u8 (s3.toNat : Int), .int .u8 (d0.toNat : Int), .int .u8 (d1.toNat : Int), .int .u8 (d2.toNat : Int), .int .u8 (d3.toNat : Int), .slice (some ⟨gd, 0, none⟩) n k]) := hφ 1 (by omega)
  have v2 : f 2 = (.slice none 0 0) := hφ 2 (by omega)
  clear hφ
  simp only [putAll, List.setIfInBounds_toArray, List.set_cons_succ, List.set_cons_zero, v0, v1, v2]
  clear v0 v1 v2
  have hkW : Kp w3 W := ((Kp.refl w3).drew).trans hW
  have q7 : W.heap[b4 + 1]? = some (.cells #[.int .u16 0, .bool false, .int .i64 0, .int .u8 0, .int .u8 0, .int .u8 0, .int .u8 0, .int .u8 0, .int .u8 0, .int .u8 0, .int .u8 0, .int .u8 0, .int .u8 0, .slice none 0 0] 38 (0, 0)) := (hkW.block _ (Array.getElem?_eq_some_iff.1 Q7'.out).1).trans Q7'.out
  clear KC q4'
  refine wpAny_ready (rs := [3]) (by kernel_rfl) (by simp) (AllReady.cons rfl (fun K' hK' => ?_) AllReady.nil)
  split
  case isFalse hx => exact (hx rfl).elim
  refine ost_row (.tmp 7) (.tmp 52) _ rfl rfl rfl rfl q7 szPkt rfl rfl ?_
  refine hK' _ _ ?_
  refine wpAny_take (i := 4) (v := .bool true) rfl (by kernel_rfl) (by kernel_rfl) (by kernel_rfl) (fun _ _ _ h => h) (Or.inl ⟨by rfl, ?_⟩) ?_
  · intro w; go_simp
  refine wpAny_take (i := 5) (v := .int .i64 0) rfl (by kernel_rfl) (by kernel_rfl) (by kernel_rfl) (fun _ _ _ h => h) (Or.inl ⟨by rfl, ?_⟩) ?_
  · intro w; go_simp
  refine wpAny_done (by kernel_rfl) ?_ _
  have q8 := setRow_heap W (b4 + 1) _ #[.int .u16 7, .bool false, .int .i64 0, .int .u8 64, .int .u8 6, .int .u8 (s0.toNat : Int), .int .u8 (s1.toNat : Int), .int .u8 (s2.toNat : Int), .int .u8 (s3.toNat : Int), .int .u8 (d0.toNat : Int), .int .u8 (d1.toNat : Int), .int .u8 (d2.toNat : Int), .int .u8 (d3.toNat : Int), .slice (some ⟨gd, 0, none⟩) n k] _ _ q7
  have hkf : Kp w (W.setRow (b4 + 1) #[.int .u16 7, .bool false, .int .i64 0, .int .u8 64, .int .u8 6, .int .u8 (s0.toNat : Int), .int .u8 (s1.toNat : Int), .int .u8 (s2.toNat : Int), .int .u8 (s3.toNat : Int), .int .u8 (d0.toNat : Int), .int .u8 (d1.toNat : Int), .int .u8 (d2.toNat : Int), .int .u8 (d3.toNat : Int), .slice (some ⟨gd, 0, none⟩) n k]) := (HK3.out.trans hkW).setRow (by rw [HB4.out]; omega)
  have hrf := RdV.setRow (cs := #[.int .u16 7, .bool false, .int .i64 0, .int .u8 64, .int .u8 6, .int .u8 (s0.toNat : Int), .int .u8 (s1.toNat : Int), .int .u8 (s2.toNat : Int), .int .u8 (s3.toNat : Int), .int .u8 (d0.toNat : Int), .int .u8 (d1.toNat : Int), .int .u8 (d2.toNat : Int), .int .u8 (d3.toNat : Int), .slice (some ⟨gd, 0, none⟩) n k]) (Rd.keep HRD.out hkW) (b := b4 + 1) (by rw [← HB4.out]; exact hs1)
  go_wp2
  refine bodyPost_ret (v := .tuple #[.slice none 0 0, .agg #[.int .u16 7, .bool false, .int .i64 0, .int .u8 64, .int .u8 6, .int .u8 (s0.toNat : Int), .int .u8 (s1.toNat : Int), .int .u8 (s2.toNat : Int), .int .u8 (s3.toNat : Int), .int .u8 (d0.toNat : Int), .int .u8 (d1.toNat : Int), .int .u8 (d2.toNat : Int), .int .u8 (d3.toNat : Int), .slice (some ⟨gd, 0, none⟩) n k], .bool true, .int .i64 0]) (results_cell4 (fn := Try.f16) szPkt uPkt q8 rfl Try.results16 rfl rfl rfl rfl) rfl ⟨hkf, gd, k, rfl, rd_lo hrf (by omega), hok⟩
end Go.Proofs.Ytnoobifdaldfiaa.Fr
