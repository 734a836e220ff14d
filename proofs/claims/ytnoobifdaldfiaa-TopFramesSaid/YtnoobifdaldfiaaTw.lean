/-
  The walk of TopFrames: it returns true and leaves what was there as it was.
-/
import Derived.Test.YtnoobifdaldfiaaTv
import Derived.Test.YtnoobifdaldfiaaPl9
import Derived.Test.YtnoobifdaldfiaaS9
import Derived.Test.YtnoobifdaldfiaaB9b
import Derived.Deep.DeepCutAuto
namespace Go.Proofs.Ytnoobifdaldfiaa.Fr
open Go.RowKit
set_option maxRecDepth 100000

theorem rowsT (w : World) (sp dp sq ak : Nat) (fl : UInt8) (wn ms : Nat) (A : Option Addr) (n c : Nat) (s0 s1 s2 s3 d0 d1 d2 d3 : UInt8) (t0 t1 : Int) (W : World) (hk : Kp (((w.alloc (.cells #[.int .u16 (sp : Int), .int .u16 (dp : Int), .int .u32 (sq : Int), .int .u32 (ak : Int), .int .u8 (fl.toNat : Int), .int .u16 (wn : Int), .int .u16 (ms : Int), .slice A n c] 26)).alloc (.cells #[.int .u8 (s0.toNat : Int), .int .u8 (s1.toNat : Int), .int .u8 (s2.toNat : Int), .int .u8 (s3.toNat : Int), .int .u8 (d0.toNat : Int), .int .u8 (d1.toNat : Int), .int .u8 (d2.toNat : Int), .int .u8 (d3.toNat : Int)] 29)).alloc (.cells #[.int .i64 t0, .int .i64 t1] 30)) W) : W.heap[w.heap.size]? = some (.cells #[.int .u16 (sp : Int), .int .u16 (dp : Int), .int .u32 (sq : Int), .int .u32 (ak : Int), .int .u8 (fl.toNat : Int), .int .u16 (wn : Int), .int .u16 (ms : Int), .slice A n c] 26 (0, 0)) ∧ W.heap[w.heap.size + 1]? = some (.cells #[.int .u8 (s0.toNat : Int), .int .u8 (s1.toNat : Int), .int .u8 (s2.toNat : Int), .int .u8 (s3.toNat : Int), .int .u8 (d0.toNat : Int), .int .u8 (d1.toNat : Int), .int .u8 (d2.toNat : Int), .int .u8 (d3.toNat : Int)] 29 (0, 0)) ∧ W.heap[w.heap.size + 1 + 1]? = some (.cells #[.int .i64 t0, .int .i64 t1] 30 (0, 0)) := by
  obtain ⟨r0, r1⟩ := row_alloc2 w (.cells #[.int .u16 (sp : Int), .int .u16 (dp : Int), .int .u32 (sq : Int), .int .u32 (ak : Int), .int .u8 (fl.toNat : Int), .int .u16 (wn : Int), .int .u16 (ms : Int), .slice A n c] 26) (.cells #[.int .u8 (s0.toNat : Int), .int .u8 (s1.toNat : Int), .int .u8 (s2.toNat : Int), .int .u8 (s3.toNat : Int), .int .u8 (d0.toNat : Int), .int .u8 (d1.toNat : Int), .int .u8 (d2.toNat : Int), .int .u8 (d3.toNat : Int)] 29)
  have e2 : ((w.alloc (.cells #[.int .u16 (sp : Int), .int .u16 (dp : Int), .int .u32 (sq : Int), .int .u32 (ak : Int), .int .u8 (fl.toNat : Int), .int .u16 (wn : Int), .int .u16 (ms : Int), .slice A n c] 26)).alloc (.cells #[.int .u8 (s0.toNat : Int), .int .u8 (s1.toNat : Int), .int .u8 (s2.toNat : Int), .int .u8 (s3.toNat : Int), .int .u8 (d0.toNat : Int), .int .u8 (d1.toNat : Int), .int .u8 (d2.toNat : Int), .int .u8 (d3.toNat : Int)] 29)).heap.size = w.heap.size + 1 + 1 := by simp
  have r2 := heap_alloc_new ((w.alloc (.cells #[.int .u16 (sp : Int), .int .u16 (dp : Int), .int .u32 (sq : Int), .int .u32 (ak : Int), .int .u8 (fl.toNat : Int), .int .u16 (wn : Int), .int .u16 (ms : Int), .slice A n c] 26)).alloc (.cells #[.int .u8 (s0.toNat : Int), .int .u8 (s1.toNat : Int), .int .u8 (s2.toNat : Int), .int .u8 (s3.toNat : Int), .int .u8 (d0.toNat : Int), .int .u8 (d1.toNat : Int), .int .u8 (d2.toNat : Int), .int .u8 (d3.toNat : Int)] 29)) (.cells #[.int .i64 t0, .int .i64 t1] 30)
  rw [e2] at r2
  exact ⟨(hk.block _ (by simp <;> omega)).trans ((Below.heap_alloc _ _ _ (by simp <;> omega)).trans r0), (hk.block _ (by simp <;> omega)).trans ((Below.heap_alloc _ _ _ (by simp <;> omega)).trans r1), (hk.block _ (by simp <;> omega)).trans r2⟩
theorem cellsT (w : World) (sp dp sq ak : Nat) (fl : UInt8) (wn ms : Nat) (A : Option Addr) (n c : Nat) (s0 s1 s2 s3 d0 d1 d2 d3 : UInt8) (t0 t1 : Int) (W : World) (hk : Kp (((w.alloc (.cells #[.int .u16 (sp : Int), .int .u16 (dp : Int), .int .u32 (sq : Int), .int .u32 (ak : Int), .int .u8 (fl.toNat : Int), .int .u16 (wn : Int), .int .u16 (ms : Int), .slice A n c] 26)).alloc (.cells #[.int .u8 (s0.toNat : Int), .int .u8 (s1.toNat : Int), .int .u8 (s2.toNat : Int), .int .u8 (s3.toNat : Int), .int .u8 (d0.toNat : Int), .int .u8 (d1.toNat : Int), .int .u8 (d2.toNat : Int), .int .u8 (d3.toNat : Int)] 29)).alloc (.cells #[.int .i64 t0, .int .i64 t1] 30)) W) : (W.cell? ⟨w.heap.size + 1, 0, none⟩ = some (.int .u8 (s0.toNat : Int)) ∧ W.cell? ⟨w.heap.size + 1, 1, none⟩ = some (.int .u8 (s1.toNat : Int)) ∧ W.cell? ⟨w.heap.size + 1, 2, none⟩ = some (.int .u8 (s2.toNat : Int)) ∧ W.cell? ⟨w.heap.size + 1, 3, none⟩ = some (.int .u8 (s3.toNat : Int))) ∧ (W.cell? ⟨w.heap.size + 1, 4, none⟩ = some (.int .u8 (d0.toNat : Int)) ∧ W.cell? ⟨w.heap.size + 1, 5, none⟩ = some (.int .u8 (d1.toNat : Int)) ∧ W.cell? ⟨w.heap.size + 1, 6, none⟩ = some (.int .u8 (d2.toNat : Int)) ∧ W.cell? ⟨w.heap.size + 1, 7, none⟩ = some (.int .u8 (d3.toNat : Int))) ∧ W.cell? ⟨w.heap.size + 1 + 1, 0, none⟩ = some (.int .i64 t0) ∧ W.cell? ⟨w.heap.size + 1 + 1, 1, none⟩ = some (.int .i64 t1) := by
  obtain ⟨_, r1, r2⟩ := rowsT w sp dp sq ak fl wn ms A n c s0 s1 s2 s3 d0 d1 d2 d3 t0 t1 W hk
  refine ⟨⟨?_, ?_, ?_, ?_⟩, ⟨?_, ?_, ?_, ?_⟩, ?_, ?_⟩
  all_goals first | exact (cell_of_row _ _ _ _ _ _ r1).trans rfl | exact (cell_of_row _ _ _ _ _ _ r2).trans rfl

theorem mod_u64 (z : Int) : ∃ u : Nat, IntKind.u64.wrap z = (u : Int) := ⟨(IntKind.u64.wrap z).toNat, by
  have : 0 ≤ IntKind.u64.wrap z := by simp only [IntKind.wrap, IntKind.bits, IntKind.signed]; simp; omega
  omega⟩
theorem wrap_u64n (n : Nat) (h : n ≤ 1000000) : IntKind.u64.wrap (n : Int) = (n : Int) := by
  simp only [IntKind.wrap, IntKind.bits, IntKind.signed]
  simp
  omega
/-- what is not built: an error, no bytes -/
theorem sbuild_no (sp dp sq ak : Nat) (fl : UInt8) (wn ms : Nat) (A : Option Addr) (n c : Nat) (s0 s1 s2 s3 d0 d1 d2 d3 : UInt8) (h : 156 < n ∨ Bad9 fl ms) :
    ∃ k : Int, k ≠ 0 ∧ ∀ w, Calls Try.prog 10 #[.agg #[.int .u16 (sp : Int), .int .u16 (dp : Int), .int .u32 (sq : Int), .int .u32 (ak : Int), .int .u8 (fl.toNat : Int), .int .u16 (wn : Int), .int .u16 (ms : Int), .slice A n c], .agg #[.int .u8 (s0.toNat : Int), .int .u8 (s1.toNat : Int), .int .u8 (s2.toNat : Int), .int .u8 (s3.toNat : Int)], .agg #[.int .u8 (d0.toNat : Int), .int .u8 (d1.toNat : Int), .int .u8 (d2.toNat : Int), .int .u8 (d3.toNat : Int)]] w fun e w' => e = .returned (.tuple #[.slice none 0 0, .int .i64 k]) ∧ Kp w w' := by
  by_cases hn : 156 < n
  · exact ⟨4, by decide, fun w => b9_long w sp dp sq ak fl wn ms A n c s0 s1 s2 s3 d0 d1 d2 d3 hn⟩
  · have hb : Bad9 fl ms := h.resolve_left hn
    exact ⟨1, by decide, fun w => b9_bad w sp dp sq ak fl wn ms A n c s0 s1 s2 s3 d0 d1 d2 d3 (by omega) hb⟩
theorem sgood (fl : UInt8) (ms : Nat) (h : ¬ Bad9 fl ms) : fl.toNat ≤ 31 ∧ (ms ≠ 0 → fl.toNat / 2 % 2 = 1) := by
  unfold Bad9 at h
  omega
theorem byte_of (z : Int) : ∃ b : UInt8, IntKind.u8.wrap z = (b.toNat : Int) := by
  have h : 0 ≤ IntKind.u8.wrap z ∧ IntKind.u8.wrap z < 256 := by simp only [IntKind.wrap, IntKind.bits, IntKind.signed]; simp; omega
  exact ⟨UInt8.ofNat (IntKind.u8.wrap z).toNat, by rw [UInt8.toNat_ofNat']; omega⟩
set_option maxHeartbeats 4000000 in
theorem top_main (w : World) (sp dp sq ak : Nat) (fl : UInt8) (wn ms : Nat) (A : Option Addr) (n c : Nat) (l : List UInt8) (s0 s1 s2 s3 d0 d1 d2 d3 : UInt8) (t0 t1 : Int) (hb : sp ≤ 65535 ∧ dp ≤ 65535 ∧ sq < 4294967296 ∧ ak < 4294967296 ∧ wn ≤ 65535 ∧ ms ≤ 65535) (hA : Rd w 0 A n l) (h4 : ¬ 300 < n) :
    Calls Try.prog 3 #[.agg #[.int .u16 (sp : Int), .int .u16 (dp : Int), .int .u32 (sq : Int), .int .u32 (ak : Int), .int .u8 (fl.toNat : Int), .int .u16 (wn : Int), .int .u16 (ms : Int), .slice A n c], .agg #[.int .u8 (s0.toNat : Int), .int .u8 (s1.toNat : Int), .int .u8 (s2.toNat : Int), .int .u8 (s3.toNat : Int), .int .u8 (d0.toNat : Int), .int .u8 (d1.toNat : Int), .int .u8 (d2.toNat : Int), .int .u8 (d3.toNat : Int)], .agg #[.int .i64 t0, .int .i64 t1]] w fun e w' => e = .returned (.bool true) ∧ Kp w w' := by
  obtain ⟨f1, f2, f3, f4, f6, f7⟩ := hb
  have HL := Lib.hid hA.len
  have hK0 : Kp w (((w.alloc (.cells #[.int .u16 (sp : Int), .int .u16 (dp : Int), .int .u32 (sq : Int), .int .u32 (ak : Int), .int .u8 (fl.toNat : Int), .int .u16 (wn : Int), .int .u16 (ms : Int), .slice A n c] 26)).alloc (.cells #[.int .u8 (s0.toNat : Int), .int .u8 (s1.toNat : Int), .int .u8 (s2.toNat : Int), .int .u8 (s3.toNat : Int), .int .u8 (d0.toNat : Int), .int .u8 (d1.toNat : Int), .int .u8 (d2.toNat : Int), .int .u8 (d3.toNat : Int)] 29)).alloc (.cells #[.int .i64 t0, .int .i64 t1] 30)) := (((Kp.refl w).alloc _).alloc _).alloc _
  have HK0 := Lib.hid hK0
  have HA := Lib.hid (hA.keep hK0)
  have HRP := Lib.hid (rowsT w sp dp sq ak fl wn ms A n c s0 s1 s2 s3 d0 d1 d2 d3 t0 t1)
  have KE := Lib.hid (cellsT w sp dp sq ak fl wn ms A n c s0 s1 s2 s3 d0 d1 d2 d3 t0 t1)
  have i1 : ¬ (300 : Int) < (n : Int) := by omega
  clear hA hK0
  have hs0 : (((w.alloc (.cells #[.int .u16 (sp : Int), .int .u16 (dp : Int), .int .u32 (sq : Int), .int .u32 (ak : Int), .int .u8 (fl.toNat : Int), .int .u16 (wn : Int), .int .u16 (ms : Int), .slice A n c] 26)).alloc (.cells #[.int .u8 (s0.toNat : Int), .int .u8 (s1.toNat : Int), .int .u8 (s2.toNat : Int), .int .u8 (s3.toNat : Int), .int .u8 (d0.toNat : Int), .int .u8 (d1.toNat : Int), .int .u8 (d2.toNat : Int), .int .u8 (d3.toNat : Int)] 29)).alloc (.cells #[.int .i64 t0, .int .i64 t1] 30)).heap.size = w.heap.size + 3 := by simp
  have z7 := (cell_of_row (((w.alloc (.cells #[.int .u16 (sp : Int), .int .u16 (dp : Int), .int .u32 (sq : Int), .int .u32 (ak : Int), .int .u8 (fl.toNat : Int), .int .u16 (wn : Int), .int .u16 (ms : Int), .slice A n c] 26)).alloc (.cells #[.int .u8 (s0.toNat : Int), .int .u8 (s1.toNat : Int), .int .u8 (s2.toNat : Int), .int .u8 (s3.toNat : Int), .int .u8 (d0.toNat : Int), .int .u8 (d1.toNat : Int), .int .u8 (d2.toNat : Int), .int .u8 (d3.toNat : Int)] 29)).alloc (.cells #[.int .i64 t0, .int .i64 t1] 30)) _ 7 _ _ _ (HRP.out _ (Kp.refl _)).1).trans (show _ = some (Value.slice A n c) from rfl)
  obtain ⟨⟨x0, x1, x2, x3⟩, ⟨y0, y1, y2, y3⟩, u0, u1⟩ := KE.out _ (Kp.refl _)
  go_enter Try.func3, Try.ntmps3
  go_wp2_with ((with_reducible apply lld_row (p := .tmp 3)); (case ho => exact rfl); (case hp => exact rfl); (case hrow => exact (HRP.out _ (Kp.refl _)).1); (case hu => exact Try.underlying26); (case hd => exact rfl); (case hi => exact szSeg); (case hw => exact rfl))
  clear z7 x0 x1 x2 x3 y0 y1 y2 y3 u0 u1
  generalize (((w.alloc (.cells #[.int .u16 (sp : Int), .int .u16 (dp : Int), .int .u32 (sq : Int), .int .u32 (ak : Int), .int .u8 (fl.toNat : Int), .int .u16 (wn : Int), .int .u16 (ms : Int), .slice A n c] 26)).alloc (.cells #[.int .u8 (s0.toNat : Int), .int .u8 (s1.toNat : Int), .int .u8 (s2.toNat : Int), .int .u8 (s3.toNat : Int), .int .u8 (d0.toNat : Int), .int .u8 (d1.toNat : Int), .int .u8 (d2.toNat : Int), .int .u8 (d3.toNat : Int)] 29)).alloc (.cells #[.int .i64 t0, .int .i64 t1] 30)) = w0 at HK0 HA HRP KE hs0 ⊢
  generalize hbS : w.heap.size = bS at HRP KE hs0 ⊢
  have HBS := Lib.hid hbS
  clear hbS
  by_cases hno : 156 < n ∨ Bad9 fl ms
  · obtain ⟨k, hk0, hB1⟩ := sbuild_no sp dp sq ak fl wn ms A n c s0 s1 s2 s3 d0 d1 d2 d3 hno
    have hk0' : (k != 0) = true := by simpa using hk0
    refine (hB1 _).mono ?_
    rintro e w1 ⟨rfl, hk1⟩
    clear hB1
    go_wp2
    go_ret
    exact ⟨rfl, HK0.out.trans hk1⟩
  obtain ⟨h156, hnb⟩ : ¬ 156 < n ∧ ¬ Bad9 fl ms := ⟨fun h => hno (.inl h), fun h => hno (.inr h)⟩
  obtain ⟨f5, f8⟩ := sgood fl ms hnb
  have HB := Lib.hid (out9_sbytes [s0, s1, s2, s3] [d0, d1, d2, d3] rfl rfl ⟨sp, dp, sq, ak, fl, wn, ms, l⟩ ⟨f1, f2, f3, f4, f5, f6, f7, f8⟩ (by show l.length ≤ 156; rw [HL.out]; omega))
  refine (b9_ok _ sp dp sq ak fl wn ms A n c l s0 s1 s2 s3 d0 d1 d2 d3 f1 f2 f3 f4 f6 f7 f5 f8 (by omega) HA.out).mono ?_
  rintro e w2 ⟨hk2, g, cap, rfl, hown⟩
  have ho4 := opt9_le ms
  obtain ⟨N, hN⟩ : ∃ N, 20 + (opt9 ms).length + n = N := ⟨_, rfl⟩
  rw [hN] at hown ⊢
  have hN2 : N ≤ 180 := by omega
  have hN3 : 20 ≤ N := by omega
  have HK2 := Lib.hid hk2
  obtain ⟨pb, hpb⟩ : ∃ pb, sbytes9 [s0, s1, s2, s3] [d0, d1, d2, d3] sp dp sq ak fl wn ms l = pb := ⟨_, rfl⟩
  have hO := hown.rd0
  rw [hpb] at hO HB
  have HO := Lib.hid hO
  have HOS := Lib.hid hown.slOk
  clear hk2 hown hO hN ho4 hpb hno hnb f1 f2 f3 f4 f5 f6 f7 f8
  obtain ⟨⟨x0, x1, x2, x3⟩, ⟨y0, y1, y2, y3⟩, u0, u1⟩ := KE.out _ HK2.out
  go_wp2_with fail
  refine (split_any _ s0 s1 s2 s3 d0 d1 d2 d3 g 0 N cap pb HO.out HOS.out (by omega) (by omega)).mono ?_
  clear x0 x1 x2 x3 y0 y1 y2 y3 u0 u1
  rintro e w3 ⟨hk3, v, xs, rfl, hxs, hov⟩
  obtain ⟨g9, K, cap9, rfl, hK0, hK2, hpc⟩ := outv_pieces s0 s1 s2 s3 d0 d1 d2 d3 N pb _ v xs w3 hxs hov HO.out.len hN2
  have HK3 := Lib.hid (HK2.out.trans hk3)
  have HPC := Lib.hid hpc
  clear hk3 hxs hov hpc
  have j1 : ¬ (K : Int) < 1 := by omega
  have j2 : ¬ (2 : Int) < (K : Int) := by omega
  go_wp2
  have hq11 := heap_alloc_new w3 (.cells #[.int .u16 0, .bool false, .int .i64 0, .int .u8 0, .int .u8 0, .int .u8 0, .int .u8 0, .int .u8 0, .int .u8 0, .int .u8 0, .int .u8 0, .int .u8 0, .int .u8 0, .slice none 0 0] 38)
  have hk11 : Kp w3 (w3.alloc (.cells #[.int .u16 0, .bool false, .int .i64 0, .int .u8 0, .int .u8 0, .int .u8 0, .int .u8 0, .int .u8 0, .int .u8 0, .int .u8 0, .int .u8 0, .int .u8 0, .int .u8 0, .slice none 0 0] 38)) := (Kp.refl w3).alloc _
  have hs11 : (w3.alloc (.cells #[.int .u16 0, .bool false, .int .i64 0, .int .u8 0, .int .u8 0, .int .u8 0, .int .u8 0, .int .u8 0, .int .u8 0, .int .u8 0, .int .u8 0, .int .u8 0, .int .u8 0, .slice none 0 0] 38)).heap.size = w3.heap.size + 1 := by simp
  generalize w3.alloc (.cells #[.int .u16 0, .bool false, .int .i64 0, .int .u8 0, .int .u8 0, .int .u8 0, .int .u8 0, .int .u8 0, .int .u8 0, .int .u8 0, .int .u8 0, .int .u8 0, .int .u8 0, .slice none 0 0] 38) = w4 at hq11 hk11 hs11 ⊢
  generalize hbw : w3.heap.size = bw at hq11 hs11 ⊢
  have HBW := Lib.hid hbw
  clear hbw
  have HK11 := Lib.hid hk11
  have HQ11 := Lib.hid hq11
  have HS11 := Lib.hid hs11
  clear hk11 hq11 hs11 hs0
  go_loopw [10, 72] (fun hv i wr => ∃ (k : Nat) (pk : Array Value), i = .int .i64 (k : Int) ∧ k ≤ K ∧ Kp w3 wr ∧ wr.heap[bw]? = some (.cells pk 38 (0, 0)) ∧ pk.size = 14 ∧ StH s0 s1 s2 s3 d0 d1 d2 d3 N pb K k hv pk wr) (fun _ i _ => K - (intOf i).toNat)
  case atStart => exact ⟨0, _, rfl, by omega, HK11.out, HQ11.out, rfl, .inl ⟨rfl, rfl⟩⟩
  case round =>
    obtain ⟨k, pk, rfl, hkK, hkr, hrow, hpk, hst⟩ := hrel
    by_cases hlt : k < K
    · have hlt' : (k : Int) < (K : Int) := by omega
      have hbr : bw < wr.heap.size := (Array.getElem?_eq_some_iff.1 hrow).1
      obtain ⟨mo, pl, m, lm, hpa, hm0, hm1, hlm, hpl, hmo, hadd⟩ := adds_all s0 s1 s2 s3 d0 d1 d2 d3 wr bw g9 N pb K k u10 pk HO.out.len (by omega) hlt hbr (HPC.out.keep _ _ _ _ _ _ _ _ hkr) hst
      obtain ⟨A1, c1, hcs, hrd1, hok1⟩ := hpa
      have HADD := Lib.hid hadd
      have HCS := Lib.hid hcs
      have HRD1 := Lib.hid hrd1
      have HLM := Lib.hid hlm
      have HMO := Lib.hid hmo
      have HKR := Lib.hid hkr
      have HROW := Lib.hid hrow
      have HPK := Lib.hid hpk
      obtain ⟨ix, hix⟩ : ∃ ix, K - 1 - k = ix := ⟨_, rfl⟩
      rw [hix, Nat.mul_comm] at HCS
      have hix1 : (K : Int) - 1 - (k : Int) = (ix : Int) := by omega
      have hix2 : (ix : Int) < (K : Int) := by omega
      have hix3 : ix < K := by omega
      obtain ⟨u, hu⟩ := mod_u64 t0
      obtain ⟨i, hi⟩ : ∃ i, u % (20 + m) = i := ⟨_, rfl⟩
      have hi20 : i < 20 + m := by rw [← hi]; exact Nat.mod_lt _ (by omega)
      have hu2 : (u : Int).tmod (20 + (m : Int)) = (i : Int) := by rw [Int.tmod_eq_emod_of_nonneg (by omega), ← hi]; push_cast; rfl
      have hu3 : IntKind.i64.wrap (i : Int) = (i : Int) := by rw [IntKind.wrap_i64]; omega
      obtain ⟨I, hI⟩ : ∃ I, 14 + i = I := ⟨_, rfl⟩
      have hI' : 14 + (i : Int) = (I : Int) := by omega
      have hIm : I < 34 + m := by omega
      have hIm' : (I : Int) < 34 + (m : Int) := by omega
      have hN64 : IntKind.u64.wrap (20 + (m : Int)) = 20 + (m : Int) := by have := wrap_u64n (20 + m) (by omega); simpa using this
      have hN0 : ¬ 20 + (m : Int) = 0 := by omega
      obtain ⟨by_, hby⟩ : ∃ by_ : UInt8, IntKind.u8.wrap t1 = (by_.toNat : Int) := byte_of t1
      have HII := Lib.hid hI
      clear hI hi20 hi hix3 h4 i1 h156 hN2 hN3 hK2 hK0 hkK
      clear hadd hcs hrd1 hlm hmo hkr hrow hpk hst hix hok1
      go_wp2_with (first
        | ((with_reducible apply lld_at [.int .u16 7, .bool mo, .int .i64 (8 * (pl : Int)), .int .u8 64, .int .u8 6, .int .u8 (s0.toNat : Int), .int .u8 (s1.toNat : Int), .int .u8 (s2.toNat : Int), .int .u8 (s3.toNat : Int), .int .u8 (d0.toNat : Int), .int .u8 (d1.toNat : Int), .int .u8 (d2.toNat : Int), .int .u8 (d3.toNat : Int), .slice (some ⟨A1, 0, none⟩) m c1] (p := .tmp 82)); (case ho => exact rfl); (case hp => exact rfl); (case hc => exact HCS.out); (case hu => exact Try.underlying38); (case hd => exact rfl); (case hi => exact szPkt); (case hw => exact rfl))
        | (go_at_call 12; refine (pk_build _ s0 s1 s2 s3 d0 d1 d2 d3 mo pl _ m c1 lm HLM.out hpl HMO.out hm1 HRD1.out).mono ?_; rintro e w5 ⟨hk5, g5, cap5, rfl, hrd5, hok5⟩; have HK5 := Lib.hid hk5; have HRD5 := Lib.hid hrd5; clear hk5 hrd5 hok5)
        | (go_at_call 13; refine (fr_build _ s0 s1 s2 s3 d0 d1 d2 d3 mo pl _ m cap5 lm HLM.out hm1 HRD5.out).mono ?_; rintro e w6 ⟨hk6, g6, cap6, rfl, hrd6, hok6⟩; have HK6 := Lib.hid (HK5.out.trans hk6); have HRD6 := Lib.hid hrd6; have HOK6 := Lib.hid hok6; clear hk6 hrd6 hok6 HK5)
        | (go_at_call 14; refine (fr_parse _ s0 s1 s2 s3 d0 d1 d2 d3 mo pl _ m cap6 lm HLM.out hm1 HRD6.out HOK6.out).mono ?_; rintro e w7 ⟨hk7, B7, cap7, rfl, hrd7, hok7⟩; have HK7 := Lib.hid (HK6.out.trans hk7); have HRD7 := Lib.hid (hrd7.keep ((Kp.refl w7).alloc (.cells #[.int .u8 0, .int .u8 0, .int .u8 0, .int .u8 0, .int .u8 0, .int .u8 0, .int .u8 0, .int .u8 0, .int .u8 0, .int .u8 0, .int .u8 0, .int .u8 0, .int .u16 2048, .slice B7 (20 + m) cap7] 45))); have HOK7 := Lib.hid hok7; have HF7 := Lib.hid (HRD6.out.keep hk7); have c7 := (cell_of_row (w7.alloc (.cells #[.int .u8 0, .int .u8 0, .int .u8 0, .int .u8 0, .int .u8 0, .int .u8 0, .int .u8 0, .int .u8 0, .int .u8 0, .int .u8 0, .int .u8 0, .int .u8 0, .int .u16 2048, .slice B7 (20 + m) cap7] 45)) w7.heap.size 13 _ _ _ (heap_alloc_new w7 _)).trans (show _ = some (Value.slice B7 (20 + m) cap7) from rfl); clear hk7 hrd7 hok7 HK6 HRD6)
        | ((with_reducible apply lst_new (p := .tmp 18) (x := .tmp 96)); (case ho => exact rfl); (case hp => exact rfl); (case hx => exact rfl); (case hi => exact szFrm); (case hc => exact rfl); (case h1 => exact rfl); (case hd => exact rfl); (case hw => exact rfl))
        | (go_at_call 15; refine (pk_parse _ s0 s1 s2 s3 d0 d1 d2 d3 mo pl _ m cap7 lm HLM.out hpl hm1 HRD7.out HOK7.out).mono ?_; rintro e w8 ⟨hk8, B8, cap8, rfl, hrd8, hok8⟩; have HK8 := Lib.hid ((HK7.out.alloc _).trans hk8); have HRD8 := Lib.hid hrd8; have HF8 := Lib.hid ((HF7.out.keep ((Kp.refl _).alloc _)).keep hk8); clear hk8 hrd8 hok8 HRD7 HF7)
        | ((with_reducible apply lst_new (p := .tmp 20) (x := .tmp 102)); (case ho => exact rfl); (case hp => exact rfl); (case hx => exact rfl); (case hi => exact szPkt); (case hc => exact rfl); (case h1 => simp [Value.oneCell']); (case hd => exact rfl); (case hw => exact rfl)
           have HK9 := Lib.hid (HK8.out.alloc (.cells #[.int .u16 7, .bool mo, .int .i64 (8 * (pl : Int)), .int .u8 64, .int .u8 6, .int .u8 (s0.toNat : Int), .int .u8 (s1.toNat : Int), .int .u8 (s2.toNat : Int), .int .u8 (s3.toNat : Int), .int .u8 (d0.toNat : Int), .int .u8 (d1.toNat : Int), .int .u8 (d2.toNat : Int), .int .u8 (d3.toNat : Int), .slice B8 m cap8] 38))
           have hr20 := heap_alloc_new w8 (.cells #[.int .u16 7, .bool mo, .int .i64 (8 * (pl : Int)), .int .u8 64, .int .u8 6, .int .u8 (s0.toNat : Int), .int .u8 (s1.toNat : Int), .int .u8 (s2.toNat : Int), .int .u8 (s3.toNat : Int), .int .u8 (d0.toNat : Int), .int .u8 (d1.toNat : Int), .int .u8 (d2.toNat : Int), .int .u8 (d3.toNat : Int), .slice B8 m cap8] 38)
           have HRD9 := Lib.hid (HRD8.out.keep ((Kp.refl w8).alloc (.cells #[.int .u16 7, .bool mo, .int .i64 (8 * (pl : Int)), .int .u8 64, .int .u8 6, .int .u8 (s0.toNat : Int), .int .u8 (s1.toNat : Int), .int .u8 (s2.toNat : Int), .int .u8 (s3.toNat : Int), .int .u8 (d0.toNat : Int), .int .u8 (d1.toNat : Int), .int .u8 (d2.toNat : Int), .int .u8 (d3.toNat : Int), .slice B8 m cap8] 38)))
           have HF9 := Lib.hid (HF8.out.keep ((Kp.refl w8).alloc (.cells #[.int .u16 7, .bool mo, .int .i64 (8 * (pl : Int)), .int .u8 64, .int .u8 6, .int .u8 (s0.toNat : Int), .int .u8 (s1.toNat : Int), .int .u8 (s2.toNat : Int), .int .u8 (s3.toNat : Int), .int .u8 (d0.toNat : Int), .int .u8 (d1.toNat : Int), .int .u8 (d2.toNat : Int), .int .u8 (d3.toNat : Int), .slice B8 m cap8] 38)))
           have hs8 := HK8.out.size
           generalize w8.alloc (.cells #[.int .u16 7, .bool mo, .int .i64 (8 * (pl : Int)), .int .u8 64, .int .u8 6, .int .u8 (s0.toNat : Int), .int .u8 (s1.toNat : Int), .int .u8 (s2.toNat : Int), .int .u8 (s3.toNat : Int), .int .u8 (d0.toNat : Int), .int .u8 (d1.toNat : Int), .int .u8 (d2.toNat : Int), .int .u8 (d3.toNat : Int), .slice B8 m cap8] 38) = w9 at HK9 hr20 HRD9 HF9 ⊢
           generalize w8.heap.size = b8 at hr20 hs8 ⊢
           have HR20 := Lib.hid hr20
           clear hr20 HK8 HRD8 HF8
           obtain ⟨_, _, u0, u1⟩ := KE.out _ (HK3.out.trans (HKR.out.trans HK9.out))
           have own0 : OwnV 5 (w9.alloc (.cells #[] 5)) w9.heap.size w9.heap.size 0 0 (bvs []) := OwnV.lit (vs := []) rfl (Nat.le_refl _) rfl (by decide)
           have hk90 : Kp w9 (w9.alloc (.cells #[] 5)) := (Kp.refl _).alloc _
           have HF0 := Lib.hid (HF9.out.keep hk90))
        | (at_builtin
           refine app8 (by rfl) (.tmp 127) (.tmp 128) rfl rfl rfl own0 HF0.out (34 + m) (frB pl mo s0 s1 s2 s3 d0 d1 d2 d3 lm) (by omega) rfl (by omega) hk90.size ?_
           intro g1 cap1 w10 own1 gr1 at1
           have hk10 := hk90.grown gr1 own0.lo_le
           obtain ⟨x, hx, cx⟩ := own1.cell8 (k := I) hIm
           have fz := own1.frozen I
           have hxor := xor_u8 x by_
           obtain ⟨_, _, _, v1⟩ := KE.out _ (HK3.out.trans (HKR.out.trans (HK9.out.trans hk10)))
           have HX := Lib.hid hx
           have HK10 := Lib.hid hk10
           have HOW := Lib.hid own1
           clear gr1 at1 hx hk10 own1 own0 hk90 u0 u1)
        | fail)
      go_region
      have hk11 : Kp w9 (w10.setCell ⟨g1, I, none⟩ (.int .u8 ((x.toNat ^^^ by_.toNat : Nat) : Int))).drew := (HK10.out.setCell (p := ⟨g1, I, none⟩) HOW.out.lo_le _).drew
      have own2 := HOW.out.setb I (x ^^^ by_)
      rw [UInt8.toNat_xor] at own2
      have hrb : Rd (w10.setCell ⟨g1, I, none⟩ (.int .u8 ((x.toNat ^^^ by_.toNat : Nat) : Int))).drew 0 (some ⟨g1, 0, none⟩) (34 + m) ((frB pl mo s0 s1 s2 s3 d0 d1 d2 d3 lm).set I (x ^^^ by_)) := own2.drew.rd0
      have HRB := Lib.hid hrb
      have HOKB := Lib.hid own2.slOk
      have HK11' := Lib.hid hk11
      clear own2 hrb hk11 HOW HK10 HF0 cx fz hxor v1 c7
      generalize (w10.setCell ⟨g1, I, none⟩ (.int .u8 ((x.toNat ^^^ by_.toNat : Nat) : Int))).drew = w11 at HRB HK11' ⊢
      obtain ⟨_, _, _, v1⟩ := KE.out _ (HK3.out.trans (HKR.out.trans (HK9.out.trans HK11'.out)))
      go_upto_region 24 with fail
      go_cut [146] (fun s wx => s = .bool (decide (I < 34 ∧ by_ ≠ 0)) ∧ wx = w11)
      case first =>
        by_cases hi34 : I < 34
        · have hi34' : (I : Int) < 34 := by omega
          by_cases hb0 : by_ = 0
          · subst hb0
            go_wp2_with fail
            go_meet
            exact ⟨by simp, rfl⟩
          · have hbn : ¬ by_.toNat = 0 := fun e => hb0 (UInt8.toNat_inj.1 (by simpa using e))
            have hb0' : ((by_.toNat : Int) == 0) = false := by
              rw [beq_eq_false_iff_ne]
              intro e
              exact hb0 (UInt8.toNat_inj.1 (by simpa using (by omega : by_.toNat = 0)))
            go_wp2_with fail
            go_meet
            exact ⟨by simp [hi34, hb0, hbn], rfl⟩
        · have hi34' : ¬ (I : Int) < 34 := by omega
          go_wp2_with fail
          go_meet
          exact ⟨by simp [hi34], rfl⟩
      case rest =>
        obtain ⟨rfl, rfl⟩ := hcut
        clear v1
        go_upto_if 146 with fail
        go_cut [] (fun wx => Kp wc wx)
        case first =>
          by_cases hc : I < 34 ∧ by_ ≠ 0
          · rw [decide_eq_true hc]
            have hi20 : i < 20 := by have := HII.out; omega
            have hx' : (pkB pl mo s0 s1 s2 s3 d0 d1 d2 d3 lm)[i]? = some x := by rw [← frB_get, HII.out]; exact HX.out
            have HX' := Lib.hid hx'
            have HNE := Lib.hid (xor_ne x by_ hc.2)
            clear hx' hc
            go_upto_region 27 with (first
              | (go_at_call 14
                 refine (bent_parse _ s0 s1 s2 s3 d0 d1 d2 d3 mo pl _ m cap1 lm i (x ^^^ by_) HLM.out hm1 (by rw [HII.out]; exact HRB.out) HOKB.out).mono ?_
                 rintro e w12 ⟨hk12, B12, cap12, rfl, hrd12, hok12⟩
                 have HK12 := Lib.hid (hk12.alloc (.cells #[.int .u8 0, .int .u8 0, .int .u8 0, .int .u8 0, .int .u8 0, .int .u8 0, .int .u8 0, .int .u8 0, .int .u8 0, .int .u8 0, .int .u8 0, .int .u8 0, .int .u16 2048, .slice B12 (20 + m) cap12] 45))
                 have HRD12 := Lib.hid (hrd12.keep ((Kp.refl w12).alloc (.cells #[.int .u8 0, .int .u8 0, .int .u8 0, .int .u8 0, .int .u8 0, .int .u8 0, .int .u8 0, .int .u8 0, .int .u8 0, .int .u8 0, .int .u8 0, .int .u8 0, .int .u16 2048, .slice B12 (20 + m) cap12] 45)))
                 have HOK12 := Lib.hid hok12
                 have c12 := (cell_of_row (w12.alloc (.cells #[.int .u8 0, .int .u8 0, .int .u8 0, .int .u8 0, .int .u8 0, .int .u8 0, .int .u8 0, .int .u8 0, .int .u8 0, .int .u8 0, .int .u8 0, .int .u8 0, .int .u16 2048, .slice B12 (20 + m) cap12] 45)) w12.heap.size 13 _ _ _ (heap_alloc_new w12 _)).trans (show _ = some (Value.slice B12 (20 + m) cap12) from rfl)
                 clear hk12 hrd12 hok12)
              | ((with_reducible apply lst_new (p := .tmp 24) (x := .tmp 150)); (case ho => exact rfl); (case hp => exact rfl); (case hx => exact rfl); (case hi => exact szFrm); (case hc => exact rfl); (case h1 => exact rfl); (case hd => exact rfl); (case hw => exact rfl))
              | (go_at_call 15
                 refine (bent6 _ s0 s1 s2 s3 d0 d1 d2 d3 mo pl _ m cap12 lm i (x ^^^ by_) x hi20 HX'.out HNE.out HLM.out hm1 HRD12.out HOK12.out).mono ?_
                 rintro e w13 ⟨hk13, q, kq, rfl, hq14, hqall, hout⟩
                 have HK13 := Lib.hid ((HK12.out.trans hk13).alloc (.cells q 38))
                 have hr26 := heap_alloc_new w13 (.cells q 38)
                 have HOUT := Lib.hid hout
                 clear hk13 hout)
              | ((with_reducible apply lst_new (p := .tmp 26) (x := .tmp 156)); (case ho => exact rfl); (case hp => exact rfl); (case hx => exact rfl); (case hi => rw [hq14]; exact szPkt); (case hc => rw [hq14]; exact rfl); (case h1 => exact hqall); (case hd => exact rfl); (case hw => exact rfl)
                 have HKA := Lib.hid ((Kp.refl w13).alloc (.cells q 38))
                 generalize w13.alloc (.cells q 38) = w14 at HK13 HKA hr26 ⊢
                 generalize w13.heap.size = b26 at hr26 ⊢)
              | fail)
            have HR26 := Lib.hid hr26
            have HY := Lib.hid ((HK11'.out.trans HK13.out).block _ (Array.getElem?_eq_some_iff.1 HR20.out).1 |>.trans HR20.out)
            have HYD := Lib.hid (HRD9.out.keep (HK11'.out.trans HK13.out))
            clear hr26
            rcases HOUT.out with hk0 | ⟨rfl, idn, mo', pm, t, p, e0, e1, e2, e3, x0, x1, x2, x3, B, kk, m', data, rfl, hrd, hdl⟩
            · have hk0' : (kq == 0) = false := by rw [beq_eq_false_iff_ne]; exact hk0
              clear HOUT hk0
              go_wp2_with fail
              go_meet
              exact HK13.out
            · have c2 := (cell_of_row w14 _ 2 _ _ _ HR26.out).trans (show _ = some (Value.int .i64 (8 * (pm : Int))) from rfl)
              have c13 := (cell_of_row w14 _ 13 _ _ _ HR26.out).trans (show _ = some (Value.slice B m' kk) from rfl)
              have y2 := (cell_of_row w14 _ 2 _ _ _ HY.out).trans (show _ = some (Value.int .i64 (8 * (pl : Int))) from rfl)
              have y13 := (cell_of_row w14 _ 13 _ _ _ HY.out).trans (show _ = some (Value.slice B8 m cap8) from rfl)
              have z1 := conv_str (P := Try.prog) (c := kk) Try.underlying24 Try.underlying5 Try.underlying9 (hrd.keep HKA.out)
              have z2 := conv_str (P := Try.prog) (c := cap8) Try.underlying24 Try.underlying5 Try.underlying9 HYD.out
              have q4 := (str_beq data lm).trans hdl
              by_cases hpm : pm = pl
              · subst hpm
                go_wp2_with fail
                go_meet
                exact HK13.out
              · have hpm' : (8 * (pm : Int) == 8 * (pl : Int)) = false := by rw [beq_eq_false_iff_ne]; omega
                clear z1 z2 q4
                go_wp2_with fail
                go_meet
                exact HK13.out
          · rw [decide_eq_false hc]
            go_wp2_with fail
            go_meet
            exact Kp.refl _
        case rest =>
          have hy := (HK11'.out.trans hcut).block _ (Array.getElem?_eq_some_iff.1 HR20.out).1 |>.trans HR20.out
          have hyd := HRD9.out.keep (HK11'.out.trans hcut)
          have hkc := HK9.out.trans (HK11'.out.trans hcut)
          have HY := Lib.hid hy
          have HYD := Lib.hid hyd
          have HKC := Lib.hid hkc
          clear hy hyd hkc HRB HOKB HX HII
          clear hcut
          go_wp2_with (first
            | ((with_reducible apply lld_row (p := .tmp 20)); (case ho => exact rfl); (case hp => exact rfl); (case hrow => exact HY.out); (case hu => exact Try.underlying38); (case hd => exact rfl); (case hi => exact szPkt); (case hw => exact rfl))
            | (go_at_call 16
               refine (HADD.out _ HKC.out B8 cap8 HYD.out).mono ?_
               rintro e w15 ⟨hk15, hv2, pk2, rfl, hp14, hpall, hst2⟩
               have hkw := HKC.out.trans hk15
               have HR15 := Lib.hid ((hkw.block _ (Array.getElem?_eq_some_iff.1 HROW.out).1).trans HROW.out)
               have HKW := Lib.hid (Kp.setRow (b := bw) (cs := pk2) (HKR.out.trans hkw) (Nat.le_of_eq HBW.out))
               have HRW := Lib.hid (setRow_heap w15 bw pk pk2 38 (0, 0) HR15.out)
               have HST := Lib.hid hst2
               have HPA := Lib.hid hpall
               have HP14 := Lib.hid hp14
               obtain ⟨ok, hok, hok'⟩ : ∃ ok, decide (k + 1 = K) = ok ∧ ((k : Int) == (K : Int) - 1) = ok := ⟨_, rfl, by rw [Bool.eq_iff_iff]; simp; omega⟩
               rw [hok]
               clear hk15 hkw hst2 hok hpall hp14)
            | ((with_reducible apply lst_row (p := .tmp 11) (x := .tmp 223)); (case ho => exact rfl); (case hp => exact rfl); (case hx => exact rfl); (case hrow => exact HR15.out); (case hi => rw [HP14.out]; exact szPkt); (case hc => rw [HP14.out]; exact HPK.out); (case h1 => exact HPA.out); (case hd => exact rfl); (case hw => exact rfl)
               generalize w15.setRow bw pk2 = w16 at HKW HRW HST ⊢)
            | fail)
          go_roundw
          case rel => exact ⟨k + 1, pk2, by push_cast; rfl, by omega, HKW.out, HRW.out, HP14.out, HST.out⟩
          case measure => simp [intOf]; omega
    · obtain rfl : k = K := by omega
      rcases hst with ⟨h0, _⟩ | ⟨h1, h2, _⟩ | ⟨_, _, Z, capz, Bz, kz, rfl, rfl, hrdz, hokz⟩
      · omega
      · omega
      have HRDZ := Lib.hid hrdz
      have HOKZ := Lib.hid hokz
      have HKR := Lib.hid (HK3.out.trans hkr)
      have p13 := (cell_of_row _ _ 13 _ _ _ hrow).trans (show _ = some (Value.slice Bz N kz) from rfl)
      have p5 := (cell_of_row _ _ 5 _ _ _ hrow).trans (show _ = some (Value.int .u8 (s0.toNat : Int)) from rfl)
      have p6 := (cell_of_row _ _ 6 _ _ _ hrow).trans (show _ = some (Value.int .u8 (s1.toNat : Int)) from rfl)
      have p7 := (cell_of_row _ _ 7 _ _ _ hrow).trans (show _ = some (Value.int .u8 (s2.toNat : Int)) from rfl)
      have p8 := (cell_of_row _ _ 8 _ _ _ hrow).trans (show _ = some (Value.int .u8 (s3.toNat : Int)) from rfl)
      have p9 := (cell_of_row _ _ 9 _ _ _ hrow).trans (show _ = some (Value.int .u8 (d0.toNat : Int)) from rfl)
      have p10 := (cell_of_row _ _ 10 _ _ _ hrow).trans (show _ = some (Value.int .u8 (d1.toNat : Int)) from rfl)
      have p11 := (cell_of_row _ _ 11 _ _ _ hrow).trans (show _ = some (Value.int .u8 (d2.toNat : Int)) from rfl)
      have p12 := (cell_of_row _ _ 12 _ _ _ hrow).trans (show _ = some (Value.int .u8 (d3.toNat : Int)) from rfl)
      clear hrow hrdz hokz hkr hpk h4 i1 hK2 hK0 hkK
      go_wp2_with fail
      refine (o9_any _ _ N kz pb s0 s1 s2 s3 d0 d1 d2 d3 HRDZ.out HOKZ.out (by omega)).mono ?_
      clear p5 p6 p7 p8 p9 p10 p11 p12 p13
      have hB := HB.out
      rintro e w4 (⟨k', _, hk', _⟩ | ⟨s', hs', _, _, hk4, A4, c4, rfl, hr4, _⟩)
      · rw [hB] at hk'; cases hk'
      · rw [hB] at hs'
        injection hs' with hs'
        subst hs'
        simp only at hr4 ⊢
        have HK4 := Lib.hid ((HKR.out.trans hk4).alloc (.cells #[.int .u16 (sp : Int), .int .u16 (dp : Int), .int .u32 (sq : Int), .int .u32 (ak : Int), .int .u8 (fl.toNat : Int), .int .u16 (wn : Int), .int .u16 (ms : Int), .slice A4 l.length c4] 26))
        have HR4 : Hid (Rd (w4.alloc (.cells #[.int .u16 (sp : Int), .int .u16 (dp : Int), .int .u32 (sq : Int), .int .u32 (ak : Int), .int .u8 (fl.toNat : Int), .int .u16 (wn : Int), .int .u16 (ms : Int), .slice A4 l.length c4] 26)) 0 A4 l.length l) := Lib.hid (hr4.lo0.keep ((Kp.refl w4).alloc _))
        clear hk4 hr4 hB HB
        go_wp2_with (first | (refine lst_new (by rfl) (.tmp 29) (.tmp 246) _ rfl rfl rfl szSeg rfl rfl rfl ?_) | (refine lld_row (by rfl) (.tmp 29) _ _ rfl rfl (heap_alloc_new w4 _) Try.underlying26 rfl szSeg ?_) | (refine lld_row (by rfl) (.tmp 3) _ _ rfl rfl (HRP.out _ HK4.out).1 Try.underlying26 rfl szSeg ?_))
        refine (same9_any _ ⟨sp, dp, sq, ak, fl, wn, ms, l⟩ ⟨sp, dp, sq, ak, fl, wn, ms, l⟩ A4 l.length c4 A n c HR4.out (HA.out.keep HK4.out)).mono ?_
        rintro e w5 ⟨rfl, hk5⟩
        rw [sameS_self]
        go_wp2
        go_ret
        exact ⟨rfl, HK0.out.trans (HK4.out.trans hk5)⟩

set_option maxHeartbeats 2000000 in
theorem top_walk (w : World) (sp dp sq ak : Nat) (fl : UInt8) (wn ms : Nat) (A : Option Addr) (n c : Nat) (l : List UInt8) (s0 s1 s2 s3 d0 d1 d2 d3 : UInt8) (t0 t1 : Int) (hb : sp ≤ 65535 ∧ dp ≤ 65535 ∧ sq < 4294967296 ∧ ak < 4294967296 ∧ wn ≤ 65535 ∧ ms ≤ 65535) (hA : Rd w 0 A n l) (_hok : SlOk A n c) :
    Calls Try.prog 3 #[.agg #[.int .u16 (sp : Int), .int .u16 (dp : Int), .int .u32 (sq : Int), .int .u32 (ak : Int), .int .u8 (fl.toNat : Int), .int .u16 (wn : Int), .int .u16 (ms : Int), .slice A n c], .agg #[.int .u8 (s0.toNat : Int), .int .u8 (s1.toNat : Int), .int .u8 (s2.toNat : Int), .int .u8 (s3.toNat : Int), .int .u8 (d0.toNat : Int), .int .u8 (d1.toNat : Int), .int .u8 (d2.toNat : Int), .int .u8 (d3.toNat : Int)], .agg #[.int .i64 t0, .int .i64 t1]] w fun e w' => e = .returned (.bool true) ∧ Kp w w' := by
  by_cases h4 : 300 < n
  · have hK0 : Kp w (((w.alloc (.cells #[.int .u16 (sp : Int), .int .u16 (dp : Int), .int .u32 (sq : Int), .int .u32 (ak : Int), .int .u8 (fl.toNat : Int), .int .u16 (wn : Int), .int .u16 (ms : Int), .slice A n c] 26)).alloc (.cells #[.int .u8 (s0.toNat : Int), .int .u8 (s1.toNat : Int), .int .u8 (s2.toNat : Int), .int .u8 (s3.toNat : Int), .int .u8 (d0.toNat : Int), .int .u8 (d1.toNat : Int), .int .u8 (d2.toNat : Int), .int .u8 (d3.toNat : Int)] 29)).alloc (.cells #[.int .i64 t0, .int .i64 t1] 30)) := (((Kp.refl w).alloc _).alloc _).alloc _
    have HK0 := Lib.hid hK0
    have z7 := (cell_of_row (((w.alloc (.cells #[.int .u16 (sp : Int), .int .u16 (dp : Int), .int .u32 (sq : Int), .int .u32 (ak : Int), .int .u8 (fl.toNat : Int), .int .u16 (wn : Int), .int .u16 (ms : Int), .slice A n c] 26)).alloc (.cells #[.int .u8 (s0.toNat : Int), .int .u8 (s1.toNat : Int), .int .u8 (s2.toNat : Int), .int .u8 (s3.toNat : Int), .int .u8 (d0.toNat : Int), .int .u8 (d1.toNat : Int), .int .u8 (d2.toNat : Int), .int .u8 (d3.toNat : Int)] 29)).alloc (.cells #[.int .i64 t0, .int .i64 t1] 30)) _ 7 _ _ _ (rowsT w sp dp sq ak fl wn ms A n c s0 s1 s2 s3 d0 d1 d2 d3 t0 t1 _ (Kp.refl _)).1).trans (show _ = some (Value.slice A n c) from rfl)
    have i1 : (300 : Int) < (n : Int) := by omega
    clear hA hK0
    go_enter Try.func3, Try.ntmps3
    go_wp2
    go_ret
    exact ⟨rfl, HK0.out⟩
  · exact top_main w sp dp sq ak fl wn ms A n c l s0 s1 s2 s3 d0 d1 d2 d3 t0 t1 hb hA h4
end Go.Proofs.Ytnoobifdaldfiaa.Fr
