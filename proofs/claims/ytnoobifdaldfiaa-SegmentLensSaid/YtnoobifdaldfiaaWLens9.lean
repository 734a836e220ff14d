/-
  The walk of SegmentLens: it returns true and leaves what was there as it was.
-/
import Derived.Test.YtnoobifdaldfiaaLives9
import Derived.Test.YtnoobifdaldfiaaStableG
namespace Go.Proofs.Ytnoobifdaldfiaa
open Go.RowKit


theorem and_3 (x : UInt8) : ∃ y : UInt8, bits BinOp.and IntKind.u8 (x.toNat : Int) 3 = (y.toNat : Int) ∧ y.toNat / 2 % 2 = x.toNat / 2 % 2 ∧ y.toNat % 2 = x.toNat % 2 := by
  have h : ∀ n : Fin 256, bits BinOp.and IntKind.u8 ((n.val : Nat) : Int) 3 = ((n.val % 4 : Nat) : Int) := by decide +kernel
  have hx := x.toNat_lt
  refine ⟨UInt8.ofNat (x.toNat % 4), ?_, ?_, ?_⟩
  · rw [UInt8.toNat_ofNat', Nat.mod_eq_of_lt (by omega)]; exact h ⟨x.toNat, hx⟩
  · rw [UInt8.toNat_ofNat']; omega
  · rw [UInt8.toNat_ofNat']; omega
theorem or_3 (x : UInt8) : ∃ y : UInt8, bits BinOp.or IntKind.u8 (x.toNat : Int) 3 = (y.toNat : Int) ∧ y.toNat / 2 % 2 = 1 ∧ y.toNat % 2 = 1 := by
  have h : ∀ n : Fin 256, bits BinOp.or IntKind.u8 ((n.val : Nat) : Int) 3 = ((n.val - n.val % 4 + 3 : Nat) : Int) := by decide +kernel
  have hx := x.toNat_lt
  refine ⟨UInt8.ofNat (x.toNat - x.toNat % 4 + 3), ?_, ?_, ?_⟩
  · rw [UInt8.toNat_ofNat', Nat.mod_eq_of_lt (by omega)]; exact h ⟨x.toNat, hx⟩
  · rw [UInt8.toNat_ofNat']; omega
  · rw [UInt8.toNat_ofNat']; omega

noncomputable def l9phi (b1 : Nat) (sp dp sq ak : Nat) (g3 o3 : UInt8) (wn ms n c u v : Nat) (A : Option Addr) : Nat → St := fun i => ([St.val (.int .i64 ((n : Int) + (u : Int) + (v : Int))),
  St.val (.pointer (some ⟨b1, 7, none⟩)),
  St.val (.slice A n c),
  St.val (.int .i64 (n : Int)),
  St.val (.bool true),
  St.val (.bool true),
  St.val (.int .i64 ((n : Int) + (u : Int) + (v : Int))),
  St.val (.pointer (some ⟨b1, 7, none⟩)),
  St.val (.slice A n c),
  St.val (.int .i64 (n : Int)),
  St.val (.int .i64 ((n : Int) + 2)),
  St.val (.bool true),
  St.val (.bool true),
  St.val (.bool true),
  St.val (.agg #[.int .u16 0, .int .u16 0, .int .u32 0, .int .u32 0, .int .u8 (g3.toNat : Int), .int .u16 0, .int .u16 0, .slice A n c]),
  St.val (.int .i64 ((n : Int) + (u : Int) + (v : Int))),
  St.val (.int .i64 ((n : Int) + (u : Int) + (v : Int))),
  St.val (.bool true),
  St.val (.bool true),
  St.val (.bool true),
  St.val (.agg #[.int .u16 (sp : Int), .int .u16 (dp : Int), .int .u32 (sq : Int), .int .u32 (ak : Int), .int .u8 (o3.toNat : Int), .int .u16 (wn : Int), .int .u16 (ms : Int), .slice A n c]),
  St.val (.int .i64 ((n : Int) + 2)),
  St.val (.pointer (some ⟨b1, 7, none⟩)),
  St.val (.slice A n c),
  St.val (.int .i64 (n : Int)),
  St.val (.int .i64 ((n : Int) + 2)),
  St.val (.bool true),
  St.val (.bool true),
  St.val (.bool true)] : List St).getD i St.any

set_option maxRecDepth 100000 in
set_option maxHeartbeats 4000000 in
theorem lens9_main (w : World) (sp dp sq ak : Nat) (fl : UInt8) (wn ms : Nat) (A : Option Addr) (n c : Nat) (hn : ¬ 400 < n) :
    Calls Try.prog 8 #[.agg #[.int .u16 (sp : Int), .int .u16 (dp : Int), .int .u32 (sq : Int), .int .u32 (ak : Int), .int .u8 (fl.toNat : Int), .int .u16 (wn : Int), .int .u16 (ms : Int), .slice A n c]] w fun e w' => e = .returned (.bool true) ∧ Kp w w' := by
  have hK0 : Kp w (w.alloc (.cells #[.int .u16 (sp : Int), .int .u16 (dp : Int), .int .u32 (sq : Int), .int .u32 (ak : Int), .int .u8 (fl.toNat : Int), .int .u16 (wn : Int), .int .u16 (ms : Int), .slice A n c] 26)) := (Kp.refl w).alloc _
  have HK0 := Lib.hid hK0
  have HRP : Hid (∀ W, Kp (w.alloc (.cells #[.int .u16 (sp : Int), .int .u16 (dp : Int), .int .u32 (sq : Int), .int .u32 (ak : Int), .int .u8 (fl.toNat : Int), .int .u16 (wn : Int), .int .u16 (ms : Int), .slice A n c] 26)) W → W.heap[w.heap.size]? = some (.cells #[.int .u16 (sp : Int), .int .u16 (dp : Int), .int .u32 (sq : Int), .int .u32 (ak : Int), .int .u8 (fl.toNat : Int), .int .u16 (wn : Int), .int .u16 (ms : Int), .slice A n c] 26 (0, 0))) := Lib.hid fun W hk => (hk.block _ (by simp)).trans (heap_alloc_new w _)
  have i1 : ¬ (400 : Int) < (n : Int) := by omega
  obtain ⟨g3, ag, hg2, hg1⟩ := and_3 fl
  obtain ⟨o3, ao, ho2, ho1⟩ := or_3 fl
  obtain ⟨u, hu⟩ : ∃ u, fl.toNat / 2 % 2 = u := ⟨_, rfl⟩
  obtain ⟨v, hv⟩ : ∃ v, fl.toNat % 2 = v := ⟨_, rfl⟩
  have hu2 : u < 2 := by omega
  have hv2 : v < 2 := by omega
  have HG : Hid (n + g3.toNat / 2 % 2 + g3.toNat % 2 = n + u + v) := Lib.hid (by rw [hg2, hg1, hu, hv])
  have HO : Hid (n + o3.toNat / 2 % 2 + o3.toNat % 2 = n + 2) := Lib.hid (by rw [ho2, ho1])
  have HF : Hid (n + fl.toNat / 2 % 2 + fl.toNat % 2 = n + u + v) := Lib.hid (by rw [hu, hv])
  clear hK0 hu hv hg1 hg2 ho1 ho2
  go_enter Try.func8, Try.ntmps8
  go_wp2_with fail
  refine (lives9_any _).mono ?_
  rintro e w1 ⟨rfl, hk1⟩
  have HK1 := Lib.hid hk1
  clear hk1
  have z7 : w1.cell? ⟨w.heap.size, 7, none⟩ = some (.slice A n c) := (cell_of_row w1 _ 7 _ _ _ (HRP.out _ HK1.out)).trans rfl
  go_wp2_with (refine lld_row (by rfl) (.tmp 1) _ _ rfl rfl (HRP.out _ HK1.out) Try.underlying26 rfl szSeg ?_)
  refine (len9_any _ sp dp sq ak fl wn ms A n c (by omega)).mono ?_
  rintro e w2 ⟨rfl, hk2⟩
  rw [HF.out]
  have HK2 := Lib.hid (HK1.out.trans hk2)
  clear z7 hk2
  have z7 : w2.cell? ⟨w.heap.size, 7, none⟩ = some (.slice A n c) := (cell_of_row w2 _ 7 _ _ _ (HRP.out _ HK2.out)).trans rfl
  have z4 : w2.cell? ⟨w.heap.size, 4, none⟩ = some (.int .u8 (fl.toNat : Int)) := (cell_of_row w2 _ 4 _ _ _ (HRP.out _ HK2.out)).trans rfl
  have r3 := heap_alloc_new w2 (.cells #[.int .u16 0, .int .u16 0, .int .u32 0, .int .u32 0, .int .u8 (g3.toNat : Int), .int .u16 0, .int .u16 0, .slice A n c] 26)
  have HK3 := Lib.hid (HK2.out.alloc (.cells #[.int .u16 0, .int .u16 0, .int .u32 0, .int .u32 0, .int .u8 (g3.toNat : Int), .int .u16 0, .int .u16 0, .slice A n c] 26))
  have e3 : (w2.alloc (.cells #[.int .u16 0, .int .u16 0, .int .u32 0, .int .u32 0, .int .u8 (g3.toNat : Int), .int .u16 0, .int .u16 0, .slice A n c] 26)).heap.size = w2.heap.size + 1 := by simp
  have r4 := heap_alloc_new (w2.alloc (.cells #[.int .u16 0, .int .u16 0, .int .u32 0, .int .u32 0, .int .u8 (g3.toNat : Int), .int .u16 0, .int .u16 0, .slice A n c] 26)) (.cells #[.int .u16 (sp : Int), .int .u16 (dp : Int), .int .u32 (sq : Int), .int .u32 (ak : Int), .int .u8 (o3.toNat : Int), .int .u16 (wn : Int), .int .u16 (ms : Int), .slice A n c] 26)
  rw [e3] at r4
  have HK4 : Hid (Kp (w.alloc (.cells #[.int .u16 (sp : Int), .int .u16 (dp : Int), .int .u32 (sq : Int), .int .u32 (ak : Int), .int .u8 (fl.toNat : Int), .int .u16 (wn : Int), .int .u16 (ms : Int), .slice A n c] 26)) ((w2.alloc (.cells #[.int .u16 0, .int .u16 0, .int .u32 0, .int .u32 0, .int .u8 (g3.toNat : Int), .int .u16 0, .int .u16 0, .slice A n c] 26)).alloc (.cells #[.int .u16 (sp : Int), .int .u16 (dp : Int), .int .u32 (sq : Int), .int .u32 (ak : Int), .int .u8 (o3.toNat : Int), .int .u16 (wn : Int), .int .u16 (ms : Int), .slice A n c] 26))) := Lib.hid (HK3.out.alloc _)
  have r3' := (Below.heap_alloc (w2.alloc (.cells #[.int .u16 0, .int .u16 0, .int .u32 0, .int .u32 0, .int .u8 (g3.toNat : Int), .int .u16 0, .int .u16 0, .slice A n c] 26)) (.cells #[.int .u16 (sp : Int), .int .u16 (dp : Int), .int .u32 (sq : Int), .int .u32 (ak : Int), .int .u8 (o3.toNat : Int), .int .u16 (wn : Int), .int .u16 (ms : Int), .slice A n c] 26) _ (Array.getElem?_eq_some_iff.1 r3).1).trans r3
  have r1' := HRP.out _ HK4.out
  have KS0 : Hid (∀ W, Kp ((w2.alloc (.cells #[.int .u16 0, .int .u16 0, .int .u32 0, .int .u32 0, .int .u8 (g3.toNat : Int), .int .u16 0, .int .u16 0, .slice A n c] 26)).alloc (.cells #[.int .u16 (sp : Int), .int .u16 (dp : Int), .int .u32 (sq : Int), .int .u32 (ak : Int), .int .u8 (o3.toNat : Int), .int .u16 (wn : Int), .int .u16 (ms : Int), .slice A n c] 26)) W → W.heap[w.heap.size]? = some (.cells #[.int .u16 (sp : Int), .int .u16 (dp : Int), .int .u32 (sq : Int), .int .u32 (ak : Int), .int .u8 (fl.toNat : Int), .int .u16 (wn : Int), .int .u16 (ms : Int), .slice A n c] 26 (0, 0)) ∧ W.heap[w2.heap.size]? = some (.cells #[.int .u16 0, .int .u16 0, .int .u32 0, .int .u32 0, .int .u8 (g3.toNat : Int), .int .u16 0, .int .u16 0, .slice A n c] 26 (0, 0)) ∧ W.heap[w2.heap.size + 1]? = some (.cells #[.int .u16 (sp : Int), .int .u16 (dp : Int), .int .u32 (sq : Int), .int .u32 (ak : Int), .int .u8 (o3.toNat : Int), .int .u16 (wn : Int), .int .u16 (ms : Int), .slice A n c] 26 (0, 0))) :=
    Lib.hid fun W hk => ⟨(hk.block _ (Array.getElem?_eq_some_iff.1 r1').1).trans r1', (hk.block _ (Array.getElem?_eq_some_iff.1 r3').1).trans r3', (hk.block _ (Array.getElem?_eq_some_iff.1 r4).1).trans r4⟩
  clear r3 r4 r3' r1' e3
  go_wp2_with (first | (refine lst_new (by rfl) (.tmp 4) (.tmp 22) _ rfl rfl rfl szSeg rfl rfl rfl ?_) | (refine lst_new (by rfl) (.tmp 5) (.tmp 23) _ rfl rfl rfl szSeg rfl rfl rfl ?_) | (refine lld_row (by rfl) (.tmp 1) _ _ rfl rfl (HRP.out _ HK3.out) Try.underlying26 rfl szSeg ?_))
  have L3 : Hid (∀ W, Calls Try.prog 21 #[.agg #[.int .u16 0, .int .u16 0, .int .u32 0, .int .u32 0, .int .u8 (g3.toNat : Int), .int .u16 0, .int .u16 0, .slice A n c]] W fun e w' => e = .returned (.int .i64 ((n : Int) + (u : Int) + (v : Int))) ∧ Kp W w') := Lib.hid fun W => by
    have h := len9_any W 0 0 0 0 g3 0 0 A n c (by omega)
    rw [HG.out, show ((n + u + v : Nat) : Int) = (n : Int) + (u : Int) + (v : Int) by omega] at h
    exact h
  have L5 : Hid (∀ W, Calls Try.prog 21 #[.agg #[.int .u16 (sp : Int), .int .u16 (dp : Int), .int .u32 (sq : Int), .int .u32 (ak : Int), .int .u8 (o3.toNat : Int), .int .u16 (wn : Int), .int .u16 (ms : Int), .slice A n c]] W fun e w' => e = .returned (.int .i64 ((n : Int) + 2)) ∧ Kp W w') := Lib.hid fun W => by
    have h := len9_any W sp dp sq ak o3 wn ms A n c (by omega)
    rw [HO.out, show ((n + 2 : Nat) : Int) = (n : Int) + 2 by omega] at h
    exact h
  have KS := KS0.out
  have m1 : (n : Int) ≤ (n : Int) + (u : Int) + (v : Int) := by omega
  have m2 : (n : Int) + (u : Int) + (v : Int) ≤ (n : Int) + 2 := by omega
  have wn2 : IntKind.i64.wrap ((n : Int) + 2) = (n : Int) + 2 := by rw [IntKind.wrap_i64]; omega
  clear KS0 HRP HG HO HF ag ao z7 z4
  generalize (w2.alloc (.cells #[.int .u16 0, .int .u16 0, .int .u32 0, .int .u32 0, .int .u8 (g3.toNat : Int), .int .u16 0, .int .u16 0, .slice A n c] 26)).alloc (.cells #[.int .u16 (sp : Int), .int .u16 (dp : Int), .int .u32 (sq : Int), .int .u32 (ak : Int), .int .u8 (o3.toNat : Int), .int .u16 (wn : Int), .int .u16 (ms : Int), .slice A n c] 26) = w3 at KS HK4 ⊢
  generalize w2.heap.size + 1 = b5 at KS ⊢
  generalize w2.heap.size = b3 at KS ⊢
  generalize hb1 : w.heap.size = b1 at KS ⊢
  clear hb1
  refine wp_region_stepsG (by kernel_rfl) 29 (l9phi b1 sp dp sq ak g3 o3 wn ms n c u v A) [28, 29, 30, 31, 32, 33, 34, 35, 36, 37, 38, 39, 40, 41, 42, 43, 44, 45, 46, 47, 48, 49, 50, 51, 52, 53, 54, 55, 2] (by kernel_rfl) (by kernel_rfl) ⟨?_, ?_, ?_, ?_, ?_, ?_, ?_, ?_, ?_, ?_, ?_, ?_, ?_, ?_, ?_, ?_, ?_, ?_, ?_, ?_, ?_, ?_, ?_, ?_, ?_, ?_, ?_, ?_, ?_, trivial⟩ ?_
  · refine stepG_free rfl ?_
    intro a W hW hO hφ K hK
    have q3 : a.tmps.getD 3 undef = (.int .i64 ((n : Int) + (u : Int) + (v : Int))) := hO 3 (by kernel_rfl)
    have r3 := q3
    rw [Array.getD_eq_getD_getElem?] at r3
    clear hO hφ
    clear KS
    go_simp
    exact hK _ _ (Kp.refl _) rfl
  · refine stepG_free rfl ?_
    intro a W hW hO hφ K hK
    have q1 : a.tmps.getD 1 undef = (.pointer (some ⟨b1, 0, none⟩)) := hO 1 (by kernel_rfl)
    have r1 := q1
    rw [Array.getD_eq_getD_getElem?] at r1
    clear hO hφ
    clear KS
    go_simp
    exact hK _ _ (Kp.refl _) rfl
  · refine stepG_free rfl ?_
    intro a W hW hO hφ K hK
    have q29 : a.tmps.getD 29 undef = (.pointer (some ⟨b1, 7, none⟩)) := hφ ⟨1, .data⟩ (by simp) rfl
    have r29 := q29
    rw [Array.getD_eq_getD_getElem?] at r29
    clear hO hφ
    obtain ⟨r1, r2, r3⟩ := KS W (Kp.trans ((Kp.refl _).drew) hW)
    have z7 : W.cell? ⟨b1, 7, none⟩ = some (.slice A n c) := (cell_of_row W _ 7 _ _ _ r1).trans rfl
    clear KS r1 r2 r3
    go_simp
    exact hK _ _ (Kp.refl _) rfl
  · refine stepG_free rfl ?_
    intro a W hW hO hφ K hK
    have q30 : a.tmps.getD 30 undef = (.slice A n c) := hφ ⟨2, .data⟩ (by simp) rfl
    have r30 := q30
    rw [Array.getD_eq_getD_getElem?] at r30
    clear hO hφ
    clear KS
    go_simp
    exact hK _ _ (Kp.refl _) rfl
  · refine stepG_free rfl ?_
    intro a W hW hO hφ K hK
    have q28 : a.tmps.getD 28 undef = (.int .i64 ((n : Int) + (u : Int) + (v : Int))) := hφ ⟨0, .data⟩ (by simp) rfl
    have q31 : a.tmps.getD 31 undef = (.int .i64 (n : Int)) := hφ ⟨3, .data⟩ (by simp) rfl
    have r28 := q28
    rw [Array.getD_eq_getD_getElem?] at r28
    have r31 := q31
    rw [Array.getD_eq_getD_getElem?] at r31
    clear hO hφ
    clear KS
    go_simp
    exact hK _ _ (Kp.refl _) rfl
  · refine stepG_free rfl ?_
    intro a W hW hO hφ K hK
    have q32 : a.tmps.getD 32 undef = (.bool true) := hφ ⟨4, .data⟩ (by simp) rfl
    have r32 := q32
    rw [Array.getD_eq_getD_getElem?] at r32
    clear hO hφ
    clear KS
    go_simp
    exact hK _ _ (Kp.refl _) rfl
  · refine stepG_on rfl (fun x W h => h) ?_
    intro a W hW hO hφ K hK
    have q3 : a.tmps.getD 3 undef = (.int .i64 ((n : Int) + (u : Int) + (v : Int))) := hO 3 (by kernel_rfl)
    have r3 := q3
    rw [Array.getD_eq_getD_getElem?] at r3
    clear hO hφ
    clear KS
    go_simp
    exact hK _ _ (Kp.refl _) rfl
  · refine stepG_on rfl (fun x W h => h) ?_
    intro a W hW hO hφ K hK
    have q1 : a.tmps.getD 1 undef = (.pointer (some ⟨b1, 0, none⟩)) := hO 1 (by kernel_rfl)
    have r1 := q1
    rw [Array.getD_eq_getD_getElem?] at r1
    clear hO hφ
    clear KS
    go_simp
    exact hK _ _ (Kp.refl _) rfl
  · refine stepG_on rfl (fun x W h => h) ?_
    intro a W hW hO hφ K hK
    have q35 : a.tmps.getD 35 undef = (.pointer (some ⟨b1, 7, none⟩)) := hφ ⟨7, .data⟩ (by simp) rfl
    have r35 := q35
    rw [Array.getD_eq_getD_getElem?] at r35
    clear hO hφ
    obtain ⟨r1, r2, r3⟩ := KS W (Kp.trans ((Kp.refl _).drew) hW)
    have z7 : W.cell? ⟨b1, 7, none⟩ = some (.slice A n c) := (cell_of_row W _ 7 _ _ _ r1).trans rfl
    clear KS r1 r2 r3
    go_simp
    exact hK _ _ (Kp.refl _) rfl
  · refine stepG_on rfl (fun x W h => h) ?_
    intro a W hW hO hφ K hK
    have q36 : a.tmps.getD 36 undef = (.slice A n c) := hφ ⟨8, .data⟩ (by simp) rfl
    have r36 := q36
    rw [Array.getD_eq_getD_getElem?] at r36
    clear hO hφ
    clear KS
    go_simp
    exact hK _ _ (Kp.refl _) rfl
  · refine stepG_on rfl (fun x W h => h) ?_
    intro a W hW hO hφ K hK
    have q37 : a.tmps.getD 37 undef = (.int .i64 (n : Int)) := hφ ⟨9, .data⟩ (by simp) rfl
    have r37 := q37
    rw [Array.getD_eq_getD_getElem?] at r37
    clear hO hφ
    clear KS
    go_simp
    exact hK _ _ (Kp.refl _) rfl
  · refine stepG_on rfl (fun x W h => h) ?_
    intro a W hW hO hφ K hK
    have q34 : a.tmps.getD 34 undef = (.int .i64 ((n : Int) + (u : Int) + (v : Int))) := hφ ⟨6, .data⟩ (by simp) rfl
    have q38 : a.tmps.getD 38 undef = (.int .i64 ((n : Int) + 2)) := hφ ⟨10, .data⟩ (by simp) rfl
    have r34 := q34
    rw [Array.getD_eq_getD_getElem?] at r34
    have r38 := q38
    rw [Array.getD_eq_getD_getElem?] at r38
    clear hO hφ
    clear KS
    go_simp
    exact hK _ _ (Kp.refl _) rfl
  · refine stepG_free rfl ?_
    intro a W hW hO hφ K hK
    have q33 : a.tmps.getD 33 undef = (.bool true) := hφ ⟨5, .data⟩ (by simp) rfl
    have q39 : a.tmps.getD 39 undef = (.bool true) := hφ ⟨11, .data⟩ (by simp) rfl
    have r33 := q33
    rw [Array.getD_eq_getD_getElem?] at r33
    have r39 := q39
    rw [Array.getD_eq_getD_getElem?] at r39
    clear hO hφ
    clear KS
    go_simp
    exact hK _ _ (Kp.refl _) rfl
  · refine stepG_free rfl ?_
    intro a W hW hO hφ K hK
    have q40 : a.tmps.getD 40 undef = (.bool true) := hφ ⟨12, .data⟩ (by simp) rfl
    have r40 := q40
    rw [Array.getD_eq_getD_getElem?] at r40
    clear hO hφ
    clear KS
    go_simp
    exact hK _ _ (Kp.refl _) rfl
  · refine stepG_on rfl (fun x W h => h) ?_
    intro a W hW hO hφ K hK
    have q4 : a.tmps.getD 4 undef = (.pointer (some ⟨b3, 0, none⟩)) := hO 4 (by kernel_rfl)
    have r4 := q4
    rw [Array.getD_eq_getD_getElem?] at r4
    clear hO hφ
    obtain ⟨r1, r2, r3⟩ := KS W (Kp.trans ((Kp.refl _).drew) hW)
    refine old_row (.tmp 4) _ _ rfl q4 r2 Try.underlying26 rfl szSeg ?_
    exact hK _ _ (Kp.refl _) rfl
  · refine stepG_on rfl (fun x W h => h) ?_
    intro a W hW hO hφ K hK
    have q42 : a.tmps.getD 42 undef = (.agg #[.int .u16 0, .int .u16 0, .int .u32 0, .int .u32 0, .int .u8 (g3.toNat : Int), .int .u16 0, .int .u16 0, .slice A n c]) := hφ ⟨14, .data⟩ (by simp) rfl
    have r42 := q42
    rw [Array.getD_eq_getD_getElem?] at r42
    clear hO hφ
    go_simp
    go_at_call 21
    refine (L3.out W).mono ?_
    rintro e w' ⟨rfl, hk⟩
    exact hK _ _ hk rfl
  · refine stepG_on rfl (fun x W h => h) ?_
    intro a W hW hO hφ K hK
    have q3 : a.tmps.getD 3 undef = (.int .i64 ((n : Int) + (u : Int) + (v : Int))) := hO 3 (by kernel_rfl)
    have r3 := q3
    rw [Array.getD_eq_getD_getElem?] at r3
    clear hO hφ
    clear KS
    go_simp
    exact hK _ _ (Kp.refl _) rfl
  · refine stepG_on rfl (fun x W h => h) ?_
    intro a W hW hO hφ K hK
    have q43 : a.tmps.getD 43 undef = (.int .i64 ((n : Int) + (u : Int) + (v : Int))) := hφ ⟨15, .data⟩ (by simp) rfl
    have q44 : a.tmps.getD 44 undef = (.int .i64 ((n : Int) + (u : Int) + (v : Int))) := hφ ⟨16, .data⟩ (by simp) rfl
    have r43 := q43
    rw [Array.getD_eq_getD_getElem?] at r43
    have r44 := q44
    rw [Array.getD_eq_getD_getElem?] at r44
    clear hO hφ
    clear KS
    go_simp
    exact hK _ _ (Kp.refl _) rfl
  · refine stepG_free rfl ?_
    intro a W hW hO hφ K hK
    have q41 : a.tmps.getD 41 undef = (.bool true) := hφ ⟨13, .data⟩ (by simp) rfl
    have q45 : a.tmps.getD 45 undef = (.bool true) := hφ ⟨17, .data⟩ (by simp) rfl
    have r41 := q41
    rw [Array.getD_eq_getD_getElem?] at r41
    have r45 := q45
    rw [Array.getD_eq_getD_getElem?] at r45
    clear hO hφ
    clear KS
    go_simp
    exact hK _ _ (Kp.refl _) rfl
  · refine stepG_free rfl ?_
    intro a W hW hO hφ K hK
    have q46 : a.tmps.getD 46 undef = (.bool true) := hφ ⟨18, .data⟩ (by simp) rfl
    have r46 := q46
    rw [Array.getD_eq_getD_getElem?] at r46
    clear hO hφ
    clear KS
    go_simp
    exact hK _ _ (Kp.refl _) rfl
  · refine stepG_on rfl (fun x W h => h) ?_
    intro a W hW hO hφ K hK
    have q5 : a.tmps.getD 5 undef = (.pointer (some ⟨b5, 0, none⟩)) := hO 5 (by kernel_rfl)
    have r5 := q5
    rw [Array.getD_eq_getD_getElem?] at r5
    clear hO hφ
    obtain ⟨r1, r2, r3⟩ := KS W (Kp.trans ((Kp.refl _).drew) hW)
    refine old_row (.tmp 5) _ _ rfl q5 r3 Try.underlying26 rfl szSeg ?_
    exact hK _ _ (Kp.refl _) rfl
  · refine stepG_on rfl (fun x W h => h) ?_
    intro a W hW hO hφ K hK
    have q48 : a.tmps.getD 48 undef = (.agg #[.int .u16 (sp : Int), .int .u16 (dp : Int), .int .u32 (sq : Int), .int .u32 (ak : Int), .int .u8 (o3.toNat : Int), .int .u16 (wn : Int), .int .u16 (ms : Int), .slice A n c]) := hφ ⟨20, .data⟩ (by simp) rfl
    have r48 := q48
    rw [Array.getD_eq_getD_getElem?] at r48
    clear hO hφ
    go_simp
    go_at_call 21
    refine (L5.out W).mono ?_
    rintro e w' ⟨rfl, hk⟩
    exact hK _ _ hk rfl
  · refine stepG_on rfl (fun x W h => h) ?_
    intro a W hW hO hφ K hK
    have q1 : a.tmps.getD 1 undef = (.pointer (some ⟨b1, 0, none⟩)) := hO 1 (by kernel_rfl)
    have r1 := q1
    rw [Array.getD_eq_getD_getElem?] at r1
    clear hO hφ
    clear KS
    go_simp
    exact hK _ _ (Kp.refl _) rfl
  · refine stepG_on rfl (fun x W h => h) ?_
    intro a W hW hO hφ K hK
    have q50 : a.tmps.getD 50 undef = (.pointer (some ⟨b1, 7, none⟩)) := hφ ⟨22, .data⟩ (by simp) rfl
    have r50 := q50
    rw [Array.getD_eq_getD_getElem?] at r50
    clear hO hφ
    obtain ⟨r1, r2, r3⟩ := KS W (Kp.trans ((Kp.refl _).drew) hW)
    have z7 : W.cell? ⟨b1, 7, none⟩ = some (.slice A n c) := (cell_of_row W _ 7 _ _ _ r1).trans rfl
    clear KS r1 r2 r3
    go_simp
    exact hK _ _ (Kp.refl _) rfl
  · refine stepG_on rfl (fun x W h => h) ?_
    intro a W hW hO hφ K hK
    have q51 : a.tmps.getD 51 undef = (.slice A n c) := hφ ⟨23, .data⟩ (by simp) rfl
    have r51 := q51
    rw [Array.getD_eq_getD_getElem?] at r51
    clear hO hφ
    clear KS
    go_simp
    exact hK _ _ (Kp.refl _) rfl
  · refine stepG_on rfl (fun x W h => h) ?_
    intro a W hW hO hφ K hK
    have q52 : a.tmps.getD 52 undef = (.int .i64 (n : Int)) := hφ ⟨24, .data⟩ (by simp) rfl
    have r52 := q52
    rw [Array.getD_eq_getD_getElem?] at r52
    clear hO hφ
    clear KS
    go_simp
    exact hK _ _ (Kp.refl _) rfl
  · refine stepG_on rfl (fun x W h => h) ?_
    intro a W hW hO hφ K hK
    have q49 : a.tmps.getD 49 undef = (.int .i64 ((n : Int) + 2)) := hφ ⟨21, .data⟩ (by simp) rfl
    have q53 : a.tmps.getD 53 undef = (.int .i64 ((n : Int) + 2)) := hφ ⟨25, .data⟩ (by simp) rfl
    have r49 := q49
    rw [Array.getD_eq_getD_getElem?] at r49
    have r53 := q53
    rw [Array.getD_eq_getD_getElem?] at r53
    clear hO hφ
    clear KS
    go_simp
    exact hK _ _ (Kp.refl _) rfl
  · refine stepG_free rfl ?_
    intro a W hW hO hφ K hK
    have q47 : a.tmps.getD 47 undef = (.bool true) := hφ ⟨19, .data⟩ (by simp) rfl
    have q54 : a.tmps.getD 54 undef = (.bool true) := hφ ⟨26, .data⟩ (by simp) rfl
    have r47 := q47
    rw [Array.getD_eq_getD_getElem?] at r47
    have r54 := q54
    rw [Array.getD_eq_getD_getElem?] at r54
    clear hO hφ
    clear KS
    go_simp
    exact hK _ _ (Kp.refl _) rfl
  · refine stepG_free rfl ?_
    intro a W hW hO hφ K hK
    have q55 : a.tmps.getD 55 undef = (.bool true) := hφ ⟨27, .data⟩ (by simp) rfl
    have r55 := q55
    rw [Array.getD_eq_getD_getElem?] at r55
    clear hO hφ
    clear KS
    go_simp
    exact hK _ _ (Kp.refl _) rfl
  intro f W hW hφ
  have v0 : f 0 = (.int .i64 ((n : Int) + (u : Int) + (v : Int))) := hφ 0 (by omega)
  have v1 : f 1 = (.pointer (some ⟨b1, 7, none⟩)) := hφ 1 (by omega)
  have v2 : f 2 = (.slice A n c) := hφ 2 (by omega)
  have v3 : f 3 = (.int .i64 (n : Int)) := hφ 3 (by omega)
  have v4 : f 4 = (.bool true) := hφ 4 (by omega)
  have v5 : f 5 = (.bool true) := hφ 5 (by omega)
  have v6 : f 6 = (.int .i64 ((n : Int) + (u : Int) + (v : Int))) := hφ 6 (by omega)
  have v7 : f 7 = (.pointer (some ⟨b1, 7, none⟩)) := hφ 7 (by omega)
  have v8 : f 8 = (.slice A n c) := hφ 8 (by omega)
  have v9 : f 9 = (.int .i64 (n : Int)) := hφ 9 (by omega)
  have v10 : f 10 = (.int .i64 ((n : Int) + 2)) := hφ 10 (by omega)
  have v11 : f 11 = (.bool true) := hφ 11 (by omega)
  have v12 : f 12 = (.bool true) := hφ 12 (by omega)
  have v13 : f 13 = (.bool true) := hφ 13 (by omega)
  have v14 : f 14 = (.agg #[.int .u16 0, .int .u16 0, .int .u32 0, .int .u32 0, .int .u8 (g3.toNat : Int), .int .u16 0, .int .u16 0, .slice A n c]) := hφ 14 (by omega)
  have v15 : f 15 = (.int .i64 ((n : Int) + (u : Int) + (v : Int))) := hφ 15 (by omega)
  have v16 : f 16 = (.int .i64 ((n : Int) + (u : Int) + (v : Int))) := hφ 16 (by omega)
  have v17 : f 17 = (.bool true) := hφ 17 (by omega)
  have v18 : f 18 = (.bool true) := hφ 18 (by omega)
  have v19 : f 19 = (.bool true) := hφ 19 (by omega)
  have v20 : f 20 = (.agg #[.int .u16 (sp : Int), .int .u16 (dp : Int), .int .u32 (sq : Int), .int .u32 (ak : Int), .int .u8 (o3.toNat : Int), .int .u16 (wn : Int), .int .u16 (ms : Int), .slice A n c]) := hφ 20 (by omega)
  have v21 : f 21 = (.int .i64 ((n : Int) + 2)) := hφ 21 (by omega)
  have v22 : f 22 = (.pointer (some ⟨b1, 7, none⟩)) := hφ 22 (by omega)
  have v23 : f 23 = (.slice A n c) := hφ 23 (by omega)
  have v24 : f 24 = (.int .i64 (n : Int)) := hφ 24 (by omega)
  have v25 : f 25 = (.int .i64 ((n : Int) + 2)) := hφ 25 (by omega)
  have v26 : f 26 = (.bool true) := hφ 26 (by omega)
  have v27 : f 27 = (.bool true) := hφ 27 (by omega)
  have v28 : f 28 = (.bool true) := hφ 28 (by omega)
  clear hφ
  simp only [putAll, List.setIfInBounds_toArray, List.set_cons_succ, List.set_cons_zero, v0, v1, v2, v3, v4, v5, v6, v7, v8, v9, v10, v11, v12, v13, v14, v15, v16, v17, v18, v19, v20, v21, v22, v23, v24, v25, v26, v27, v28]
  clear v0 v1 v2 v3 v4 v5 v6 v7 v8 v9 v10 v11 v12 v13 v14 v15 v16 v17 v18 v19 v20 v21 v22 v23 v24 v25 v26 v27 v28
  refine wpAny_done (by kernel_rfl) ?_ _
  go_wp2
  go_ret
  exact ⟨rfl, HK0.out.trans (HK4.out.trans (Kp.trans ((Kp.refl _).drew) hW))⟩

set_option maxRecDepth 100000 in
set_option maxHeartbeats 4000000 in
theorem lens9_walk (w : World) (sp dp sq ak : Nat) (fl : UInt8) (wn ms : Nat) (A : Option Addr) (n c : Nat) (l : List UInt8) (_hb : sp ≤ 65535 ∧ dp ≤ 65535 ∧ sq < 4294967296 ∧ ak < 4294967296 ∧ wn ≤ 65535 ∧ ms ≤ 65535) (_hA : Rd w 0 A n l) (_hok : SlOk A n c) :
    Calls Try.prog 8 #[.agg #[.int .u16 (sp : Int), .int .u16 (dp : Int), .int .u32 (sq : Int), .int .u32 (ak : Int), .int .u8 (fl.toNat : Int), .int .u16 (wn : Int), .int .u16 (ms : Int), .slice A n c]] w fun e w' => e = .returned (.bool true) ∧ Kp w w' := by
  by_cases h : 400 < n
  · have hK0 : Kp w (w.alloc (.cells #[.int .u16 (sp : Int), .int .u16 (dp : Int), .int .u32 (sq : Int), .int .u32 (ak : Int), .int .u8 (fl.toNat : Int), .int .u16 (wn : Int), .int .u16 (ms : Int), .slice A n c] 26)) := (Kp.refl w).alloc _
    have HK0 := Lib.hid hK0
    have HRP : Hid (∀ W, Kp (w.alloc (.cells #[.int .u16 (sp : Int), .int .u16 (dp : Int), .int .u32 (sq : Int), .int .u32 (ak : Int), .int .u8 (fl.toNat : Int), .int .u16 (wn : Int), .int .u16 (ms : Int), .slice A n c] 26)) W → W.heap[w.heap.size]? = some (.cells #[.int .u16 (sp : Int), .int .u16 (dp : Int), .int .u32 (sq : Int), .int .u32 (ak : Int), .int .u8 (fl.toNat : Int), .int .u16 (wn : Int), .int .u16 (ms : Int), .slice A n c] 26 (0, 0))) := Lib.hid fun W hk => (hk.block _ (by simp)).trans (heap_alloc_new w _)
    clear hK0
    go_enter Try.func8, Try.ntmps8
    go_wp2_with (first | (go_at_call 19; refine (lives9_any _).mono ?_; rintro e w1 ⟨rfl, hk⟩; try have hcell : w1.cell? ⟨w.heap.size, 7, none⟩ = some (.slice A n c) := (cell_of_row w1 _ 7 _ _ _ (HRP.out _ hk)).trans rfl))
    all_goals go_ret
    all_goals exact ⟨rfl, (HK0.out.trans (by assumption)).trans hk⟩
  · exact lens9_main w sp dp sq ak fl wn ms A n c h
end Go.Proofs.Ytnoobifdaldfiaa
