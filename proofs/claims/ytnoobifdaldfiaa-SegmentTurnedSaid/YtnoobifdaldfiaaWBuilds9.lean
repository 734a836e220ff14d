/-
  The walk of SegmentBuilds: it returns true and leaves what was there as it was.
-/
import Derived.Test.YtnoobifdaldfiaaWOpens9
import Derived.Test.YtnoobifdaldfiaaR9
namespace Go.Proofs.Ytnoobifdaldfiaa
open Go.RowKit

theorem cellsB9 (w : World) (sp dp sq ak : Nat) (fl : UInt8) (wn ms : Nat) (A : Option Addr) (n c : Nat) (a0 a1 a2 a3 b0 b1 b2 b3 : UInt8) (W : World) (hk : Kp ((w.alloc (.cells #[.int .u16 (sp : Int), .int .u16 (dp : Int), .int .u32 (sq : Int), .int .u32 (ak : Int), .int .u8 (fl.toNat : Int), .int .u16 (wn : Int), .int .u16 (ms : Int), .slice A n c] 26)).alloc (.cells #[.int .u8 (a0.toNat : Int), .int .u8 (a1.toNat : Int), .int .u8 (a2.toNat : Int), .int .u8 (a3.toNat : Int), .int .u8 (b0.toNat : Int), .int .u8 (b1.toNat : Int), .int .u8 (b2.toNat : Int), .int .u8 (b3.toNat : Int)] 59)) W) : (W.cell? ⟨w.heap.size + 1, 0, none⟩ = some (.int .u8 (a0.toNat : Int)) ∧ W.cell? ⟨w.heap.size + 1, 1, none⟩ = some (.int .u8 (a1.toNat : Int)) ∧ W.cell? ⟨w.heap.size + 1, 2, none⟩ = some (.int .u8 (a2.toNat : Int)) ∧ W.cell? ⟨w.heap.size + 1, 3, none⟩ = some (.int .u8 (a3.toNat : Int))) ∧ (W.cell? ⟨w.heap.size + 1, 4, none⟩ = some (.int .u8 (b0.toNat : Int)) ∧ W.cell? ⟨w.heap.size + 1, 5, none⟩ = some (.int .u8 (b1.toNat : Int)) ∧ W.cell? ⟨w.heap.size + 1, 6, none⟩ = some (.int .u8 (b2.toNat : Int)) ∧ W.cell? ⟨w.heap.size + 1, 7, none⟩ = some (.int .u8 (b3.toNat : Int))) := by
  have e1 : (w.alloc (.cells #[.int .u16 (sp : Int), .int .u16 (dp : Int), .int .u32 (sq : Int), .int .u32 (ak : Int), .int .u8 (fl.toNat : Int), .int .u16 (wn : Int), .int .u16 (ms : Int), .slice A n c] 26)).heap.size = w.heap.size + 1 := by simp
  refine ⟨⟨?_, ?_, ?_, ?_⟩, ⟨?_, ?_, ?_, ?_⟩⟩
  all_goals
    refine hk.cell ?_
    rw [← e1, cell_new]
    rfl
theorem rowB9 (w : World) (sp dp sq ak : Nat) (fl : UInt8) (wn ms : Nat) (A : Option Addr) (n c : Nat) (a0 a1 a2 a3 b0 b1 b2 b3 : UInt8) (W : World) (hk : Kp ((w.alloc (.cells #[.int .u16 (sp : Int), .int .u16 (dp : Int), .int .u32 (sq : Int), .int .u32 (ak : Int), .int .u8 (fl.toNat : Int), .int .u16 (wn : Int), .int .u16 (ms : Int), .slice A n c] 26)).alloc (.cells #[.int .u8 (a0.toNat : Int), .int .u8 (a1.toNat : Int), .int .u8 (a2.toNat : Int), .int .u8 (a3.toNat : Int), .int .u8 (b0.toNat : Int), .int .u8 (b1.toNat : Int), .int .u8 (b2.toNat : Int), .int .u8 (b3.toNat : Int)] 59)) W) : W.heap[w.heap.size]? = some (.cells #[.int .u16 (sp : Int), .int .u16 (dp : Int), .int .u32 (sq : Int), .int .u32 (ak : Int), .int .u8 (fl.toNat : Int), .int .u16 (wn : Int), .int .u16 (ms : Int), .slice A n c] 26 (0, 0)) := by
  have h1 : Kp (w.alloc (.cells #[.int .u16 (sp : Int), .int .u16 (dp : Int), .int .u32 (sq : Int), .int .u32 (ak : Int), .int .u8 (fl.toNat : Int), .int .u16 (wn : Int), .int .u16 (ms : Int), .slice A n c] 26)) W := ((Kp.refl _).alloc _).trans hk
  exact (h1.block _ (by simp)).trans (heap_alloc_new w _)

/-- what neither builds: the same error -/
theorem sbuild_no (sp dp sq ak : Nat) (fl : UInt8) (wn ms : Nat) (A : Option Addr) (n c : Nat) (s0 s1 s2 s3 d0 d1 d2 d3 : UInt8) (h : 156 < n ∨ Bad9 fl ms) :
    ∃ k : Int, k ≠ 0 ∧ (∀ w, Calls Try.prog 10 #[.agg #[.int .u16 (sp : Int), .int .u16 (dp : Int), .int .u32 (sq : Int), .int .u32 (ak : Int), .int .u8 (fl.toNat : Int), .int .u16 (wn : Int), .int .u16 (ms : Int), .slice A n c], .agg #[.int .u8 (s0.toNat : Int), .int .u8 (s1.toNat : Int), .int .u8 (s2.toNat : Int), .int .u8 (s3.toNat : Int)], .agg #[.int .u8 (d0.toNat : Int), .int .u8 (d1.toNat : Int), .int .u8 (d2.toNat : Int), .int .u8 (d3.toNat : Int)]] w fun e w' => e = .returned (.tuple #[.slice none 0 0, .int .i64 k]) ∧ Kp w w') ∧
      (∀ w, Calls Try.prog 20 #[.agg #[.int .u16 (sp : Int), .int .u16 (dp : Int), .int .u32 (sq : Int), .int .u32 (ak : Int), .int .u8 (fl.toNat : Int), .int .u16 (wn : Int), .int .u16 (ms : Int), .slice A n c], .agg #[.int .u8 (s0.toNat : Int), .int .u8 (s1.toNat : Int), .int .u8 (s2.toNat : Int), .int .u8 (s3.toNat : Int)], .agg #[.int .u8 (d0.toNat : Int), .int .u8 (d1.toNat : Int), .int .u8 (d2.toNat : Int), .int .u8 (d3.toNat : Int)]] w fun e w' => e = .returned (.tuple #[.string (str []), .int .i64 k]) ∧ Kp w w') := by
  by_cases hn : 156 < n
  · exact ⟨4, by decide, fun w => b9_long w sp dp sq ak fl wn ms A n c s0 s1 s2 s3 d0 d1 d2 d3 hn, fun w => r9_long w sp dp sq ak fl wn ms A n c s0 s1 s2 s3 d0 d1 d2 d3 hn⟩
  · have hb : Bad9 fl ms := h.resolve_left hn
    exact ⟨1, by decide, fun w => b9_bad w sp dp sq ak fl wn ms A n c s0 s1 s2 s3 d0 d1 d2 d3 (by omega) hb, fun w => r9_bad w sp dp sq ak fl wn ms A n c s0 s1 s2 s3 d0 d1 d2 d3 (by omega) hb⟩
theorem sgood (fl : UInt8) (ms : Nat) (h : ¬ Bad9 fl ms) : fl.toNat ≤ 31 ∧ (ms ≠ 0 → fl.toNat / 2 % 2 = 1) := by
  unfold Bad9 at h
  omega

set_option maxRecDepth 100000 in
set_option maxHeartbeats 4000000 in
theorem builds9_main (w : World) (sp dp sq ak : Nat) (fl : UInt8) (wn ms : Nat) (A : Option Addr) (n c : Nat) (l : List UInt8) (a0 a1 a2 a3 b0 b1 b2 b3 : UInt8) (hb : sp ≤ 65535 ∧ dp ≤ 65535 ∧ sq < 4294967296 ∧ ak < 4294967296 ∧ wn ≤ 65535 ∧ ms ≤ 65535) (hA : Rd w 0 A n l) (h4 : ¬ 400 < n) :
    Calls Try.prog 4 #[.agg #[.int .u16 (sp : Int), .int .u16 (dp : Int), .int .u32 (sq : Int), .int .u32 (ak : Int), .int .u8 (fl.toNat : Int), .int .u16 (wn : Int), .int .u16 (ms : Int), .slice A n c], .agg #[.int .u8 (a0.toNat : Int), .int .u8 (a1.toNat : Int), .int .u8 (a2.toNat : Int), .int .u8 (a3.toNat : Int), .int .u8 (b0.toNat : Int), .int .u8 (b1.toNat : Int), .int .u8 (b2.toNat : Int), .int .u8 (b3.toNat : Int)]] w fun e w' => e = .returned (.bool true) ∧ Kp w w' := by
  obtain ⟨f1, f2, f3, f4, f6, f7⟩ := hb
  have HL := Lib.hid hA.len
  have hK0 : Kp w ((w.alloc (.cells #[.int .u16 (sp : Int), .int .u16 (dp : Int), .int .u32 (sq : Int), .int .u32 (ak : Int), .int .u8 (fl.toNat : Int), .int .u16 (wn : Int), .int .u16 (ms : Int), .slice A n c] 26)).alloc (.cells #[.int .u8 (a0.toNat : Int), .int .u8 (a1.toNat : Int), .int .u8 (a2.toNat : Int), .int .u8 (a3.toNat : Int), .int .u8 (b0.toNat : Int), .int .u8 (b1.toNat : Int), .int .u8 (b2.toNat : Int), .int .u8 (b3.toNat : Int)] 59)) := ((Kp.refl w).alloc _).alloc _
  have HK0 := Lib.hid hK0
  have HA := Lib.hid (hA.keep hK0)
  have KE := Lib.hid (cellsB9 w sp dp sq ak fl wn ms A n c a0 a1 a2 a3 b0 b1 b2 b3)
  have HRP := Lib.hid (rowB9 w sp dp sq ak fl wn ms A n c a0 a1 a2 a3 b0 b1 b2 b3)
  have i1 : ¬ (400 : Int) < (n : Int) := by omega
  have hfb : fl.toNat < 256 := fl.toNat_lt
  obtain ⟨u, hu⟩ : ∃ u, fl.toNat / 2 % 2 = u := ⟨_, rfl⟩
  obtain ⟨v, hv⟩ : ∃ v, fl.toNat % 2 = v := ⟨_, rfl⟩
  have hu2 : u < 2 := by omega
  have hv2 : v < 2 := by omega
  have fa1 := and_1 fl.toNat hfb
  have fa2 := and_1 (fl.toNat / 2) (by omega)
  rw [hv] at fa1
  rw [hu, show ((fl.toNat / 2 : Nat) : Int) = (fl.toNat : Int) / 2 by omega] at fa2
  have HUV : Hid (n + fl.toNat / 2 % 2 + fl.toNat % 2 = n + u + v) := Lib.hid (by rw [hu, hv])
  clear hu hv
  clear hA hK0
  go_enter Try.func4, Try.ntmps4
  go_wp2_with fail
  refine (lives9_any _).mono ?_
  rintro e w1 ⟨rfl, hk1⟩
  have HK1 := Lib.hid hk1
  clear hk1
  have z7 : w1.cell? ⟨w.heap.size, 7, none⟩ = some (.slice A n c) := (cell_of_row w1 _ 7 _ _ _ (HRP.out _ HK1.out)).trans rfl
  obtain ⟨⟨x0, x1, x2, x3⟩, ⟨y0, y1, y2, y3⟩⟩ := KE.out _ HK1.out
  go_wp2_with (refine lld_row (by rfl) (.tmp 2) _ _ rfl rfl (HRP.out _ HK1.out) Try.underlying26 rfl szSeg ?_)
  clear x0 x1 x2 x3 y0 y1 y2 y3 z7
  by_cases hno : 156 < n ∨ Bad9 fl ms
  · obtain ⟨k, hk0, hB1, hB2⟩ := sbuild_no sp dp sq ak fl wn ms A n c a0 a1 a2 a3 b0 b1 b2 b3 hno
    have HB2 := Lib.hid hB2
    clear hB2
    refine (hB1 _).mono ?_
    rintro e w2 ⟨rfl, hk2⟩
    have HK2 := Lib.hid (HK1.out.trans hk2)
    clear hk2 hB1
    obtain ⟨⟨x0, x1, x2, x3⟩, ⟨y0, y1, y2, y3⟩⟩ := KE.out _ HK2.out
    go_wp2_with (refine lld_row (by rfl) (.tmp 2) _ _ rfl rfl (HRP.out _ HK2.out) Try.underlying26 rfl szSeg ?_)
    refine (HB2.out _).mono ?_
    rintro e w3 ⟨rfl, hk3⟩
    have HK3 := Lib.hid (HK2.out.trans hk3)
    clear hk3 HB2 x0 x1 x2 x3 y0 y1 y2 y3
    have cv := conv_str (P := Try.prog) (c := 0) Try.underlying24 Try.underlying5 Try.underlying9 (Rd.none_ w3 0)
    have hkk : (k != k) = false := by simp
    have hk0' : (k != 0) = true := by simpa using hk0
    obtain ⟨⟨x0, x1, x2, x3⟩, ⟨y0, y1, y2, y3⟩⟩ := KE.out _ HK3.out
    go_wp2_with fail
    refine (o9_any _ none 0 0 [] a0 a1 a2 a3 b0 b1 b2 b3 (Rd.none_ _ 0) ⟨Nat.le_refl _, Nat.zero_le _, fun _ => rfl⟩ (by decide)).mono ?_
    clear x0 x1 x2 x3 y0 y1 y2 y3 cv
    rintro e w4 (⟨k', _, _, hk4, rfl⟩ | ⟨s', hs', _⟩)
    · have HK4 := Lib.hid ((HK3.out.trans hk4).alloc (.cells #[.int .u16 0, .int .u16 0, .int .u32 0, .int .u32 0, .int .u8 0, .int .u16 0, .int .u16 0, .slice none 0 0] 26))
      have z7 := (cell_of_row _ _ 7 _ _ _ (HRP.out _ HK4.out)).trans (show _ = some (Value.slice A n c) from rfl)
      have z4 := (cell_of_row _ _ 4 _ _ _ (HRP.out _ HK4.out)).trans (show _ = some (Value.int .u8 (fl.toNat : Int)) from rfl)
      clear hk4
      go_wp2_with (refine lst_new (by rfl) (.tmp 9) (.tmp 55) _ rfl rfl rfl szSeg rfl rfl rfl ?_)
      go_ret
      exact ⟨rfl, HK0.out.trans HK4.out⟩
    · exact absurd hs' (by simp [out9])
  · obtain ⟨h156, hnb⟩ : ¬ 156 < n ∧ ¬ Bad9 fl ms := ⟨fun h => hno (.inl h), fun h => hno (.inr h)⟩
    obtain ⟨f5, f8⟩ := sgood fl ms hnb
    have HB := Lib.hid (out9_sbytes [a0, a1, a2, a3] [b0, b1, b2, b3] rfl rfl ⟨sp, dp, sq, ak, fl, wn, ms, l⟩ ⟨f1, f2, f3, f4, f5, f6, f7, f8⟩ (by show l.length ≤ 156; rw [HL.out]; omega))
    refine (b9_ok _ sp dp sq ak fl wn ms A n c l a0 a1 a2 a3 b0 b1 b2 b3 f1 f2 f3 f4 f6 f7 f5 f8 (by omega) (HA.out.keep HK1.out)).mono ?_
    rintro e w2 ⟨hk2, g, cap, rfl, hown⟩
    have ho4 := opt9_le ms
    obtain ⟨N, hN⟩ : ∃ N, 20 + (opt9 ms).length + n = N := ⟨_, rfl⟩
    rw [hN] at hown ⊢
    have hN2 : N ≤ 200 := by omega
    have HK2 := Lib.hid (HK1.out.trans hk2)
    have HO := Lib.hid hown.rd0
    have HOS := Lib.hid hown.slOk
    clear hk2 hown hN ho4
    obtain ⟨⟨x0, x1, x2, x3⟩, ⟨y0, y1, y2, y3⟩⟩ := KE.out _ HK2.out
    go_wp2_with (refine lld_row (by rfl) (.tmp 2) _ _ rfl rfl (HRP.out _ HK2.out) Try.underlying26 rfl szSeg ?_)
    refine (r9_ok _ sp dp sq ak fl wn ms A n c l a0 a1 a2 a3 b0 b1 b2 b3 f1 f2 f3 f4 f6 f7 f5 f8 (by omega) (HA.out.keep HK2.out)).mono ?_
    rintro e w3 ⟨rfl, hk3⟩
    have HK3 := Lib.hid (HK2.out.trans hk3)
    have HO3 := Lib.hid (HO.out.keep hk3)
    clear hk3 x0 x1 x2 x3 y0 y1 y2 y3 HO
    obtain ⟨pb, hpb⟩ : ∃ pb, sbytes9 [a0, a1, a2, a3] [b0, b1, b2, b3] sp dp sq ak fl wn ms l = pb := ⟨_, rfl⟩
    have hB : out9 [a0, a1, a2, a3] [b0, b1, b2, b3] (sbytes9 [a0, a1, a2, a3] [b0, b1, b2, b3] sp dp sq ak fl wn ms l) = .inr ⟨sp, dp, sq, ak, fl, wn, ms, l⟩ := HB.out
    rw [hpb] at HO3 hB ⊢
    have HB2 := Lib.hid hB
    clear hpb hB HB
    have cv := conv_str (P := Try.prog) (c := cap) Try.underlying24 Try.underlying5 Try.underlying9 HO3.out
    obtain ⟨⟨x0, x1, x2, x3⟩, ⟨y0, y1, y2, y3⟩⟩ := KE.out _ HK3.out
    go_wp2_with fail
    refine (o9_any _ _ N cap pb a0 a1 a2 a3 b0 b1 b2 b3 HO3.out HOS.out (by omega)).mono ?_
    clear x0 x1 x2 x3 y0 y1 y2 y3 cv
    have hB := HB2.out
    rintro e w4 (⟨k', _, hk', _⟩ | ⟨s', hs', _, _, hk4, A4, c4, rfl, hr4, _⟩)
    · rw [hB] at hk'; cases hk'
    · rw [hB] at hs'
      injection hs' with hs'
      subst hs'
      simp only at hr4 ⊢
      have HK4 := Lib.hid ((HK3.out.trans hk4).alloc (.cells #[.int .u16 (sp : Int), .int .u16 (dp : Int), .int .u32 (sq : Int), .int .u32 (ak : Int), .int .u8 (fl.toNat : Int), .int .u16 (wn : Int), .int .u16 (ms : Int), .slice A4 l.length c4] 26))
      have HR4 : Hid (Rd (w4.alloc (.cells #[.int .u16 (sp : Int), .int .u16 (dp : Int), .int .u32 (sq : Int), .int .u32 (ak : Int), .int .u8 (fl.toNat : Int), .int .u16 (wn : Int), .int .u16 (ms : Int), .slice A4 l.length c4] 26)) 0 A4 l.length l) := Lib.hid (hr4.lo0.keep ((Kp.refl w4).alloc _))
      have z7 := (cell_of_row _ _ 7 _ _ _ (HRP.out _ HK4.out)).trans (show _ = some (Value.slice A n c) from rfl)
      have z4 := (cell_of_row _ _ 4 _ _ _ (HRP.out _ HK4.out)).trans (show _ = some (Value.int .u8 (fl.toNat : Int)) from rfl)
      clear hk4 hr4 hB HB2
      go_wp2_with (first | (refine lst_new (by rfl) (.tmp 9) (.tmp 55) _ rfl rfl rfl szSeg rfl rfl rfl ?_) | (refine lld_row (by rfl) (.tmp 9) _ _ rfl rfl (heap_alloc_new w4 _) Try.underlying26 rfl szSeg ?_) | (refine lld_row (by rfl) (.tmp 2) _ _ rfl rfl (HRP.out _ HK4.out) Try.underlying26 rfl szSeg ?_))
      refine (same9_any _ ⟨sp, dp, sq, ak, fl, wn, ms, l⟩ ⟨sp, dp, sq, ak, fl, wn, ms, l⟩ A4 l.length c4 A n c HR4.out (HA.out.keep HK4.out)).mono ?_
      rintro e w5 ⟨rfl, hk5⟩
      rw [sameS_self]
      have HK5 := Lib.hid (HK4.out.trans hk5)
      clear hk5 z7 z4
      go_wp2_with (refine lld_row (by rfl) (.tmp 2) _ _ rfl rfl (HRP.out _ HK5.out) Try.underlying26 rfl szSeg ?_)
      refine (len9_any _ sp dp sq ak fl wn ms A n c (by omega)).mono ?_
      rintro e w6 ⟨rfl, hk6⟩
      rw [HUV.out]
      go_wp2
      go_ret
      exact ⟨rfl, HK0.out.trans (HK5.out.trans hk6)⟩

set_option maxRecDepth 100000 in
set_option maxHeartbeats 4000000 in
theorem builds9_walk (w : World) (sp dp sq ak : Nat) (fl : UInt8) (wn ms : Nat) (A : Option Addr) (n c : Nat) (l : List UInt8) (a0 a1 a2 a3 b0 b1 b2 b3 : UInt8) (hb : sp ≤ 65535 ∧ dp ≤ 65535 ∧ sq < 4294967296 ∧ ak < 4294967296 ∧ wn ≤ 65535 ∧ ms ≤ 65535) (hA : Rd w 0 A n l) (_hok : SlOk A n c) :
    Calls Try.prog 4 #[.agg #[.int .u16 (sp : Int), .int .u16 (dp : Int), .int .u32 (sq : Int), .int .u32 (ak : Int), .int .u8 (fl.toNat : Int), .int .u16 (wn : Int), .int .u16 (ms : Int), .slice A n c], .agg #[.int .u8 (a0.toNat : Int), .int .u8 (a1.toNat : Int), .int .u8 (a2.toNat : Int), .int .u8 (a3.toNat : Int), .int .u8 (b0.toNat : Int), .int .u8 (b1.toNat : Int), .int .u8 (b2.toNat : Int), .int .u8 (b3.toNat : Int)]] w fun e w' => e = .returned (.bool true) ∧ Kp w w' := by
  by_cases h : 400 < n
  · have hK0 : Kp w ((w.alloc (.cells #[.int .u16 (sp : Int), .int .u16 (dp : Int), .int .u32 (sq : Int), .int .u32 (ak : Int), .int .u8 (fl.toNat : Int), .int .u16 (wn : Int), .int .u16 (ms : Int), .slice A n c] 26)).alloc (.cells #[.int .u8 (a0.toNat : Int), .int .u8 (a1.toNat : Int), .int .u8 (a2.toNat : Int), .int .u8 (a3.toNat : Int), .int .u8 (b0.toNat : Int), .int .u8 (b1.toNat : Int), .int .u8 (b2.toNat : Int), .int .u8 (b3.toNat : Int)] 59)) := ((Kp.refl w).alloc _).alloc _
    have HK0 := Lib.hid hK0
    have HRP := Lib.hid (rowB9 w sp dp sq ak fl wn ms A n c a0 a1 a2 a3 b0 b1 b2 b3)
    clear hK0 hA
    go_enter Try.func4, Try.ntmps4
    go_wp2_with (first | (go_at_call 19; refine (lives9_any _).mono ?_; rintro e w1 ⟨rfl, hk⟩; try have hcell : w1.cell? ⟨w.heap.size, 7, none⟩ = some (.slice A n c) := (cell_of_row w1 _ 7 _ _ _ (HRP.out _ hk)).trans rfl))
    all_goals go_ret
    all_goals exact ⟨rfl, (HK0.out.trans (by assumption)).trans hk⟩
  · exact builds9_main w sp dp sq ak fl wn ms A n c l a0 a1 a2 a3 b0 b1 b2 b3 hb hA h
end Go.Proofs.Ytnoobifdaldfiaa
