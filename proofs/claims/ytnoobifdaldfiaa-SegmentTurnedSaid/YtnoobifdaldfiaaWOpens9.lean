/-
  The walk of SegmentOpens: it returns true and leaves what was there as it was.
-/
import Derived.Test.YtnoobifdaldfiaaQ9
import Derived.Test.YtnoobifdaldfiaaLives9
namespace Go.Proofs.Ytnoobifdaldfiaa
open Go.RowKit

theorem cellsE9 (w : World) (a0 a1 a2 a3 b0 b1 b2 b3 : UInt8) (W : World) (hk : Kp (w.alloc (.cells #[.int .u8 (a0.toNat : Int), .int .u8 (a1.toNat : Int), .int .u8 (a2.toNat : Int), .int .u8 (a3.toNat : Int), .int .u8 (b0.toNat : Int), .int .u8 (b1.toNat : Int), .int .u8 (b2.toNat : Int), .int .u8 (b3.toNat : Int)] 59)) W) : (W.cell? ⟨w.heap.size, 0, none⟩ = some (.int .u8 (a0.toNat : Int)) ∧ W.cell? ⟨w.heap.size, 1, none⟩ = some (.int .u8 (a1.toNat : Int)) ∧ W.cell? ⟨w.heap.size, 2, none⟩ = some (.int .u8 (a2.toNat : Int)) ∧ W.cell? ⟨w.heap.size, 3, none⟩ = some (.int .u8 (a3.toNat : Int))) ∧ (W.cell? ⟨w.heap.size, 4, none⟩ = some (.int .u8 (b0.toNat : Int)) ∧ W.cell? ⟨w.heap.size, 5, none⟩ = some (.int .u8 (b1.toNat : Int)) ∧ W.cell? ⟨w.heap.size, 6, none⟩ = some (.int .u8 (b2.toNat : Int)) ∧ W.cell? ⟨w.heap.size, 7, none⟩ = some (.int .u8 (b3.toNat : Int))) := by
  refine ⟨⟨?_, ?_, ?_, ?_⟩, ⟨?_, ?_, ?_, ?_⟩⟩
  all_goals
    refine hk.cell ?_
    rw [cell_new]
    rfl

set_option maxRecDepth 100000 in
set_option maxHeartbeats 4000000 in
theorem opens9_walk (w : World) (A : Option Addr) (n c : Nat) (l : List UInt8) (a0 a1 a2 a3 b0 b1 b2 b3 : UInt8) (hA : Rd w 0 A n l) (hok : SlOk A n c) (hn : n ≤ 140737488351232) :
    Calls Try.prog 5 #[.slice A n c, .agg #[.int .u8 (a0.toNat : Int), .int .u8 (a1.toNat : Int), .int .u8 (a2.toNat : Int), .int .u8 (a3.toNat : Int), .int .u8 (b0.toNat : Int), .int .u8 (b1.toNat : Int), .int .u8 (b2.toNat : Int), .int .u8 (b3.toNat : Int)]] w fun e w' => e = .returned (.bool true) ∧ Kp w w' := by
  have HL := Lib.hid hA.len
  have hK0 : Kp w (w.alloc (.cells #[.int .u8 (a0.toNat : Int), .int .u8 (a1.toNat : Int), .int .u8 (a2.toNat : Int), .int .u8 (a3.toNat : Int), .int .u8 (b0.toNat : Int), .int .u8 (b1.toNat : Int), .int .u8 (b2.toNat : Int), .int .u8 (b3.toNat : Int)] 59)) := (Kp.refl w).alloc _
  have HK0 := Lib.hid hK0
  have HA := Lib.hid (hA.keep hK0)
  have HOK := Lib.hid hok
  have KE := Lib.hid (cellsE9 w a0 a1 a2 a3 b0 b1 b2 b3)
  clear hA hok hK0
  by_cases h : 1200 < n
  · go_enter Try.func5, Try.ntmps5
    go_wp2_with (first | (go_at_call 19; refine (lives9_any _).mono ?_; rintro e w1 ⟨rfl, hk⟩))
    go_ret
    exact ⟨rfl, Kp.trans HK0.out (Kp.trans (by assumption) hk)⟩
  go_enter Try.func5, Try.ntmps5
  go_wp2_with fail
  refine (lives9_any _).mono ?_
  rintro e w1 ⟨rfl, hk1⟩
  have HK1 := Lib.hid hk1
  clear hk1
  obtain ⟨⟨x0, x1, x2, x3⟩, ⟨y0, y1, y2, y3⟩⟩ := KE.out _ HK1.out
  go_wp2_with fail
  refine (o9_any _ A n c l a0 a1 a2 a3 b0 b1 b2 b3 (HA.out.keep HK1.out) HOK.out (by omega)).mono ?_
  clear x0 x1 x2 x3 y0 y1 y2 y3
  rintro e w2 (⟨k, hk0, hko, hk2, rfl⟩ | ⟨s, hko, hfit, hdl, hk2, A2, c2, rfl, hr, hs2⟩)
  · have HK2 := Lib.hid ((HK1.out.trans hk2).alloc (.cells #[.int .u16 0, .int .u16 0, .int .u32 0, .int .u32 0, .int .u8 0, .int .u16 0, .int .u16 0, .slice none 0 0] 26))
    have cv := conv_str (P := Try.prog) (c := c) Try.underlying24 Try.underlying5 Try.underlying9 (HA.out.keep HK2.out)
    have HKO := Lib.hid hko
    have ROW3 := Lib.hid (heap_alloc_new w2 (.cells #[.int .u16 0, .int .u16 0, .int .u32 0, .int .u32 0, .int .u8 0, .int .u16 0, .int .u16 0, .slice none 0 0] 26))
    obtain ⟨⟨x0, x1, x2, x3⟩, ⟨y0, y1, y2, y3⟩⟩ := KE.out _ HK2.out
    clear hk2 hko
    go_wp2_with (first | (refine lst_new (by rfl) (.tmp 5) (.tmp 24) _ rfl rfl rfl szSeg rfl rfl rfl ?_))
    refine (q9_any _ l a0 a1 a2 a3 b0 b1 b2 b3 (by rw [HL.out]; omega)).mono ?_
    clear x0 x1 x2 x3 y0 y1 y2 y3 cv
    rintro e w4 (⟨k', _, hko', hk4, rfl⟩ | ⟨s', hko', _⟩)
    · rw [HKO.out] at hko'
      cases hko'
      have r4 := (hk4.block _ (Array.getElem?_eq_some_iff.1 ROW3.out).1).trans ROW3.out
      have r5 := (Below.heap_alloc w4 (.cells #[.int .u16 0, .int .u16 0, .int .u32 0, .int .u32 0, .int .u8 0, .int .u16 0, .int .u16 0, .slice none 0 0] 26) _ (Array.getElem?_eq_some_iff.1 r4).1).trans r4
      have HR5 := Lib.hid r5
      have HK4 := Lib.hid (HK2.out.trans hk4)
      clear hk4 r4 r5
      go_wp2_with (first | (refine lst_new (by rfl) (.tmp 7) (.tmp 34) _ rfl rfl rfl szSeg rfl rfl rfl ?_) | (refine lld_row (by rfl) (.tmp 7) _ _ rfl rfl (heap_alloc_new w4 _) Try.underlying26 rfl szSeg ?_) | (refine lld_row (by rfl) (.tmp 5) _ _ rfl rfl HR5.out Try.underlying26 rfl szSeg ?_))
      refine (same9_any _ ⟨0, 0, 0, 0, 0, 0, 0, []⟩ ⟨0, 0, 0, 0, 0, 0, 0, []⟩ none 0 0 none 0 0 (Rd.none_ _ 0) (Rd.none_ _ 0)).mono ?_
      rintro e w5 ⟨rfl, hk5⟩
      rw [sameS_self]
      go_wp2
      go_ret
      exact ⟨rfl, HK0.out.trans ((HK4.out.alloc _).trans hk5)⟩
    · rw [HKO.out] at hko'
      cases hko'
  · have HK2 := Lib.hid ((HK1.out.trans hk2).alloc (.cells #[.int .u16 (s.sp : Int), .int .u16 (s.dp : Int), .int .u32 (s.sq : Int), .int .u32 (s.ak : Int), .int .u8 (s.fl.toNat : Int), .int .u16 (s.wn : Int), .int .u16 (s.ms : Int), .slice A2 s.data.length c2] 26))
    have cv := conv_str (P := Try.prog) (c := c) Try.underlying24 Try.underlying5 Try.underlying9 (HA.out.keep HK2.out)
    have HKO := Lib.hid hko
    have ROW3 := Lib.hid (heap_alloc_new w2 (.cells #[.int .u16 (s.sp : Int), .int .u16 (s.dp : Int), .int .u32 (s.sq : Int), .int .u32 (s.ak : Int), .int .u8 (s.fl.toNat : Int), .int .u16 (s.wn : Int), .int .u16 (s.ms : Int), .slice A2 s.data.length c2] 26))
    have hr3 : Rd (w2.alloc (.cells #[.int .u16 (s.sp : Int), .int .u16 (s.dp : Int), .int .u32 (s.sq : Int), .int .u32 (s.ak : Int), .int .u8 (s.fl.toNat : Int), .int .u16 (s.wn : Int), .int .u16 (s.ms : Int), .slice A2 s.data.length c2] 26)) 0 A2 s.data.length s.data := hr.lo0.keep ((Kp.refl w2).alloc _)
    have HR3 := Lib.hid hr3
    obtain ⟨⟨x0, x1, x2, x3⟩, ⟨y0, y1, y2, y3⟩⟩ := KE.out _ HK2.out
    clear hk2 hko hr hr3 hs2 hdl hfit
    go_wp2_with (first | (refine lst_new (by rfl) (.tmp 5) (.tmp 24) _ rfl rfl rfl szSeg rfl rfl rfl ?_))
    refine (q9_any _ l a0 a1 a2 a3 b0 b1 b2 b3 (by rw [HL.out]; omega)).mono ?_
    clear x0 x1 x2 x3 y0 y1 y2 y3 cv
    rintro e w4 (⟨k', _, hko', _⟩ | ⟨s', hko', _, _, hk4, A4, c4, rfl, hr4, _⟩)
    · rw [HKO.out] at hko'
      cases hko'
    · rw [HKO.out] at hko'
      injection hko' with hko'
      subst hko'
      have r4 := (hk4.block _ (Array.getElem?_eq_some_iff.1 ROW3.out).1).trans ROW3.out
      have r5 := (Below.heap_alloc w4 (.cells #[.int .u16 (s.sp : Int), .int .u16 (s.dp : Int), .int .u32 (s.sq : Int), .int .u32 (s.ak : Int), .int .u8 (s.fl.toNat : Int), .int .u16 (s.wn : Int), .int .u16 (s.ms : Int), .slice A4 s.data.length c4] 26) _ (Array.getElem?_eq_some_iff.1 r4).1).trans r4
      have HR5 := Lib.hid r5
      have HR6 := Lib.hid ((HR3.out.keep hk4).keep ((Kp.refl w4).alloc (.cells #[.int .u16 (s.sp : Int), .int .u16 (s.dp : Int), .int .u32 (s.sq : Int), .int .u32 (s.ak : Int), .int .u8 (s.fl.toNat : Int), .int .u16 (s.wn : Int), .int .u16 (s.ms : Int), .slice A4 s.data.length c4] 26)))
      have hr7 : Rd (w4.alloc (.cells #[.int .u16 (s.sp : Int), .int .u16 (s.dp : Int), .int .u32 (s.sq : Int), .int .u32 (s.ak : Int), .int .u8 (s.fl.toNat : Int), .int .u16 (s.wn : Int), .int .u16 (s.ms : Int), .slice A4 s.data.length c4] 26)) 0 A4 s.data.length s.data := hr4.lo0.keep ((Kp.refl w4).alloc _)
      have HR7 := Lib.hid hr7
      have HK4 := Lib.hid (HK2.out.trans hk4)
      clear hk4 r4 r5 hr4 hr7
      go_wp2_with (first | (refine lst_new (by rfl) (.tmp 7) (.tmp 34) _ rfl rfl rfl szSeg rfl rfl rfl ?_) | (refine lld_row (by rfl) (.tmp 7) _ _ rfl rfl (heap_alloc_new w4 _) Try.underlying26 rfl szSeg ?_) | (refine lld_row (by rfl) (.tmp 5) _ _ rfl rfl HR5.out Try.underlying26 rfl szSeg ?_))
      refine (same9_any _ s s A2 s.data.length c2 A4 s.data.length c4 HR6.out HR7.out).mono ?_
      rintro e w5 ⟨rfl, hk5⟩
      rw [sameS_self]
      go_wp2
      go_ret
      exact ⟨rfl, HK0.out.trans ((HK4.out.alloc _).trans hk5)⟩
end Go.Proofs.Ytnoobifdaldfiaa
