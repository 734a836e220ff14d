/-
  The walk of DgramOpens: it returns true and leaves what was there as it was.
-/
import Derived.Test.YtpjjanbcjkdciaaLives8
namespace Go.Proofs.Ytpjjanbcjkdciaa
open Go.RowKit

theorem cellsE8 (w : World) (a0 a1 a2 a3 b0 b1 b2 b3 : UInt8) (W : World) (hk : Kp (w.alloc (.cells #[.int .u8 (a0.toNat : Int), .int .u8 (a1.toNat : Int), .int .u8 (a2.toNat : Int), .int .u8 (a3.toNat : Int), .int .u8 (b0.toNat : Int), .int .u8 (b1.toNat : Int), .int .u8 (b2.toNat : Int), .int .u8 (b3.toNat : Int)] 29)) W) : (W.cell? ⟨w.heap.size, 0, none⟩ = some (.int .u8 (a0.toNat : Int)) ∧ W.cell? ⟨w.heap.size, 1, none⟩ = some (.int .u8 (a1.toNat : Int)) ∧ W.cell? ⟨w.heap.size, 2, none⟩ = some (.int .u8 (a2.toNat : Int)) ∧ W.cell? ⟨w.heap.size, 3, none⟩ = some (.int .u8 (a3.toNat : Int))) ∧ (W.cell? ⟨w.heap.size, 4, none⟩ = some (.int .u8 (b0.toNat : Int)) ∧ W.cell? ⟨w.heap.size, 5, none⟩ = some (.int .u8 (b1.toNat : Int)) ∧ W.cell? ⟨w.heap.size, 6, none⟩ = some (.int .u8 (b2.toNat : Int)) ∧ W.cell? ⟨w.heap.size, 7, none⟩ = some (.int .u8 (b3.toNat : Int))) := by
  refine ⟨⟨?_, ?_, ?_, ?_⟩, ⟨?_, ?_, ?_, ?_⟩⟩
  all_goals
    refine hk.cell ?_
    rw [cell_new]
    rfl

set_option maxRecDepth 100000 in
set_option maxHeartbeats 4000000 in
theorem opens8_e (w : World) (A : Option Addr) (n c : Nat) (l : List UInt8) (a0 a1 a2 a3 b0 b1 b2 b3 : UInt8) (hA : Rd w 0 A n l) (hok : SlOk A n c) (hn : ¬ 1000 < n) :
    Calls Try.prog 5 #[.int .u8 1, .agg #[.int .u8 (a0.toNat : Int), .int .u8 (a1.toNat : Int), .int .u8 (a2.toNat : Int), .int .u8 (a3.toNat : Int), .int .u8 (b0.toNat : Int), .int .u8 (b1.toNat : Int), .int .u8 (b2.toNat : Int), .int .u8 (b3.toNat : Int)], .slice A n c] w fun e w' => e = .returned (.bool true) ∧ Kp w w' := by
  have HL := Lib.hid hA.len
  have hK0 : Kp w (w.alloc (.cells #[.int .u8 (a0.toNat : Int), .int .u8 (a1.toNat : Int), .int .u8 (a2.toNat : Int), .int .u8 (a3.toNat : Int), .int .u8 (b0.toNat : Int), .int .u8 (b1.toNat : Int), .int .u8 (b2.toNat : Int), .int .u8 (b3.toNat : Int)] 29)) := (Kp.refl w).alloc _
  have HK0 := Lib.hid hK0
  have HA := Lib.hid (hA.keep hK0)
  have HOK := Lib.hid hok
  have KE := Lib.hid (cellsE8 w a0 a1 a2 a3 b0 b1 b2 b3)
  have i1 : ¬ (1000 : Int) < (n : Int) := by omega
  have i2 : ¬ (1200 : Int) < (n : Int) := by omega
  clear hA hok hK0
  go_enter Try.func5, Try.ntmps5
  go_wp2_with fail
  refine (lives8_any _).mono ?_
  rintro e w1 ⟨rfl, hk1⟩
  have HK1 := Lib.hid hk1
  clear hk1
  obtain ⟨⟨x0, x1, x2, x3⟩, ⟨y0, y1, y2, y3⟩⟩ := KE.out _ HK1.out
  go_wp2_with fail
  refine (o8_e _ a0 a1 a2 a3 b0 b1 b2 b3 A n c l (HA.out.keep HK1.out) HOK.out (by omega)).mono ?_
  clear x0 x1 x2 x3 y0 y1 y2 y3
  rintro e w2 (⟨k, hk0, hko, hk2, rfl⟩ | ⟨rp, id, sq, data, hko, _, _, _, hk2, A2, c2, rfl, hr, _⟩)
  · have HK2 := Lib.hid (HK1.out.trans hk2)
    have cv := conv_str (P := Try.prog) (c := c) Try.underlying23 Try.underlying5 Try.underlying9 (HA.out.keep HK2.out)
    have HKO := Lib.hid hko
    have hk0' : (k != 0) = true := by simpa using hk0
    have hk0'' : (k == 0) = false := by simpa using hk0
    clear hk2 hko
    go_wp2_with fail
    refine (re8_any _ l (by rw [HL.out]; omega)).mono ?_
    clear cv
    rintro e w4 (⟨k', _, hko', hk4, rfl⟩ | ⟨_, _, _, _, hko', _⟩)
    · rw [HKO.out] at hko'
      cases hko'
      have hkk : (k == k) = true := by simp
      have HK4 := Lib.hid ((HK2.out.trans hk4).alloc (.cells #[.bool false, .int .u16 0, .int .u16 0, .slice none 0 0] 25))
      clear hk4
      go_wp2_with (first | (refine lst_new (by rfl) (.tmp 9) (.tmp 48) _ rfl rfl rfl szEcho rfl rfl rfl ?_))
      go_ret
      exact ⟨rfl, HK0.out.trans HK4.out⟩
    · rw [HKO.out] at hko'
      cases hko'
  · have HK2 := Lib.hid (HK1.out.trans hk2)
    have cv := conv_str (P := Try.prog) (c := c) Try.underlying23 Try.underlying5 Try.underlying9 (HA.out.keep HK2.out)
    have HKO := Lib.hid hko
    have HR := Lib.hid hr.lo0
    clear hk2 hko hr
    go_wp2_with fail
    refine (re8_any _ l (by rw [HL.out]; omega)).mono ?_
    clear cv
    rintro e w4 (⟨k', _, hko', _⟩ | ⟨rp', id', sq', data', hko', _, _, _, hk4, A4, c4, rfl, hr4, _⟩)
    · rw [HKO.out] at hko'
      cases hko'
    · rw [HKO.out] at hko'
      injection hko' with hko'
      injection hko' with h1 hko'
      injection hko' with h2 hko'
      injection hko' with h3 h4
      subst h1 h2 h3 h4
      have HK4 := Lib.hid ((HK2.out.trans hk4).alloc (.cells #[.bool rp, .int .u16 (id : Int), .int .u16 (sq : Int), .slice A4 data.length c4] 25))
      have HR4 := Lib.hid ((HR.out.keep hk4).keep ((Kp.refl w4).alloc (.cells #[.bool rp, .int .u16 (id : Int), .int .u16 (sq : Int), .slice A4 data.length c4] 25)))
      have HR5 : Hid (Rd (w4.alloc (.cells #[.bool rp, .int .u16 (id : Int), .int .u16 (sq : Int), .slice A4 data.length c4] 25)) 0 A4 data.length data) := Lib.hid (hr4.lo0.keep ((Kp.refl w4).alloc _))
      clear hk4 hr4
      go_wp2_with (first | (refine lst_new (by rfl) (.tmp 9) (.tmp 48) _ rfl rfl rfl szEcho rfl rfl rfl ?_) | (refine lld_row (by rfl) (.tmp 9) _ _ rfl rfl (heap_alloc_new w4 _) Try.underlying25 rfl szEcho ?_))
      refine (s8_ee _ rp id sq A2 data.length c2 data rp id sq A4 data.length c4 data HR4.out HR5.out).mono ?_
      rintro e w5 ⟨rfl, hk5⟩
      rw [sameE_self]
      go_wp2
      go_ret
      exact ⟨rfl, HK0.out.trans (HK4.out.trans hk5)⟩

set_option maxRecDepth 100000 in
set_option maxHeartbeats 4000000 in
theorem opens8_g (w : World) (A : Option Addr) (n c : Nat) (l : List UInt8) (a0 a1 a2 a3 b0 b1 b2 b3 : UInt8) (hA : Rd w 0 A n l) (hok : SlOk A n c) (hn : ¬ 1000 < n) :
    Calls Try.prog 5 #[.int .u8 17, .agg #[.int .u8 (a0.toNat : Int), .int .u8 (a1.toNat : Int), .int .u8 (a2.toNat : Int), .int .u8 (a3.toNat : Int), .int .u8 (b0.toNat : Int), .int .u8 (b1.toNat : Int), .int .u8 (b2.toNat : Int), .int .u8 (b3.toNat : Int)], .slice A n c] w fun e w' => e = .returned (.bool true) ∧ Kp w w' := by
  have HL := Lib.hid hA.len
  have hK0 : Kp w (w.alloc (.cells #[.int .u8 (a0.toNat : Int), .int .u8 (a1.toNat : Int), .int .u8 (a2.toNat : Int), .int .u8 (a3.toNat : Int), .int .u8 (b0.toNat : Int), .int .u8 (b1.toNat : Int), .int .u8 (b2.toNat : Int), .int .u8 (b3.toNat : Int)] 29)) := (Kp.refl w).alloc _
  have HK0 := Lib.hid hK0
  have HA := Lib.hid (hA.keep hK0)
  have HOK := Lib.hid hok
  have KE := Lib.hid (cellsE8 w a0 a1 a2 a3 b0 b1 b2 b3)
  have i1 : ¬ (1000 : Int) < (n : Int) := by omega
  have i2 : ¬ (1200 : Int) < (n : Int) := by omega
  clear hA hok hK0
  go_enter Try.func5, Try.ntmps5
  go_wp2_with fail
  refine (lives8_any _).mono ?_
  rintro e w1 ⟨rfl, hk1⟩
  have HK1 := Lib.hid hk1
  clear hk1
  obtain ⟨⟨x0, x1, x2, x3⟩, ⟨y0, y1, y2, y3⟩⟩ := KE.out _ HK1.out
  go_wp2_with fail
  refine (o8_g _ a0 a1 a2 a3 b0 b1 b2 b3 A n c l (HA.out.keep HK1.out) HOK.out (by omega)).mono ?_
  clear x0 x1 x2 x3 y0 y1 y2 y3
  rintro e w2 (⟨k, hk0, hko, hk2, rfl⟩ | ⟨sp, dp, data, hko, _, _, _, hk2, A2, c2, rfl, hr, _⟩)
  · have HK2 := Lib.hid (HK1.out.trans hk2)
    have cv := conv_str (P := Try.prog) (c := c) Try.underlying23 Try.underlying5 Try.underlying9 (HA.out.keep HK2.out)
    have HKO := Lib.hid hko
    have hk0' : (k != 0) = true := by simpa using hk0
    have hk0'' : (k == 0) = false := by simpa using hk0
    obtain ⟨⟨x0, x1, x2, x3⟩, ⟨y0, y1, y2, y3⟩⟩ := KE.out _ HK2.out
    clear hk2 hko
    go_wp2_with fail
    refine (rg8_any _ l a0 a1 a2 a3 b0 b1 b2 b3 (by rw [HL.out]; omega)).mono ?_
    clear cv x0 x1 x2 x3 y0 y1 y2 y3
    rintro e w4 (⟨k', _, hko', hk4, rfl⟩ | ⟨_, _, _, hko', _⟩)
    · rw [HKO.out] at hko'
      cases hko'
      have hkk : (k == k) = true := by simp
      have HK4 := Lib.hid ((HK2.out.trans hk4).alloc (.cells #[.int .u16 0, .int .u16 0, .slice none 0 0] 43))
      clear hk4
      go_wp2_with (first | (refine lst_new (by rfl) (.tmp 11) (.tmp 82) _ rfl rfl rfl szGram rfl rfl rfl ?_))
      go_ret
      exact ⟨rfl, HK0.out.trans HK4.out⟩
    · rw [HKO.out] at hko'
      cases hko'
  · have HK2 := Lib.hid (HK1.out.trans hk2)
    have cv := conv_str (P := Try.prog) (c := c) Try.underlying23 Try.underlying5 Try.underlying9 (HA.out.keep HK2.out)
    have HKO := Lib.hid hko
    have HR := Lib.hid hr.lo0
    obtain ⟨⟨x0, x1, x2, x3⟩, ⟨y0, y1, y2, y3⟩⟩ := KE.out _ HK2.out
    clear hk2 hko hr
    go_wp2_with fail
    refine (rg8_any _ l a0 a1 a2 a3 b0 b1 b2 b3 (by rw [HL.out]; omega)).mono ?_
    clear cv x0 x1 x2 x3 y0 y1 y2 y3
    rintro e w4 (⟨k', _, hko', _⟩ | ⟨sp', dp', data', hko', _, _, _, hk4, A4, c4, rfl, hr4, _⟩)
    · rw [HKO.out] at hko'
      cases hko'
    · rw [HKO.out] at hko'
      injection hko' with hko'
      injection hko' with h1 hko'
      injection hko' with h2 h3
      subst h1 h2 h3
      have HK4 := Lib.hid ((HK2.out.trans hk4).alloc (.cells #[.int .u16 (sp : Int), .int .u16 (dp : Int), .slice A4 data.length c4] 43))
      have HR4 := Lib.hid ((HR.out.keep hk4).keep ((Kp.refl w4).alloc (.cells #[.int .u16 (sp : Int), .int .u16 (dp : Int), .slice A4 data.length c4] 43)))
      have HR5 : Hid (Rd (w4.alloc (.cells #[.int .u16 (sp : Int), .int .u16 (dp : Int), .slice A4 data.length c4] 43)) 0 A4 data.length data) := Lib.hid (hr4.lo0.keep ((Kp.refl w4).alloc _))
      clear hk4 hr4
      go_wp2_with (first | (refine lst_new (by rfl) (.tmp 11) (.tmp 82) _ rfl rfl rfl szGram rfl rfl rfl ?_) | (refine lld_row (by rfl) (.tmp 11) _ _ rfl rfl (heap_alloc_new w4 _) Try.underlying43 rfl szGram ?_))
      refine (s8_gg _ sp dp A2 data.length c2 data sp dp A4 data.length c4 data HR4.out HR5.out).mono ?_
      rintro e w5 ⟨rfl, hk5⟩
      rw [sameG_self]
      go_wp2
      go_ret
      exact ⟨rfl, HK0.out.trans (HK4.out.trans hk5)⟩

set_option maxRecDepth 100000 in
set_option maxHeartbeats 4000000 in
theorem opens8_walk (w : World) (p : UInt8) (a0 a1 a2 a3 b0 b1 b2 b3 : UInt8) (A : Option Addr) (n c : Nat) (l : List UInt8) (hA : Rd w 0 A n l) (hok : SlOk A n c) (hn : n ≤ 140737488351232) :
    Calls Try.prog 5 #[.int .u8 (p.toNat : Int), .agg #[.int .u8 (a0.toNat : Int), .int .u8 (a1.toNat : Int), .int .u8 (a2.toNat : Int), .int .u8 (a3.toNat : Int), .int .u8 (b0.toNat : Int), .int .u8 (b1.toNat : Int), .int .u8 (b2.toNat : Int), .int .u8 (b3.toNat : Int)], .slice A n c] w fun e w' => e = .returned (.bool true) ∧ Kp w w' := by
  have hK0 : Kp w (w.alloc (.cells #[.int .u8 (a0.toNat : Int), .int .u8 (a1.toNat : Int), .int .u8 (a2.toNat : Int), .int .u8 (a3.toNat : Int), .int .u8 (b0.toNat : Int), .int .u8 (b1.toNat : Int), .int .u8 (b2.toNat : Int), .int .u8 (b3.toNat : Int)] 29)) := (Kp.refl w).alloc _
  have HK0 := Lib.hid hK0
  have KE := Lib.hid (cellsE8 w a0 a1 a2 a3 b0 b1 b2 b3)
  clear hK0
  by_cases h : 1200 < n
  · clear hA hok
    go_enter Try.func5, Try.ntmps5
    go_wp2_with (first | (go_at_call 10; refine (lives8_any _).mono ?_; rintro e w1 ⟨rfl, hk⟩))
    go_ret
    exact ⟨rfl, Kp.trans HK0.out (Kp.trans (by assumption) hk)⟩
  by_cases h2 : 1000 < n
  · clear hA hok
    have i1 : (1000 : Int) < (n : Int) := by omega
    have i2 : ¬ (1200 : Int) < (n : Int) := by omega
    go_enter Try.func5, Try.ntmps5
    go_wp2_with fail
    refine (lives8_any _).mono ?_
    rintro e w1 ⟨rfl, hk1⟩
    have HK1 := Lib.hid hk1
    clear hk1
    obtain ⟨⟨x0, x1, x2, x3⟩, ⟨y0, y1, y2, y3⟩⟩ := KE.out _ HK1.out
    go_wp2_with fail
    refine (o8_long _ p a0 a1 a2 a3 b0 b1 b2 b3 A n c (by omega)).mono ?_
    rintro e w2 ⟨hk2, rfl⟩
    go_wp2
    go_ret
    exact ⟨rfl, HK0.out.trans (HK1.out.trans hk2)⟩
  by_cases p1 : p = 1
  · subst p1
    exact opens8_e w A n c l a0 a1 a2 a3 b0 b1 b2 b3 hA hok h2
  by_cases p17 : p = 17
  · subst p17
    exact opens8_g w A n c l a0 a1 a2 a3 b0 b1 b2 b3 hA hok h2
  clear hA hok
  have i1 : ¬ (1000 : Int) < (n : Int) := by omega
  have i2 : ¬ (1200 : Int) < (n : Int) := by omega
  have g1 : ((p.toNat : Int) == 1) = false := u8_ne (k := 1) (by decide) p1
  have g17 : ((p.toNat : Int) == 17) = false := u8_ne (k := 17) (by decide) p17
  have P1 := Lib.hid p1
  have P17 := Lib.hid p17
  clear p1 p17
  go_enter Try.func5, Try.ntmps5
  go_wp2_with fail
  refine (lives8_any _).mono ?_
  rintro e w1 ⟨rfl, hk1⟩
  have HK1 := Lib.hid hk1
  clear hk1
  obtain ⟨⟨x0, x1, x2, x3⟩, ⟨y0, y1, y2, y3⟩⟩ := KE.out _ HK1.out
  go_wp2_with fail
  refine (o8_arg _ p a0 a1 a2 a3 b0 b1 b2 b3 A n c (by omega) P1.out P17.out).mono ?_
  rintro e w2 ⟨hk2, rfl⟩
  go_wp2
  go_ret
  exact ⟨rfl, HK0.out.trans (HK1.out.trans hk2)⟩
end Go.Proofs.Ytpjjanbcjkdciaa
