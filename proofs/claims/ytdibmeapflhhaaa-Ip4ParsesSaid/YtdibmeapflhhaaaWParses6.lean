/-
  The walk of Ip4Parses: it returns true and leaves what was there as it was.
-/
import Derived.Test.YtdibmeapflhhaaaI6r
import Derived.Test.YtdibmeapflhhaaaWBack6
namespace Go.Proofs.Ytdibmeapflhhaaa
open Go.RowKit

set_option maxRecDepth 100000 in
set_option maxHeartbeats 4000000 in
theorem parses6_walk (w : World) (A : Option Addr) (n c : Nat) (l : List UInt8) (hA : Rd w 0 A n l) (hok : SlOk A n c) (hn : n ≤ 140737488351232) :
    Calls Try.prog 7 #[.slice A n c] w fun e w' => e = .returned (.bool true) ∧ Kp w w' := by
  have HA := Lib.hid hA
  have HOK := Lib.hid hok
  have HL := Lib.hid hA.len
  clear hA hok
  by_cases h : 400 < n
  · go_enter Try.func7, Try.ntmps7
    go_wp2_with (first | (go_at_call 22; refine (lives6_any _).mono ?_; rintro e w1 ⟨rfl, hk⟩))
    go_ret
    exact ⟨rfl, Kp.trans (by assumption) hk⟩
  go_enter Try.func7, Try.ntmps7
  go_wp2_with fail
  refine (lives6_any _).mono ?_
  rintro e w1 ⟨rfl, hk1⟩
  have HK1 := Lib.hid hk1
  clear hk1
  go_wp2_with fail
  refine (p6_any _ A n c l (HA.out.keep HK1.out) HOK.out (by omega)).mono ?_
  rintro e w2 (⟨k, hk0, hko, hk2, rfl⟩ | ⟨id, mo, pm, t, p, s0, s1, s2, s3, d0, d1, d2, d3, data, hko, hid, hpm, hdl, hk2, A2, c2, rfl, hr, hs2⟩)
  · have HK2 := Lib.hid (HK1.out.trans hk2)
    have cv := conv_str (P := Try.prog) (c := c) Try.underlying25 Try.underlying5 Try.underlying9 (HA.out.keep (HK2.out.alloc (.cells #[.int .u16 0, .bool false, .int .i64 0, .int .u8 0, .int .u8 0, .int .u8 0, .int .u8 0, .int .u8 0, .int .u8 0, .int .u8 0, .int .u8 0, .int .u8 0, .int .u8 0, .slice none 0 0] 50)))
    have HKO := Lib.hid hko
    have row3 := heap_alloc_new w2 (.cells #[.int .u16 0, .bool false, .int .i64 0, .int .u8 0, .int .u8 0, .int .u8 0, .int .u8 0, .int .u8 0, .int .u8 0, .int .u8 0, .int .u8 0, .int .u8 0, .int .u8 0, .slice none 0 0] 50)
    have ROW3 := Lib.hid row3
    clear hk2 hko row3
    go_wp2_with (first | (refine lst_new (by rfl) (.tmp 3) (.tmp 18) _ rfl rfl rfl szPkt rfl rfl rfl ?_))
    refine (rp6_any _ l (by rw [HL.out]; omega)).mono ?_
    rintro e w4 (⟨k', _, hko', hk4, rfl⟩ | ⟨id', mo', pm', t', p', e0, e1, e2, e3, f0, f1, f2, f3, data', hko', _⟩)
    · rw [HKO.out] at hko'
      cases hko'
      have HK4 := Lib.hid ((HK2.out.alloc _).trans hk4)
      have r4 := (hk4.block _ (Array.getElem?_eq_some_iff.1 ROW3.out).1).trans ROW3.out
      have r5 := (Below.heap_alloc w4 (.cells #[.int .u16 0, .bool false, .int .i64 0, .int .u8 0, .int .u8 0, .int .u8 0, .int .u8 0, .int .u8 0, .int .u8 0, .int .u8 0, .int .u8 0, .int .u8 0, .int .u8 0, .slice none 0 0] 50) _ (Array.getElem?_eq_some_iff.1 r4).1).trans r4
      have HR5 := Lib.hid r5
      clear hk4 r4 r5 cv
      go_wp2_with (first | (refine lst_new (by rfl) (.tmp 5) (.tmp 24) _ rfl rfl rfl szPkt rfl rfl rfl ?_) | (refine lld_row (by rfl) (.tmp 5) _ _ rfl rfl (heap_alloc_new w4 _) Try.underlying50 rfl szPkt ?_) | (refine lld_row (by rfl) (.tmp 3) _ _ rfl rfl HR5.out Try.underlying50 rfl szPkt ?_))
      refine (same6_any _ 0 false 0 0 0 0 0 0 0 0 0 0 0 none 0 0 [] 0 false 0 0 0 0 0 0 0 0 0 0 0 none 0 0 [] (Rd.none_ _ 0) (Rd.none_ _ 0)).mono ?_
      rintro e w5 ⟨rfl, hk5⟩
      rw [sameP_self]
      go_wp2
      go_ret
      exact ⟨rfl, (HK4.out.alloc _).trans hk5⟩
    · rw [HKO.out] at hko'
      cases hko'
  · have HK2 := Lib.hid (HK1.out.trans hk2)
    have cv := conv_str (P := Try.prog) (c := c) Try.underlying25 Try.underlying5 Try.underlying9 (HA.out.keep (HK2.out.alloc (.cells #[.int .u16 (id : Int), .bool mo, .int .i64 (8 * (pm : Int)), .int .u8 (t.toNat : Int), .int .u8 (p.toNat : Int), .int .u8 (s0.toNat : Int), .int .u8 (s1.toNat : Int), .int .u8 (s2.toNat : Int), .int .u8 (s3.toNat : Int), .int .u8 (d0.toNat : Int), .int .u8 (d1.toNat : Int), .int .u8 (d2.toNat : Int), .int .u8 (d3.toNat : Int), .slice A2 data.length c2] 50)))
    have HKO := Lib.hid hko
    have row3 := heap_alloc_new w2 (.cells #[.int .u16 (id : Int), .bool mo, .int .i64 (8 * (pm : Int)), .int .u8 (t.toNat : Int), .int .u8 (p.toNat : Int), .int .u8 (s0.toNat : Int), .int .u8 (s1.toNat : Int), .int .u8 (s2.toNat : Int), .int .u8 (s3.toNat : Int), .int .u8 (d0.toNat : Int), .int .u8 (d1.toNat : Int), .int .u8 (d2.toNat : Int), .int .u8 (d3.toNat : Int), .slice A2 data.length c2] 50)
    have ROW3 := Lib.hid row3
    have hr3 : Rd (w2.alloc (.cells #[.int .u16 (id : Int), .bool mo, .int .i64 (8 * (pm : Int)), .int .u8 (t.toNat : Int), .int .u8 (p.toNat : Int), .int .u8 (s0.toNat : Int), .int .u8 (s1.toNat : Int), .int .u8 (s2.toNat : Int), .int .u8 (s3.toNat : Int), .int .u8 (d0.toNat : Int), .int .u8 (d1.toNat : Int), .int .u8 (d2.toNat : Int), .int .u8 (d3.toNat : Int), .slice A2 data.length c2] 50)) 0 A2 data.length data := hr.lo0.keep ((Kp.refl w2).alloc _)
    have HR3 := Lib.hid hr3
    clear hk2 hko row3 hr hr3 hs2 hdl
    go_wp2_with (first | (refine lst_new (by rfl) (.tmp 3) (.tmp 18) _ rfl rfl rfl szPkt rfl rfl rfl ?_))
    refine (rp6_any _ l (by rw [HL.out]; omega)).mono ?_
    rintro e w4 (⟨k', _, hko', _⟩ | ⟨id', mo', pm', t', p', e0, e1, e2, e3, f0, f1, f2, f3, data', hko', _, _, _, hk4, A4, c4, rfl, hr4, _⟩)
    · rw [HKO.out] at hko'
      cases hko'
    · rw [HKO.out] at hko'
      simp only [Sum.inr.injEq, Pkt.mk.injEq, List.cons.injEq, and_true] at hko'
      obtain ⟨rfl, rfl, rfl, rfl, rfl, ⟨rfl, rfl, rfl, rfl⟩, ⟨rfl, rfl, rfl, rfl⟩, rfl⟩ := hko'
      have HK4 := Lib.hid ((HK2.out.alloc _).trans hk4)
      have r4 := (hk4.block _ (Array.getElem?_eq_some_iff.1 ROW3.out).1).trans ROW3.out
      have r5 := (Below.heap_alloc w4 (.cells #[.int .u16 (id : Int), .bool mo, .int .i64 (8 * (pm : Int)), .int .u8 (t.toNat : Int), .int .u8 (p.toNat : Int), .int .u8 (s0.toNat : Int), .int .u8 (s1.toNat : Int), .int .u8 (s2.toNat : Int), .int .u8 (s3.toNat : Int), .int .u8 (d0.toNat : Int), .int .u8 (d1.toNat : Int), .int .u8 (d2.toNat : Int), .int .u8 (d3.toNat : Int), .slice A4 data.length c4] 50) _ (Array.getElem?_eq_some_iff.1 r4).1).trans r4
      have HR5 := Lib.hid r5
      have hr5 : Rd (w4.alloc (.cells #[.int .u16 (id : Int), .bool mo, .int .i64 (8 * (pm : Int)), .int .u8 (t.toNat : Int), .int .u8 (p.toNat : Int), .int .u8 (s0.toNat : Int), .int .u8 (s1.toNat : Int), .int .u8 (s2.toNat : Int), .int .u8 (s3.toNat : Int), .int .u8 (d0.toNat : Int), .int .u8 (d1.toNat : Int), .int .u8 (d2.toNat : Int), .int .u8 (d3.toNat : Int), .slice A4 data.length c4] 50)) 0 A2 data.length data := (HR3.out.keep hk4).keep ((Kp.refl w4).alloc _)
      have HR6 := Lib.hid hr5
      have hr7 : Rd (w4.alloc (.cells #[.int .u16 (id : Int), .bool mo, .int .i64 (8 * (pm : Int)), .int .u8 (t.toNat : Int), .int .u8 (p.toNat : Int), .int .u8 (s0.toNat : Int), .int .u8 (s1.toNat : Int), .int .u8 (s2.toNat : Int), .int .u8 (s3.toNat : Int), .int .u8 (d0.toNat : Int), .int .u8 (d1.toNat : Int), .int .u8 (d2.toNat : Int), .int .u8 (d3.toNat : Int), .slice A4 data.length c4] 50)) 0 A4 data.length data := hr4.lo0.keep ((Kp.refl w4).alloc _)
      have HR7 := Lib.hid hr7
      clear hk4 r4 r5 cv hr5 hr7 hr4
      go_wp2_with (first | (refine lst_new (by rfl) (.tmp 5) (.tmp 24) _ rfl rfl rfl szPkt rfl rfl rfl ?_) | (refine lld_row (by rfl) (.tmp 5) _ _ rfl rfl (heap_alloc_new w4 _) Try.underlying50 rfl szPkt ?_) | (refine lld_row (by rfl) (.tmp 3) _ _ rfl rfl HR5.out Try.underlying50 rfl szPkt ?_))
      refine (same6_any _ id mo (8 * (pm : Int)) t p s0 s1 s2 s3 d0 d1 d2 d3 A2 data.length c2 data id mo (8 * (pm : Int)) t p s0 s1 s2 s3 d0 d1 d2 d3 A4 data.length c4 data HR6.out HR7.out).mono ?_
      rintro e w5 ⟨rfl, hk5⟩
      rw [sameP_self]
      go_wp2
      go_ret
      exact ⟨rfl, (HK4.out.alloc _).trans hk5⟩
end Go.Proofs.Ytdibmeapflhhaaa
