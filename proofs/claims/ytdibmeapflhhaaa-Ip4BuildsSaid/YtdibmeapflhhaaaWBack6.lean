/-
  The walk of Ip4Back: it returns true and leaves what was there as it was.
-/
import Derived.Test.YtdibmeapflhhaaaI6g
import Derived.Test.YtdibmeapflhhaaaLives6
namespace Go.Proofs.Ytdibmeapflhhaaa
open Go.RowKit

theorem sameP_self (id : Nat) (mo : Bool) (off : Int) (t p : UInt8) (s d l : List UInt8) : sameP id mo off t p s d l id mo off t p s d l = true := by simp [sameP]

set_option maxRecDepth 100000 in
set_option maxHeartbeats 4000000 in
theorem back6_walk (w : World) (A : Option Addr) (n c : Nat) (l : List UInt8) (hA : Rd w 0 A n l) (hok : SlOk A n c) (hn : n ≤ 140737488351232) :
    Calls Try.prog 9 #[.slice A n c] w fun e w' => e = .returned (.bool true) ∧ Kp w w' := by
  have HA := Lib.hid hA
  have HOK := Lib.hid hok
  have HL := Lib.hid hA.len
  clear hA hok
  by_cases h : 400 < n
  · go_enter Try.func9, Try.ntmps9
    go_wp2_with (first | (go_at_call 22; refine (lives6_any _).mono ?_; rintro e w1 ⟨rfl, hk⟩))
    go_ret
    exact ⟨rfl, Kp.trans (by assumption) hk⟩
  go_enter Try.func9, Try.ntmps9
  go_wp2_with fail
  refine (lives6_any _).mono ?_
  rintro e w1 ⟨rfl, hk1⟩
  have HK1 := Lib.hid hk1
  clear hk1
  go_wp2_with fail
  refine (p6_any _ A n c l (HA.out.keep HK1.out) HOK.out (by omega)).mono ?_
  rintro e w2 (⟨k, hk0, _, hk2, rfl⟩ | ⟨id, mo, pm, t, p, s0, s1, s2, s3, d0, d1, d2, d3, data, _, hid, hpm, hdl, hk2, A2, c2, rfl, hr, hs2⟩)
  · have HK2 := Lib.hid (HK1.out.trans hk2)
    have hk0' : (k != 0) = true := by simpa using hk0
    clear hk2
    go_wp2_with (first | (refine lst_new (by rfl) (.tmp 3) (.tmp 20) _ rfl rfl rfl szPkt rfl rfl rfl ?_) | (refine lld_row (by rfl) (.tmp 3) _ _ rfl rfl (heap_alloc_new w2 _) Try.underlying50 rfl szPkt ?_))
    refine (same6_any _ 0 false 0 0 0 0 0 0 0 0 0 0 0 none 0 0 [] 0 false 0 0 0 0 0 0 0 0 0 0 0 none 0 0 [] (Rd.none_ _ 0) (Rd.none_ _ 0)).mono ?_
    rintro e w3 ⟨rfl, hk3⟩
    rw [sameP_self]
    go_wp2
    go_ret
    exact ⟨rfl, (HK2.out.alloc _).trans hk3⟩
  · have hdl2 : data.length ≤ 400 := by rw [HL.out] at hdl; omega
    have HK2 := Lib.hid (HK1.out.trans hk2)
    have hr3 : Rd (w2.alloc (.cells #[.int .u16 (id : Int), .bool mo, .int .i64 (8 * (pm : Int)), .int .u8 (t.toNat : Int), .int .u8 (p.toNat : Int), .int .u8 (s0.toNat : Int), .int .u8 (s1.toNat : Int), .int .u8 (s2.toNat : Int), .int .u8 (s3.toNat : Int), .int .u8 (d0.toNat : Int), .int .u8 (d1.toNat : Int), .int .u8 (d2.toNat : Int), .int .u8 (d3.toNat : Int), .slice A2 data.length c2] 50)) 0 A2 data.length data := hr.lo0.keep ((Kp.refl w2).alloc _)
    have row3 := heap_alloc_new w2 (.cells #[.int .u16 (id : Int), .bool mo, .int .i64 (8 * (pm : Int)), .int .u8 (t.toNat : Int), .int .u8 (p.toNat : Int), .int .u8 (s0.toNat : Int), .int .u8 (s1.toNat : Int), .int .u8 (s2.toNat : Int), .int .u8 (s3.toNat : Int), .int .u8 (d0.toNat : Int), .int .u8 (d1.toNat : Int), .int .u8 (d2.toNat : Int), .int .u8 (d3.toNat : Int), .slice A2 data.length c2] 50)
    have HR3 := Lib.hid hr3
    have ROW3 := Lib.hid row3
    clear hk2 hdl hr hr3 row3 hs2
    go_wp2_with (first | (refine lst_new (by rfl) (.tmp 3) (.tmp 20) _ rfl rfl rfl szPkt rfl rfl rfl ?_) | (refine lld_row (by rfl) (.tmp 3) _ _ rfl rfl ROW3.out Try.underlying50 rfl szPkt ?_))
    by_cases hb : mo = true ∧ data.length % 8 ≠ 0
    · obtain ⟨rfl, hb⟩ := hb
      refine (i6build_bad _ id true (8 * (pm : Int)) t p s0 s1 s2 s3 d0 d1 d2 d3 A2 data.length c2 (.inr (.inr (.inr ⟨rfl, hb⟩))) (by omega)).mono ?_
      rintro e w3 ⟨rfl, hk3⟩
      have row4 := (hk3.block _ (Array.getElem?_eq_some_iff.1 ROW3.out).1).trans ROW3.out
      have z1 : w3.cell? ⟨w2.heap.size, 1, none⟩ = some (.bool true) := (cell_of_row w3 _ 1 _ _ _ row4).trans rfl
      have z13 : w3.cell? ⟨w2.heap.size, 13, none⟩ = some (.slice A2 data.length c2) := (cell_of_row w3 _ 13 _ _ _ row4).trans rfl
      have e2 : ((data.length : Int) % 8 != 0) = true := by simp; omega
      have hk4 := (HK2.out.alloc _).trans hk3
      clear row4
      by_cases h180 : 180 < data.length
      · go_wp2
        go_ret
        exact ⟨rfl, hk4⟩
      · go_wp2
        go_ret
        exact ⟨rfl, hk4⟩
    · have hm : mo = true → data.length % 8 = 0 := by
        intro h
        by_cases h8 : data.length % 8 = 0
        · exact h8
        · exact absurd ⟨h, h8⟩ hb
      clear hb
      by_cases h180 : 180 < data.length
      · refine (i6build_long _ id mo pm t p s0 s1 s2 s3 d0 d1 d2 d3 A2 data.length c2 hpm hm h180).mono ?_
        rintro e w3 ⟨rfl, hk3⟩
        have row4 := (hk3.block _ (Array.getElem?_eq_some_iff.1 ROW3.out).1).trans ROW3.out
        have z13 : w3.cell? ⟨w2.heap.size, 13, none⟩ = some (.slice A2 data.length c2) := (cell_of_row w3 _ 13 _ _ _ row4).trans rfl
        have hk4 := (HK2.out.alloc _).trans hk3
        clear row4
        go_wp2
        go_ret
        exact ⟨rfl, hk4⟩
      · have HB := Lib.hid (out6_pbytes id pm mo t p s0 s1 s2 s3 d0 d1 d2 d3 data [] hid hpm (by omega))
        refine (i6build_ok _ id mo pm t p s0 s1 s2 s3 d0 d1 d2 d3 A2 data.length c2 data hid hpm hm (by omega) HR3.out).mono ?_
        rintro e w3 ⟨hk3, g, cap, rfl, hown⟩
        have HK3 := Lib.hid ((HK2.out.alloc _).trans hk3)
        have ROW4 := Lib.hid ((hk3.block _ (Array.getElem?_eq_some_iff.1 ROW3.out).1).trans ROW3.out)
        have HR4 := Lib.hid (HR3.out.keep hk3)
        have HO := Lib.hid hown
        clear hk3 hown HR3 ROW3
        go_wp2_with fail
        refine (p6_any _ _ (20 + data.length) cap _ HO.out.rd0 HO.out.slOk (by omega)).mono ?_
        have hB := HB.out
        rw [List.append_nil] at hB
        rintro e w4 (⟨k, _, hk, _⟩ | ⟨id', mo', pm', t', p', e0, e1, e2, e3, f0, f1, f2, f3, data', hk, _, _, _, hk4, A4, c4, rfl, hr4, _⟩)
        · rw [hB] at hk; cases hk
        · rw [hB] at hk
          simp only [Sum.inr.injEq, Pkt.mk.injEq, List.cons.injEq, and_true] at hk
          obtain ⟨rfl, rfl, rfl, rfl, rfl, ⟨rfl, rfl, rfl, rfl⟩, ⟨rfl, rfl, rfl, rfl⟩, rfl⟩ := hk
          have HK4 := Lib.hid (HK3.out.trans hk4)
          have r5 := (hk4.block _ (Array.getElem?_eq_some_iff.1 ROW4.out).1).trans ROW4.out
          have r6 := (Below.heap_alloc w4 (.cells #[.int .u16 (id : Int), .bool mo, .int .i64 (8 * (pm : Int)), .int .u8 (t.toNat : Int), .int .u8 (p.toNat : Int), .int .u8 (s0.toNat : Int), .int .u8 (s1.toNat : Int), .int .u8 (s2.toNat : Int), .int .u8 (s3.toNat : Int), .int .u8 (d0.toNat : Int), .int .u8 (d1.toNat : Int), .int .u8 (d2.toNat : Int), .int .u8 (d3.toNat : Int), .slice A4 data.length c4] 50) _ (Array.getElem?_eq_some_iff.1 r5).1).trans r5
          have ROW6 := Lib.hid r6
          have HR6 := Lib.hid ((HR4.out.keep hk4).keep ((Kp.refl w4).alloc (.cells #[.int .u16 (id : Int), .bool mo, .int .i64 (8 * (pm : Int)), .int .u8 (t.toNat : Int), .int .u8 (p.toNat : Int), .int .u8 (s0.toNat : Int), .int .u8 (s1.toNat : Int), .int .u8 (s2.toNat : Int), .int .u8 (s3.toNat : Int), .int .u8 (d0.toNat : Int), .int .u8 (d1.toNat : Int), .int .u8 (d2.toNat : Int), .int .u8 (d3.toNat : Int), .slice A4 data.length c4] 50)))
          have hr7 : Rd (w4.alloc (.cells #[.int .u16 (id : Int), .bool mo, .int .i64 (8 * (pm : Int)), .int .u8 (t.toNat : Int), .int .u8 (p.toNat : Int), .int .u8 (s0.toNat : Int), .int .u8 (s1.toNat : Int), .int .u8 (s2.toNat : Int), .int .u8 (s3.toNat : Int), .int .u8 (d0.toNat : Int), .int .u8 (d1.toNat : Int), .int .u8 (d2.toNat : Int), .int .u8 (d3.toNat : Int), .slice A4 data.length c4] 50)) 0 A4 data.length data := hr4.lo0.keep ((Kp.refl w4).alloc _)
          have HR7 := Lib.hid hr7
          clear hk4 r5 r6 hr4 hr7 hB HB
          go_wp2_with (first | (refine lst_new (by rfl) (.tmp 7) (.tmp 60) _ rfl rfl rfl szPkt rfl rfl rfl ?_) | (refine lld_row (by rfl) (.tmp 7) _ _ rfl rfl (heap_alloc_new w4 _) Try.underlying50 rfl szPkt ?_) | (refine lld_row (by rfl) (.tmp 3) _ _ rfl rfl ROW6.out Try.underlying50 rfl szPkt ?_))
          refine (same6_any _ id mo (8 * (pm : Int)) t p s0 s1 s2 s3 d0 d1 d2 d3 A2 data.length c2 data id mo (8 * (pm : Int)) t p s0 s1 s2 s3 d0 d1 d2 d3 A4 data.length c4 data HR6.out HR7.out).mono ?_
          rintro e w5 ⟨rfl, hk5⟩
          rw [sameP_self]
          have r8 := (hk5.block _ (Array.getElem?_eq_some_iff.1 ROW6.out).1).trans ROW6.out
          have z13 : w5.cell? ⟨w2.heap.size, 13, none⟩ = some (.slice A2 data.length c2) := (cell_of_row w5 _ 13 _ _ _ r8).trans rfl
          clear r8
          have hk6 := (HK4.out.alloc _).trans hk5
          have e20 : (20 + (data.length : Int) == 20 + (data.length : Int)) = true := by simp
          go_wp2
          go_ret
          exact ⟨rfl, hk6⟩
end Go.Proofs.Ytdibmeapflhhaaa
