/-
  The walk of Ip4Turned where the packet is not too long and the byte is not zero.
-/
import Derived.Test.YtdibmeapflhhaaaI6t
import Derived.Test.YtdibmeapflhhaaaWBack6
namespace Go.Proofs.Ytdibmeapflhhaaa
open Go.RowKit

theorem sameP_data {id : Nat} {mo : Bool} {off : Int} {t p : UInt8} {s d l : List UInt8} {id' : Nat} {mo' : Bool} {off' : Int} {t' p' : UInt8} {s' d' l' : List UInt8} (h : l ≠ l') : sameP id mo off t p s d l id' mo' off' t' p' s' d' l' = false := by
  have : (l == l') = false := by simpa using h
  simp [sameP, this]

theorem notBad {off : Int} {mo : Bool} {n : Nat} (h : ¬ pktBad off mo n) : ∃ pl : Nat, off = 8 * (pl : Int) ∧ pl < 8192 ∧ (mo = true → n % 8 = 0) := by
  unfold pktBad at h
  simp only [not_or, Decidable.not_not, not_and, ne_eq] at h
  obtain ⟨h1, h2, h3, h4⟩ := h
  exact ⟨(off / 8).toNat, by omega, by omega, fun e => by have := h4 e; omega⟩

set_option maxRecDepth 100000 in
set_option maxHeartbeats 4000000 in
theorem turned6_main (w : World) (id : Nat) (mo : Bool) (off : Int) (t p s0 s1 s2 s3 d0 d1 d2 d3 : UInt8) (A : Option Addr) (n c : Nat) (l : List UInt8) (at_ : Int) (by_ : UInt8) (hid : id ≤ 65535) (ho : -9223372036854775808 ≤ off ∧ off ≤ 9223372036854775807) (hA : Rd w 0 A n l) (_hok : SlOk A n c) (h : ¬ 180 < n) (h0 : by_ ≠ 0) :
    Calls Try.prog 8 #[.agg #[.int .u16 (id : Int), .bool mo, .int .i64 off, .int .u8 (t.toNat : Int), .int .u8 (p.toNat : Int), .int .u8 (s0.toNat : Int), .int .u8 (s1.toNat : Int), .int .u8 (s2.toNat : Int), .int .u8 (s3.toNat : Int), .int .u8 (d0.toNat : Int), .int .u8 (d1.toNat : Int), .int .u8 (d2.toNat : Int), .int .u8 (d3.toNat : Int), .slice A n c], .int .i64 at_, .int .u8 (by_.toNat : Int)] w fun e w' => e = .returned (.bool true) ∧ Kp w w' := by
  have HA := Lib.hid hA
  have HL := Lib.hid hA.len
  clear hA
  have hr0 := heap_alloc_new w (.cells #[.int .u16 (id : Int), .bool mo, .int .i64 off, .int .u8 (t.toNat : Int), .int .u8 (p.toNat : Int), .int .u8 (s0.toNat : Int), .int .u8 (s1.toNat : Int), .int .u8 (s2.toNat : Int), .int .u8 (s3.toNat : Int), .int .u8 (d0.toNat : Int), .int .u8 (d1.toNat : Int), .int .u8 (d2.toNat : Int), .int .u8 (d3.toNat : Int), .slice A n c] 50)
  have HR0 := Lib.hid hr0
  have HK0 : Hid (Kp w (w.alloc (.cells #[.int .u16 (id : Int), .bool mo, .int .i64 off, .int .u8 (t.toNat : Int), .int .u8 (p.toNat : Int), .int .u8 (s0.toNat : Int), .int .u8 (s1.toNat : Int), .int .u8 (s2.toNat : Int), .int .u8 (s3.toNat : Int), .int .u8 (d0.toNat : Int), .int .u8 (d1.toNat : Int), .int .u8 (d2.toNat : Int), .int .u8 (d3.toNat : Int), .slice A n c] 50))) := Lib.hid ((Kp.refl w).alloc _)
  clear hr0
  have hb0 : ((by_.toNat : Int) == 0) = false := by
    rw [beq_eq_false_iff_ne]
    intro e
    exact h0 (UInt8.toNat_inj.1 (by simpa using (by omega : by_.toNat = 0)))
  go_enter Try.func8, Try.ntmps8
  go_wp2_with fail
  refine (lives6_any _).mono ?_
  rintro e w1 ⟨rfl, hk1⟩
  have r1 := (hk1.block _ (Array.getElem?_eq_some_iff.1 HR0.out).1).trans HR0.out
  have z13 : w1.cell? ⟨w.heap.size, 13, none⟩ = some (.slice A n c) := (cell_of_row w1 _ 13 _ _ _ r1).trans rfl
  have HR1 := Lib.hid r1
  have HK1 := Lib.hid (HK0.out.trans hk1)
  clear hk1 r1 HR0 HK0
  go_wp2_with (refine lld_row (by rfl) (.tmp 3) _ _ rfl rfl HR1.out Try.underlying50 rfl szPkt ?_)
  by_cases hbad : pktBad off mo n
  · refine (i6build_bad _ id mo off t p s0 s1 s2 s3 d0 d1 d2 d3 A n c hbad ho).mono ?_
    rintro e w2 ⟨rfl, hk2⟩
    go_wp2
    go_ret
    exact ⟨rfl, HK1.out.trans hk2⟩
  · obtain ⟨pl, rfl, hpl, hm⟩ := notBad hbad
    refine (i6build_ok _ id mo pl t p s0 s1 s2 s3 d0 d1 d2 d3 A n c l hid hpl hm (by omega) (HA.out.keep HK1.out)).mono ?_
    rintro e w2 ⟨hk2, g, cap, rfl, hown⟩
    have HK2 := Lib.hid (HK1.out.trans hk2)
    have HR2 := Lib.hid ((hk2.block _ (Array.getElem?_eq_some_iff.1 HR1.out).1).trans HR1.out)
    have hlt := (Array.getElem?_eq_some_iff.1 HR1.out).1
    have hglo := hown.lo_le
    clear hk2 z13 HR1
    obtain ⟨u, hu⟩ : ∃ u : Nat, IntKind.u64.wrap at_ = (u : Int) := ⟨(IntKind.u64.wrap at_).toNat, by
      have : 0 ≤ IntKind.u64.wrap at_ := by simp only [IntKind.wrap, IntKind.bits, IntKind.signed]; simp; omega
      omega⟩
    have hu2 : (u : Int).tmod 20 = ((u % 20 : Nat) : Int) := by rw [Int.tmod_eq_emod_of_nonneg (by omega)]; omega
    obtain ⟨i, hi⟩ : ∃ i, u % 20 = i := ⟨_, rfl⟩
    have hi2 : i < 20 := by omega
    rw [hi] at hu2
    clear hi
    obtain ⟨x, hx, cx⟩ := hown.cell8 (k := i) (by omega)
    have fz := hown.frozen i
    have hxor := xor_u8 x by_
    have hne := xor_ne x by_ h0
    have own2 := hown.setb i (x ^^^ by_)
    have hk3 := HK2.out.setCell (p := ⟨g, i, none⟩) (by show w.heap.size ≤ g; omega) (.int .u8 ((x ^^^ by_).toNat : Int))
    have r3 := (Below.heap_setCell w2 ⟨g, i, none⟩ (.int .u8 ((x ^^^ by_).toNat : Int)) w.heap.size (by show w.heap.size ≠ g; omega)).trans HR2.out
    have hi3 : (i : Int) < 20 + (n : Int) := by omega
    have HNE : Hid (∀ P, out6 ((pbytes id (placeOf pl mo) t p [s0, s1, s2, s3] [d0, d1, d2, d3] l).set i (x ^^^ by_)) = .inr P → P.data.length ≠ l.length) := Lib.hid (by
      intro P hP
      have hs := sum_right (pfront (20 + l.length) id (placeOf pl mo) t p) ([s0, s1, s2, s3] ++ [d0, d1, d2, d3]) (by simp [pfront, wd2])
      refine out6_turn 69 0 (UInt8.ofNat ((20 + l.length) / 256)) (UInt8.ofNat (20 + l.length)) (UInt8.ofNat (id / 256)) (UInt8.ofNat id) (UInt8.ofNat (placeOf pl mo / 256)) (UInt8.ofNat (placeOf pl mo)) t p (UInt8.ofNat (psum (20 + l.length) id (placeOf pl mo) t p [s0, s1, s2, s3] [d0, d1, d2, d3] / 256)) (UInt8.ofNat (psum (20 + l.length) id (placeOf pl mo) t p [s0, s1, s2, s3] [d0, d1, d2, d3])) s0 s1 s2 s3 d0 d1 d2 d3 l rfl ?_ hs i hi2 x (x ^^^ by_) hx hne P hP
      rw [UInt8.toNat_ofNat', UInt8.toNat_ofNat', HL.out]
      omega)
    have hn20 : 20 + n ≤ 1048576 := by omega
    have hgg : w.heap.size ≠ g := by omega
    have wi : wrap64 (i : Int) = (i : Int) := by unfold wrap64; omega
    have OWN2 := Lib.hid own2
    have HK3 := Lib.hid hk3
    have HR3 := Lib.hid r3
    clear hx hne hown own2 hk3 r3 HR2
    go_wp2_with fail
    refine (p6_any _ _ (20 + n) cap _ OWN2.out.rd0 OWN2.out.slOk hn20).mono ?_
    have hN := HNE.out
    rintro e w4 (⟨k, hk0, _, hk4, rfl⟩ | ⟨id', mo', pm', t', p', e0, e1, e2, e3, f0, f1, f2, f3, data', hk, _, _, _, hk4, A4, c4, rfl, hr4, _⟩)
    · have hk0' : (k != 0) = true := by simpa using hk0
      have HK4 := Lib.hid (HK3.out.trans hk4)
      clear hk4 hN
      go_wp2_with (first | (refine lst_new (by rfl) (.tmp 9) (.tmp 47) _ rfl rfl rfl szPkt rfl rfl rfl ?_) | (refine lld_row (by rfl) (.tmp 9) _ _ rfl rfl (heap_alloc_new w4 _) Try.underlying50 rfl szPkt ?_))
      refine (same6_any _ 0 false 0 0 0 0 0 0 0 0 0 0 0 none 0 0 [] 0 false 0 0 0 0 0 0 0 0 0 0 0 none 0 0 [] (Rd.none_ _ 0) (Rd.none_ _ 0)).mono ?_
      rintro e w5 ⟨rfl, hk5⟩
      rw [sameP_self]
      go_wp2
      go_ret
      exact ⟨rfl, (HK4.out.alloc _).trans hk5⟩
    · have hdne := hN _ hk
      have hdl : data' ≠ l := fun e => hdne (by rw [← e])
      have HDL := Lib.hid hdl
      have HK4 := Lib.hid (HK3.out.trans hk4)
      have r4 := (hk4.block _ (Array.getElem?_eq_some_iff.1 HR3.out).1).trans HR3.out
      have r5 := (Below.heap_alloc w4 (.cells #[.int .u16 (id' : Int), .bool mo', .int .i64 (8 * (pm' : Int)), .int .u8 (t'.toNat : Int), .int .u8 (p'.toNat : Int), .int .u8 (e0.toNat : Int), .int .u8 (e1.toNat : Int), .int .u8 (e2.toNat : Int), .int .u8 (e3.toNat : Int), .int .u8 (f0.toNat : Int), .int .u8 (f1.toNat : Int), .int .u8 (f2.toNat : Int), .int .u8 (f3.toNat : Int), .slice A4 data'.length c4] 50) _ (Array.getElem?_eq_some_iff.1 r4).1).trans r4
      have HR5 := Lib.hid r5
      have HR4 := Lib.hid hr4.lo0
      clear hk4 hN hdne hdl r4 r5 hr4 hk
      go_wp2_with (first | (refine lst_new (by rfl) (.tmp 9) (.tmp 47) _ rfl rfl rfl szPkt rfl rfl rfl ?_) | (refine lld_row (by rfl) (.tmp 9) _ _ rfl rfl (heap_alloc_new w4 _) Try.underlying50 rfl szPkt ?_) | (refine lld_row (by rfl) (.tmp 3) _ _ rfl rfl HR5.out Try.underlying50 rfl szPkt ?_))
      refine (same6_any _ id' mo' (8 * (pm' : Int)) t' p' e0 e1 e2 e3 f0 f1 f2 f3 A4 data'.length c4 data' id mo (8 * (pl : Int)) t p s0 s1 s2 s3 d0 d1 d2 d3 A n c l (HR4.out.keep ((Kp.refl w4).alloc _)) (HA.out.keep (HK4.out.alloc _))).mono ?_
      rintro e w5 ⟨rfl, hk5⟩
      rw [sameP_data HDL.out]
      go_wp2
      go_ret
      exact ⟨rfl, (HK4.out.alloc _).trans hk5⟩
end Go.Proofs.Ytdibmeapflhhaaa
