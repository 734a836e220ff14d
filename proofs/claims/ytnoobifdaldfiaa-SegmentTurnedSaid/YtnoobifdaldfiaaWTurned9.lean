/-
  The walk of SegmentTurned: it returns true and leaves what was there as it was.
-/
import Derived.Test.YtnoobifdaldfiaaT9
import Derived.Test.YtnoobifdaldfiaaWBuilds9
namespace Go.Proofs.Ytnoobifdaldfiaa
open Go.RowKit

theorem szIP : (Try.prog.info? 28).map (·.size) = some 4 := by kernel_rfl
theorem mod_u64 (z : Int) : ∃ u : Nat, IntKind.u64.wrap z = (u : Int) := ⟨(IntKind.u64.wrap z).toNat, by
  have : 0 ≤ IntKind.u64.wrap z := by simp only [IntKind.wrap, IntKind.bits, IntKind.signed]; simp; omega
  omega⟩
theorem wrap_u64n (n : Nat) (h : n ≤ 1000000) : IntKind.u64.wrap (n : Int) = (n : Int) := by
  simp only [IntKind.wrap, IntKind.bits, IntKind.signed]
  simp
  omega
theorem set_ips (j : Nat) (hj : j < 4) (y : UInt8) : ∃ (x : UInt8) (e0 e1 e2 e3 : UInt8), ([10, 0, 0, 1] : List UInt8)[j]? = some x ∧ (([10, 0, 0, 1] : List UInt8).set j (x ^^^ y)) = [e0, e1, e2, e3] ∧ ((#[.int .u8 10, .int .u8 0, .int .u8 0, .int .u8 1] : Array Value).setIfInBounds j (.int .u8 ((x ^^^ y).toNat : Int))) = #[.int .u8 (e0.toNat : Int), .int .u8 (e1.toNat : Int), .int .u8 (e2.toNat : Int), .int .u8 (e3.toNat : Int)] ∧ (#[.int .u8 10, .int .u8 0, .int .u8 0, .int .u8 1] : Array Value)[j]? = some (.int .u8 (x.toNat : Int)) := by
  match j, hj with
  | 0, _ => exact ⟨10, 10 ^^^ y, 0, 0, 1, rfl, rfl, rfl, rfl⟩
  | 1, _ => exact ⟨0, 10, 0 ^^^ y, 0, 1, rfl, rfl, rfl, rfl⟩
  | 2, _ => exact ⟨0, 10, 0, 0 ^^^ y, 1, rfl, rfl, rfl, rfl⟩
  | 3, _ => exact ⟨1, 10, 0, 0, 1 ^^^ y, rfl, rfl, rfl, rfl⟩

set_option maxRecDepth 100000 in
set_option maxHeartbeats 4000000 in
theorem turned9_main (w : World) (sp dp sq ak : Nat) (fl : UInt8) (wn ms : Nat) (A : Option Addr) (n c : Nat) (l : List UInt8) (at_ : Int) (by_ : UInt8) (hb : sp ≤ 65535 ∧ dp ≤ 65535 ∧ sq < 4294967296 ∧ ak < 4294967296 ∧ wn ≤ 65535 ∧ ms ≤ 65535) (hA : Rd w 0 A n l) (h4 : ¬ 156 < n) (h0 : by_ ≠ 0) :
    Calls Try.prog 6 #[.agg #[.int .u16 (sp : Int), .int .u16 (dp : Int), .int .u32 (sq : Int), .int .u32 (ak : Int), .int .u8 (fl.toNat : Int), .int .u16 (wn : Int), .int .u16 (ms : Int), .slice A n c], .int .i64 at_, .int .u8 (by_.toNat : Int)] w fun e w' => e = .returned (.bool true) ∧ Kp w w' := by
  obtain ⟨f1, f2, f3, f4, f6, f7⟩ := hb
  have HL := Lib.hid hA.len
  have hK0 : Kp w (w.alloc (.cells #[.int .u16 (sp : Int), .int .u16 (dp : Int), .int .u32 (sq : Int), .int .u32 (ak : Int), .int .u8 (fl.toNat : Int), .int .u16 (wn : Int), .int .u16 (ms : Int), .slice A n c] 26)) := (Kp.refl w).alloc _
  have HK0 := Lib.hid hK0
  have HA := Lib.hid (hA.keep hK0)
  have HRP : Hid (∀ W, Kp (w.alloc (.cells #[.int .u16 (sp : Int), .int .u16 (dp : Int), .int .u32 (sq : Int), .int .u32 (ak : Int), .int .u8 (fl.toNat : Int), .int .u16 (wn : Int), .int .u16 (ms : Int), .slice A n c] 26)) W → W.heap[w.heap.size]? = some (.cells #[.int .u16 (sp : Int), .int .u16 (dp : Int), .int .u32 (sq : Int), .int .u32 (ak : Int), .int .u8 (fl.toNat : Int), .int .u16 (wn : Int), .int .u16 (ms : Int), .slice A n c] 26 (0, 0))) := Lib.hid fun W hk => (hk.block _ (by simp)).trans (heap_alloc_new w _)
  have i1 : ¬ (156 : Int) < (n : Int) := by omega
  have hb0 : ((by_.toNat : Int) == 0) = false := by
    rw [beq_eq_false_iff_ne]
    intro e
    exact h0 (UInt8.toNat_inj.1 (by simpa using (by omega : by_.toNat = 0)))
  clear hA hK0
  go_enter Try.func6, Try.ntmps6
  go_wp2_with fail
  refine (lives9_any _).mono ?_
  rintro e w1 ⟨rfl, hk1⟩
  have HK1 := Lib.hid hk1
  have hsz1 := hk1.size
  have z7 : w1.cell? ⟨w.heap.size, 7, none⟩ = some (.slice A n c) := (cell_of_row w1 _ 7 _ _ _ (HRP.out _ hk1)).trans rfl
  have HK2 := Lib.hid ((hk1.alloc (.cells #[.int .u8 10, .int .u8 0, .int .u8 0, .int .u8 1] 28)).alloc (.cells #[.int .u8 10, .int .u8 0, .int .u8 0, .int .u8 2] 28))
  have ra := (Below.heap_alloc (w1.alloc (.cells #[.int .u8 10, .int .u8 0, .int .u8 0, .int .u8 1] 28)) (.cells #[.int .u8 10, .int .u8 0, .int .u8 0, .int .u8 2] 28) w1.heap.size (by simp)).trans (heap_alloc_new w1 (.cells #[.int .u8 10, .int .u8 0, .int .u8 0, .int .u8 1] 28))
  have rb := heap_alloc_new (w1.alloc (.cells #[.int .u8 10, .int .u8 0, .int .u8 0, .int .u8 1] 28)) (.cells #[.int .u8 10, .int .u8 0, .int .u8 0, .int .u8 2] 28)
  rw [show (w1.alloc (.cells #[.int .u8 10, .int .u8 0, .int .u8 0, .int .u8 1] 28)).heap.size = w1.heap.size + 1 by simp] at rb
  have KR : Hid (∀ W, Kp ((w1.alloc (.cells #[.int .u8 10, .int .u8 0, .int .u8 0, .int .u8 1] 28)).alloc (.cells #[.int .u8 10, .int .u8 0, .int .u8 0, .int .u8 2] 28)) W → W.heap[w1.heap.size]? = some (.cells #[.int .u8 10, .int .u8 0, .int .u8 0, .int .u8 1] 28 (0, 0)) ∧ W.heap[w1.heap.size + 1]? = some (.cells #[.int .u8 10, .int .u8 0, .int .u8 0, .int .u8 2] 28 (0, 0))) := Lib.hid fun W hk => ⟨(hk.block _ (Array.getElem?_eq_some_iff.1 ra).1).trans ra, (hk.block _ (Array.getElem?_eq_some_iff.1 rb).1).trans rb⟩
  have hs2 : ((w1.alloc (.cells #[.int .u8 10, .int .u8 0, .int .u8 0, .int .u8 1] 28)).alloc (.cells #[.int .u8 10, .int .u8 0, .int .u8 0, .int .u8 2] 28)).heap.size = w1.heap.size + 2 := by simp
  clear hk1 ra rb
  go_wp2_with (refine lld_row (by rfl) (.tmp 3) _ _ rfl rfl (HRP.out _ HK2.out) Try.underlying26 rfl szSeg ?_)
  generalize ((w1.alloc (.cells #[.int .u8 10, .int .u8 0, .int .u8 0, .int .u8 1] 28)).alloc (.cells #[.int .u8 10, .int .u8 0, .int .u8 0, .int .u8 2] 28)) = w2 at HK2 KR hs2 ⊢
  generalize hq7 : w1.heap.size = b7 at KR hs2 hsz1 ⊢
  clear hq7 z7
  by_cases hno : 156 < n ∨ Bad9 fl ms
  · obtain ⟨k, hk0, hB1, _⟩ := sbuild_no sp dp sq ak fl wn ms A n c 10 0 0 1 10 0 0 2 hno
    have hk0' : (k != 0) = true := by simpa using hk0
    refine (hB1 _).mono ?_
    rintro e w3 ⟨rfl, hk3⟩
    clear hB1
    go_wp2
    go_ret
    exact ⟨rfl, HK0.out.trans (HK2.out.trans hk3)⟩
  · obtain ⟨_, hnb⟩ : ¬ 156 < n ∧ ¬ Bad9 fl ms := ⟨fun h => hno (.inl h), fun h => hno (.inr h)⟩
    obtain ⟨f5, f8⟩ := sgood fl ms hnb
    have HB : Hid (out9 [10, 0, 0, 1] [10, 0, 0, 2] (sbytes9 [10, 0, 0, 1] [10, 0, 0, 2] sp dp sq ak fl wn ms l) = .inr ⟨sp, dp, sq, ak, fl, wn, ms, l⟩) := Lib.hid (out9_sbytes [10, 0, 0, 1] [10, 0, 0, 2] rfl rfl ⟨sp, dp, sq, ak, fl, wn, ms, l⟩ ⟨f1, f2, f3, f4, f5, f6, f7, f8⟩ (by show l.length ≤ 156; rw [HL.out]; omega))
    refine (b9_ok _ sp dp sq ak fl wn ms A n c l 10 0 0 1 10 0 0 2 f1 f2 f3 f4 f6 f7 f5 f8 (by omega) (HA.out.keep HK2.out)).mono ?_
    rintro e w3 ⟨hk3, g, cap, rfl, hown⟩
    have ho4 := opt9_le ms
    obtain ⟨N, hN⟩ : ∃ N, 20 + (opt9 ms).length + n = N := ⟨_, rfl⟩
    rw [hN] at hown ⊢
    have hN2 : N ≤ 200 := by omega
    have hN3 : 20 ≤ N := by omega
    obtain ⟨pb, hpb⟩ : ∃ pb, sbytes9 [10, 0, 0, 1] [10, 0, 0, 2] sp dp sq ak fl wn ms l = pb := ⟨_, rfl⟩
    have hown' : OwnV 5 w3 w2.heap.size g N cap (bvs pb) := by rw [← hpb]; exact hown
    rw [hpb] at HB
    have HK3 := Lib.hid hk3
    have HO : Hid (Rd w3 w2.heap.size (some ⟨g, 0, none⟩) N pb) := Lib.hid hown'.rd
    have HOS := Lib.hid hown'.slOk
    clear hk3 hown hown' hN ho4 hpb hno hnb f1 f2 f3 f4 f5 f6 f7 f8 HA HL
    obtain ⟨u, hu⟩ := mod_u64 at_
    obtain ⟨i, hi⟩ : ∃ i, u % N = i := ⟨_, rfl⟩
    have hiN : i < N := by rw [← hi]; exact Nat.mod_lt _ (by omega)
    have hu2 : (u : Int).tmod (N : Int) = (i : Int) := by rw [Int.tmod_eq_emod_of_nonneg (by omega), ← Int.natCast_emod, hi]
    obtain ⟨j, hj⟩ : ∃ j, u % 4 = j := ⟨_, rfl⟩
    have hj4 : j < 4 := by omega
    have hu3 : (u : Int).tmod 4 = (j : Int) := by rw [Int.tmod_eq_emod_of_nonneg (by omega)]; omega
    have hj4' : (j : Int) < 4 := by omega
    have hN64 := wrap_u64n N (by omega)
    have hN0 : ((N : Int) == 0) = false := by rw [beq_eq_false_iff_ne]; omega
    have hN0' : ¬ (N : Int) = 0 := by omega
    have hi3 : (i : Int) < (N : Int) := by omega
    clear hi hj
    have own0 : OwnV 5 (w3.alloc (.cells #[] 5)) w3.heap.size w3.heap.size 0 0 (bvs []) := OwnV.lit (vs := []) rfl (Nat.le_refl _) rfl (by decide)
    have hk30 : Kp w3 (w3.alloc (.cells #[] 5)) := (Kp.refl _).alloc _
    have HO0 := Lib.hid (HO.out.lo0.keep hk30)
    go_wp2_with (first
      | (at_builtin; refine app8 (by rfl) (.tmp 43) (.tmp 44) rfl rfl rfl own0 HO0.out N pb (by omega) rfl (by omega) hk30.size ?_; intro g1 cap1 w4 own1 gr1 at1; have hk34 := hk30.grown gr1 own0.lo_le; obtain ⟨x, hx, cx⟩ := own1.cell8 (k := i) hiN; have fz := own1.frozen i; have hxor := xor_u8 x by_; have HX := Lib.hid hx; have HK34 := Lib.hid hk34; have HOW := Lib.hid own1; clear gr1 at1 hx hk34 own1)
      | (refine lld_row (by rfl) (.tmp 7) _ _ rfl rfl (KR.out _ (HK3.out.trans (HK34.out.setCell (p := ⟨g1, i, none⟩) HOW.out.lo_le _))).1 Try.underlying28 rfl szIP ?_)
      | (refine lld_row (by rfl) (.tmp 8) _ _ rfl rfl (KR.out _ (HK3.out.trans (HK34.out.setCell (p := ⟨g1, i, none⟩) HOW.out.lo_le _))).2 Try.underlying28 rfl szIP ?_))
    have own2 := HOW.out.setb i (x ^^^ by_)
    have hk35 : Kp w3 (w4.setCell ⟨g1, i, none⟩ (.int .u8 ((x ^^^ by_).toNat : Int))) := HK34.out.setCell (p := ⟨g1, i, none⟩) HOW.out.lo_le _
    obtain ⟨k, hkn, hko⟩ := out9_turn _ _ _ rfl rfl _ HB.out i x (x ^^^ by_) HX.out (xor_ne x by_ h0)
    have HKO := Lib.hid hko
    have HK5 := Lib.hid (HK3.out.trans hk35)
    have HO5 := Lib.hid (HO.out.keep hk35)
    clear cx fz hxor own0 hk30 hko hk35
    refine (o9_any _ _ N cap1 _ 10 0 0 1 10 0 0 2 own2.rd0 own2.slOk (by omega)).mono ?_
    clear own2 HOW HK34
    have hko := HKO.out
    rintro e w6 (⟨k', hk0', hk', hk6, rfl⟩ | ⟨s', hs', _⟩)
    · have hk2' : (k' != 0) = true := by simpa using hk0'
      have HK6 := Lib.hid (HK5.out.trans hk6)
      have HO6 := Lib.hid ((HO5.out.keep hk6).keep ((Kp.refl w6).alloc (.cells #[.int .u16 0, .int .u16 0, .int .u32 0, .int .u32 0, .int .u8 0, .int .u16 0, .int .u16 0, .slice none 0 0] 26)))
      have HK7 := Lib.hid (HK6.out.alloc (.cells #[.int .u16 0, .int .u16 0, .int .u32 0, .int .u32 0, .int .u8 0, .int .u16 0, .int .u16 0, .slice none 0 0] 26))
      have hs6 := HK6.out.size
      obtain ⟨r7, r8⟩ := KR.out _ HK7.out
      obtain ⟨y, e0, e1, e2, e3, hy, hset, hcs, hcell⟩ := set_ips j hj4 by_
      have cj : (w6.alloc (.cells #[.int .u16 0, .int .u16 0, .int .u32 0, .int .u32 0, .int .u8 0, .int .u16 0, .int .u16 0, .slice none 0 0] 26)).cell? ⟨b7, j, none⟩ = some (.int .u8 (y.toNat : Int)) := (cell_of_row _ _ j _ _ _ r7).trans hcell
      have fj : (w6.alloc (.cells #[.int .u16 0, .int .u16 0, .int .u32 0, .int .u32 0, .int .u8 0, .int .u16 0, .int .u16 0, .slice none 0 0] 26)).frozen? ⟨b7, j, none⟩ = false := by simp only [World.frozen?, r7]; rfl
      have hxj := xor_u8 y by_
      have r7' := row_setCell r7 j (.int .u8 ((y ^^^ by_).toNat : Int))
      rw [hcs] at r7'
      have r8' := (Below.heap_setCell (w6.alloc (.cells #[.int .u16 0, .int .u16 0, .int .u32 0, .int .u32 0, .int .u8 0, .int .u16 0, .int .u16 0, .slice none 0 0] 26)) ⟨b7, j, none⟩ (.int .u8 ((y ^^^ by_).toNat : Int)) (b7 + 1) (by show b7 + 1 ≠ b7; omega)).trans r8
      have r12 := (Below.heap_setCell (w6.alloc (.cells #[.int .u16 0, .int .u16 0, .int .u32 0, .int .u32 0, .int .u8 0, .int .u16 0, .int .u16 0, .slice none 0 0] 26)) ⟨b7, j, none⟩ (.int .u8 ((y ^^^ by_).toNat : Int)) w6.heap.size (by show w6.heap.size ≠ b7; omega)).trans (heap_alloc_new w6 (.cells #[.int .u16 0, .int .u16 0, .int .u32 0, .int .u32 0, .int .u8 0, .int .u16 0, .int .u16 0, .slice none 0 0] 26))
      have HO8 := Lib.hid (HO6.out.setCell (a := ⟨b7, j, none⟩) (by show b7 < w2.heap.size; omega) (.int .u8 ((y ^^^ by_).toNat : Int)))
      have HK8 : Hid (Kp (w.alloc (.cells #[.int .u16 (sp : Int), .int .u16 (dp : Int), .int .u32 (sq : Int), .int .u32 (ak : Int), .int .u8 (fl.toNat : Int), .int .u16 (wn : Int), .int .u16 (ms : Int), .slice A n c] 26)) ((w6.alloc (.cells #[.int .u16 0, .int .u16 0, .int .u32 0, .int .u32 0, .int .u8 0, .int .u16 0, .int .u16 0, .slice none 0 0] 26)).setCell ⟨b7, j, none⟩ (.int .u8 ((y ^^^ by_).toNat : Int)))) := Lib.hid ((HK2.out.trans HK7.out).setCell (p := ⟨b7, j, none⟩) hsz1 _)
      have hko8 := out9_host _ _ _ rfl rfl _ HB.out j y (y ^^^ by_) hy (xor_ne y by_ h0)
      rw [hset] at hko8
      have HKO8 := Lib.hid hko8
      have R7 := Lib.hid r7'
      have R8 := Lib.hid r8'
      have R12 := Lib.hid r12
      clear r7 r8 r7' r8' r12 hko8 hcell hcs hset hy hk6 hk' hko HO6 HO5 HKO
      go_wp2_with (first | (refine lst_new (by rfl) (.tmp 12) (.tmp 64) _ rfl rfl rfl szSeg rfl rfl rfl ?_) | (refine lld_row (by rfl) (.tmp 7) _ _ rfl rfl R7.out Try.underlying28 rfl szIP ?_) | (refine lld_row (by rfl) (.tmp 8) _ _ rfl rfl R8.out Try.underlying28 rfl szIP ?_))
      simp only [← UInt8.toNat_xor]
      generalize (w6.alloc (.cells #[.int .u16 0, .int .u16 0, .int .u32 0, .int .u32 0, .int .u8 0, .int .u16 0, .int .u16 0, .slice none 0 0] 26)).setCell ⟨b7, j, none⟩ (.int .u8 ((y ^^^ by_).toNat : Int)) = w8 at R7 R8 R12 HO8 HK8 ⊢
      refine (o9_any _ _ N cap pb e0 e1 e2 e3 10 0 0 2 HO8.out.lo0 HOS.out (by omega)).mono ?_
      have hko8 := HKO8.out
      rintro e w9 (⟨k8, _, hk8, hk9, rfl⟩ | ⟨s', hs', _⟩)
      · rw [hko8] at hk8
        cases hk8
        have HK9 := Lib.hid ((HK8.out.trans hk9).alloc (.cells #[.int .u16 0, .int .u16 0, .int .u32 0, .int .u32 0, .int .u8 0, .int .u16 0, .int .u16 0, .slice none 0 0] 26))
        have ra := (hk9.block _ (Array.getElem?_eq_some_iff.1 R12.out).1).trans R12.out
        have rb := (Below.heap_alloc w9 (.cells #[.int .u16 0, .int .u16 0, .int .u32 0, .int .u32 0, .int .u8 0, .int .u16 0, .int .u16 0, .slice none 0 0] 26) _ (Array.getElem?_eq_some_iff.1 ra).1).trans ra
        have RB := Lib.hid rb
        clear ra rb hk9 cj fj hxj
        go_wp2_with (first | (refine lst_new (by rfl) (.tmp 14) (.tmp 80) _ rfl rfl rfl szSeg rfl rfl rfl ?_) | (refine lld_row (by rfl) (.tmp 12) _ _ rfl rfl RB.out Try.underlying26 rfl szSeg ?_))
        refine (same9_any _ ⟨0, 0, 0, 0, 0, 0, 0, []⟩ ⟨0, 0, 0, 0, 0, 0, 0, []⟩ none 0 0 none 0 0 (Rd.none_ _ 0) (Rd.none_ _ 0)).mono ?_
        rintro e wa ⟨rfl, hka⟩
        rw [sameS_self]
        have RC := Lib.hid ((hka.block _ (Array.getElem?_eq_some_iff.1 (heap_alloc_new w9 (.cells #[.int .u16 0, .int .u16 0, .int .u32 0, .int .u32 0, .int .u8 0, .int .u16 0, .int .u16 0, .slice none 0 0] 26))).1).trans (heap_alloc_new w9 (.cells #[.int .u16 0, .int .u16 0, .int .u32 0, .int .u32 0, .int .u8 0, .int .u16 0, .int .u16 0, .slice none 0 0] 26)))
        have HKA := Lib.hid (HK9.out.trans hka)
        clear hka
        go_wp2_with (first | (refine lld_row (by rfl) (.tmp 14) _ _ rfl rfl RC.out Try.underlying26 rfl szSeg ?_))
        refine (same9_any _ ⟨0, 0, 0, 0, 0, 0, 0, []⟩ ⟨0, 0, 0, 0, 0, 0, 0, []⟩ none 0 0 none 0 0 (Rd.none_ _ 0) (Rd.none_ _ 0)).mono ?_
        rintro e wb ⟨rfl, hkb⟩
        rw [sameS_self]
        go_wp2
        go_ret
        exact ⟨rfl, HK0.out.trans (HKA.out.trans hkb)⟩
      · rw [hko8] at hs'; cases hs'
    · rw [hko] at hs'; cases hs'

set_option maxRecDepth 100000 in
set_option maxHeartbeats 4000000 in
theorem turned9_walk (w : World) (sp dp sq ak : Nat) (fl : UInt8) (wn ms : Nat) (A : Option Addr) (n c : Nat) (l : List UInt8) (at_ : Int) (by_ : UInt8) (hb : sp ≤ 65535 ∧ dp ≤ 65535 ∧ sq < 4294967296 ∧ ak < 4294967296 ∧ wn ≤ 65535 ∧ ms ≤ 65535) (hA : Rd w 0 A n l) (_hok : SlOk A n c) :
    Calls Try.prog 6 #[.agg #[.int .u16 (sp : Int), .int .u16 (dp : Int), .int .u32 (sq : Int), .int .u32 (ak : Int), .int .u8 (fl.toNat : Int), .int .u16 (wn : Int), .int .u16 (ms : Int), .slice A n c], .int .i64 at_, .int .u8 (by_.toNat : Int)] w fun e w' => e = .returned (.bool true) ∧ Kp w w' := by
  by_cases hA' : ¬ 156 < n ∧ by_ ≠ 0
  · exact turned9_main w sp dp sq ak fl wn ms A n c l at_ by_ hb hA hA'.1 hA'.2
  have hK0 : Kp w (w.alloc (.cells #[.int .u16 (sp : Int), .int .u16 (dp : Int), .int .u32 (sq : Int), .int .u32 (ak : Int), .int .u8 (fl.toNat : Int), .int .u16 (wn : Int), .int .u16 (ms : Int), .slice A n c] 26)) := (Kp.refl w).alloc _
  have HK0 := Lib.hid hK0
  have HRP : Hid (∀ W, Kp (w.alloc (.cells #[.int .u16 (sp : Int), .int .u16 (dp : Int), .int .u32 (sq : Int), .int .u32 (ak : Int), .int .u8 (fl.toNat : Int), .int .u16 (wn : Int), .int .u16 (ms : Int), .slice A n c] 26)) W → W.heap[w.heap.size]? = some (.cells #[.int .u16 (sp : Int), .int .u16 (dp : Int), .int .u32 (sq : Int), .int .u32 (ak : Int), .int .u8 (fl.toNat : Int), .int .u16 (wn : Int), .int .u16 (ms : Int), .slice A n c] 26 (0, 0))) := Lib.hid fun W hk => (hk.block _ (by simp)).trans (heap_alloc_new w _)
  clear hK0 hA
  by_cases h : 156 < n
  · go_enter Try.func6, Try.ntmps6
    go_wp2_with (first | (go_at_call 19; refine (lives9_any _).mono ?_; rintro e w1 ⟨rfl, hk⟩; try have hcell : w1.cell? ⟨w.heap.size, 7, none⟩ = some (.slice A n c) := (cell_of_row w1 _ 7 _ _ _ (HRP.out _ hk)).trans rfl))
    all_goals go_ret
    all_goals exact ⟨rfl, (HK0.out.trans (by assumption)).trans hk⟩
  obtain rfl : by_ = 0 := Decidable.byContradiction fun h0 => hA' ⟨h, h0⟩
  clear hA'
  go_enter Try.func6, Try.ntmps6
  go_wp2_with (first | (go_at_call 19; refine (lives9_any _).mono ?_; rintro e w1 ⟨rfl, hk⟩; try have hcell : w1.cell? ⟨w.heap.size, 7, none⟩ = some (.slice A n c) := (cell_of_row w1 _ 7 _ _ _ (HRP.out _ hk)).trans rfl))
  all_goals go_ret
  all_goals exact ⟨rfl, (HK0.out.trans (by assumption)).trans hk⟩
end Go.Proofs.Ytnoobifdaldfiaa
