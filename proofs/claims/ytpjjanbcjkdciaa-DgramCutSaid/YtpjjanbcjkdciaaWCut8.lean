/-
  The walk of DgramCut: it returns true and leaves what was there as it was.
-/
import Derived.Test.YtpjjanbcjkdciaaG8
import Derived.Test.YtpjjanbcjkdciaaStableR
namespace Go.Proofs.Ytpjjanbcjkdciaa
open Go.RowKit

noncomputable def cutphi (b4' : Nat) (a0 a1 a2 a3 b0 b1 b2 b3 : UInt8) (at_ : Int) (u ix N g cap : Nat) : Nat → StR Keep.kp := fun i => ([StR.val (.pointer (some ⟨b4', 0, none⟩)),
  StR.val (.agg #[.int .u8 (a0.toNat : Int), .int .u8 (a1.toNat : Int), .int .u8 (a2.toNat : Int), .int .u8 (a3.toNat : Int)]),
  StR.val (.pointer (some ⟨b4', 4, none⟩)),
  StR.val (.agg #[.int .u8 (b0.toNat : Int), .int .u8 (b1.toNat : Int), .int .u8 (b2.toNat : Int), .int .u8 (b3.toNat : Int)]),
  StR.val (.slice (some ⟨g, 0, none⟩) N cap),
  StR.val (.int .i64 at_),
  StR.val (.int .u64 (u : Int)),
  StR.val (.slice (some ⟨g, 0, none⟩) N cap),
  StR.val (.int .i64 (N : Int)),
  StR.val (.int .u64 (N : Int)),
  StR.val (.int .u64 (ix : Int)),
  StR.val (.int .i64 (ix : Int)),
  StR.val (.slice (some ⟨g, 0, none⟩) ix cap),
  StR.val (.tuple #[.nilIface, .int .i64 6]),
  StR.val (.tuple #[.nilIface, .int .i64 6]),
  StR.val (.nilIface),
  StR.val (.int .i64 6),
  StR.val (.nilIface),
  StR.val (.int .i64 6)] : List (StR Keep.kp)).getD i StR.any

set_option maxRecDepth 100000 in
set_option maxHeartbeats 4000000 in
theorem cut8_main (w : World) (sp dp : Nat) (A : Option Addr) (n c : Nat) (l : List UInt8) (a0 a1 a2 a3 b0 b1 b2 b3 : UInt8) (at_ : Int) (hb : sp ≤ 65535 ∧ dp ≤ 65535) (hA : Rd w 0 A n l) (h4 : ¬ 992 < n) :
    Calls Try.prog 8 #[.agg #[.int .u16 (sp : Int), .int .u16 (dp : Int), .slice A n c], .agg #[.int .u8 (a0.toNat : Int), .int .u8 (a1.toNat : Int), .int .u8 (a2.toNat : Int), .int .u8 (a3.toNat : Int), .int .u8 (b0.toNat : Int), .int .u8 (b1.toNat : Int), .int .u8 (b2.toNat : Int), .int .u8 (b3.toNat : Int)], .int .i64 at_] w fun e w' => e = .returned (.bool true) ∧ Kp w w' := by
  obtain ⟨f1, f2⟩ := hb
  have HL := Lib.hid hA.len
  have hK0 : Kp w ((w.alloc (.cells #[.int .u16 (sp : Int), .int .u16 (dp : Int), .slice A n c] 43)).alloc (.cells #[.int .u8 (a0.toNat : Int), .int .u8 (a1.toNat : Int), .int .u8 (a2.toNat : Int), .int .u8 (a3.toNat : Int), .int .u8 (b0.toNat : Int), .int .u8 (b1.toNat : Int), .int .u8 (b2.toNat : Int), .int .u8 (b3.toNat : Int)] 29)) := ((Kp.refl w).alloc _).alloc _
  have HK0 := Lib.hid hK0
  have HA := Lib.hid (hA.keep hK0)
  have KE := Lib.hid (cellsBG w sp dp A n c a0 a1 a2 a3 b0 b1 b2 b3)
  have HRP := Lib.hid (rowBG w sp dp A n c a0 a1 a2 a3 b0 b1 b2 b3)
  have i1 : ¬ (992 : Int) < (n : Int) := by omega
  clear hA hK0
  go_enter Try.func8, Try.ntmps8
  go_wp2_with fail
  refine (lives8_any _).mono ?_
  rintro e w1 ⟨rfl, hk1⟩
  have HK1 := Lib.hid hk1
  clear hk1
  have z7 : w1.cell? ⟨w.heap.size, 2, none⟩ = some (.slice A n c) := (cell_of_row w1 _ 2 _ _ _ (HRP.out _ HK1.out)).trans rfl
  obtain ⟨⟨x0, x1, x2, x3⟩, ⟨y0, y1, y2, y3⟩⟩ := KE.out _ HK1.out
  go_wp2_with (refine lld_row (by rfl) (.tmp 3) _ _ rfl rfl (HRP.out _ HK1.out) Try.underlying43 rfl szGram ?_)
  clear x0 x1 x2 x3 y0 y1 y2 y3 z7
  have HB0 := Lib.hid (gbytes_right [a0, a1, a2, a3] [b0, b1, b2, b3] rfl rfl sp dp l f1 f2 (by rw [HL.out]; omega))
  have hgl := gbytes_len [a0, a1, a2, a3] [b0, b1, b2, b3] sp dp l
  rw [HL.out] at hgl
  refine (b8g_ok _ sp dp A n c l a0 a1 a2 a3 b0 b1 b2 b3 f1 f2 (by omega) (HA.out.keep HK1.out)).mono ?_
  rintro e w2 ⟨hk2, g, cap, rfl, hown⟩
  obtain ⟨N, hN⟩ : ∃ N, 8 + n = N := ⟨_, rfl⟩
  rw [hN] at hown hgl ⊢
  have hN2 : N ≤ 1000 := by omega
  have hN3 : 8 ≤ N := by omega
  obtain ⟨pb, hpb⟩ : ∃ pb, gbytes [a0, a1, a2, a3] [b0, b1, b2, b3] sp dp l = pb := ⟨_, rfl⟩
  have hown' : OwnV 5 w2 w1.heap.size g N cap (bvs pb) := by rw [← hpb]; exact hown
  have HB : Hid (GRight [a0, a1, a2, a3] [b0, b1, b2, b3] sp dp l pb) := Lib.hid (by rw [← hpb]; exact HB0.out)
  rw [hpb] at hgl
  have HK2 := Lib.hid (HK1.out.trans hk2)
  have HO : Hid (Rd w2 0 (some ⟨g, 0, none⟩) N pb) := Lib.hid hown'.rd0
  have HOS := Lib.hid hown'.slOk
  have HGL := Lib.hid hgl
  have hcmp : ((N : Int) != 8 + (n : Int)) = false := by rw [bne_eq_false_iff_eq]; omega
  clear hk2 hown hown' hpb HB0 hgl
  obtain ⟨u, hu⟩ := mod_u64 at_
  obtain ⟨ix, hi⟩ : ∃ ix, u % N = ix := ⟨_, rfl⟩
  have hiN : ix < N := by rw [← hi]; exact Nat.mod_lt _ (by omega)
  have hu2 : (u : Int).tmod (N : Int) = (ix : Int) := by rw [Int.tmod_eq_emod_of_nonneg (by omega), ← Int.natCast_emod, hi]
  have hN64 := wrap_u64n N (by omega)
  have hN0 : ((N : Int) == 0) = false := by rw [beq_eq_false_iff_ne]; omega
  have hN0' : ¬ (N : Int) = 0 := by omega
  have hN0n : ¬ N = 0 := by omega
  have hi3 : (ix : Int) < (N : Int) := by omega
  have v1 : IntKind.i64.wrap (ix : Int) = (ix : Int) := by rw [IntKind.wrap_i64]; omega
  have hn8 : n ≤ 992 := by omega
  have nN : N ≤ 8 + n ∧ 8 + n ≤ N := by omega
  clear hi hN
  obtain ⟨i8, hi8, hs8⟩ := infoU
  have hHI := cut_hi (P := Try.prog) (kd := .i64) (m := ix) Try.underlying23 hi8 hs8 HO.out HOS.out (by omega)
  have SL : Hid (∀ W : World, (Instr.slice 23 (.slice (some ⟨g, 0, none⟩) N cap) none (some (.int .i64 (ix : Int))) none).run Try.prog W = .ok (.slice (some ⟨g, 0, none⟩) ix cap) W) := Lib.hid hHI.1
  have OP : Hid (∀ W, Kp w2 W → Calls Try.prog 13 #[.int .u8 17, .agg #[.int .u8 (a0.toNat : Int), .int .u8 (a1.toNat : Int), .int .u8 (a2.toNat : Int), .int .u8 (a3.toNat : Int)], .agg #[.int .u8 (b0.toNat : Int), .int .u8 (b1.toNat : Int), .int .u8 (b2.toNat : Int), .int .u8 (b3.toNat : Int)], .slice (some ⟨g, 0, none⟩) ix cap] W fun e w' => e = .returned (.tuple #[.nilIface, .int .i64 6]) ∧ Kp W w') := Lib.hid fun W hk => by
    refine (o8_g W a0 a1 a2 a3 b0 b1 b2 b3 _ ix cap _ (hHI.2.1.keep hk) hHI.2.2 (by omega)).mono ?_
    have hcut := outG_cut HB.out ix (by rw [HGL.out]; omega)
    rintro e w' (⟨k, _, hk', hkk, rfl⟩ | ⟨_, _, _, hs', _⟩)
    · rw [hcut] at hk'
      cases hk'
      exact ⟨rfl, hkk⟩
    · rw [hcut] at hs'; cases hs'
  obtain ⟨b4', hb4⟩ : ∃ b, w.heap.size + 1 = b := ⟨_, rfl⟩
  have KCA : Hid (∀ W, Kp w2 W → _) := Lib.hid fun W hk => KE.out W (HK2.out.trans hk)
  have KC := KCA.out
  have z7 : w2.cell? ⟨w.heap.size, 2, none⟩ = some (.slice A n c) := (cell_of_row w2 _ 2 _ _ _ (HRP.out _ HK2.out)).trans rfl
  rw [hb4] at KC
  have HK00 := Lib.hid (HK0.out.trans HK2.out)
  have KCH := Lib.hid KC
  clear hHI hi8 hs8 KC KCA HK0 HK2 HRP KE HO HOS HB
  go_wp2_with fail
  clear z7 hcmp
  have KC := KCH.out
  refine wp_region_stepsR (by kernel_rfl) 19 (cutphi b4' a0 a1 a2 a3 b0 b1 b2 b3 at_ u ix N g cap) [42, 43, 44, 45, 46, 47, 48, 49, 50, 51, 52, 53, 54, 55, 41, 56, 57, 9, 10] (by kernel_rfl) (by kernel_rfl) ⟨?_, ?_, ?_, ?_, ?_, ?_, ?_, ?_, ?_, ?_, ?_, ?_, ?_, ?_, ?_, ?_, ?_, ?_, ?_, trivial⟩ ?_
  · refine stepR_free rfl ?_
    intro a W hW hO hφ K hK
    have q4 : a.tmps.getD 4 undef = (.pointer (some ⟨b4', 0, none⟩)) := hO 4 (by kernel_rfl)
    have r4 := q4
    rw [Array.getD_eq_getD_getElem?] at r4
    clear hO hφ
    clear KC OP
    go_simp
    exact hK _ _ (Kp.refl _) rfl
  · refine stepR_free rfl ?_
    intro a W hW hO hφ K hK
    have q42 : a.tmps.getD 42 undef = (.pointer (some ⟨b4', 0, none⟩)) := hφ ⟨0, .data⟩ (by simp) rfl
    have r42 := q42
    rw [Array.getD_eq_getD_getElem?] at r42
    clear hO hφ
    obtain ⟨⟨x0, x1, x2, x3⟩, ⟨y0, y1, y2, y3⟩⟩ := KC W (Kp.trans ((Kp.refl _).drew) hW)
    clear KC OP
    go_simp
    exact hK _ _ (Kp.refl _) rfl
  · refine stepR_free rfl ?_
    intro a W hW hO hφ K hK
    have q4 : a.tmps.getD 4 undef = (.pointer (some ⟨b4', 0, none⟩)) := hO 4 (by kernel_rfl)
    have r4 := q4
    rw [Array.getD_eq_getD_getElem?] at r4
    clear hO hφ
    clear KC OP
    go_simp
    exact hK _ _ (Kp.refl _) rfl
  · refine stepR_free rfl ?_
    intro a W hW hO hφ K hK
    have q44 : a.tmps.getD 44 undef = (.pointer (some ⟨b4', 4, none⟩)) := hφ ⟨2, .data⟩ (by simp) rfl
    have r44 := q44
    rw [Array.getD_eq_getD_getElem?] at r44
    clear hO hφ
    obtain ⟨⟨x0, x1, x2, x3⟩, ⟨y0, y1, y2, y3⟩⟩ := KC W (Kp.trans ((Kp.refl _).drew) hW)
    clear KC OP
    go_simp
    exact hK _ _ (Kp.refl _) rfl
  · refine stepR_free rfl ?_
    intro a W hW hO hφ K hK
    have q7 : a.tmps.getD 7 undef = (.slice (some ⟨g, 0, none⟩) N cap) := hO 7 (by kernel_rfl)
    have r7 := q7
    rw [Array.getD_eq_getD_getElem?] at r7
    clear hO hφ
    clear KC OP
    go_simp
    exact hK _ _ (Kp.refl _) rfl
  · refine stepR_free rfl ?_
    intro a W hW hO hφ K hK
    have q2 : a.tmps.getD 2 undef = (.int .i64 at_) := hO 2 (by kernel_rfl)
    have r2 := q2
    rw [Array.getD_eq_getD_getElem?] at r2
    clear hO hφ
    clear KC OP
    go_simp
    exact hK _ _ (Kp.refl _) rfl
  · refine stepR_free rfl ?_
    intro a W hW hO hφ K hK
    have q47 : a.tmps.getD 47 undef = (.int .i64 at_) := hφ ⟨5, .data⟩ (by simp) rfl
    have r47 := q47
    rw [Array.getD_eq_getD_getElem?] at r47
    clear hO hφ
    clear KC OP
    go_simp
    exact hK _ _ (Kp.refl _) rfl
  · refine stepR_free rfl ?_
    intro a W hW hO hφ K hK
    have q7 : a.tmps.getD 7 undef = (.slice (some ⟨g, 0, none⟩) N cap) := hO 7 (by kernel_rfl)
    have r7 := q7
    rw [Array.getD_eq_getD_getElem?] at r7
    clear hO hφ
    clear KC OP
    go_simp
    exact hK _ _ (Kp.refl _) rfl
  · refine stepR_free rfl ?_
    intro a W hW hO hφ K hK
    have q49 : a.tmps.getD 49 undef = (.slice (some ⟨g, 0, none⟩) N cap) := hφ ⟨7, .data⟩ (by simp) rfl
    have r49 := q49
    rw [Array.getD_eq_getD_getElem?] at r49
    clear hO hφ
    clear KC OP
    go_simp
    exact hK _ _ (Kp.refl _) rfl
  · refine stepR_free rfl ?_
    intro a W hW hO hφ K hK
    have q50 : a.tmps.getD 50 undef = (.int .i64 (N : Int)) := hφ ⟨8, .data⟩ (by simp) rfl
    have r50 := q50
    rw [Array.getD_eq_getD_getElem?] at r50
    clear hO hφ
    clear KC OP
    go_simp
    exact hK _ _ (Kp.refl _) rfl
  · refine stepR_free rfl ?_
    intro a W hW hO hφ K hK
    have q48 : a.tmps.getD 48 undef = (.int .u64 (u : Int)) := hφ ⟨6, .data⟩ (by simp) rfl
    have q51 : a.tmps.getD 51 undef = (.int .u64 (N : Int)) := hφ ⟨9, .data⟩ (by simp) rfl
    have r48 := q48
    rw [Array.getD_eq_getD_getElem?] at r48
    have r51 := q51
    rw [Array.getD_eq_getD_getElem?] at r51
    clear hO hφ
    clear KC OP
    go_simp
    exact hK _ _ (Kp.refl _) rfl
  · refine stepR_free rfl ?_
    intro a W hW hO hφ K hK
    have q52 : a.tmps.getD 52 undef = (.int .u64 (ix : Int)) := hφ ⟨10, .data⟩ (by simp) rfl
    have r52 := q52
    rw [Array.getD_eq_getD_getElem?] at r52
    clear hO hφ
    clear KC OP
    go_simp
    exact hK _ _ (Kp.refl _) rfl
  · refine stepR_free rfl ?_
    intro a W hW hO hφ K hK
    have q46 : a.tmps.getD 46 undef = (.slice (some ⟨g, 0, none⟩) N cap) := hφ ⟨4, .data⟩ (by simp) rfl
    have q53 : a.tmps.getD 53 undef = (.int .i64 (ix : Int)) := hφ ⟨11, .data⟩ (by simp) rfl
    have r46 := q46
    rw [Array.getD_eq_getD_getElem?] at r46
    have r53 := q53
    rw [Array.getD_eq_getD_getElem?] at r53
    clear hO hφ
    have tt := SL.out W
    clear KC OP
    go_simp
    exact hK _ _ (Kp.refl _) rfl
  · refine stepR_free rfl ?_
    intro a W hW hO hφ K hK
    have q43 : a.tmps.getD 43 undef = (.agg #[.int .u8 (a0.toNat : Int), .int .u8 (a1.toNat : Int), .int .u8 (a2.toNat : Int), .int .u8 (a3.toNat : Int)]) := hφ ⟨1, .data⟩ (by simp) rfl
    have q45 : a.tmps.getD 45 undef = (.agg #[.int .u8 (b0.toNat : Int), .int .u8 (b1.toNat : Int), .int .u8 (b2.toNat : Int), .int .u8 (b3.toNat : Int)]) := hφ ⟨3, .data⟩ (by simp) rfl
    have q54 : a.tmps.getD 54 undef = (.slice (some ⟨g, 0, none⟩) ix cap) := hφ ⟨12, .data⟩ (by simp) rfl
    have r43 := q43
    rw [Array.getD_eq_getD_getElem?] at r43
    have r45 := q45
    rw [Array.getD_eq_getD_getElem?] at r45
    have r54 := q54
    rw [Array.getD_eq_getD_getElem?] at r54
    clear hO hφ
    clear KC
    go_simp
    go_at_call 13
    refine (OP.out W (Kp.trans ((Kp.refl _).drew) hW)).mono ?_
    rintro e w' ⟨rfl, hk⟩
    exact hK _ _ hk rfl
  · refine stepR_free rfl ?_
    intro a W hW hO hφ K hK
    have q55 : a.tmps.getD 55 undef = (.tuple #[.nilIface, .int .i64 6]) := hφ ⟨13, .data⟩ (by simp) rfl
    have r55 := q55
    rw [Array.getD_eq_getD_getElem?] at r55
    clear hO hφ
    clear KC OP
    go_simp
    exact hK _ _ (Kp.refl _) rfl
  · refine stepR_free rfl ?_
    intro a W hW hO hφ K hK
    have q41 : a.tmps.getD 41 undef = (.tuple #[.nilIface, .int .i64 6]) := hφ ⟨14, .data⟩ (by simp) rfl
    have r41 := q41
    rw [Array.getD_eq_getD_getElem?] at r41
    clear hO hφ
    clear KC OP
    go_simp
    exact hK _ _ (Kp.refl _) rfl
  · refine stepR_free rfl ?_
    intro a W hW hO hφ K hK
    have q41 : a.tmps.getD 41 undef = (.tuple #[.nilIface, .int .i64 6]) := hφ ⟨14, .data⟩ (by simp) rfl
    have r41 := q41
    rw [Array.getD_eq_getD_getElem?] at r41
    clear hO hφ
    clear KC OP
    go_simp
    exact hK _ _ (Kp.refl _) rfl
  · refine stepR_free rfl ?_
    intro a W hW hO hφ K hK
    have q56 : a.tmps.getD 56 undef = (.nilIface) := hφ ⟨15, .data⟩ (by simp) rfl
    have r56 := q56
    rw [Array.getD_eq_getD_getElem?] at r56
    clear hO hφ
    clear KC OP
    go_simp
    exact hK _ _ (Kp.refl _) rfl
  · refine stepR_free rfl ?_
    intro a W hW hO hφ K hK
    have q57 : a.tmps.getD 57 undef = (.int .i64 6) := hφ ⟨16, .data⟩ (by simp) rfl
    have r57 := q57
    rw [Array.getD_eq_getD_getElem?] at r57
    clear hO hφ
    clear KC OP
    go_simp
    exact hK _ _ (Kp.refl _) rfl
  intro f W hW hφ
  have v0 : f 0 = (.pointer (some ⟨b4', 0, none⟩)) := hφ 0 (by omega)
  have v1 : f 1 = (.agg #[.int .u8 (a0.toNat : Int), .int .u8 (a1.toNat : Int), .int .u8 (a2.toNat : Int), .int .u8 (a3.toNat : Int)]) := hφ 1 (by omega)
  have v2 : f 2 = (.pointer (some ⟨b4', 4, none⟩)) := hφ 2 (by omega)
  have v3 : f 3 = (.agg #[.int .u8 (b0.toNat : Int), .int .u8 (b1.toNat : Int), .int .u8 (b2.toNat : Int), .int .u8 (b3.toNat : Int)]) := hφ 3 (by omega)
  have v4 : f 4 = (.slice (some ⟨g, 0, none⟩) N cap) := hφ 4 (by omega)
  have v5 : f 5 = (.int .i64 at_) := hφ 5 (by omega)
  have v6 : f 6 = (.int .u64 (u : Int)) := hφ 6 (by omega)
  have v7 : f 7 = (.slice (some ⟨g, 0, none⟩) N cap) := hφ 7 (by omega)
  have v8 : f 8 = (.int .i64 (N : Int)) := hφ 8 (by omega)
  have v9 : f 9 = (.int .u64 (N : Int)) := hφ 9 (by omega)
  have v10 : f 10 = (.int .u64 (ix : Int)) := hφ 10 (by omega)
  have v11 : f 11 = (.int .i64 (ix : Int)) := hφ 11 (by omega)
  have v12 : f 12 = (.slice (some ⟨g, 0, none⟩) ix cap) := hφ 12 (by omega)
  have v13 : f 13 = (.tuple #[.nilIface, .int .i64 6]) := hφ 13 (by omega)
  have v14 : f 14 = (.tuple #[.nilIface, .int .i64 6]) := hφ 14 (by omega)
  have v15 : f 15 = (.nilIface) := hφ 15 (by omega)
  have v16 : f 16 = (.int .i64 6) := hφ 16 (by omega)
  have v17 : f 17 = (.nilIface) := hφ 17 (by omega)
  have v18 : f 18 = (.int .i64 6) := hφ 18 (by omega)
  clear hφ
  simp only [putAll, List.setIfInBounds_toArray, List.set_cons_succ, List.set_cons_zero, v0, v1, v2, v3, v4, v5, v6, v7, v8, v9, v10, v11, v12, v13, v14, v15, v16, v17, v18]
  clear v0 v1 v2 v3 v4 v5 v6 v7 v8 v9 v10 v11 v12 v13 v14 v15 v16 v17 v18
  refine wpAny_done (by kernel_rfl) ?_ _
  have hkA : Kp w2 W := Kp.trans ((Kp.refl _).drew) hW
  clear hW KC OP
  go_wp2
  go_ret
  exact ⟨rfl, HK00.out.trans hkA⟩

set_option maxRecDepth 100000 in
set_option maxHeartbeats 4000000 in
theorem cut8_walk (w : World) (sp dp : Nat) (A : Option Addr) (n c : Nat) (l : List UInt8) (a0 a1 a2 a3 b0 b1 b2 b3 : UInt8) (at_ : Int) (hb : sp ≤ 65535 ∧ dp ≤ 65535) (hA : Rd w 0 A n l) (_hok : SlOk A n c) :
    Calls Try.prog 8 #[.agg #[.int .u16 (sp : Int), .int .u16 (dp : Int), .slice A n c], .agg #[.int .u8 (a0.toNat : Int), .int .u8 (a1.toNat : Int), .int .u8 (a2.toNat : Int), .int .u8 (a3.toNat : Int), .int .u8 (b0.toNat : Int), .int .u8 (b1.toNat : Int), .int .u8 (b2.toNat : Int), .int .u8 (b3.toNat : Int)], .int .i64 at_] w fun e w' => e = .returned (.bool true) ∧ Kp w w' := by
  by_cases h : 992 < n
  · have hK0 : Kp w ((w.alloc (.cells #[.int .u16 (sp : Int), .int .u16 (dp : Int), .slice A n c] 43)).alloc (.cells #[.int .u8 (a0.toNat : Int), .int .u8 (a1.toNat : Int), .int .u8 (a2.toNat : Int), .int .u8 (a3.toNat : Int), .int .u8 (b0.toNat : Int), .int .u8 (b1.toNat : Int), .int .u8 (b2.toNat : Int), .int .u8 (b3.toNat : Int)] 29)) := ((Kp.refl w).alloc _).alloc _
    have HK0 := Lib.hid hK0
    have HRP := Lib.hid (rowBG w sp dp A n c a0 a1 a2 a3 b0 b1 b2 b3)
    clear hK0 hA
    go_enter Try.func8, Try.ntmps8
    go_wp2_with (first | (go_at_call 10; refine (lives8_any _).mono ?_; rintro e w1 ⟨rfl, hk⟩; try have hcell : w1.cell? ⟨w.heap.size, 2, none⟩ = some (.slice A n c) := (cell_of_row w1 _ 2 _ _ _ (HRP.out _ hk)).trans rfl))
    all_goals go_ret
    all_goals exact ⟨rfl, (HK0.out.trans (by assumption)).trans hk⟩
  · exact cut8_main w sp dp A n c l a0 a1 a2 a3 b0 b1 b2 b3 at_ hb hA h
end Go.Proofs.Ytpjjanbcjkdciaa
