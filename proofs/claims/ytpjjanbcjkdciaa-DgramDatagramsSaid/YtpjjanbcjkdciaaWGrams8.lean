/-
  The walk of DgramDatagrams: it returns true and leaves what was there as it was.
-/
import Derived.Test.YtpjjanbcjkdciaaG8
import Derived.Test.YtpjjanbcjkdciaaStableR
import Derived.Test.YtpjjanbcjkdciaaAppR
import Derived.Test.YtpjjanbcjkdciaaD8d
namespace Go.Proofs.Ytpjjanbcjkdciaa
open Go.RowKit

noncomputable def gramphi (b4' : Nat) (a0 a1 a2 a3 b0 b1 b2 b3 : UInt8) (B : Option Addr) (m k N g cap M lo : Nat) (pb pm : List UInt8) : Nat → StR (KApp lo N M pb pm) := fun i => ([StR.val (.pointer (some ⟨b4', 0, none⟩)),
  StR.val (.agg #[.int .u8 (a0.toNat : Int), .int .u8 (a1.toNat : Int), .int .u8 (a2.toNat : Int), .int .u8 (a3.toNat : Int)]),
  StR.val (.pointer (some ⟨b4', 4, none⟩)),
  StR.val (.agg #[.int .u8 (b0.toNat : Int), .int .u8 (b1.toNat : Int), .int .u8 (b2.toNat : Int), .int .u8 (b3.toNat : Int)]),
  StR.nil8,
  StR.val (.slice (some ⟨g, 0, none⟩) N cap),
  StR.own8 N pb,
  StR.val (.slice B m k),
  StR.own8b M pm] : List (StR (KApp lo N M pb pm))).getD i StR.any
noncomputable def gramphi0 (b4' : Nat) (a0 a1 a2 a3 b0 b1 b2 b3 : UInt8) (N g cap M lo : Nat) (pb pm : List UInt8) : Nat → StR (KApp lo N M pb pm) := fun i => ([StR.val (.pointer (some ⟨b4', 0, none⟩)),
  StR.val (.agg #[.int .u8 (a0.toNat : Int), .int .u8 (a1.toNat : Int), .int .u8 (a2.toNat : Int), .int .u8 (a3.toNat : Int)]),
  StR.val (.pointer (some ⟨b4', 4, none⟩)),
  StR.val (.agg #[.int .u8 (b0.toNat : Int), .int .u8 (b1.toNat : Int), .int .u8 (b2.toNat : Int), .int .u8 (b3.toNat : Int)]),
  StR.nil8,
  StR.val (.slice (some ⟨g, 0, none⟩) N cap),
  StR.own8 N pb,
  StR.val (.slice none 0 0),
  StR.own8b M pm] : List (StR (KApp lo N M pb pm))).getD i StR.any

set_option maxRecDepth 100000 in
set_option maxHeartbeats 8000000 in
theorem grams8_main (w : World) (sp dp : Nat) (A : Option Addr) (n c : Nat) (l : List UInt8) (a0 a1 a2 a3 b0 b1 b2 b3 : UInt8) (B : Option Addr) (m k : Nat) (lm : List UInt8) (hb : sp ≤ 65535 ∧ dp ≤ 65535) (hA : Rd w 0 A n l) (hM : Rd w 0 B m lm) (h4 : ¬ 1500 < n) (h5 : ¬ 50 < m) :
    Calls Try.prog 4 #[.agg #[.int .u16 (sp : Int), .int .u16 (dp : Int), .slice A n c], .agg #[.int .u8 (a0.toNat : Int), .int .u8 (a1.toNat : Int), .int .u8 (a2.toNat : Int), .int .u8 (a3.toNat : Int), .int .u8 (b0.toNat : Int), .int .u8 (b1.toNat : Int), .int .u8 (b2.toNat : Int), .int .u8 (b3.toNat : Int)], .slice B m k] w fun e w' => e = .returned (.bool true) ∧ Kp w w' := by
  obtain ⟨f1, f2⟩ := hb
  have HL := Lib.hid hA.len
  have hK0 : Kp w ((w.alloc (.cells #[.int .u16 (sp : Int), .int .u16 (dp : Int), .slice A n c] 43)).alloc (.cells #[.int .u8 (a0.toNat : Int), .int .u8 (a1.toNat : Int), .int .u8 (a2.toNat : Int), .int .u8 (a3.toNat : Int), .int .u8 (b0.toNat : Int), .int .u8 (b1.toNat : Int), .int .u8 (b2.toNat : Int), .int .u8 (b3.toNat : Int)] 29)) := ((Kp.refl w).alloc _).alloc _
  have HK0 := Lib.hid hK0
  have HA := Lib.hid (hA.keep hK0)
  have HMR := Lib.hid (hM.keep hK0)
  have KE := Lib.hid (cellsBG w sp dp A n c a0 a1 a2 a3 b0 b1 b2 b3)
  have HRP := Lib.hid (rowBG w sp dp A n c a0 a1 a2 a3 b0 b1 b2 b3)
  have i1 : ¬ (1500 : Int) < (n : Int) := by omega
  have i2 : ¬ (50 : Int) < (m : Int) := by omega
  clear hA hM hK0
  go_enter Try.func4, Try.ntmps4
  go_wp2_with fail
  refine (lives8_any _).mono ?_
  rintro e w1 ⟨rfl, hk1⟩
  have HK1 := Lib.hid hk1
  clear hk1
  have z7 : w1.cell? ⟨w.heap.size, 2, none⟩ = some (.slice A n c) := (cell_of_row w1 _ 2 _ _ _ (HRP.out _ HK1.out)).trans rfl
  obtain ⟨⟨x0, x1, x2, x3⟩, ⟨y0, y1, y2, y3⟩⟩ := KE.out _ HK1.out
  go_wp2_with (refine lld_row (by rfl) (.tmp 3) _ _ rfl rfl (HRP.out _ HK1.out) Try.underlying43 rfl szGram ?_)
  clear x0 x1 x2 x3 y0 y1 y2 y3 z7
  by_cases hno : 992 < n
  · refine (b8g_long _ sp dp A n c a0 a1 a2 a3 b0 b1 b2 b3 hno (by omega)).mono ?_
    rintro e w2 ⟨rfl, hk2⟩
    have HK2 := Lib.hid (HK1.out.trans hk2)
    clear hk2
    obtain ⟨⟨x0, x1, x2, x3⟩, ⟨y0, y1, y2, y3⟩⟩ := KE.out _ HK2.out
    go_wp2_with (refine lld_row (by rfl) (.tmp 3) _ _ rfl rfl (HRP.out _ HK2.out) Try.underlying43 rfl szGram ?_)
    clear x0 x1 x2 x3 y0 y1 y2 y3
    refine (r8g_long _ sp dp A n c a0 a1 a2 a3 b0 b1 b2 b3 hno (by omega)).mono ?_
    rintro e w3 ⟨rfl, hk3⟩
    have HK3 := Lib.hid (HK2.out.trans hk3)
    clear hk3
    have cv := conv_str (P := Try.prog) (c := 0) Try.underlying23 Try.underlying5 Try.underlying9 (Rd.none_ w3 0)
    go_wp2
    go_ret
    exact ⟨rfl, HK0.out.trans HK3.out⟩
  have HB0 := Lib.hid (gbytes_right [a0, a1, a2, a3] [b0, b1, b2, b3] rfl rfl sp dp l f1 f2 (by rw [HL.out]; omega))
  refine (b8g_ok _ sp dp A n c l a0 a1 a2 a3 b0 b1 b2 b3 f1 f2 (by omega) (HA.out.keep HK1.out)).mono ?_
  rintro e w2 ⟨hk2, g, cap, rfl, hown⟩
  obtain ⟨N, hN⟩ : ∃ N, 8 + n = N := ⟨_, rfl⟩
  rw [hN] at hown ⊢
  have hN2 : N ≤ 1000 := by omega
  have hN3 : 8 ≤ N := by omega
  have HK2 := Lib.hid (HK1.out.trans hk2)
  have HO := Lib.hid hown.rd0
  clear hk2 hown hN
  obtain ⟨⟨x0, x1, x2, x3⟩, ⟨y0, y1, y2, y3⟩⟩ := KE.out _ HK2.out
  go_wp2_with (refine lld_row (by rfl) (.tmp 3) _ _ rfl rfl (HRP.out _ HK2.out) Try.underlying43 rfl szGram ?_)
  clear x0 x1 x2 x3 y0 y1 y2 y3
  refine (r8g_ok _ sp dp A n c l a0 a1 a2 a3 b0 b1 b2 b3 f1 f2 (by omega) (HA.out.keep HK2.out)).mono ?_
  rintro e w3 ⟨rfl, hk3⟩
  have HK3 := Lib.hid (HK2.out.trans hk3)
  have HO3 := Lib.hid (HO.out.keep hk3)
  clear hk3 HO
  obtain ⟨pb, hpb⟩ : ∃ pb, gbytes [a0, a1, a2, a3] [b0, b1, b2, b3] sp dp l = pb := ⟨_, rfl⟩
  have HB2 : Hid (GRight [a0, a1, a2, a3] [b0, b1, b2, b3] sp dp l pb) := Lib.hid (by rw [← hpb]; exact HB0.out)
  rw [hpb] at HO3 ⊢
  clear hpb HB0
  have hplen : pb.length = N := HO3.out.len
  have HPL := Lib.hid hplen
  clear hplen
  obtain ⟨b4', hb4⟩ : ∃ b, w.heap.size + 1 = b := ⟨_, rfl⟩
  have KCA : Hid (∀ W, Kp w3 W → _) := Lib.hid fun W hk => KE.out W (HK3.out.trans hk)
  have KC0 := KCA.out
  rw [hb4] at KC0
  have KCH := Lib.hid KC0
  have HRW : Hid (∀ W, Kp w3 W → _) := Lib.hid fun W hk => HRP.out W (HK3.out.trans hk)
  have RBH : Hid (∀ W, Kp w3 W → Rd W 0 (some ⟨g, 0, none⟩) N pb) := Lib.hid fun W hk => HO3.out.keep hk
  have RMH : Hid (∀ W, Kp w3 W → Rd W 0 B m lm) := Lib.hid fun W hk => HMR.out.keep (HK3.out.trans hk)
  have HA3 := Lib.hid (HA.out.keep HK3.out)
  have HK00 := Lib.hid (HK0.out.trans HK3.out)
  obtain ⟨lo, hlo⟩ : ∃ lo, w3.heap.size = lo := ⟨_, rfl⟩
  have hsz3 : lo ≤ w3.heap.size ∧ w3.heap.size ≤ lo := by omega
  have cv := conv_str (P := Try.prog) (c := cap) Try.underlying23 Try.underlying5 Try.underlying9 HO3.out
  clear KC0 KCA KE HRP HO3 HMR HA HK0 HK1 HK2 HK3 hlo
  by_cases hbig : 1000 < N + m
  · have hbig' : (1000 : Int) < (N : Int) + (m : Int) := by omega
    go_wp2_with fail
    clear hbig' cv
    obtain ⟨M, hM⟩ : ∃ M, N + 0 = M := ⟨_, rfl⟩
    have hM2 : M ≤ 1000 := by omega
    obtain ⟨pm, hpm⟩ : ∃ pm, pb ++ ([] : List UInt8) = pm := ⟨_, rfl⟩
    have HM := Lib.hid hM
    have HPM := Lib.hid hpm
    have hB : outG [a0, a1, a2, a3] [b0, b1, b2, b3] pm = .inr (sp, dp, l) := by rw [← hpm]; exact outG_right HB2.out ([] : List UInt8)
    have HBB := Lib.hid hB
    clear hM hpm hB
    have KC := KCH.out
    have RB := RBH.out
    have RM : ∀ W, Kp w3 W → Rd W 0 none 0 ([] : List UInt8) := fun W _ => Rd.none_ W 0
    refine wp_region_stepsR (by kernel_rfl) 9 (gramphi0 b4' a0 a1 a2 a3 b0 b1 b2 b3  N g cap M lo pb pm) [64, 65, 66, 67, 68, 69, 70, 71, 72] (by kernel_rfl) (by kernel_rfl) ⟨?_, ?_, ?_, ?_, ?_, ?_, ?_, ?_, ?_, trivial⟩ ?_
    · refine stepR_free rfl ?_
      intro a W hW hO hφ K hK
      have q4 : a.tmps.getD 4 undef = (.pointer (some ⟨b4', 0, none⟩)) := hO 4 (by kernel_rfl)
      have r4 := q4
      rw [Array.getD_eq_getD_getElem?] at r4
      clear hO hφ
      clear KC RB RM
      go_simp
      exact hK _ _ (Keep.refl _ _) rfl
    · refine stepR_free rfl ?_
      intro a W hW hO hφ K hK
      have q64 : a.tmps.getD 64 undef = (.pointer (some ⟨b4', 0, none⟩)) := hφ ⟨0, .data⟩ (by simp) rfl
      have r64 := q64
      rw [Array.getD_eq_getD_getElem?] at r64
      clear hO hφ
      obtain ⟨⟨x0, x1, x2, x3⟩, ⟨y0, y1, y2, y3⟩⟩ := KC W (kapp_kp hsz3 hW.1)
      clear KC RB RM
      go_simp
      exact hK _ _ (Keep.refl _ _) rfl
    · refine stepR_free rfl ?_
      intro a W hW hO hφ K hK
      have q4 : a.tmps.getD 4 undef = (.pointer (some ⟨b4', 0, none⟩)) := hO 4 (by kernel_rfl)
      have r4 := q4
      rw [Array.getD_eq_getD_getElem?] at r4
      clear hO hφ
      clear KC RB RM
      go_simp
      exact hK _ _ (Keep.refl _ _) rfl
    · refine stepR_free rfl ?_
      intro a W hW hO hφ K hK
      have q66 : a.tmps.getD 66 undef = (.pointer (some ⟨b4', 4, none⟩)) := hφ ⟨2, .data⟩ (by simp) rfl
      have r66 := q66
      rw [Array.getD_eq_getD_getElem?] at r66
      clear hO hφ
      obtain ⟨⟨x0, x1, x2, x3⟩, ⟨y0, y1, y2, y3⟩⟩ := KC W (kapp_kp hsz3 hW.1)
      clear KC RB RM
      go_simp
      exact hK _ _ (Keep.refl _ _) rfl
    · refine stepR_free rfl ?_
      intro a W hW hO hφ K hK
      clear hO hφ
      have hz := hW.1.size
      clear KC RB RM
      go_simp
      exact hK _ _ (kapp_of ((Kp.refl _).alloc _) (Nat.le_trans hsz3.1 hz)) ⟨_, rfl⟩
    · refine stepR_free rfl ?_
      intro a W hW hO hφ K hK
      have q7 : a.tmps.getD 7 undef = (.slice (some ⟨g, 0, none⟩) N cap) := hO 7 (by kernel_rfl)
      have r7 := q7
      rw [Array.getD_eq_getD_getElem?] at r7
      clear hO hφ
      clear KC RB RM
      go_simp
      exact hK _ _ (Keep.refl _ _) rfl
    · refine stepR_free rfl ?_
      intro a W hW hO hφ K hK
      have q68 : (StR.nil8).p (a.tmps.getD 68 undef) W := hφ ⟨4, .data⟩ (by simp) rfl
      have q69 : a.tmps.getD 69 undef = (.slice (some ⟨g, 0, none⟩) N cap) := hφ ⟨5, .data⟩ (by simp) rfl
      have r69 := q69
      rw [Array.getD_eq_getD_getElem?] at r69
      clear hO hφ
      have hz := hW.1.size
      have hrb := RB W (kapp_kp hsz3 hW.1)
      clear KC RB RM
      obtain ⟨gq, q68'⟩ := q68
      have r68 := q68'
      rw [Array.getD_eq_getD_getElem?] at r68
      refine oapp_fresh (.tmp 68) (.tmp 69) rfl (by simpa [Act.eval] using r68) (by simpa [Act.eval] using r69) hrb (by omega) (by omega) ?_
      intro cap' w' hown hk'
      exact hK _ _ (kapp_of hk' (Nat.le_trans hsz3.1 hz)) ⟨_, _, rfl, OwnV.lower hown (Nat.le_trans hsz3.1 hz)⟩
    · refine stepR_free rfl ?_
      intro a W hW hO hφ K hK
      have q2 : a.tmps.getD 2 undef = (.slice none 0 0) := hO 2 (by kernel_rfl)
      have r2 := q2
      rw [Array.getD_eq_getD_getElem?] at r2
      clear hO hφ
      clear KC RB RM
      go_simp
      exact hK _ _ (Keep.refl _ _) rfl
    · refine stepR_free rfl ?_
      intro a W hW hO hφ K hK
      have q70 : (StR.own8 N pb).p (a.tmps.getD 70 undef) W := hφ ⟨6, .data⟩ (by simp) rfl
      have q71 : a.tmps.getD 71 undef = (.slice none 0 0) := hφ ⟨7, .data⟩ (by simp) rfl
      have r71 := q71
      rw [Array.getD_eq_getD_getElem?] at r71
      clear hO hφ
      have hz := hW.1.size
      have hrm := RM W (kapp_kp hsz3 hW.1)
      clear KC RB RM
      obtain ⟨gq, cq, q70', hown⟩ := q70
      have r70 := q70'
      rw [Array.getD_eq_getD_getElem?] at r70
      refine oapp_keep (.tmp 70) (.tmp 71) rfl (by simpa [Act.eval] using r70) (by simpa [Act.eval] using r71) hown hrm HM.out HPM.out (by omega) (by omega) (Nat.le_trans hsz3.1 hz) ?_
      intro g' cap' w' hown' hR
      exact hK _ _ hR ⟨_, _, rfl, hown'⟩
    intro f W hW hφ
    have v0 : f 0 = (.pointer (some ⟨b4', 0, none⟩)) := hφ 0 (by omega)
    have v1 : f 1 = (.agg #[.int .u8 (a0.toNat : Int), .int .u8 (a1.toNat : Int), .int .u8 (a2.toNat : Int), .int .u8 (a3.toNat : Int)]) := hφ 1 (by omega)
    have v2 : f 2 = (.pointer (some ⟨b4', 4, none⟩)) := hφ 2 (by omega)
    have v3 : f 3 = (.agg #[.int .u8 (b0.toNat : Int), .int .u8 (b1.toNat : Int), .int .u8 (b2.toNat : Int), .int .u8 (b3.toNat : Int)]) := hφ 3 (by omega)
    have v4 : (StR.nil8).p (f 4) W := hφ 4 (by omega)
    have v5 : f 5 = (.slice (some ⟨g, 0, none⟩) N cap) := hφ 5 (by omega)
    have v6 : (StR.own8 N pb).p (f 6) W := hφ 6 (by omega)
    have v7 : f 7 = (.slice none 0 0) := hφ 7 (by omega)
    have v8 : (StR.own8b M pm).p (f 8) W := hφ 8 (by omega)
    clear hφ
    simp only [putAll, List.setIfInBounds_toArray, List.set_cons_succ, List.set_cons_zero, v0, v1, v2, v3, v5, v7]
    clear v0 v1 v2 v3 v5 v7
    obtain ⟨g6, cap6, hv6, own6⟩ := v6
    obtain ⟨g8, cap8, hv8, own8⟩ := v8
    have hkA : Kp w3 W := kapp_kp hsz3 hW.1
    have HKA := Lib.hid hkA
    have hsv8 := own8.slOk
    simp only [hv8]
    clear hW KC RB RM hv6 own6 hv8
    refine wpAny_ready (rs := [9]) (by kernel_rfl) (by simp) (AllReady.cons rfl (fun K' hK' => ?_) AllReady.nil)
    split
    case isFalse hx => exact (hx rfl).elim
    go_simp
    go_at_call 13
    refine (o8_g W a0 a1 a2 a3 b0 b1 b2 b3 _ M cap8 pm own8.rd0 hsv8 (by omega)).mono ?_
    rintro e w5 (⟨k', _, hk', _⟩ | ⟨sp', dp', data', hs', _, _, _, hk5, A5, c5, rfl, hr5, _⟩)
    · rw [HBB.out] at hk'; cases hk'
    rw [HBB.out] at hs'
    injection hs' with hs'
    injection hs' with h1 hs'
    injection hs' with h2 h3
    subst h1 h2 h3
    refine hK' _ _ ?_
    have HK5 := Lib.hid (HKA.out.trans hk5)
    have HR5 := Lib.hid hr5.lo0
    clear hk5 hr5 hK' own8 hsv8 HKA
    refine wpAny_take (i := 10) (v := .tuple #[.iface 43 (.agg #[.int .u16 (sp : Int), .int .u16 (dp : Int), .slice A5 l.length c5]), .int .i64 0]) rfl (by kernel_rfl) (by kernel_rfl) (by kernel_rfl) (fun _ _ _ h => h) (Or.inl ⟨by rfl, ?_⟩) ?_
    · intro w; go_simp
    refine wpAny_take (i := 11) (v := .iface 43 (.agg #[.int .u16 (sp : Int), .int .u16 (dp : Int), .slice A5 l.length c5])) rfl (by kernel_rfl) (by kernel_rfl) (by kernel_rfl) (fun _ _ _ h => h) (Or.inl ⟨by rfl, ?_⟩) ?_
    · intro w; go_simp
    refine wpAny_take (i := 12) (v := .int .i64 0) rfl (by kernel_rfl) (by kernel_rfl) (by kernel_rfl) (fun _ _ _ h => h) (Or.inl ⟨by rfl, ?_⟩) ?_
    · intro w; go_simp
    refine wpAny_take (i := 13) (v := .iface 43 (.agg #[.int .u16 (sp : Int), .int .u16 (dp : Int), .slice A5 l.length c5])) rfl (by kernel_rfl) (by kernel_rfl) (by kernel_rfl) (fun _ _ _ h => h) (Or.inl ⟨by rfl, ?_⟩) ?_
    · intro w; go_simp
    refine wpAny_take (i := 14) (v := .int .i64 0) rfl (by kernel_rfl) (by kernel_rfl) (by kernel_rfl) (fun _ _ _ h => h) (Or.inl ⟨by rfl, ?_⟩) ?_
    · intro w; go_simp
    refine wpAny_done (by kernel_rfl) ?_ _
    go_wp2_with (refine lld_row (by rfl) (.tmp 3) _ _ rfl rfl (HRW.out _ HK5.out) Try.underlying43 rfl szGram ?_)
    refine (s8_gg _ sp dp A5 l.length c5 l sp dp A n c l HR5.out (HA3.out.keep HK5.out)).mono ?_
    rintro e w6 ⟨rfl, hk6⟩
    rw [sameG_self]
    go_wp2
    go_ret
    exact ⟨rfl, HK00.out.trans (HK5.out.trans hk6)⟩
  · have hbig' : ¬ (1000 : Int) < (N : Int) + (m : Int) := by omega
    go_wp2_with fail
    clear hbig' cv
    obtain ⟨M, hM⟩ : ∃ M, N + m = M := ⟨_, rfl⟩
    have hM2 : M ≤ 1000 := by omega
    obtain ⟨pm, hpm⟩ : ∃ pm, pb ++ lm = pm := ⟨_, rfl⟩
    have HM := Lib.hid hM
    have HPM := Lib.hid hpm
    have hB : outG [a0, a1, a2, a3] [b0, b1, b2, b3] pm = .inr (sp, dp, l) := by rw [← hpm]; exact outG_right HB2.out lm
    have HBB := Lib.hid hB
    clear hM hpm hB
    have KC := KCH.out
    have RB := RBH.out
    have RM : ∀ W, Kp w3 W → Rd W 0 B m lm := RMH.out
    refine wp_region_stepsR (by kernel_rfl) 9 (gramphi b4' a0 a1 a2 a3 b0 b1 b2 b3 B m k N g cap M lo pb pm) [64, 65, 66, 67, 68, 69, 70, 71, 72] (by kernel_rfl) (by kernel_rfl) ⟨?_, ?_, ?_, ?_, ?_, ?_, ?_, ?_, ?_, trivial⟩ ?_
    · refine stepR_free rfl ?_
      intro a W hW hO hφ K hK
      have q4 : a.tmps.getD 4 undef = (.pointer (some ⟨b4', 0, none⟩)) := hO 4 (by kernel_rfl)
      have r4 := q4
      rw [Array.getD_eq_getD_getElem?] at r4
      clear hO hφ
      clear KC RB RM
      go_simp
      exact hK _ _ (Keep.refl _ _) rfl
    · refine stepR_free rfl ?_
      intro a W hW hO hφ K hK
      have q64 : a.tmps.getD 64 undef = (.pointer (some ⟨b4', 0, none⟩)) := hφ ⟨0, .data⟩ (by simp) rfl
      have r64 := q64
      rw [Array.getD_eq_getD_getElem?] at r64
      clear hO hφ
      obtain ⟨⟨x0, x1, x2, x3⟩, ⟨y0, y1, y2, y3⟩⟩ := KC W (kapp_kp hsz3 hW.1)
      clear KC RB RM
      go_simp
      exact hK _ _ (Keep.refl _ _) rfl
    · refine stepR_free rfl ?_
      intro a W hW hO hφ K hK
      have q4 : a.tmps.getD 4 undef = (.pointer (some ⟨b4', 0, none⟩)) := hO 4 (by kernel_rfl)
      have r4 := q4
      rw [Array.getD_eq_getD_getElem?] at r4
      clear hO hφ
      clear KC RB RM
      go_simp
      exact hK _ _ (Keep.refl _ _) rfl
    · refine stepR_free rfl ?_
      intro a W hW hO hφ K hK
      have q66 : a.tmps.getD 66 undef = (.pointer (some ⟨b4', 4, none⟩)) := hφ ⟨2, .data⟩ (by simp) rfl
      have r66 := q66
      rw [Array.getD_eq_getD_getElem?] at r66
      clear hO hφ
      obtain ⟨⟨x0, x1, x2, x3⟩, ⟨y0, y1, y2, y3⟩⟩ := KC W (kapp_kp hsz3 hW.1)
      clear KC RB RM
      go_simp
      exact hK _ _ (Keep.refl _ _) rfl
    · refine stepR_free rfl ?_
      intro a W hW hO hφ K hK
      clear hO hφ
      have hz := hW.1.size
      clear KC RB RM
      go_simp
      exact hK _ _ (kapp_of ((Kp.refl _).alloc _) (Nat.le_trans hsz3.1 hz)) ⟨_, rfl⟩
    · refine stepR_free rfl ?_
      intro a W hW hO hφ K hK
      have q7 : a.tmps.getD 7 undef = (.slice (some ⟨g, 0, none⟩) N cap) := hO 7 (by kernel_rfl)
      have r7 := q7
      rw [Array.getD_eq_getD_getElem?] at r7
      clear hO hφ
      clear KC RB RM
      go_simp
      exact hK _ _ (Keep.refl _ _) rfl
    · refine stepR_free rfl ?_
      intro a W hW hO hφ K hK
      have q68 : (StR.nil8).p (a.tmps.getD 68 undef) W := hφ ⟨4, .data⟩ (by simp) rfl
      have q69 : a.tmps.getD 69 undef = (.slice (some ⟨g, 0, none⟩) N cap) := hφ ⟨5, .data⟩ (by simp) rfl
      have r69 := q69
      rw [Array.getD_eq_getD_getElem?] at r69
      clear hO hφ
      have hz := hW.1.size
      have hrb := RB W (kapp_kp hsz3 hW.1)
      clear KC RB RM
      obtain ⟨gq, q68'⟩ := q68
      have r68 := q68'
      rw [Array.getD_eq_getD_getElem?] at r68
      refine oapp_fresh (.tmp 68) (.tmp 69) rfl (by simpa [Act.eval] using r68) (by simpa [Act.eval] using r69) hrb (by omega) (by omega) ?_
      intro cap' w' hown hk'
      exact hK _ _ (kapp_of hk' (Nat.le_trans hsz3.1 hz)) ⟨_, _, rfl, OwnV.lower hown (Nat.le_trans hsz3.1 hz)⟩
    · refine stepR_free rfl ?_
      intro a W hW hO hφ K hK
      have q2 : a.tmps.getD 2 undef = (.slice B m k) := hO 2 (by kernel_rfl)
      have r2 := q2
      rw [Array.getD_eq_getD_getElem?] at r2
      clear hO hφ
      clear KC RB RM
      go_simp
      exact hK _ _ (Keep.refl _ _) rfl
    · refine stepR_free rfl ?_
      intro a W hW hO hφ K hK
      have q70 : (StR.own8 N pb).p (a.tmps.getD 70 undef) W := hφ ⟨6, .data⟩ (by simp) rfl
      have q71 : a.tmps.getD 71 undef = (.slice B m k) := hφ ⟨7, .data⟩ (by simp) rfl
      have r71 := q71
      rw [Array.getD_eq_getD_getElem?] at r71
      clear hO hφ
      have hz := hW.1.size
      have hrm := RM W (kapp_kp hsz3 hW.1)
      clear KC RB RM
      obtain ⟨gq, cq, q70', hown⟩ := q70
      have r70 := q70'
      rw [Array.getD_eq_getD_getElem?] at r70
      refine oapp_keep (.tmp 70) (.tmp 71) rfl (by simpa [Act.eval] using r70) (by simpa [Act.eval] using r71) hown hrm HM.out HPM.out (by omega) (by omega) (Nat.le_trans hsz3.1 hz) ?_
      intro g' cap' w' hown' hR
      exact hK _ _ hR ⟨_, _, rfl, hown'⟩
    intro f W hW hφ
    have v0 : f 0 = (.pointer (some ⟨b4', 0, none⟩)) := hφ 0 (by omega)
    have v1 : f 1 = (.agg #[.int .u8 (a0.toNat : Int), .int .u8 (a1.toNat : Int), .int .u8 (a2.toNat : Int), .int .u8 (a3.toNat : Int)]) := hφ 1 (by omega)
    have v2 : f 2 = (.pointer (some ⟨b4', 4, none⟩)) := hφ 2 (by omega)
    have v3 : f 3 = (.agg #[.int .u8 (b0.toNat : Int), .int .u8 (b1.toNat : Int), .int .u8 (b2.toNat : Int), .int .u8 (b3.toNat : Int)]) := hφ 3 (by omega)
    have v4 : (StR.nil8).p (f 4) W := hφ 4 (by omega)
    have v5 : f 5 = (.slice (some ⟨g, 0, none⟩) N cap) := hφ 5 (by omega)
    have v6 : (StR.own8 N pb).p (f 6) W := hφ 6 (by omega)
    have v7 : f 7 = (.slice B m k) := hφ 7 (by omega)
    have v8 : (StR.own8b M pm).p (f 8) W := hφ 8 (by omega)
    clear hφ
    simp only [putAll, List.setIfInBounds_toArray, List.set_cons_succ, List.set_cons_zero, v0, v1, v2, v3, v5, v7]
    clear v0 v1 v2 v3 v5 v7
    obtain ⟨g6, cap6, hv6, own6⟩ := v6
    obtain ⟨g8, cap8, hv8, own8⟩ := v8
    have hkA : Kp w3 W := kapp_kp hsz3 hW.1
    have HKA := Lib.hid hkA
    have hsv8 := own8.slOk
    simp only [hv8]
    clear hW KC RB RM hv6 own6 hv8
    refine wpAny_ready (rs := [9]) (by kernel_rfl) (by simp) (AllReady.cons rfl (fun K' hK' => ?_) AllReady.nil)
    split
    case isFalse hx => exact (hx rfl).elim
    go_simp
    go_at_call 13
    refine (o8_g W a0 a1 a2 a3 b0 b1 b2 b3 _ M cap8 pm own8.rd0 hsv8 (by omega)).mono ?_
    rintro e w5 (⟨k', _, hk', _⟩ | ⟨sp', dp', data', hs', _, _, _, hk5, A5, c5, rfl, hr5, _⟩)
    · rw [HBB.out] at hk'; cases hk'
    rw [HBB.out] at hs'
    injection hs' with hs'
    injection hs' with h1 hs'
    injection hs' with h2 h3
    subst h1 h2 h3
    refine hK' _ _ ?_
    have HK5 := Lib.hid (HKA.out.trans hk5)
    have HR5 := Lib.hid hr5.lo0
    clear hk5 hr5 hK' own8 hsv8 HKA
    refine wpAny_take (i := 10) (v := .tuple #[.iface 43 (.agg #[.int .u16 (sp : Int), .int .u16 (dp : Int), .slice A5 l.length c5]), .int .i64 0]) rfl (by kernel_rfl) (by kernel_rfl) (by kernel_rfl) (fun _ _ _ h => h) (Or.inl ⟨by rfl, ?_⟩) ?_
    · intro w; go_simp
    refine wpAny_take (i := 11) (v := .iface 43 (.agg #[.int .u16 (sp : Int), .int .u16 (dp : Int), .slice A5 l.length c5])) rfl (by kernel_rfl) (by kernel_rfl) (by kernel_rfl) (fun _ _ _ h => h) (Or.inl ⟨by rfl, ?_⟩) ?_
    · intro w; go_simp
    refine wpAny_take (i := 12) (v := .int .i64 0) rfl (by kernel_rfl) (by kernel_rfl) (by kernel_rfl) (fun _ _ _ h => h) (Or.inl ⟨by rfl, ?_⟩) ?_
    · intro w; go_simp
    refine wpAny_take (i := 13) (v := .iface 43 (.agg #[.int .u16 (sp : Int), .int .u16 (dp : Int), .slice A5 l.length c5])) rfl (by kernel_rfl) (by kernel_rfl) (by kernel_rfl) (fun _ _ _ h => h) (Or.inl ⟨by rfl, ?_⟩) ?_
    · intro w; go_simp
    refine wpAny_take (i := 14) (v := .int .i64 0) rfl (by kernel_rfl) (by kernel_rfl) (by kernel_rfl) (fun _ _ _ h => h) (Or.inl ⟨by rfl, ?_⟩) ?_
    · intro w; go_simp
    refine wpAny_done (by kernel_rfl) ?_ _
    go_wp2_with (refine lld_row (by rfl) (.tmp 3) _ _ rfl rfl (HRW.out _ HK5.out) Try.underlying43 rfl szGram ?_)
    refine (s8_gg _ sp dp A5 l.length c5 l sp dp A n c l HR5.out (HA3.out.keep HK5.out)).mono ?_
    rintro e w6 ⟨rfl, hk6⟩
    rw [sameG_self]
    go_wp2
    go_ret
    exact ⟨rfl, HK00.out.trans (HK5.out.trans hk6)⟩

set_option maxRecDepth 100000 in
set_option maxHeartbeats 4000000 in
theorem grams8_walk (w : World) (sp dp : Nat) (A : Option Addr) (n c : Nat) (l : List UInt8) (a0 a1 a2 a3 b0 b1 b2 b3 : UInt8) (B : Option Addr) (m k : Nat) (lm : List UInt8) (hb : sp ≤ 65535 ∧ dp ≤ 65535) (hA : Rd w 0 A n l) (_hok : SlOk A n c) (hM : Rd w 0 B m lm) (_hok2 : SlOk B m k) (_hm : m ≤ 140737488351232) :
    Calls Try.prog 4 #[.agg #[.int .u16 (sp : Int), .int .u16 (dp : Int), .slice A n c], .agg #[.int .u8 (a0.toNat : Int), .int .u8 (a1.toNat : Int), .int .u8 (a2.toNat : Int), .int .u8 (a3.toNat : Int), .int .u8 (b0.toNat : Int), .int .u8 (b1.toNat : Int), .int .u8 (b2.toNat : Int), .int .u8 (b3.toNat : Int)], .slice B m k] w fun e w' => e = .returned (.bool true) ∧ Kp w w' := by
  by_cases hall : ¬ 1500 < n ∧ ¬ 50 < m
  · exact grams8_main w sp dp A n c l a0 a1 a2 a3 b0 b1 b2 b3 B m k lm hb hA hM hall.1 hall.2
  have hK0 : Kp w ((w.alloc (.cells #[.int .u16 (sp : Int), .int .u16 (dp : Int), .slice A n c] 43)).alloc (.cells #[.int .u8 (a0.toNat : Int), .int .u8 (a1.toNat : Int), .int .u8 (a2.toNat : Int), .int .u8 (a3.toNat : Int), .int .u8 (b0.toNat : Int), .int .u8 (b1.toNat : Int), .int .u8 (b2.toNat : Int), .int .u8 (b3.toNat : Int)] 29)) := ((Kp.refl w).alloc _).alloc _
  have HK0 := Lib.hid hK0
  have HRP := Lib.hid (rowBG w sp dp A n c a0 a1 a2 a3 b0 b1 b2 b3)
  have hcase : 1500 < n ∨ (¬ 1500 < n ∧ 50 < m) := by omega
  clear hK0 hA hM hall
  rcases hcase with i1 | ⟨i1, i2⟩
  all_goals
    go_enter Try.func4, Try.ntmps4
    go_wp2_with (first | (go_at_call 10; refine (lives8_any _).mono ?_; rintro e w1 ⟨rfl, hk⟩; try have hcell : w1.cell? ⟨w.heap.size, 2, none⟩ = some (.slice A n c) := (cell_of_row w1 _ 2 _ _ _ (HRP.out _ hk)).trans rfl))
    all_goals go_ret
    all_goals exact ⟨rfl, (HK0.out.trans (by assumption)).trans hk⟩
end Go.Proofs.Ytpjjanbcjkdciaa
