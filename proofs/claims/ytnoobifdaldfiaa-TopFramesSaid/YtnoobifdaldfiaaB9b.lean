/-
  The contract of segment.Build where it builds: the segment's bytes in own memory.
-/
import Derived.Test.YtnoobifdaldfiaaB9
namespace Go.Proofs.Ytnoobifdaldfiaa
open Go.RowKit
set_option maxRecDepth 100000

set_option maxRecDepth 100000 in
set_option maxHeartbeats 4000000 in
theorem b9_ok (w : World) (sp dp sq ak : Nat) (fl : UInt8) (wn ms : Nat) (A : Option Addr) (n c : Nat) (l : List UInt8) (s0 s1 s2 s3 d0 d1 d2 d3 : UInt8) (hsp : sp ≤ 65535) (hdp : dp ≤ 65535) (hsq : sq < 4294967296) (hak : ak < 4294967296) (hwn : wn ≤ 65535) (hms : ms ≤ 65535) (hfl : fl.toNat ≤ 31) (hmf : ms ≠ 0 → fl.toNat / 2 % 2 = 1) (hn : n ≤ 156) (hA : Rd w 0 A n l) :
    Calls Try.prog 10 #[.agg #[.int .u16 (sp : Int), .int .u16 (dp : Int), .int .u32 (sq : Int), .int .u32 (ak : Int), .int .u8 (fl.toNat : Int), .int .u16 (wn : Int), .int .u16 (ms : Int), .slice A n c], .agg #[.int .u8 (s0.toNat : Int), .int .u8 (s1.toNat : Int), .int .u8 (s2.toNat : Int), .int .u8 (s3.toNat : Int)], .agg #[.int .u8 (d0.toNat : Int), .int .u8 (d1.toNat : Int), .int .u8 (d2.toNat : Int), .int .u8 (d3.toNat : Int)]] w (B9Post w (sbytes9 [s0, s1, s2, s3] [d0, d1, d2, d3] sp dp sq ak fl wn ms l) (20 + (opt9 ms).length + n)) := by
  have hll := hA.len
  have KB : Kp w (((w.alloc (.cells #[.int .u16 (sp : Int), .int .u16 (dp : Int), .int .u32 (sq : Int), .int .u32 (ak : Int), .int .u8 (fl.toNat : Int), .int .u16 (wn : Int), .int .u16 (ms : Int), .slice A n c] 26)).alloc (.cells #[.int .u8 (s0.toNat : Int), .int .u8 (s1.toNat : Int), .int .u8 (s2.toNat : Int), .int .u8 (s3.toNat : Int)] 28)).alloc (.cells #[.int .u8 (d0.toNat : Int), .int .u8 (d1.toNat : Int), .int .u8 (d2.toNat : Int), .int .u8 (d3.toNat : Int)] 28)) := (((Kp.refl w).alloc _).alloc _).alloc _
  have HA := Lib.hid (hA.keep KB)
  have HKB := Lib.hid KB
  have KS := Lib.hid (cells9 w sp dp sq ak fl wn ms A n c s0 s1 s2 s3 d0 d1 d2 d3)
  have hs0 : (((w.alloc (.cells #[.int .u16 (sp : Int), .int .u16 (dp : Int), .int .u32 (sq : Int), .int .u32 (ak : Int), .int .u8 (fl.toNat : Int), .int .u16 (wn : Int), .int .u16 (ms : Int), .slice A n c] 26)).alloc (.cells #[.int .u8 (s0.toNat : Int), .int .u8 (s1.toNat : Int), .int .u8 (s2.toNat : Int), .int .u8 (s3.toNat : Int)] 28)).alloc (.cells #[.int .u8 (d0.toNat : Int), .int .u8 (d1.toNat : Int), .int .u8 (d2.toNat : Int), .int .u8 (d3.toNat : Int)] 28)).heap.size = w.heap.size + 1 + 1 + 1 := by simp
  have hs1 : w.heap.size ≤ (((w.alloc (.cells #[.int .u16 (sp : Int), .int .u16 (dp : Int), .int .u32 (sq : Int), .int .u32 (ak : Int), .int .u8 (fl.toNat : Int), .int .u16 (wn : Int), .int .u16 (ms : Int), .slice A n c] 26)).alloc (.cells #[.int .u8 (s0.toNat : Int), .int .u8 (s1.toNat : Int), .int .u8 (s2.toNat : Int), .int .u8 (s3.toNat : Int)] 28)).alloc (.cells #[.int .u8 (d0.toNat : Int), .int .u8 (d1.toNat : Int), .int .u8 (d2.toNat : Int), .int .u8 (d3.toNat : Int)] 28)).heap.size := by rw [hs0]; omega
  clear hA KB
  have i1 : ¬ (156 : Int) < (n : Int) := by omega
  have i2 : ¬ (31 : Int) < (fl.toNat : Int) := by omega
  have hpb : ∃ L F O S N wd, hdr9 sp dp sq ak wd fl wn = F ∧ words9 ms = wd ∧ opt9 ms = O ∧ F.length = 16 ∧ F ++ [0, 0, 0, 0] ++ O ++ l = L ∧ 20 + O.length + n = N ∧ N ≤ 200 ∧
      65535 - Ck.ck (pseudo [s0, s1, s2, s3] [d0, d1, d2, d3] 6 N ++ L) = S ∧ sbytes9 [s0, s1, s2, s3] [d0, d1, d2, d3] sp dp sq ak fl wn ms l = F ++ (UInt8.ofNat (S / 256) :: UInt8.ofNat S :: ([0, 0] ++ O ++ l)) := by
    refine ⟨_, _, _, _, _, _, rfl, rfl, rfl, rfl, rfl, rfl, ?_, rfl, ?_⟩
    · unfold opt9; split <;> simp [wd2] <;> omega
    · unfold sbytes9 bytes9 sum9
      rw [hll]
      simp [wd2]
  obtain ⟨L, F, O, S, N, wd, hF, hwd, hO, hF16, hL, hN, hN2, hS, hpb⟩ := hpb
  have hck := Ck.ck_le (pseudo [s0, s1, s2, s3] [d0, d1, d2, d3] 6 N ++ L)
  have hS2 : S ≤ 65535 := by omega
  have hL2 : L = F ++ (0 :: 0 :: ([0, 0] ++ O ++ l)) := by rw [← hL]; simp
  rw [hpb, hO, hN]
  have HL := Lib.hid hL
  have HL2 := Lib.hid hL2
  have HS := Lib.hid hS
  have HN := Lib.hid hN
  have e1 : (((w.alloc (.cells #[.int .u16 (sp : Int), .int .u16 (dp : Int), .int .u32 (sq : Int), .int .u32 (ak : Int), .int .u8 (fl.toNat : Int), .int .u16 (wn : Int), .int .u16 (ms : Int), .slice A n c] 26)).alloc (.cells #[.int .u8 (s0.toNat : Int), .int .u8 (s1.toNat : Int), .int .u8 (s2.toNat : Int), .int .u8 (s3.toNat : Int)] 28)).alloc (.cells #[.int .u8 (d0.toNat : Int), .int .u8 (d1.toNat : Int), .int .u8 (d2.toNat : Int), .int .u8 (d3.toNat : Int)] 28)).heap.size ≤ w.heap.size + 1 + 1 + 1 := by omega
  clear hL hL2 hpb hS hck
  by_cases h0 : ms = 0
  case' pos =>
    have hm : ((ms : Int) != 0) = false := by simp [h0]
    have hw80 : wd = 80 := by rw [← hwd]; unfold words9; rw [if_pos h0]
    have hO0 : O = [] := by rw [← hO]; unfold opt9; rw [if_pos h0]
    have hfr := hdr_vals sp dp sq ak wd fl wn 80 (by rw [hw80]; rfl) hsp hdp hsq hak hwn
    rw [hF] at hfr
    have kb0 : Kp (((w.alloc (.cells #[.int .u16 (sp : Int), .int .u16 (dp : Int), .int .u32 (sq : Int), .int .u32 (ak : Int), .int .u8 (fl.toNat : Int), .int .u16 (wn : Int), .int .u16 (ms : Int), .slice A n c] 26)).alloc (.cells #[.int .u8 (s0.toNat : Int), .int .u8 (s1.toNat : Int), .int .u8 (s2.toNat : Int), .int .u8 (s3.toNat : Int)] 28)).alloc (.cells #[.int .u8 (d0.toNat : Int), .int .u8 (d1.toNat : Int), .int .u8 (d2.toNat : Int), .int .u8 (d3.toNat : Int)] 28)) ((((w.alloc (.cells #[.int .u16 (sp : Int), .int .u16 (dp : Int), .int .u32 (sq : Int), .int .u32 (ak : Int), .int .u8 (fl.toNat : Int), .int .u16 (wn : Int), .int .u16 (ms : Int), .slice A n c] 26)).alloc (.cells #[.int .u8 (s0.toNat : Int), .int .u8 (s1.toNat : Int), .int .u8 (s2.toNat : Int), .int .u8 (s3.toNat : Int)] 28)).alloc (.cells #[.int .u8 (d0.toNat : Int), .int .u8 (d1.toNat : Int), .int .u8 (d2.toNat : Int), .int .u8 (d3.toNat : Int)] 28)).alloc (.cells #[.int .u8 ((sp : Int) / 256), .int .u8 ((sp : Int) % 256), .int .u8 ((dp : Int) / 256), .int .u8 ((dp : Int) % 256), .int .u8 ((sq : Int) / 16777216), .int .u8 ((sq : Int) / 65536 % 256), .int .u8 ((sq : Int) / 256 % 256), .int .u8 ((sq : Int) % 256), .int .u8 ((ak : Int) / 16777216), .int .u8 ((ak : Int) / 65536 % 256), .int .u8 ((ak : Int) / 256 % 256), .int .u8 ((ak : Int) % 256), .int .u8 80, .int .u8 (fl.toNat : Int), .int .u8 ((wn : Int) / 256), .int .u8 ((wn : Int) % 256), .int .u8 0, .int .u8 0, .int .u8 0, .int .u8 0] 5)) := (Kp.refl _).alloc _
    have own0 : OwnV 5 ((((w.alloc (.cells #[.int .u16 (sp : Int), .int .u16 (dp : Int), .int .u32 (sq : Int), .int .u32 (ak : Int), .int .u8 (fl.toNat : Int), .int .u16 (wn : Int), .int .u16 (ms : Int), .slice A n c] 26)).alloc (.cells #[.int .u8 (s0.toNat : Int), .int .u8 (s1.toNat : Int), .int .u8 (s2.toNat : Int), .int .u8 (s3.toNat : Int)] 28)).alloc (.cells #[.int .u8 (d0.toNat : Int), .int .u8 (d1.toNat : Int), .int .u8 (d2.toNat : Int), .int .u8 (d3.toNat : Int)] 28)).alloc (.cells #[.int .u8 ((sp : Int) / 256), .int .u8 ((sp : Int) % 256), .int .u8 ((dp : Int) / 256), .int .u8 ((dp : Int) % 256), .int .u8 ((sq : Int) / 16777216), .int .u8 ((sq : Int) / 65536 % 256), .int .u8 ((sq : Int) / 256 % 256), .int .u8 ((sq : Int) % 256), .int .u8 ((ak : Int) / 16777216), .int .u8 ((ak : Int) / 65536 % 256), .int .u8 ((ak : Int) / 256 % 256), .int .u8 ((ak : Int) % 256), .int .u8 80, .int .u8 (fl.toNat : Int), .int .u8 ((wn : Int) / 256), .int .u8 ((wn : Int) % 256), .int .u8 0, .int .u8 0, .int .u8 0, .int .u8 0] 5)) (((w.alloc (.cells #[.int .u16 (sp : Int), .int .u16 (dp : Int), .int .u32 (sq : Int), .int .u32 (ak : Int), .int .u8 (fl.toNat : Int), .int .u16 (wn : Int), .int .u16 (ms : Int), .slice A n c] 26)).alloc (.cells #[.int .u8 (s0.toNat : Int), .int .u8 (s1.toNat : Int), .int .u8 (s2.toNat : Int), .int .u8 (s3.toNat : Int)] 28)).alloc (.cells #[.int .u8 (d0.toNat : Int), .int .u8 (d1.toNat : Int), .int .u8 (d2.toNat : Int), .int .u8 (d3.toNat : Int)] 28)).heap.size (w.heap.size + 1 + 1 + 1) 20 20 (bvs (F ++ [0, 0, 0, 0])) := by
      rw [hfr]; exact OwnV.lit (vs := bvs (F ++ [0, 0, 0, 0])) hs0 e1 (by simp [bvs, hF16]) (by decide)
    have hL3 : Hid (F ++ [0, 0, 0, 0] ++ l = L) := Lib.hid (by rw [← HL.out, hO0]; simp)
    have hN3 : 20 + n = N := by rw [← HN.out, hO0]; simp
    have HN3 := Lib.hid hN3
    clear h0 hwd hO hO0 hw80 hF hfr hN3 hN hs0 e1
    go_enter Try.func10, Try.ntmps10
    go_wp2_with (first
      | (at_builtin; refine app8 (by rfl) (.tmp 101) (.tmp 103) rfl rfl rfl own0 (HA.out.keep kb0) N L HN3.out hL3.out (by omega) kb0.size ?_; intro g2 cap2 w2 own2 gr2 at2; have kb2 := kb0.grown gr2 own0.lo_le; obtain ⟨⟨z7, z6⟩, ⟨x0, x1, x2, x3⟩, ⟨y0, y1, y2, y3⟩⟩ := KS.out _ kb2))
  case' neg =>
    have hm : ((ms : Int) != 0) = true := by simp; omega
    have hff := hmf h0
    have ha : bits BinOp.and IntKind.u8 (fl.toNat : Int) 2 = 2 := by rw [and_2, hff]; rfl
    have hw80 : wd = 96 := by rw [← hwd]; unfold words9; rw [if_neg h0]
    have hO0 : O = [2, 4] ++ wd2 ms := by rw [← hO]; unfold opt9; rw [if_neg h0]
    have hfr := hdr_vals sp dp sq ak wd fl wn 96 (by rw [hw80]; rfl) hsp hdp hsq hak hwn
    rw [hF] at hfr
    have kb0 : Kp (((w.alloc (.cells #[.int .u16 (sp : Int), .int .u16 (dp : Int), .int .u32 (sq : Int), .int .u32 (ak : Int), .int .u8 (fl.toNat : Int), .int .u16 (wn : Int), .int .u16 (ms : Int), .slice A n c] 26)).alloc (.cells #[.int .u8 (s0.toNat : Int), .int .u8 (s1.toNat : Int), .int .u8 (s2.toNat : Int), .int .u8 (s3.toNat : Int)] 28)).alloc (.cells #[.int .u8 (d0.toNat : Int), .int .u8 (d1.toNat : Int), .int .u8 (d2.toNat : Int), .int .u8 (d3.toNat : Int)] 28)) (((((w.alloc (.cells #[.int .u16 (sp : Int), .int .u16 (dp : Int), .int .u32 (sq : Int), .int .u32 (ak : Int), .int .u8 (fl.toNat : Int), .int .u16 (wn : Int), .int .u16 (ms : Int), .slice A n c] 26)).alloc (.cells #[.int .u8 (s0.toNat : Int), .int .u8 (s1.toNat : Int), .int .u8 (s2.toNat : Int), .int .u8 (s3.toNat : Int)] 28)).alloc (.cells #[.int .u8 (d0.toNat : Int), .int .u8 (d1.toNat : Int), .int .u8 (d2.toNat : Int), .int .u8 (d3.toNat : Int)] 28)).alloc (.cells #[.int .u8 ((sp : Int) / 256), .int .u8 ((sp : Int) % 256), .int .u8 ((dp : Int) / 256), .int .u8 ((dp : Int) % 256), .int .u8 ((sq : Int) / 16777216), .int .u8 ((sq : Int) / 65536 % 256), .int .u8 ((sq : Int) / 256 % 256), .int .u8 ((sq : Int) % 256), .int .u8 ((ak : Int) / 16777216), .int .u8 ((ak : Int) / 65536 % 256), .int .u8 ((ak : Int) / 256 % 256), .int .u8 ((ak : Int) % 256), .int .u8 96, .int .u8 (fl.toNat : Int), .int .u8 ((wn : Int) / 256), .int .u8 ((wn : Int) % 256), .int .u8 0, .int .u8 0, .int .u8 0, .int .u8 0] 5)).alloc (.cells #[.int .u8 2, .int .u8 4, .int .u8 ((ms : Int) / 256), .int .u8 ((ms : Int) % 256)] 5)) := ((Kp.refl _).alloc _).alloc _
    have own0' : OwnV 5 ((((w.alloc (.cells #[.int .u16 (sp : Int), .int .u16 (dp : Int), .int .u32 (sq : Int), .int .u32 (ak : Int), .int .u8 (fl.toNat : Int), .int .u16 (wn : Int), .int .u16 (ms : Int), .slice A n c] 26)).alloc (.cells #[.int .u8 (s0.toNat : Int), .int .u8 (s1.toNat : Int), .int .u8 (s2.toNat : Int), .int .u8 (s3.toNat : Int)] 28)).alloc (.cells #[.int .u8 (d0.toNat : Int), .int .u8 (d1.toNat : Int), .int .u8 (d2.toNat : Int), .int .u8 (d3.toNat : Int)] 28)).alloc (.cells #[.int .u8 ((sp : Int) / 256), .int .u8 ((sp : Int) % 256), .int .u8 ((dp : Int) / 256), .int .u8 ((dp : Int) % 256), .int .u8 ((sq : Int) / 16777216), .int .u8 ((sq : Int) / 65536 % 256), .int .u8 ((sq : Int) / 256 % 256), .int .u8 ((sq : Int) % 256), .int .u8 ((ak : Int) / 16777216), .int .u8 ((ak : Int) / 65536 % 256), .int .u8 ((ak : Int) / 256 % 256), .int .u8 ((ak : Int) % 256), .int .u8 96, .int .u8 (fl.toNat : Int), .int .u8 ((wn : Int) / 256), .int .u8 ((wn : Int) % 256), .int .u8 0, .int .u8 0, .int .u8 0, .int .u8 0] 5)) (((w.alloc (.cells #[.int .u16 (sp : Int), .int .u16 (dp : Int), .int .u32 (sq : Int), .int .u32 (ak : Int), .int .u8 (fl.toNat : Int), .int .u16 (wn : Int), .int .u16 (ms : Int), .slice A n c] 26)).alloc (.cells #[.int .u8 (s0.toNat : Int), .int .u8 (s1.toNat : Int), .int .u8 (s2.toNat : Int), .int .u8 (s3.toNat : Int)] 28)).alloc (.cells #[.int .u8 (d0.toNat : Int), .int .u8 (d1.toNat : Int), .int .u8 (d2.toNat : Int), .int .u8 (d3.toNat : Int)] 28)).heap.size (w.heap.size + 1 + 1 + 1) 20 20 (bvs (F ++ [0, 0, 0, 0])) := by
      rw [hfr]; exact OwnV.lit (vs := bvs (F ++ [0, 0, 0, 0])) hs0 e1 (by simp [bvs, hF16]) (by decide)
    have own0 : OwnV 5 (((((w.alloc (.cells #[.int .u16 (sp : Int), .int .u16 (dp : Int), .int .u32 (sq : Int), .int .u32 (ak : Int), .int .u8 (fl.toNat : Int), .int .u16 (wn : Int), .int .u16 (ms : Int), .slice A n c] 26)).alloc (.cells #[.int .u8 (s0.toNat : Int), .int .u8 (s1.toNat : Int), .int .u8 (s2.toNat : Int), .int .u8 (s3.toNat : Int)] 28)).alloc (.cells #[.int .u8 (d0.toNat : Int), .int .u8 (d1.toNat : Int), .int .u8 (d2.toNat : Int), .int .u8 (d3.toNat : Int)] 28)).alloc (.cells #[.int .u8 ((sp : Int) / 256), .int .u8 ((sp : Int) % 256), .int .u8 ((dp : Int) / 256), .int .u8 ((dp : Int) % 256), .int .u8 ((sq : Int) / 16777216), .int .u8 ((sq : Int) / 65536 % 256), .int .u8 ((sq : Int) / 256 % 256), .int .u8 ((sq : Int) % 256), .int .u8 ((ak : Int) / 16777216), .int .u8 ((ak : Int) / 65536 % 256), .int .u8 ((ak : Int) / 256 % 256), .int .u8 ((ak : Int) % 256), .int .u8 96, .int .u8 (fl.toNat : Int), .int .u8 ((wn : Int) / 256), .int .u8 ((wn : Int) % 256), .int .u8 0, .int .u8 0, .int .u8 0, .int .u8 0] 5)).alloc (.cells #[.int .u8 2, .int .u8 4, .int .u8 ((ms : Int) / 256), .int .u8 ((ms : Int) % 256)] 5)) (((w.alloc (.cells #[.int .u16 (sp : Int), .int .u16 (dp : Int), .int .u32 (sq : Int), .int .u32 (ak : Int), .int .u8 (fl.toNat : Int), .int .u16 (wn : Int), .int .u16 (ms : Int), .slice A n c] 26)).alloc (.cells #[.int .u8 (s0.toNat : Int), .int .u8 (s1.toNat : Int), .int .u8 (s2.toNat : Int), .int .u8 (s3.toNat : Int)] 28)).alloc (.cells #[.int .u8 (d0.toNat : Int), .int .u8 (d1.toNat : Int), .int .u8 (d2.toNat : Int), .int .u8 (d3.toNat : Int)] 28)).heap.size (w.heap.size + 1 + 1 + 1) 20 20 (bvs (F ++ [0, 0, 0, 0])) := own0'.keep ((Kp.refl _).alloc _)
    have rb : Rd (((((w.alloc (.cells #[.int .u16 (sp : Int), .int .u16 (dp : Int), .int .u32 (sq : Int), .int .u32 (ak : Int), .int .u8 (fl.toNat : Int), .int .u16 (wn : Int), .int .u16 (ms : Int), .slice A n c] 26)).alloc (.cells #[.int .u8 (s0.toNat : Int), .int .u8 (s1.toNat : Int), .int .u8 (s2.toNat : Int), .int .u8 (s3.toNat : Int)] 28)).alloc (.cells #[.int .u8 (d0.toNat : Int), .int .u8 (d1.toNat : Int), .int .u8 (d2.toNat : Int), .int .u8 (d3.toNat : Int)] 28)).alloc (.cells #[.int .u8 ((sp : Int) / 256), .int .u8 ((sp : Int) % 256), .int .u8 ((dp : Int) / 256), .int .u8 ((dp : Int) % 256), .int .u8 ((sq : Int) / 16777216), .int .u8 ((sq : Int) / 65536 % 256), .int .u8 ((sq : Int) / 256 % 256), .int .u8 ((sq : Int) % 256), .int .u8 ((ak : Int) / 16777216), .int .u8 ((ak : Int) / 65536 % 256), .int .u8 ((ak : Int) / 256 % 256), .int .u8 ((ak : Int) % 256), .int .u8 96, .int .u8 (fl.toNat : Int), .int .u8 ((wn : Int) / 256), .int .u8 ((wn : Int) % 256), .int .u8 0, .int .u8 0, .int .u8 0, .int .u8 0] 5)).alloc (.cells #[.int .u8 2, .int .u8 4, .int .u8 ((ms : Int) / 256), .int .u8 ((ms : Int) % 256)] 5)) 0 (some ⟨w.heap.size + 1 + 1 + 1 + 1, 0, none⟩) 4 ([2, 4] ++ wd2 ms) := rd_lit (by simp) (Nat.zero_le _) rfl (opt_vals ms hms)
    have hL3 : Hid (F ++ [0, 0, 0, 0] ++ ([2, 4] ++ wd2 ms) ++ l = L) := Lib.hid (by rw [← HL.out, hO0])
    have hN3 : 24 + n = N := by rw [← HN.out, hO0]; simp [wd2]
    have HN3 := Lib.hid hN3
    clear h0 hwd hO hO0 hw80 hF hfr hN3 hN hs0 e1 own0' hff hmf
    go_enter Try.func10, Try.ntmps10
    go_wp2_with (first
      | (at_builtin; refine app8 (by rfl) (.tmp 91) (.tmp 99) rfl rfl rfl own0 rb 24 (F ++ [0, 0, 0, 0] ++ ([2, 4] ++ wd2 ms)) rfl rfl (by omega) kb0.size ?_; intro g1 cap1 w1 own1 gr1 at1; have kb1 := kb0.grown gr1 own0.lo_le; obtain ⟨⟨z7, z6⟩, _, _⟩ := KS.out _ kb1)
      | (at_builtin; refine app8 (by rfl) (.tmp 101) (.tmp 103) rfl rfl rfl own1 (HA.out.keep kb1) N L HN3.out hL3.out (by omega) kb1.size ?_; intro g2 cap2 w2 own2 gr2 at2; have kb2 := kb1.grown gr2 own1.lo_le; clear z7 z6; obtain ⟨⟨z7, z6⟩, ⟨x0, x1, x2, x3⟩, ⟨y0, y1, y2, y3⟩⟩ := KS.out _ kb2))
  all_goals
    have HKB2 := Lib.hid kb2
    have HO2 := Lib.hid own2
    clear gr2 at2 z7 z6 x0 x1 x2 x3 y0 y1 y2 y3 kb0 own0 kb2 own2
    refine (pseudo_any _ s0 s1 s2 s3 d0 d1 d2 d3 6 N (by omega)).mono ?_
    rintro e w3 ⟨hk3, g3, cap3, rfl, own3⟩
    have hall : RdAll (w3.alloc (.cells #[.slice (some ⟨g3, 0, none⟩) 12 cap3, .slice (some ⟨g2, 0, none⟩) N cap2] 24)) (some ⟨w3.heap.size, 0, none⟩) 2 [pseudo [s0, s1, s2, s3] [d0, d1, d2, d3] 6 N, L] :=
      rdAll_mk (vs := [.slice (some ⟨g3, 0, none⟩) 12 cap3, .slice (some ⟨g2, 0, none⟩) N cap2]) rfl rfl (by decide) ⟨⟨_, _, _, rfl, own3.rd0, by decide⟩, ⟨_, _, _, rfl, HO2.out.rd0.keep hk3, by unfold maxLen; omega⟩, trivial⟩
    have HALL := Lib.hid hall
    have HK3 := Lib.hid ((HKB.out.trans HKB2.out).trans (hk3.alloc (.cells #[.slice (some ⟨g3, 0, none⟩) 12 cap3, .slice (some ⟨g2, 0, none⟩) N cap2] 24)))
    have HO3 := Lib.hid ((HO2.out.keep hk3).keep ((Kp.refl w3).alloc (.cells #[.slice (some ⟨g3, 0, none⟩) 12 cap3, .slice (some ⟨g2, 0, none⟩) N cap2] 24)))
    clear hk3 own3 hall
    go_wp2_with fail
    refine (sum_any _ _ 2 _ _ HALL.out).mono ?_
    rintro e W3 ⟨rfl, rfl⟩
    rw [show [pseudo [s0, s1, s2, s3] [d0, d1, d2, d3] 6 N, L].flatten = pseudo [s0, s1, s2, s3] [d0, d1, d2, d3] 6 N ++ L by simp, HS.out]
    generalize w3.alloc (.cells #[.slice (some ⟨g3, 0, none⟩) 12 cap3, .slice (some ⟨g2, 0, none⟩) N cap2] 24) = W3 at HK3 HO3 ⊢
    have hNlo : 20 ≤ N := by have := HN.out; omega
    obtain ⟨ca, _, z16⟩ := HO3.out.cell8 (k := 16) (by omega)
    obtain ⟨cb, _, z17⟩ := HO3.out.cell8 (k := 17) (by omega)
    have fz16 := HO3.out.frozen 16
    have fz17 := HO3.out.frozen 17
    have hglo := Nat.le_trans hs1 HO3.out.lo_le
    have n16 : (16 : Int) < (N : Int) := by omega
    have n17 : (17 : Int) < (N : Int) := by omega
    have hk5 := (HK3.out.setCell (p := ⟨g2, 16, none⟩) hglo (.int .u8 ((S : Int) / 256))).setCell (p := ⟨g2, 17, none⟩) hglo (.int .u8 ((S : Int) % 256))
    have own5 := (HO3.out.set8 16 ((S : Int) / 256) (by omega) (by omega)).set8 17 ((S : Int) % 256) (by omega) (by omega)
    have e10 : (UInt8.ofNat ((S : Int) / 256).toNat) = UInt8.ofNat (S / 256) := by congr 1
    have e11 : (UInt8.ofNat ((S : Int) % 256).toNat) = UInt8.ofNat S := UInt8.toNat_inj.1 (by rw [UInt8.toNat_ofNat', UInt8.toNat_ofNat']; omega)
    rw [HL2.out, set_mid16 F ([0, 0] ++ O ++ l) 0 0 _ _ hF16, e10, e11] at own5
    have OWN5 := Lib.hid own5
    have HK5 := Lib.hid hk5
    clear own5 hk5 e10 e11
    go_wp2
    go_ret2
    exact ⟨HK5.out, g2, cap2, rfl, OwnV.lower OWN5.out hs1⟩
end Go.Proofs.Ytnoobifdaldfiaa
