/-
  The contracts of the document's four bytes of a number, and of its Build for segments.
-/
import Derived.Test.YtnoobifdaldfiaaB9
namespace Go.Proofs.Ytnoobifdaldfiaa
open Go.RowKit


theorem wd4_eq (n : Nat) : wd2 (n / 65536) ++ wd2 (n % 65536) = wd4 n := by
  have h : ∀ a b : Nat, a % 256 = b % 256 → UInt8.ofNat a = UInt8.ofNat b := fun a b h => UInt8.toNat_inj.1 (by rw [UInt8.toNat_ofNat', UInt8.toNat_ofNat']; omega)
  show [UInt8.ofNat (n / 65536 / 256), UInt8.ofNat (n / 65536), UInt8.ofNat (n % 65536 / 256), UInt8.ofNat (n % 65536)] = [UInt8.ofNat (n / 16777216), UInt8.ofNat (n / 65536), UInt8.ofNat (n / 256), UInt8.ofNat n]
  rw [h (n / 65536 / 256) (n / 16777216) (by omega), h (n % 65536 / 256) (n / 256) (by omega), h (n % 65536) n (by omega)]

set_option maxHeartbeats 400000 in
theorem four_any (w : World) (n : Nat) (hn : n < 4294967296) :
    Calls Try.prog 43 #[.int .u32 (n : Int)] w fun e w' => e = .returned (.string (str (wd4 n))) ∧ Kp w w' := by
  have hap := str_append
  have hsz := str_size
  have hwl : ∀ x, (wd2 x).length = 2 := fun _ => rfl
  rw [← wd4_eq n]
  obtain ⟨q, hq⟩ : ∃ q, n / 65536 = q := ⟨_, rfl⟩
  obtain ⟨r, hr⟩ : ∃ r, n % 65536 = r := ⟨_, rfl⟩
  rw [hq, hr]
  have q1 : (n : Int) / 65536 = (q : Int) := by omega
  have q2 : (n : Int).tdiv 65536 = (q : Int) := by rw [Int.tdiv_eq_ediv_of_nonneg (by omega)]; omega
  have q3 : (n : Int) % 65536 = (r : Int) := by omega
  have q4 : (n : Int).tmod 65536 = (r : Int) := by rw [Int.tmod_eq_emod_of_nonneg (by omega)]; omega
  have hq2 : q ≤ 65535 := by omega
  have hr2 : r ≤ 65535 := by omega
  have u1 : IntKind.i64.wrap (q : Int) = (q : Int) := by rw [IntKind.wrap_i64]; omega
  have u2 : IntKind.i64.wrap (r : Int) = (r : Int) := by rw [IntKind.wrap_i64]; omega
  clear hq hr
  go_enter Try.func43, Try.ntmps43
  go_wp2_with fail
  refine (word_any _ q (by omega)).mono ?_
  rintro e w1 ⟨rfl, hk1⟩
  go_wp2_with fail
  refine (word_any _ r (by omega)).mono ?_
  rintro e w2 ⟨rfl, hk2⟩
  go_wp2
  go_ret
  exact ⟨rfl, hk1.trans hk2⟩

set_option maxRecDepth 100000 in
set_option maxHeartbeats 1000000 in
theorem r9_long (w : World) (sp dp sq ak : Nat) (fl : UInt8) (wn ms : Nat) (A : Option Addr) (n c : Nat) (s0 s1 s2 s3 d0 d1 d2 d3 : UInt8) (hn : 156 < n) :
    Calls Try.prog 20 #[.agg #[.int .u16 (sp : Int), .int .u16 (dp : Int), .int .u32 (sq : Int), .int .u32 (ak : Int), .int .u8 (fl.toNat : Int), .int .u16 (wn : Int), .int .u16 (ms : Int), .slice A n c], .agg #[.int .u8 (s0.toNat : Int), .int .u8 (s1.toNat : Int), .int .u8 (s2.toNat : Int), .int .u8 (s3.toNat : Int)], .agg #[.int .u8 (d0.toNat : Int), .int .u8 (d1.toNat : Int), .int .u8 (d2.toNat : Int), .int .u8 (d3.toNat : Int)]] w fun e w' => e = .returned (.tuple #[.string (str []), .int .i64 4]) ∧ Kp w w' := by
  go_enter Try.func20, Try.ntmps20
  go_wp2
  go_ret2
  exact ⟨rfl, (((Kp.refl _).alloc _).alloc _).alloc _⟩

set_option maxRecDepth 100000 in
set_option maxHeartbeats 1000000 in
theorem r9_bad (w : World) (sp dp sq ak : Nat) (fl : UInt8) (wn ms : Nat) (A : Option Addr) (n c : Nat) (s0 s1 s2 s3 d0 d1 d2 d3 : UInt8) (hn : n ≤ 156) (hb : Bad9 fl ms) :
    Calls Try.prog 20 #[.agg #[.int .u16 (sp : Int), .int .u16 (dp : Int), .int .u32 (sq : Int), .int .u32 (ak : Int), .int .u8 (fl.toNat : Int), .int .u16 (wn : Int), .int .u16 (ms : Int), .slice A n c], .agg #[.int .u8 (s0.toNat : Int), .int .u8 (s1.toNat : Int), .int .u8 (s2.toNat : Int), .int .u8 (s3.toNat : Int)], .agg #[.int .u8 (d0.toNat : Int), .int .u8 (d1.toNat : Int), .int .u8 (d2.toNat : Int), .int .u8 (d3.toNat : Int)]] w fun e w' => e = .returned (.tuple #[.string (str []), .int .i64 1]) ∧ Kp w w' := by
  have i1 : ¬ (156 : Int) < (n : Int) := by omega
  rcases (by unfold Bad9 at hb; omega : 31 < fl.toNat ∨ (fl.toNat ≤ 31 ∧ ms ≠ 0 ∧ fl.toNat / 2 % 2 = 0)) with h | ⟨h, h2, h3⟩
  · have h' : (31 : Int) < (fl.toNat : Int) := by omega
    clear hb
    go_enter Try.func20, Try.ntmps20
    go_wp2
    go_ret2
    exact ⟨rfl, (((Kp.refl _).alloc _).alloc _).alloc _⟩
  · have h' : ¬ (31 : Int) < (fl.toNat : Int) := by omega
    have hm : ((ms : Int) != 0) = true := by simp; omega
    have q1 : (fl.toNat : Int) / 2 % 2 = 0 := by omega
    have q2 : ((fl.toNat : Int).tdiv 2).tmod 2 = 0 := by rw [Int.tdiv_eq_ediv_of_nonneg (by omega), Int.tmod_eq_emod_of_nonneg (by omega)]; exact q1
    clear hb
    go_enter Try.func20, Try.ntmps20
    go_wp2
    go_ret2
    exact ⟨rfl, (((Kp.refl _).alloc _).alloc _).alloc _⟩

theorem cells9r (w : World) (sp dp sq ak : Nat) (fl : UInt8) (wn ms : Nat) (A : Option Addr) (n c : Nat) (s0 s1 s2 s3 d0 d1 d2 d3 : UInt8) (W : World) (hk : Kp (((w.alloc (.cells #[.int .u16 (sp : Int), .int .u16 (dp : Int), .int .u32 (sq : Int), .int .u32 (ak : Int), .int .u8 (fl.toNat : Int), .int .u16 (wn : Int), .int .u16 (ms : Int), .slice A n c] 26)).alloc (.cells #[.int .u8 (s0.toNat : Int), .int .u8 (s1.toNat : Int), .int .u8 (s2.toNat : Int), .int .u8 (s3.toNat : Int)] 28)).alloc (.cells #[.int .u8 (d0.toNat : Int), .int .u8 (d1.toNat : Int), .int .u8 (d2.toNat : Int), .int .u8 (d3.toNat : Int)] 28)) W) : W.cell? ⟨w.heap.size, 0, none⟩ = some (.int .u16 (sp : Int)) ∧ W.cell? ⟨w.heap.size, 1, none⟩ = some (.int .u16 (dp : Int)) ∧ W.cell? ⟨w.heap.size, 2, none⟩ = some (.int .u32 (sq : Int)) ∧ W.cell? ⟨w.heap.size, 3, none⟩ = some (.int .u32 (ak : Int)) ∧ W.cell? ⟨w.heap.size, 4, none⟩ = some (.int .u8 (fl.toNat : Int)) ∧ W.cell? ⟨w.heap.size, 5, none⟩ = some (.int .u16 (wn : Int)) ∧ W.cell? ⟨w.heap.size, 6, none⟩ = some (.int .u16 (ms : Int)) := by
  have h1 : Kp (w.alloc (.cells #[.int .u16 (sp : Int), .int .u16 (dp : Int), .int .u32 (sq : Int), .int .u32 (ak : Int), .int .u8 (fl.toNat : Int), .int .u16 (wn : Int), .int .u16 (ms : Int), .slice A n c] 26)) W := (((Kp.refl _).alloc _).alloc _).trans hk
  refine ⟨?_, ?_, ?_, ?_, ?_, ?_, ?_⟩
  all_goals
    refine h1.cell ?_
    rw [cell_new]
    rfl

noncomputable def r9aphi (w : World) (sp dp sq ak : Nat) (fl : UInt8) (wn : Nat) (F : List UInt8) : Nat → St := fun i => ([St.val (.pointer (some ⟨w.heap.size, 0, none⟩)),
  St.val (.int .u16 (sp : Int)),
  St.val (.int .i64 (sp : Int)),
  St.val (.string (str (wd2 sp))),
  St.val (.pointer (some ⟨w.heap.size, 1, none⟩)),
  St.val (.int .u16 (dp : Int)),
  St.val (.int .i64 (dp : Int)),
  St.val (.string (str (wd2 dp))),
  St.val (.string (str (wd2 sp ++ wd2 dp))),
  St.val (.pointer (some ⟨w.heap.size, 2, none⟩)),
  St.val (.int .u32 (sq : Int)),
  St.val (.string (str (wd4 sq))),
  St.val (.string (str (wd2 sp ++ (wd2 dp ++ wd4 sq)))),
  St.val (.pointer (some ⟨w.heap.size, 3, none⟩)),
  St.val (.int .u32 (ak : Int)),
  St.val (.string (str (wd4 ak))),
  St.val (.string (str (wd2 sp ++ (wd2 dp ++ (wd4 sq ++ wd4 ak))))),
  St.val (.int .u8 ((80 : UInt8).toNat : Int)),
  St.val (.pointer (some ⟨w.heap.size, 4, none⟩)),
  St.val (.int .u8 (fl.toNat : Int)),
  St.rd 2 [(80 : UInt8), fl],
  St.val (.string (str [(80 : UInt8), fl])),
  St.val (.string (str (wd2 sp ++ (wd2 dp ++ (wd4 sq ++ (wd4 ak ++ [(80 : UInt8), fl])))))),
  St.val (.pointer (some ⟨w.heap.size, 5, none⟩)),
  St.val (.int .u16 (wn : Int)),
  St.val (.int .i64 (wn : Int)),
  St.val (.string (str (wd2 wn))),
  St.val (.string (str F)),
  St.val (.string (str F))] : List St).getD i St.any
noncomputable def r9bphi (w : World) (sp dp sq ak : Nat) (fl : UInt8) (wn : Nat) (F : List UInt8) : Nat → St := fun i => ([St.val (.pointer (some ⟨w.heap.size, 0, none⟩)),
  St.val (.int .u16 (sp : Int)),
  St.val (.int .i64 (sp : Int)),
  St.val (.string (str (wd2 sp))),
  St.val (.pointer (some ⟨w.heap.size, 1, none⟩)),
  St.val (.int .u16 (dp : Int)),
  St.val (.int .i64 (dp : Int)),
  St.val (.string (str (wd2 dp))),
  St.val (.string (str (wd2 sp ++ wd2 dp))),
  St.val (.pointer (some ⟨w.heap.size, 2, none⟩)),
  St.val (.int .u32 (sq : Int)),
  St.val (.string (str (wd4 sq))),
  St.val (.string (str (wd2 sp ++ (wd2 dp ++ wd4 sq)))),
  St.val (.pointer (some ⟨w.heap.size, 3, none⟩)),
  St.val (.int .u32 (ak : Int)),
  St.val (.string (str (wd4 ak))),
  St.val (.string (str (wd2 sp ++ (wd2 dp ++ (wd4 sq ++ wd4 ak))))),
  St.val (.int .u8 ((96 : UInt8).toNat : Int)),
  St.val (.pointer (some ⟨w.heap.size, 4, none⟩)),
  St.val (.int .u8 (fl.toNat : Int)),
  St.rd 2 [(96 : UInt8), fl],
  St.val (.string (str [(96 : UInt8), fl])),
  St.val (.string (str (wd2 sp ++ (wd2 dp ++ (wd4 sq ++ (wd4 ak ++ [(96 : UInt8), fl])))))),
  St.val (.pointer (some ⟨w.heap.size, 5, none⟩)),
  St.val (.int .u16 (wn : Int)),
  St.val (.int .i64 (wn : Int)),
  St.val (.string (str (wd2 wn))),
  St.val (.string (str F)),
  St.val (.string (str F))] : List St).getD i St.any

set_option maxRecDepth 100000 in
set_option maxHeartbeats 4000000 in
theorem r9_ok (w : World) (sp dp sq ak : Nat) (fl : UInt8) (wn ms : Nat) (A : Option Addr) (n c : Nat) (l : List UInt8) (s0 s1 s2 s3 d0 d1 d2 d3 : UInt8) (hsp : sp ≤ 65535) (hdp : dp ≤ 65535) (hsq : sq < 4294967296) (hak : ak < 4294967296) (hwn : wn ≤ 65535) (hms : ms ≤ 65535) (hfl : fl.toNat ≤ 31) (hmf : ms ≠ 0 → fl.toNat / 2 % 2 = 1) (hn : n ≤ 156) (hA : Rd w 0 A n l) :
    Calls Try.prog 20 #[.agg #[.int .u16 (sp : Int), .int .u16 (dp : Int), .int .u32 (sq : Int), .int .u32 (ak : Int), .int .u8 (fl.toNat : Int), .int .u16 (wn : Int), .int .u16 (ms : Int), .slice A n c], .agg #[.int .u8 (s0.toNat : Int), .int .u8 (s1.toNat : Int), .int .u8 (s2.toNat : Int), .int .u8 (s3.toNat : Int)], .agg #[.int .u8 (d0.toNat : Int), .int .u8 (d1.toNat : Int), .int .u8 (d2.toNat : Int), .int .u8 (d3.toNat : Int)]] w fun e w' => e = .returned (.tuple #[.string (str (sbytes9 [s0, s1, s2, s3] [d0, d1, d2, d3] sp dp sq ak fl wn ms l)), .int .i64 0]) ∧ Kp w w' := by
  have hll := hA.len
  have KB : Kp w (((w.alloc (.cells #[.int .u16 (sp : Int), .int .u16 (dp : Int), .int .u32 (sq : Int), .int .u32 (ak : Int), .int .u8 (fl.toNat : Int), .int .u16 (wn : Int), .int .u16 (ms : Int), .slice A n c] 26)).alloc (.cells #[.int .u8 (s0.toNat : Int), .int .u8 (s1.toNat : Int), .int .u8 (s2.toNat : Int), .int .u8 (s3.toNat : Int)] 28)).alloc (.cells #[.int .u8 (d0.toNat : Int), .int .u8 (d1.toNat : Int), .int .u8 (d2.toNat : Int), .int .u8 (d3.toNat : Int)] 28)) := (((Kp.refl w).alloc _).alloc _).alloc _
  have HA := Lib.hid (hA.keep KB)
  have HKB := Lib.hid KB
  have HC9 := Lib.hid (cells9 w sp dp sq ak fl wn ms A n c s0 s1 s2 s3 d0 d1 d2 d3)
  have KS := cells9r w sp dp sq ak fl wn ms A n c s0 s1 s2 s3 d0 d1 d2 d3
  clear hA KB
  have i1 : ¬ (156 : Int) < (n : Int) := by omega
  have i2 : ¬ (31 : Int) < (fl.toNat : Int) := by omega
  have hpb : ∃ F O B S N wd, wd2 sp ++ (wd2 dp ++ (wd4 sq ++ (wd4 ak ++ wd :: fl :: wd2 wn))) = F ∧ words9 ms = wd ∧ opt9 ms = O ∧ F.length = 16 ∧ 0 :: 0 :: (O ++ l) = B ∧ 18 + B.length = N ∧ N ≤ 200 ∧
      65535 - Ck.ck (pseudo [s0, s1, s2, s3] [d0, d1, d2, d3] 6 N ++ (F ++ 0 :: 0 :: B)) = S ∧ sbytes9 [s0, s1, s2, s3] [d0, d1, d2, d3] sp dp sq ak fl wn ms l = F ++ (wd2 S ++ B) := by
    refine ⟨_, _, _, _, _, _, rfl, rfl, rfl, rfl, rfl, rfl, ?_, rfl, ?_⟩
    · unfold opt9; split <;> simp [wd2] <;> omega
    · unfold sbytes9 bytes9 sum9 hdr9
      rw [show 20 + (opt9 ms).length + l.length = 18 + (0 :: 0 :: (opt9 ms ++ l)).length by simp; omega]
      simp
  obtain ⟨F, O, B, S, N, wd, hF, hwd, hO, hF16, hB, hN, hN2, hS, hpb⟩ := hpb
  have hck := Ck.ck_le (pseudo [s0, s1, s2, s3] [d0, d1, d2, d3] 6 N ++ (F ++ 0 :: 0 :: B))
  have hS2 : S ≤ 65535 := by omega
  rw [hpb]
  have hpl : (pseudo [s0, s1, s2, s3] [d0, d1, d2, d3] 6 N).length = 12 := rfl
  have RS : Hid (∀ W, Calls Try.prog 44 #[.string (str (pseudo [s0, s1, s2, s3] [d0, d1, d2, d3] 6 N ++ (F ++ 0 :: 0 :: B)))] W fun e w' => e = .returned (.int .u16 (S : Int)) ∧ W = w') := Lib.hid fun W => by
    have := rsum_any W (str (pseudo [s0, s1, s2, s3] [d0, d1, d2, d3] 6 N ++ (F ++ 0 :: 0 :: B))) (by rw [str_size]; simp [hF16, hpl]; omega)
    rw [str_list, hS] at this; exact this
  have hap := str_append
  have hsz := str_size
  have hwl : ∀ x, (wd2 x).length = 2 := fun _ => rfl
  have hwl4 : ∀ x, (wd4 x).length = 4 := fun _ => rfl
  have c00 : ({ data := #[0, 0] } : ByteArray) = str [0, 0] := rfl
  have cE : ({ data := #[] } : ByteArray) = str [] := rfl
  have c24 : ({ data := #[2, 4] } : ByteArray) = str [2, 4] := rfl
  have v1 : IntKind.i64.wrap (sp : Int) = (sp : Int) := by rw [IntKind.wrap_i64]; omega
  have v2 : IntKind.i64.wrap (dp : Int) = (dp : Int) := by rw [IntKind.wrap_i64]; omega
  have v3 : IntKind.i64.wrap (wn : Int) = (wn : Int) := by rw [IntKind.wrap_i64]; omega
  have v4 : IntKind.i64.wrap (ms : Int) = (ms : Int) := by rw [IntKind.wrap_i64]; omega
  have v5 : IntKind.i64.wrap (S : Int) = (S : Int) := by rw [IntKind.wrap_i64]; omega
  have n1 : (18 : Int) + (B.length : Int) = (N : Int) := by omega
  have n2 : (16 : Int) + 2 + (B.length : Int) = (N : Int) := by omega
  have hB3 : B.length ≤ 200 := by omega
  clear hS hck hpb hN
  by_cases h0 : ms = 0
  · have hm : ((ms : Int) != 0) = false := by simp [h0]
    obtain rfl : wd = 80 := by rw [← hwd]; unfold words9; rw [if_pos h0]
    have hO0 : O = [] := by rw [← hO]; unfold opt9; rw [if_pos h0]
    have hBB : 0 :: 0 :: l = B := by rw [← hB, hO0]; rfl
    clear h0 hwd hO hO0 hB hmf
    go_enter Try.func20, Try.ntmps20
    go_wp2_with fail
    have HKX : Hid (Kp (((w.alloc (.cells #[.int .u16 (sp : Int), .int .u16 (dp : Int), .int .u32 (sq : Int), .int .u32 (ak : Int), .int .u8 (fl.toNat : Int), .int .u16 (wn : Int), .int .u16 (ms : Int), .slice A n c] 26)).alloc (.cells #[.int .u8 (s0.toNat : Int), .int .u8 (s1.toNat : Int), .int .u8 (s2.toNat : Int), .int .u8 (s3.toNat : Int)] 28)).alloc (.cells #[.int .u8 (d0.toNat : Int), .int .u8 (d1.toNat : Int), .int .u8 (d2.toNat : Int), .int .u8 (d3.toNat : Int)] 28)) (((w.alloc (.cells #[.int .u16 (sp : Int), .int .u16 (dp : Int), .int .u32 (sq : Int), .int .u32 (ak : Int), .int .u8 (fl.toNat : Int), .int .u16 (wn : Int), .int .u16 (ms : Int), .slice A n c] 26)).alloc (.cells #[.int .u8 (s0.toNat : Int), .int .u8 (s1.toNat : Int), .int .u8 (s2.toNat : Int), .int .u8 (s3.toNat : Int)] 28)).alloc (.cells #[.int .u8 (d0.toNat : Int), .int .u8 (d1.toNat : Int), .int .u8 (d2.toNat : Int), .int .u8 (d3.toNat : Int)] 28))) := Lib.hid (Kp.refl _)
    refine wp_region_steps (by kernel_rfl) 29 (r9aphi w sp dp sq ak fl wn F) [40, 41, 42, 43, 44, 45, 46, 47, 48, 49, 50, 51, 52, 53, 54, 55, 56, 57, 58, 59, 60, 61, 62, 63, 64, 65, 66, 67, 10] (by kernel_rfl) (by kernel_rfl) ⟨?_, ?_, ?_, ?_, ?_, ?_, ?_, ?_, ?_, ?_, ?_, ?_, ?_, ?_, ?_, ?_, ?_, ?_, ?_, ?_, ?_, ?_, ?_, ?_, ?_, ?_, ?_, ?_, ?_, trivial⟩ ?_
    · intro a W hW hO hφ K hK
      have q3 : a.tmps.getD 3 undef = (.pointer (some ⟨w.heap.size, 0, none⟩)) := hO 3 (by kernel_rfl)
      have r3 := q3
      rw [Array.getD_eq_getD_getElem?] at r3
      clear hO hφ
      clear KS
      go_simp
      exact hK _ _ (Kp.refl _) rfl
    · intro a W hW hO hφ K hK
      have q40 : a.tmps.getD 40 undef = (.pointer (some ⟨w.heap.size, 0, none⟩)) := hφ ⟨0, .data⟩ (by simp) rfl
      have r40 := q40
      rw [Array.getD_eq_getD_getElem?] at r40
      clear hO hφ
      obtain ⟨k0, k1, k2, k3, k4, k5, k6⟩ := KS W (HKX.out.trans (Kp.trans ((Kp.refl _).drew) hW))
      clear KS
      go_simp
      exact hK _ _ (Kp.refl _) rfl
    · intro a W hW hO hφ K hK
      have q41 : a.tmps.getD 41 undef = (.int .u16 (sp : Int)) := hφ ⟨1, .data⟩ (by simp) rfl
      have r41 := q41
      rw [Array.getD_eq_getD_getElem?] at r41
      clear hO hφ
      clear KS
      go_simp
      exact hK _ _ (Kp.refl _) rfl
    · intro a W hW hO hφ K hK
      have q42 : a.tmps.getD 42 undef = (.int .i64 (sp : Int)) := hφ ⟨2, .data⟩ (by simp) rfl
      have r42 := q42
      rw [Array.getD_eq_getD_getElem?] at r42
      clear hO hφ
      clear KS
      go_simp
      go_at_call 42
      refine (word_any _ sp (by omega)).mono ?_
      rintro e w' ⟨rfl, hk⟩
      exact hK _ _ hk rfl
    · intro a W hW hO hφ K hK
      have q3 : a.tmps.getD 3 undef = (.pointer (some ⟨w.heap.size, 0, none⟩)) := hO 3 (by kernel_rfl)
      have r3 := q3
      rw [Array.getD_eq_getD_getElem?] at r3
      clear hO hφ
      clear KS
      go_simp
      exact hK _ _ (Kp.refl _) rfl
    · intro a W hW hO hφ K hK
      have q44 : a.tmps.getD 44 undef = (.pointer (some ⟨w.heap.size, 1, none⟩)) := hφ ⟨4, .data⟩ (by simp) rfl
      have r44 := q44
      rw [Array.getD_eq_getD_getElem?] at r44
      clear hO hφ
      obtain ⟨k0, k1, k2, k3, k4, k5, k6⟩ := KS W (HKX.out.trans (Kp.trans ((Kp.refl _).drew) hW))
      clear KS
      go_simp
      exact hK _ _ (Kp.refl _) rfl
    · intro a W hW hO hφ K hK
      have q45 : a.tmps.getD 45 undef = (.int .u16 (dp : Int)) := hφ ⟨5, .data⟩ (by simp) rfl
      have r45 := q45
      rw [Array.getD_eq_getD_getElem?] at r45
      clear hO hφ
      clear KS
      go_simp
      exact hK _ _ (Kp.refl _) rfl
    · intro a W hW hO hφ K hK
      have q46 : a.tmps.getD 46 undef = (.int .i64 (dp : Int)) := hφ ⟨6, .data⟩ (by simp) rfl
      have r46 := q46
      rw [Array.getD_eq_getD_getElem?] at r46
      clear hO hφ
      clear KS
      go_simp
      go_at_call 42
      refine (word_any _ dp (by omega)).mono ?_
      rintro e w' ⟨rfl, hk⟩
      exact hK _ _ hk rfl
    · intro a W hW hO hφ K hK
      have q43 : a.tmps.getD 43 undef = (.string (str (wd2 sp))) := hφ ⟨3, .data⟩ (by simp) rfl
      have q47 : a.tmps.getD 47 undef = (.string (str (wd2 dp))) := hφ ⟨7, .data⟩ (by simp) rfl
      have r43 := q43
      rw [Array.getD_eq_getD_getElem?] at r43
      have r47 := q47
      rw [Array.getD_eq_getD_getElem?] at r47
      clear hO hφ
      clear KS
      go_simp
      exact hK _ _ (Kp.refl _) rfl
    · intro a W hW hO hφ K hK
      have q3 : a.tmps.getD 3 undef = (.pointer (some ⟨w.heap.size, 0, none⟩)) := hO 3 (by kernel_rfl)
      have r3 := q3
      rw [Array.getD_eq_getD_getElem?] at r3
      clear hO hφ
      clear KS
      go_simp
      exact hK _ _ (Kp.refl _) rfl
    · intro a W hW hO hφ K hK
      have q49 : a.tmps.getD 49 undef = (.pointer (some ⟨w.heap.size, 2, none⟩)) := hφ ⟨9, .data⟩ (by simp) rfl
      have r49 := q49
      rw [Array.getD_eq_getD_getElem?] at r49
      clear hO hφ
      obtain ⟨k0, k1, k2, k3, k4, k5, k6⟩ := KS W (HKX.out.trans (Kp.trans ((Kp.refl _).drew) hW))
      clear KS
      go_simp
      exact hK _ _ (Kp.refl _) rfl
    · intro a W hW hO hφ K hK
      have q50 : a.tmps.getD 50 undef = (.int .u32 (sq : Int)) := hφ ⟨10, .data⟩ (by simp) rfl
      have r50 := q50
      rw [Array.getD_eq_getD_getElem?] at r50
      clear hO hφ
      clear KS
      go_simp
      go_at_call 43
      refine (four_any _ sq (by omega)).mono ?_
      rintro e w' ⟨rfl, hk⟩
      exact hK _ _ hk rfl
    · intro a W hW hO hφ K hK
      have q48 : a.tmps.getD 48 undef = (.string (str (wd2 sp ++ wd2 dp))) := hφ ⟨8, .data⟩ (by simp) rfl
      have q51 : a.tmps.getD 51 undef = (.string (str (wd4 sq))) := hφ ⟨11, .data⟩ (by simp) rfl
      have r48 := q48
      rw [Array.getD_eq_getD_getElem?] at r48
      have r51 := q51
      rw [Array.getD_eq_getD_getElem?] at r51
      clear hO hφ
      clear KS
      go_simp
      exact hK _ _ (Kp.refl _) rfl
    · intro a W hW hO hφ K hK
      have q3 : a.tmps.getD 3 undef = (.pointer (some ⟨w.heap.size, 0, none⟩)) := hO 3 (by kernel_rfl)
      have r3 := q3
      rw [Array.getD_eq_getD_getElem?] at r3
      clear hO hφ
      clear KS
      go_simp
      exact hK _ _ (Kp.refl _) rfl
    · intro a W hW hO hφ K hK
      have q53 : a.tmps.getD 53 undef = (.pointer (some ⟨w.heap.size, 3, none⟩)) := hφ ⟨13, .data⟩ (by simp) rfl
      have r53 := q53
      rw [Array.getD_eq_getD_getElem?] at r53
      clear hO hφ
      obtain ⟨k0, k1, k2, k3, k4, k5, k6⟩ := KS W (HKX.out.trans (Kp.trans ((Kp.refl _).drew) hW))
      clear KS
      go_simp
      exact hK _ _ (Kp.refl _) rfl
    · intro a W hW hO hφ K hK
      have q54 : a.tmps.getD 54 undef = (.int .u32 (ak : Int)) := hφ ⟨14, .data⟩ (by simp) rfl
      have r54 := q54
      rw [Array.getD_eq_getD_getElem?] at r54
      clear hO hφ
      clear KS
      go_simp
      go_at_call 43
      refine (four_any _ ak (by omega)).mono ?_
      rintro e w' ⟨rfl, hk⟩
      exact hK _ _ hk rfl
    · intro a W hW hO hφ K hK
      have q52 : a.tmps.getD 52 undef = (.string (str (wd2 sp ++ (wd2 dp ++ wd4 sq)))) := hφ ⟨12, .data⟩ (by simp) rfl
      have q55 : a.tmps.getD 55 undef = (.string (str (wd4 ak))) := hφ ⟨15, .data⟩ (by simp) rfl
      have r52 := q52
      rw [Array.getD_eq_getD_getElem?] at r52
      have r55 := q55
      rw [Array.getD_eq_getD_getElem?] at r55
      clear hO hφ
      clear KS
      go_simp
      exact hK _ _ (Kp.refl _) rfl
    · intro a W hW hO hφ K hK
      have q9 : a.tmps.getD 9 undef = (.int .u8 ((80 : UInt8).toNat : Int)) := hO 9 (by kernel_rfl)
      have r9 := q9
      rw [Array.getD_eq_getD_getElem?] at r9
      clear hO hφ
      clear KS
      go_simp
      exact hK _ _ (Kp.refl _) rfl
    · intro a W hW hO hφ K hK
      have q3 : a.tmps.getD 3 undef = (.pointer (some ⟨w.heap.size, 0, none⟩)) := hO 3 (by kernel_rfl)
      have r3 := q3
      rw [Array.getD_eq_getD_getElem?] at r3
      clear hO hφ
      clear KS
      go_simp
      exact hK _ _ (Kp.refl _) rfl
    · intro a W hW hO hφ K hK
      have q58 : a.tmps.getD 58 undef = (.pointer (some ⟨w.heap.size, 4, none⟩)) := hφ ⟨18, .data⟩ (by simp) rfl
      have r58 := q58
      rw [Array.getD_eq_getD_getElem?] at r58
      clear hO hφ
      obtain ⟨k0, k1, k2, k3, k4, k5, k6⟩ := KS W (HKX.out.trans (Kp.trans ((Kp.refl _).drew) hW))
      clear KS
      go_simp
      exact hK _ _ (Kp.refl _) rfl
    · intro a W hW hO hφ K hK
      have q57 : a.tmps.getD 57 undef = (.int .u8 ((80 : UInt8).toNat : Int)) := hφ ⟨17, .data⟩ (by simp) rfl
      have q59 : a.tmps.getD 59 undef = (.int .u8 (fl.toNat : Int)) := hφ ⟨19, .data⟩ (by simp) rfl
      have r57 := q57
      rw [Array.getD_eq_getD_getElem?] at r57
      have r59 := q59
      rw [Array.getD_eq_getD_getElem?] at r59
      clear hO hφ
      clear KS
      go_simp
      exact hK _ _ ((Kp.refl _).alloc _) ⟨_, _, rfl, rd_lit rfl (Nat.zero_le _) rfl rfl⟩
    · intro a W hW hO hφ K hK
      have q60 : (St.rd 2 [(80 : UInt8), fl]).p (a.tmps.getD 60 undef) W := hφ ⟨20, .data⟩ (by simp) rfl
      clear hO hφ
      clear KS
      obtain ⟨A1, c1, q60', hr⟩ := q60
      have cv := conv_str (P := Try.prog) (c := c1) Try.underlying24 Try.underlying5 Try.underlying9 hr
      go_simp
      exact hK _ _ (Kp.refl _) rfl
    · intro a W hW hO hφ K hK
      have q56 : a.tmps.getD 56 undef = (.string (str (wd2 sp ++ (wd2 dp ++ (wd4 sq ++ wd4 ak))))) := hφ ⟨16, .data⟩ (by simp) rfl
      have q61 : a.tmps.getD 61 undef = (.string (str [(80 : UInt8), fl])) := hφ ⟨21, .data⟩ (by simp) rfl
      have r56 := q56
      rw [Array.getD_eq_getD_getElem?] at r56
      have r61 := q61
      rw [Array.getD_eq_getD_getElem?] at r61
      clear hO hφ
      clear KS
      go_simp
      exact hK _ _ (Kp.refl _) rfl
    · intro a W hW hO hφ K hK
      have q3 : a.tmps.getD 3 undef = (.pointer (some ⟨w.heap.size, 0, none⟩)) := hO 3 (by kernel_rfl)
      have r3 := q3
      rw [Array.getD_eq_getD_getElem?] at r3
      clear hO hφ
      clear KS
      go_simp
      exact hK _ _ (Kp.refl _) rfl
    · intro a W hW hO hφ K hK
      have q63 : a.tmps.getD 63 undef = (.pointer (some ⟨w.heap.size, 5, none⟩)) := hφ ⟨23, .data⟩ (by simp) rfl
      have r63 := q63
      rw [Array.getD_eq_getD_getElem?] at r63
      clear hO hφ
      obtain ⟨k0, k1, k2, k3, k4, k5, k6⟩ := KS W (HKX.out.trans (Kp.trans ((Kp.refl _).drew) hW))
      clear KS
      go_simp
      exact hK _ _ (Kp.refl _) rfl
    · intro a W hW hO hφ K hK
      have q64 : a.tmps.getD 64 undef = (.int .u16 (wn : Int)) := hφ ⟨24, .data⟩ (by simp) rfl
      have r64 := q64
      rw [Array.getD_eq_getD_getElem?] at r64
      clear hO hφ
      clear KS
      go_simp
      exact hK _ _ (Kp.refl _) rfl
    · intro a W hW hO hφ K hK
      have q65 : a.tmps.getD 65 undef = (.int .i64 (wn : Int)) := hφ ⟨25, .data⟩ (by simp) rfl
      have r65 := q65
      rw [Array.getD_eq_getD_getElem?] at r65
      clear hO hφ
      clear KS
      go_simp
      go_at_call 42
      refine (word_any _ wn (by omega)).mono ?_
      rintro e w' ⟨rfl, hk⟩
      exact hK _ _ hk rfl
    · intro a W hW hO hφ K hK
      have q62 : a.tmps.getD 62 undef = (.string (str (wd2 sp ++ (wd2 dp ++ (wd4 sq ++ (wd4 ak ++ [(80 : UInt8), fl])))))) := hφ ⟨22, .data⟩ (by simp) rfl
      have q66 : a.tmps.getD 66 undef = (.string (str (wd2 wn))) := hφ ⟨26, .data⟩ (by simp) rfl
      have r62 := q62
      rw [Array.getD_eq_getD_getElem?] at r62
      have r66 := q66
      rw [Array.getD_eq_getD_getElem?] at r66
      clear hO hφ
      clear KS
      go_simp
      exact hK _ _ (Kp.refl _) rfl
    · intro a W hW hO hφ K hK
      have q67 : a.tmps.getD 67 undef = (.string (str F)) := hφ ⟨27, .data⟩ (by simp) rfl
      have r67 := q67
      rw [Array.getD_eq_getD_getElem?] at r67
      clear hO hφ
      clear KS
      go_simp
      exact hK _ _ (Kp.refl _) rfl
    intro f W hW hφ
    have v0 : f 0 = (.pointer (some ⟨w.heap.size, 0, none⟩)) := hφ 0 (by omega)
    have v1 : f 1 = (.int .u16 (sp : Int)) := hφ 1 (by omega)
    have v2 : f 2 = (.int .i64 (sp : Int)) := hφ 2 (by omega)
    have v3 : f 3 = (.string (str (wd2 sp))) := hφ 3 (by omega)
    have v4 : f 4 = (.pointer (some ⟨w.heap.size, 1, none⟩)) := hφ 4 (by omega)
    have v5 : f 5 = (.int .u16 (dp : Int)) := hφ 5 (by omega)
    have v6 : f 6 = (.int .i64 (dp : Int)) := hφ 6 (by omega)
    have v7 : f 7 = (.string (str (wd2 dp))) := hφ 7 (by omega)
    have v8 : f 8 = (.string (str (wd2 sp ++ wd2 dp))) := hφ 8 (by omega)
    have v9 : f 9 = (.pointer (some ⟨w.heap.size, 2, none⟩)) := hφ 9 (by omega)
    have v10 : f 10 = (.int .u32 (sq : Int)) := hφ 10 (by omega)
    have v11 : f 11 = (.string (str (wd4 sq))) := hφ 11 (by omega)
    have v12 : f 12 = (.string (str (wd2 sp ++ (wd2 dp ++ wd4 sq)))) := hφ 12 (by omega)
    have v13 : f 13 = (.pointer (some ⟨w.heap.size, 3, none⟩)) := hφ 13 (by omega)
    have v14 : f 14 = (.int .u32 (ak : Int)) := hφ 14 (by omega)
    have v15 : f 15 = (.string (str (wd4 ak))) := hφ 15 (by omega)
    have v16 : f 16 = (.string (str (wd2 sp ++ (wd2 dp ++ (wd4 sq ++ wd4 ak))))) := hφ 16 (by omega)
    have v17 : f 17 = (.int .u8 ((80 : UInt8).toNat : Int)) := hφ 17 (by omega)
    have v18 : f 18 = (.pointer (some ⟨w.heap.size, 4, none⟩)) := hφ 18 (by omega)
    have v19 : f 19 = (.int .u8 (fl.toNat : Int)) := hφ 19 (by omega)
    have v20 : (St.rd 2 [(80 : UInt8), fl]).p (f 20) W := hφ 20 (by omega)
    have v21 : f 21 = (.string (str [(80 : UInt8), fl])) := hφ 21 (by omega)
    have v22 : f 22 = (.string (str (wd2 sp ++ (wd2 dp ++ (wd4 sq ++ (wd4 ak ++ [(80 : UInt8), fl])))))) := hφ 22 (by omega)
    have v23 : f 23 = (.pointer (some ⟨w.heap.size, 5, none⟩)) := hφ 23 (by omega)
    have v24 : f 24 = (.int .u16 (wn : Int)) := hφ 24 (by omega)
    have v25 : f 25 = (.int .i64 (wn : Int)) := hφ 25 (by omega)
    have v26 : f 26 = (.string (str (wd2 wn))) := hφ 26 (by omega)
    have v27 : f 27 = (.string (str F)) := hφ 27 (by omega)
    have v28 : f 28 = (.string (str F)) := hφ 28 (by omega)
    clear hφ
    simp only [putAll, List.setIfInBounds_toArray, List.set_cons_succ, List.set_cons_zero, v0, v1, v2, v3, v4, v5, v6, v7, v8, v9, v10, v11, v12, v13, v14, v15, v16, v17, v18, v19, v21, v22, v23, v24, v25, v26, v27, v28]
    clear v0 v1 v2 v3 v4 v5 v6 v7 v8 v9 v10 v11 v12 v13 v14 v15 v16 v17 v18 v19 v21 v22 v23 v24 v25 v26 v27 v28
    refine wpAny_done (by kernel_rfl) ?_ _
    have HK8 := Lib.hid (HKX.out.trans (Kp.trans ((Kp.refl _).drew) hW))
    clear hW HKX KS
    obtain ⟨⟨z7, z6⟩, ⟨x0, x1, x2, x3⟩, ⟨y0, y1, y2, y3⟩⟩ := HC9.out _ HK8.out
    have cv := conv_str (P := Try.prog) (c := c) Try.underlying24 Try.underlying5 Try.underlying9 (HA.out.keep HK8.out)
    go_wp2_with fail
    refine (rpseudo_any _ s0 s1 s2 s3 d0 d1 d2 d3 6 N (by omega)).mono ?_
    rintro e w3 ⟨rfl, hk3⟩
    clear cv z7 z6 x0 x1 x2 x3 y0 y1 y2 y3
    go_wp2_with fail
    refine (RS.out _).mono ?_
    rintro e w4 ⟨rfl, rfl⟩
    go_wp2_with fail
    refine (word_any _ S (by omega)).mono ?_
    rintro e w5 ⟨rfl, hk5⟩
    go_wp2
    go_ret2
    exact ⟨rfl, HKB.out.trans (HK8.out.trans (hk3.trans hk5))⟩
  · have hm : ((ms : Int) != 0) = true := by simp; omega
    have hff := hmf h0
    have q1 : (fl.toNat : Int) / 2 % 2 = 1 := by omega
    have q2 : ((fl.toNat : Int).tdiv 2).tmod 2 = 1 := by rw [Int.tdiv_eq_ediv_of_nonneg (by omega), Int.tmod_eq_emod_of_nonneg (by omega)]; exact q1
    obtain rfl : wd = 96 := by rw [← hwd]; unfold words9; rw [if_neg h0]
    have hO0 : O = 2 :: 4 :: wd2 ms := by rw [← hO]; unfold opt9; rw [if_neg h0]; rfl
    have hBB : 0 :: 0 :: 2 :: 4 :: (wd2 ms ++ l) = B := by rw [← hB, hO0]; simp
    clear h0 hwd hO hO0 hB hmf hff
    go_enter Try.func20, Try.ntmps20
    go_wp2_with fail
    refine (word_any _ ms (by omega)).mono ?_
    rintro e w1 ⟨rfl, hk1⟩
    have HKX := Lib.hid hk1
    clear hk1
    go_wp2_with fail
    refine wp_region_steps (by kernel_rfl) 29 (r9bphi w sp dp sq ak fl wn F) [40, 41, 42, 43, 44, 45, 46, 47, 48, 49, 50, 51, 52, 53, 54, 55, 56, 57, 58, 59, 60, 61, 62, 63, 64, 65, 66, 67, 10] (by kernel_rfl) (by kernel_rfl) ⟨?_, ?_, ?_, ?_, ?_, ?_, ?_, ?_, ?_, ?_, ?_, ?_, ?_, ?_, ?_, ?_, ?_, ?_, ?_, ?_, ?_, ?_, ?_, ?_, ?_, ?_, ?_, ?_, ?_, trivial⟩ ?_
    · intro a W hW hO hφ K hK
      have q3 : a.tmps.getD 3 undef = (.pointer (some ⟨w.heap.size, 0, none⟩)) := hO 3 (by kernel_rfl)
      have r3 := q3
      rw [Array.getD_eq_getD_getElem?] at r3
      clear hO hφ
      clear KS
      go_simp
      exact hK _ _ (Kp.refl _) rfl
    · intro a W hW hO hφ K hK
      have q40 : a.tmps.getD 40 undef = (.pointer (some ⟨w.heap.size, 0, none⟩)) := hφ ⟨0, .data⟩ (by simp) rfl
      have r40 := q40
      rw [Array.getD_eq_getD_getElem?] at r40
      clear hO hφ
      obtain ⟨k0, k1, k2, k3, k4, k5, k6⟩ := KS W (HKX.out.trans (Kp.trans ((Kp.refl _).drew) hW))
      clear KS
      go_simp
      exact hK _ _ (Kp.refl _) rfl
    · intro a W hW hO hφ K hK
      have q41 : a.tmps.getD 41 undef = (.int .u16 (sp : Int)) := hφ ⟨1, .data⟩ (by simp) rfl
      have r41 := q41
      rw [Array.getD_eq_getD_getElem?] at r41
      clear hO hφ
      clear KS
      go_simp
      exact hK _ _ (Kp.refl _) rfl
    · intro a W hW hO hφ K hK
      have q42 : a.tmps.getD 42 undef = (.int .i64 (sp : Int)) := hφ ⟨2, .data⟩ (by simp) rfl
      have r42 := q42
      rw [Array.getD_eq_getD_getElem?] at r42
      clear hO hφ
      clear KS
      go_simp
      go_at_call 42
      refine (word_any _ sp (by omega)).mono ?_
      rintro e w' ⟨rfl, hk⟩
      exact hK _ _ hk rfl
    · intro a W hW hO hφ K hK
      have q3 : a.tmps.getD 3 undef = (.pointer (some ⟨w.heap.size, 0, none⟩)) := hO 3 (by kernel_rfl)
      have r3 := q3
      rw [Array.getD_eq_getD_getElem?] at r3
      clear hO hφ
      clear KS
      go_simp
      exact hK _ _ (Kp.refl _) rfl
    · intro a W hW hO hφ K hK
      have q44 : a.tmps.getD 44 undef = (.pointer (some ⟨w.heap.size, 1, none⟩)) := hφ ⟨4, .data⟩ (by simp) rfl
      have r44 := q44
      rw [Array.getD_eq_getD_getElem?] at r44
      clear hO hφ
      obtain ⟨k0, k1, k2, k3, k4, k5, k6⟩ := KS W (HKX.out.trans (Kp.trans ((Kp.refl _).drew) hW))
      clear KS
      go_simp
      exact hK _ _ (Kp.refl _) rfl
    · intro a W hW hO hφ K hK
      have q45 : a.tmps.getD 45 undef = (.int .u16 (dp : Int)) := hφ ⟨5, .data⟩ (by simp) rfl
      have r45 := q45
      rw [Array.getD_eq_getD_getElem?] at r45
      clear hO hφ
      clear KS
      go_simp
      exact hK _ _ (Kp.refl _) rfl
    · intro a W hW hO hφ K hK
      have q46 : a.tmps.getD 46 undef = (.int .i64 (dp : Int)) := hφ ⟨6, .data⟩ (by simp) rfl
      have r46 := q46
      rw [Array.getD_eq_getD_getElem?] at r46
      clear hO hφ
      clear KS
      go_simp
      go_at_call 42
      refine (word_any _ dp (by omega)).mono ?_
      rintro e w' ⟨rfl, hk⟩
      exact hK _ _ hk rfl
    · intro a W hW hO hφ K hK
      have q43 : a.tmps.getD 43 undef = (.string (str (wd2 sp))) := hφ ⟨3, .data⟩ (by simp) rfl
      have q47 : a.tmps.getD 47 undef = (.string (str (wd2 dp))) := hφ ⟨7, .data⟩ (by simp) rfl
      have r43 := q43
      rw [Array.getD_eq_getD_getElem?] at r43
      have r47 := q47
      rw [Array.getD_eq_getD_getElem?] at r47
      clear hO hφ
      clear KS
      go_simp
      exact hK _ _ (Kp.refl _) rfl
    · intro a W hW hO hφ K hK
      have q3 : a.tmps.getD 3 undef = (.pointer (some ⟨w.heap.size, 0, none⟩)) := hO 3 (by kernel_rfl)
      have r3 := q3
      rw [Array.getD_eq_getD_getElem?] at r3
      clear hO hφ
      clear KS
      go_simp
      exact hK _ _ (Kp.refl _) rfl
    · intro a W hW hO hφ K hK
      have q49 : a.tmps.getD 49 undef = (.pointer (some ⟨w.heap.size, 2, none⟩)) := hφ ⟨9, .data⟩ (by simp) rfl
      have r49 := q49
      rw [Array.getD_eq_getD_getElem?] at r49
      clear hO hφ
      obtain ⟨k0, k1, k2, k3, k4, k5, k6⟩ := KS W (HKX.out.trans (Kp.trans ((Kp.refl _).drew) hW))
      clear KS
      go_simp
      exact hK _ _ (Kp.refl _) rfl
    · intro a W hW hO hφ K hK
      have q50 : a.tmps.getD 50 undef = (.int .u32 (sq : Int)) := hφ ⟨10, .data⟩ (by simp) rfl
      have r50 := q50
      rw [Array.getD_eq_getD_getElem?] at r50
      clear hO hφ
      clear KS
      go_simp
      go_at_call 43
      refine (four_any _ sq (by omega)).mono ?_
      rintro e w' ⟨rfl, hk⟩
      exact hK _ _ hk rfl
    · intro a W hW hO hφ K hK
      have q48 : a.tmps.getD 48 undef = (.string (str (wd2 sp ++ wd2 dp))) := hφ ⟨8, .data⟩ (by simp) rfl
      have q51 : a.tmps.getD 51 undef = (.string (str (wd4 sq))) := hφ ⟨11, .data⟩ (by simp) rfl
      have r48 := q48
      rw [Array.getD_eq_getD_getElem?] at r48
      have r51 := q51
      rw [Array.getD_eq_getD_getElem?] at r51
      clear hO hφ
      clear KS
      go_simp
      exact hK _ _ (Kp.refl _) rfl
    · intro a W hW hO hφ K hK
      have q3 : a.tmps.getD 3 undef = (.pointer (some ⟨w.heap.size, 0, none⟩)) := hO 3 (by kernel_rfl)
      have r3 := q3
      rw [Array.getD_eq_getD_getElem?] at r3
      clear hO hφ
      clear KS
      go_simp
      exact hK _ _ (Kp.refl _) rfl
    · intro a W hW hO hφ K hK
      have q53 : a.tmps.getD 53 undef = (.pointer (some ⟨w.heap.size, 3, none⟩)) := hφ ⟨13, .data⟩ (by simp) rfl
      have r53 := q53
      rw [Array.getD_eq_getD_getElem?] at r53
      clear hO hφ
      obtain ⟨k0, k1, k2, k3, k4, k5, k6⟩ := KS W (HKX.out.trans (Kp.trans ((Kp.refl _).drew) hW))
      clear KS
      go_simp
      exact hK _ _ (Kp.refl _) rfl
    · intro a W hW hO hφ K hK
      have q54 : a.tmps.getD 54 undef = (.int .u32 (ak : Int)) := hφ ⟨14, .data⟩ (by simp) rfl
      have r54 := q54
      rw [Array.getD_eq_getD_getElem?] at r54
      clear hO hφ
      clear KS
      go_simp
      go_at_call 43
      refine (four_any _ ak (by omega)).mono ?_
      rintro e w' ⟨rfl, hk⟩
      exact hK _ _ hk rfl
    · intro a W hW hO hφ K hK
      have q52 : a.tmps.getD 52 undef = (.string (str (wd2 sp ++ (wd2 dp ++ wd4 sq)))) := hφ ⟨12, .data⟩ (by simp) rfl
      have q55 : a.tmps.getD 55 undef = (.string (str (wd4 ak))) := hφ ⟨15, .data⟩ (by simp) rfl
      have r52 := q52
      rw [Array.getD_eq_getD_getElem?] at r52
      have r55 := q55
      rw [Array.getD_eq_getD_getElem?] at r55
      clear hO hφ
      clear KS
      go_simp
      exact hK _ _ (Kp.refl _) rfl
    · intro a W hW hO hφ K hK
      have q9 : a.tmps.getD 9 undef = (.int .u8 ((96 : UInt8).toNat : Int)) := hO 9 (by kernel_rfl)
      have r9 := q9
      rw [Array.getD_eq_getD_getElem?] at r9
      clear hO hφ
      clear KS
      go_simp
      exact hK _ _ (Kp.refl _) rfl
    · intro a W hW hO hφ K hK
      have q3 : a.tmps.getD 3 undef = (.pointer (some ⟨w.heap.size, 0, none⟩)) := hO 3 (by kernel_rfl)
      have r3 := q3
      rw [Array.getD_eq_getD_getElem?] at r3
      clear hO hφ
      clear KS
      go_simp
      exact hK _ _ (Kp.refl _) rfl
    · intro a W hW hO hφ K hK
      have q58 : a.tmps.getD 58 undef = (.pointer (some ⟨w.heap.size, 4, none⟩)) := hφ ⟨18, .data⟩ (by simp) rfl
      have r58 := q58
      rw [Array.getD_eq_getD_getElem?] at r58
      clear hO hφ
      obtain ⟨k0, k1, k2, k3, k4, k5, k6⟩ := KS W (HKX.out.trans (Kp.trans ((Kp.refl _).drew) hW))
      clear KS
      go_simp
      exact hK _ _ (Kp.refl _) rfl
    · intro a W hW hO hφ K hK
      have q57 : a.tmps.getD 57 undef = (.int .u8 ((96 : UInt8).toNat : Int)) := hφ ⟨17, .data⟩ (by simp) rfl
      have q59 : a.tmps.getD 59 undef = (.int .u8 (fl.toNat : Int)) := hφ ⟨19, .data⟩ (by simp) rfl
      have r57 := q57
      rw [Array.getD_eq_getD_getElem?] at r57
      have r59 := q59
      rw [Array.getD_eq_getD_getElem?] at r59
      clear hO hφ
      clear KS
      go_simp
      exact hK _ _ ((Kp.refl _).alloc _) ⟨_, _, rfl, rd_lit rfl (Nat.zero_le _) rfl rfl⟩
    · intro a W hW hO hφ K hK
      have q60 : (St.rd 2 [(96 : UInt8), fl]).p (a.tmps.getD 60 undef) W := hφ ⟨20, .data⟩ (by simp) rfl
      clear hO hφ
      clear KS
      obtain ⟨A1, c1, q60', hr⟩ := q60
      have cv := conv_str (P := Try.prog) (c := c1) Try.underlying24 Try.underlying5 Try.underlying9 hr
      go_simp
      exact hK _ _ (Kp.refl _) rfl
    · intro a W hW hO hφ K hK
      have q56 : a.tmps.getD 56 undef = (.string (str (wd2 sp ++ (wd2 dp ++ (wd4 sq ++ wd4 ak))))) := hφ ⟨16, .data⟩ (by simp) rfl
      have q61 : a.tmps.getD 61 undef = (.string (str [(96 : UInt8), fl])) := hφ ⟨21, .data⟩ (by simp) rfl
      have r56 := q56
      rw [Array.getD_eq_getD_getElem?] at r56
      have r61 := q61
      rw [Array.getD_eq_getD_getElem?] at r61
      clear hO hφ
      clear KS
      go_simp
      exact hK _ _ (Kp.refl _) rfl
    · intro a W hW hO hφ K hK
      have q3 : a.tmps.getD 3 undef = (.pointer (some ⟨w.heap.size, 0, none⟩)) := hO 3 (by kernel_rfl)
      have r3 := q3
      rw [Array.getD_eq_getD_getElem?] at r3
      clear hO hφ
      clear KS
      go_simp
      exact hK _ _ (Kp.refl _) rfl
    · intro a W hW hO hφ K hK
      have q63 : a.tmps.getD 63 undef = (.pointer (some ⟨w.heap.size, 5, none⟩)) := hφ ⟨23, .data⟩ (by simp) rfl
      have r63 := q63
      rw [Array.getD_eq_getD_getElem?] at r63
      clear hO hφ
      obtain ⟨k0, k1, k2, k3, k4, k5, k6⟩ := KS W (HKX.out.trans (Kp.trans ((Kp.refl _).drew) hW))
      clear KS
      go_simp
      exact hK _ _ (Kp.refl _) rfl
    · intro a W hW hO hφ K hK
      have q64 : a.tmps.getD 64 undef = (.int .u16 (wn : Int)) := hφ ⟨24, .data⟩ (by simp) rfl
      have r64 := q64
      rw [Array.getD_eq_getD_getElem?] at r64
      clear hO hφ
      clear KS
      go_simp
      exact hK _ _ (Kp.refl _) rfl
    · intro a W hW hO hφ K hK
      have q65 : a.tmps.getD 65 undef = (.int .i64 (wn : Int)) := hφ ⟨25, .data⟩ (by simp) rfl
      have r65 := q65
      rw [Array.getD_eq_getD_getElem?] at r65
      clear hO hφ
      clear KS
      go_simp
      go_at_call 42
      refine (word_any _ wn (by omega)).mono ?_
      rintro e w' ⟨rfl, hk⟩
      exact hK _ _ hk rfl
    · intro a W hW hO hφ K hK
      have q62 : a.tmps.getD 62 undef = (.string (str (wd2 sp ++ (wd2 dp ++ (wd4 sq ++ (wd4 ak ++ [(96 : UInt8), fl])))))) := hφ ⟨22, .data⟩ (by simp) rfl
      have q66 : a.tmps.getD 66 undef = (.string (str (wd2 wn))) := hφ ⟨26, .data⟩ (by simp) rfl
      have r62 := q62
      rw [Array.getD_eq_getD_getElem?] at r62
      have r66 := q66
      rw [Array.getD_eq_getD_getElem?] at r66
      clear hO hφ
      clear KS
      go_simp
      exact hK _ _ (Kp.refl _) rfl
    · intro a W hW hO hφ K hK
      have q67 : a.tmps.getD 67 undef = (.string (str F)) := hφ ⟨27, .data⟩ (by simp) rfl
      have r67 := q67
      rw [Array.getD_eq_getD_getElem?] at r67
      clear hO hφ
      clear KS
      go_simp
      exact hK _ _ (Kp.refl _) rfl
    intro f W hW hφ
    have v0 : f 0 = (.pointer (some ⟨w.heap.size, 0, none⟩)) := hφ 0 (by omega)
    have v1 : f 1 = (.int .u16 (sp : Int)) := hφ 1 (by omega)
    have v2 : f 2 = (.int .i64 (sp : Int)) := hφ 2 (by omega)
    have v3 : f 3 = (.string (str (wd2 sp))) := hφ 3 (by omega)
    have v4 : f 4 = (.pointer (some ⟨w.heap.size, 1, none⟩)) := hφ 4 (by omega)
    have v5 : f 5 = (.int .u16 (dp : Int)) := hφ 5 (by omega)
    have v6 : f 6 = (.int .i64 (dp : Int)) := hφ 6 (by omega)
    have v7 : f 7 = (.string (str (wd2 dp))) := hφ 7 (by omega)
    have v8 : f 8 = (.string (str (wd2 sp ++ wd2 dp))) := hφ 8 (by omega)
    have v9 : f 9 = (.pointer (some ⟨w.heap.size, 2, none⟩)) := hφ 9 (by omega)
    have v10 : f 10 = (.int .u32 (sq : Int)) := hφ 10 (by omega)
    have v11 : f 11 = (.string (str (wd4 sq))) := hφ 11 (by omega)
    have v12 : f 12 = (.string (str (wd2 sp ++ (wd2 dp ++ wd4 sq)))) := hφ 12 (by omega)
    have v13 : f 13 = (.pointer (some ⟨w.heap.size, 3, none⟩)) := hφ 13 (by omega)
    have v14 : f 14 = (.int .u32 (ak : Int)) := hφ 14 (by omega)
    have v15 : f 15 = (.string (str (wd4 ak))) := hφ 15 (by omega)
    have v16 : f 16 = (.string (str (wd2 sp ++ (wd2 dp ++ (wd4 sq ++ wd4 ak))))) := hφ 16 (by omega)
    have v17 : f 17 = (.int .u8 ((96 : UInt8).toNat : Int)) := hφ 17 (by omega)
    have v18 : f 18 = (.pointer (some ⟨w.heap.size, 4, none⟩)) := hφ 18 (by omega)
    have v19 : f 19 = (.int .u8 (fl.toNat : Int)) := hφ 19 (by omega)
    have v20 : (St.rd 2 [(96 : UInt8), fl]).p (f 20) W := hφ 20 (by omega)
    have v21 : f 21 = (.string (str [(96 : UInt8), fl])) := hφ 21 (by omega)
    have v22 : f 22 = (.string (str (wd2 sp ++ (wd2 dp ++ (wd4 sq ++ (wd4 ak ++ [(96 : UInt8), fl])))))) := hφ 22 (by omega)
    have v23 : f 23 = (.pointer (some ⟨w.heap.size, 5, none⟩)) := hφ 23 (by omega)
    have v24 : f 24 = (.int .u16 (wn : Int)) := hφ 24 (by omega)
    have v25 : f 25 = (.int .i64 (wn : Int)) := hφ 25 (by omega)
    have v26 : f 26 = (.string (str (wd2 wn))) := hφ 26 (by omega)
    have v27 : f 27 = (.string (str F)) := hφ 27 (by omega)
    have v28 : f 28 = (.string (str F)) := hφ 28 (by omega)
    clear hφ
    simp only [putAll, List.setIfInBounds_toArray, List.set_cons_succ, List.set_cons_zero, v0, v1, v2, v3, v4, v5, v6, v7, v8, v9, v10, v11, v12, v13, v14, v15, v16, v17, v18, v19, v21, v22, v23, v24, v25, v26, v27, v28]
    clear v0 v1 v2 v3 v4 v5 v6 v7 v8 v9 v10 v11 v12 v13 v14 v15 v16 v17 v18 v19 v21 v22 v23 v24 v25 v26 v27 v28
    refine wpAny_done (by kernel_rfl) ?_ _
    have HK8 := Lib.hid (HKX.out.trans (Kp.trans ((Kp.refl _).drew) hW))
    clear hW HKX KS
    obtain ⟨⟨z7, z6⟩, ⟨x0, x1, x2, x3⟩, ⟨y0, y1, y2, y3⟩⟩ := HC9.out _ HK8.out
    have cv := conv_str (P := Try.prog) (c := c) Try.underlying24 Try.underlying5 Try.underlying9 (HA.out.keep HK8.out)
    go_wp2_with fail
    refine (rpseudo_any _ s0 s1 s2 s3 d0 d1 d2 d3 6 N (by omega)).mono ?_
    rintro e w3 ⟨rfl, hk3⟩
    clear cv z7 z6 x0 x1 x2 x3 y0 y1 y2 y3
    go_wp2_with fail
    refine (RS.out _).mono ?_
    rintro e w4 ⟨rfl, rfl⟩
    go_wp2_with fail
    refine (word_any _ S (by omega)).mono ?_
    rintro e w5 ⟨rfl, hk5⟩
    go_wp2
    go_ret2
    exact ⟨rfl, HKB.out.trans (HK8.out.trans (hk3.trans hk5))⟩
end Go.Proofs.Ytnoobifdaldfiaa
