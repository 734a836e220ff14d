/-
  A plain law: a segment's own bytes are that segment's.
-/
import Derived.Test.YtnoobifdaldfiaaO9
namespace Go.Proofs.Ytnoobifdaldfiaa
open Go.RowKit
set_option maxRecDepth 100000

theorem wd2_sum (S : Nat) (h : S ≤ 65535) : Ck.wsum true (wd2 S) = S := by
  simp only [wd2, Ck.wsum]
  rw [UInt8.toNat_ofNat', UInt8.toNat_ofNat']
  omega
theorem sum_right (X B : List UInt8) (hX : X.length % 2 = 0) : Ck.ck (X ++ wd2 (65535 - Ck.ck (X ++ [0, 0] ++ B)) ++ B) = 65535 := by
  have h0 := Ck.ck_le (X ++ [0, 0] ++ B)
  obtain ⟨S, hS⟩ : ∃ S, Ck.ck (X ++ [0, 0] ++ B) = S := ⟨_, rfl⟩
  have e1 : Ck.wsum true (X ++ [0, 0] ++ B) = Ck.wsum true X + Ck.wsum true B := by
    rw [List.append_assoc, Ck.wsum_even _ _ _ hX, Ck.wsum_even _ _ _ (by rfl)]; simp [Ck.wsum]
  have e2 : Ck.wsum true (X ++ wd2 (65535 - S) ++ B) = Ck.wsum true X + ((65535 - S) + Ck.wsum true B) := by
    rw [List.append_assoc, Ck.wsum_even _ _ _ hX, Ck.wsum_even _ _ _ (by simp [wd2]), wd2_sum _ (by omega)]
  rw [hS] at h0 ⊢
  unfold Ck.ck at hS ⊢
  rw [e1] at hS
  rw [e2]
  unfold Ck.norm at hS ⊢
  split at hS
  · split <;> omega
  · split <;> omega


theorem be_wd2 (n : Nat) (h : n ≤ 65535) : be (wd2 n) = n := by
  simp only [be, wd2, List.foldl_cons, List.foldl_nil]
  rw [UInt8.toNat_ofNat', UInt8.toNat_ofNat']
  omega
theorem be_wd4 (n : Nat) (h : n < 4294967296) : be (wd4 n) = n := by
  simp only [be, wd4, List.foldl_cons, List.foldl_nil]
  rw [UInt8.toNat_ofNat', UInt8.toNat_ofNat', UInt8.toNat_ofNat', UInt8.toNat_ofNat']
  omega
theorem opts_opt9 (ms : Nat) (h : ms ≤ 65535) : opts (opt9 ms) 0 = some ms := by
  unfold opt9
  split
  case isTrue h0 => rw [opts_nil, h0]
  case isFalse h0 =>
    show opts (2 :: 4 :: UInt8.ofNat (ms / 256) :: UInt8.ofNat ms :: []) 0 = some ms
    rw [opts_go 2 _ 0 (by decide) (by decide) (by simp [sec])]
    show opts [] (be (wd2 ms)) = some ms
    rw [opts_nil, be_wd2 ms h]
theorem opt9_len (ms : Nat) : 20 + (opt9 ms).length = 4 * ((words9 ms).toNat / 16) := by
  unfold opt9 words9
  split <;> simp [wd2]
theorem opt9_le (ms : Nat) : (opt9 ms).length ≤ 4 := by
  unfold opt9
  split <;> simp [wd2]
theorem sbytes9_len (src dst : List UInt8) (sp dp sq ak : Nat) (fl : UInt8) (wn ms : Nat) (D : List UInt8) : (sbytes9 src dst sp dp sq ak fl wn ms D).length = 20 + (opt9 ms).length + D.length := by
  simp [sbytes9, bytes9, hdr9, wd2, wd4]
  omega

set_option maxHeartbeats 1000000 in
theorem out9_sbytes (src dst : List UInt8) (hs : src.length = 4) (hd : dst.length = 4) (s : Sg) (hf : SegFits s) (hn : s.data.length ≤ 156) : out9 src dst (sbytes9 src dst s.sp s.dp s.sq s.ak s.fl s.wn s.ms s.data) = .inr s := by
  obtain ⟨sp, dp, sq, ak, fl, wn, ms, D⟩ := s
  obtain ⟨f1, f2, f3, f4, f5, f6, f7, f8⟩ := hf
  simp only at f1 f2 f3 f4 f5 f6 f7 f8 hn ⊢
  have hl := sbytes9_len src dst sp dp sq ak fl wn ms D
  have ho := opt9_len ms
  have ho4 := opt9_le ms
  have hopt := opts_opt9 ms f7
  have hw16 : (words9 ms).toNat < 256 := (words9 ms).toNat_lt
  have hck : Ck.ck (pseudo src dst 6 (20 + (opt9 ms).length + D.length) ++ sbytes9 src dst sp dp sq ak fl wn ms D) = 65535 := by
    have h := sum_right (pseudo src dst 6 (20 + (opt9 ms).length + D.length) ++ hdr9 sp dp sq ak (words9 ms) fl wn) ([0, 0] ++ opt9 ms ++ D) (by simp [pseudo, hdr9, wd2, wd4, hs, hd])
    unfold sbytes9 bytes9 sum9
    have e1 : pseudo src dst 6 (20 + (opt9 ms).length + D.length) ++ hdr9 sp dp sq ak (words9 ms) fl wn ++ [0, 0] ++ ([0, 0] ++ opt9 ms ++ D) = pseudo src dst 6 (20 + (opt9 ms).length + D.length) ++ (hdr9 sp dp sq ak (words9 ms) fl wn ++ [0, 0, 0, 0] ++ opt9 ms ++ D) := by simp
    rw [e1] at h
    refine Eq.trans (congrArg Ck.ck ?_) h
    simp
  have h12 : (sbytes9 src dst sp dp sq ak fl wn ms D).getD 12 0 = words9 ms := rfl
  have h13 : (sbytes9 src dst sp dp sq ak fl wn ms D).getD 13 0 = fl := rfl
  have b1 : (sbytes9 src dst sp dp sq ak fl wn ms D).take 2 = wd2 sp := rfl
  have b2 : ((sbytes9 src dst sp dp sq ak fl wn ms D).take 4).drop 2 = wd2 dp := rfl
  have b3 : ((sbytes9 src dst sp dp sq ak fl wn ms D).take 8).drop 4 = wd4 sq := rfl
  have b4 : ((sbytes9 src dst sp dp sq ak fl wn ms D).take 12).drop 8 = wd4 ak := rfl
  have b5 : ((sbytes9 src dst sp dp sq ak fl wn ms D).take 16).drop 14 = wd2 wn := rfl
  have bo : ((sbytes9 src dst sp dp sq ak fl wn ms D).take (20 + (opt9 ms).length)).drop 20 = opt9 ms := by
    rw [List.drop_take, show 20 + (opt9 ms).length - 20 = (opt9 ms).length by omega]
    show (opt9 ms ++ D).take (opt9 ms).length = opt9 ms
    simp
  have bd : (sbytes9 src dst sp dp sq ak fl wn ms D).drop (20 + (opt9 ms).length) = D := by
    rw [← List.drop_drop]
    show (opt9 ms ++ D).drop (opt9 ms).length = D
    simp
  unfold out9
  rw [hl, h12, h13, ← ho, if_neg (by omega), if_neg (by omega), if_neg (by omega), if_neg (by omega), if_neg (by rw [hck]; simp), bo, hopt, b1, b2, b3, b4, b5, bd, be_wd2 sp f1, be_wd2 dp f2, be_wd4 sq f3, be_wd4 ak f4, be_wd2 wn f6]
  have e1 : UInt8.ofNat (fl.toNat % 32) = fl := UInt8.toNat_inj.1 (by rw [UInt8.toNat_ofNat']; omega)
  have e2 : (if fl.toNat / 2 % 2 = 0 then 0 else ms) = ms := by
    by_cases h0 : ms = 0
    · rw [h0]; simp
    · rw [if_neg (by rw [f8 h0]; decide)]
  show Sum.inr _ = _
  rw [e1, e2]
end Go.Proofs.Ytnoobifdaldfiaa
