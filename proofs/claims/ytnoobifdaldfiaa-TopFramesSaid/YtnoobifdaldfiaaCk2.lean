/-
  The contracts of cksum.Sum, Right and Adjust, and of the document's answers Fold, Sum, two and Adjust.
-/
import Derived.Test.YtnoobifdaldfiaaCk1
namespace Go.Proofs.Ytnoobifdaldfiaa
open Go.RowKit
set_option maxRecDepth 100000

theorem xor_u16 (a : Int) (h : 0 ≤ a) (h' : a ≤ 65535) : bits BinOp.xor IntKind.u16 IntKind.u16.max a = 65535 - a := by
  obtain ⟨n, rfl⟩ := Int.eq_ofNat_of_zero_le h
  have e : IntKind.u16.max = 65535 := rfl
  show IntKind.u16.wrap ((BitVec.ofInt 16 IntKind.u16.max ^^^ BitVec.ofInt 16 (n : Int)).toNat : Int) = _
  have e1 : BitVec.ofInt 16 IntKind.u16.max = BitVec.allOnes 16 := by rw [e]; rfl
  rw [e1, BitVec.allOnes_xor, BitVec.ofInt_natCast, BitVec.toNat_not, BitVec.toNat_ofNat]
  have : n % 2 ^ 16 = n := Nat.mod_eq_of_lt (by omega)
  rw [this]
  simp only [IntKind.wrap, IntKind.bits, IntKind.signed]
  simp
  omega

theorem sum_any (w : World) (A : Option Addr) (n c : Nat) (ls : List (List UInt8)) (h : RdAll w A n ls) :
    Calls Try.prog 27 #[.slice A n c] w fun e w' => e = .returned (.int .u16 (65535 - Ck.ck ls.flatten : Nat)) ∧ w = w' := by
  have H := Lib.hid h
  clear h
  have hc := Ck.ck_le ls.flatten
  have hx := xor_u16 (Ck.ck ls.flatten : Nat) (by omega) (by omega)
  go_enter Try.func27, Try.ntmps27
  go_wp2_with (go_at_call 50; refine (fold_any _ _ _ _ ls H.out).mono ?_; rintro e w' ⟨rfl, rfl⟩)
  go_ret
  exact ⟨ret_int (by omega), rfl⟩

theorem right_any (w : World) (A : Option Addr) (n c : Nat) (ls : List (List UInt8)) (h : RdAll w A n ls) :
    Calls Try.prog 32 #[.slice A n c] w fun e w' => e = .returned (.bool (Ck.ck ls.flatten == 65535)) ∧ w = w' := by
  have H := Lib.hid h
  clear h
  have hc := Ck.ck_le ls.flatten
  go_enter Try.func32, Try.ntmps32
  go_wp2_with (go_at_call 50; refine (fold_any _ _ _ _ ls H.out).mono ?_; rintro e w' ⟨rfl, rfl⟩)
  go_ret
  refine ⟨ret_bool ?_, rfl⟩
  rw [Bool.eq_iff_iff]
  simp
  omega

theorem add2_bd (a b : Int) (ha : 0 ≤ a) (ha' : a ≤ 65535) (hb : 0 ≤ b) (hb' : b ≤ 65535) : 0 ≤ Ck.add2 a b ∧ Ck.add2 a b ≤ 65535 := by
  unfold Ck.add2; split <;> omega

theorem take_snoc (s : ByteArray) (k : Nat) (h : k < s.size) : s.data.toList.take (k + 1) = s.data.toList.take k ++ [s[k]] := by
  rw [List.take_succ_eq_append_getElem (by simpa using h)]; rfl

set_option maxHeartbeats 400000 in
theorem rfold_any (w : World) (s : ByteArray) (hs : s.size ≤ 65536) :
    Calls Try.prog 46 #[.string s] w fun e w' => e = .returned (.int .u16 (Ck.ck s.data.toList : Nat)) ∧ w = w' := by
  go_enter Try.func46, Try.ntmps46
  go_wp2
  go_loop [3, 4] (fun m i => ∃ k : Nat, k ≤ s.size ∧ i = .int .i64 k ∧ m = .int .i64 (Ck.wsum true (s.data.toList.take k) : Nat))
    (fun _ i => s.size - (intOf i).toNat)
  case atStart => exact ⟨0, Nat.zero_le _, rfl, rfl⟩
  case round =>
    obtain ⟨k, hk, rfl, rfl⟩ := hrel
    have hlk : (s.data.toList.take k).length = k := by rw [List.length_take, Nat.min_eq_left]; simpa using hk
    have hle := Ck.wsum_le true (s.data.toList.take k)
    rw [hlk] at hle
    by_cases hlt : k < s.size
    · have hb : s[k].toNat < 256 := s[k].toNat_lt
      have HS := Lib.hid (take_snoc s k hlt)
      have HL := Lib.hid hlk
      clear hlk
      go_wp2
      all_goals
        go_round
        case measure => simp [intOf]; omega
      · rename_i hev
        have he : k % 2 = 0 := by simp at hev; omega
        refine ⟨k + 1, by omega, by go_num, ?_⟩
        rw [HS.out, Ck.wsum_snoc_high _ _ (by rw [HL.out]; exact he)]
        go_num
      · rename_i hev
        have he : k % 2 = 1 := by simp at hev; omega
        refine ⟨k + 1, by omega, by go_num, ?_⟩
        rw [HS.out, Ck.wsum_snoc_low _ _ (by rw [HL.out]; exact he)]
        go_num
    · obtain rfl : k = s.size := by omega
      have HL := Lib.hid hlk
      clear hlk
      obtain ⟨m, hm⟩ : ∃ m, Ck.wsum true (s.data.toList.take s.size) = m := ⟨_, rfl⟩
      rw [hm] at hle ⊢
      have HM : Hid (m = Ck.wsum true s.data.toList) := Lib.hid (by rw [← hm, List.take_of_length_le (by simp)])
      clear hm
      go_wp2
      all_goals go_ret
      all_goals refine ⟨ret_int ?_, rfl⟩
      all_goals unfold Ck.ck
      all_goals rw [← HM.out]
      all_goals unfold Ck.norm
      all_goals try simp only [beq_iff_eq, beq_eq_false_iff_ne, ne_eq] at *
      all_goals split <;> omega

theorem rsum_any (w : World) (s : ByteArray) (hs : s.size ≤ 65536) :
    Calls Try.prog 44 #[.string s] w fun e w' => e = .returned (.int .u16 (65535 - Ck.ck s.data.toList : Nat)) ∧ w = w' := by
  have hc := Ck.ck_le s.data.toList
  go_enter Try.func44, Try.ntmps44
  go_wp2_with (go_at_call 46; refine (rfold_any _ _ hs).mono ?_; rintro e w' ⟨rfl, rfl⟩)
  go_ret
  exact ⟨ret_int (by omega), rfl⟩
end Go.Proofs.Ytnoobifdaldfiaa
