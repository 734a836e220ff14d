/-
  The walks of OctetsNumbers and OctetsAgain: they return true and leave what was there as it was.
-/
import Derived.Test.YtibbpineaekfoaaLives1
import Derived.Test.YtibbpineaekfoaaOct1
namespace Go.Proofs.Ytibbpineaekfoaa
open Go.RowKit

theorem wf_u64 {n : Int} (h : (Lit.int .u64 n).wf = true) : 0 ≤ n ∧ n ≤ 18446744073709551615 := by simpa [Lit.wf, IntKind.min, IntKind.max, IntKind.signed, IntKind.bits] using h
theorem wf_i64 {n : Int} (h : (Lit.int .i64 n).wf = true) : -9223372036854775808 ≤ n ∧ n ≤ 9223372036854775807 := by simpa [Lit.wf, IntKind.min, IntKind.max, IntKind.signed, IntKind.bits] using h
theorem putL_get {n : Nat} {size : Int} (_hn : n < 18446744073709551616) (h : (putL n size).2 = 0) : getL (putL n size).1 = (n, 0) ∧ ((putL n size).1.length : Int) = size := by
  unfold putL at *
  by_cases h1 : size < 1 ∨ 8 < size
  · rw [if_pos h1] at h; cases h
  · rw [if_neg h1] at h ⊢
    by_cases h2 : n / 256 ^ size.toNat ≠ 0
    · rw [if_pos h2] at h; cases h
    · rw [if_neg h2]
      have hp : 0 < 256 ^ size.toNat := Nat.pow_pos (by decide)
      have h3 : n < 256 ^ size.toNat := by
        rcases Nat.div_eq_zero_iff.1 (by omega : n / 256 ^ size.toNat = 0) with h | h
        · omega
        · exact h
      refine ⟨?_, by simp only [Oc.be_len]; omega⟩
      unfold getL
      rw [if_neg (by simp only [Oc.be_len]; omega), Oc.num_be, Nat.mod_eq_of_lt h3]
theorem putL_bad {n : Nat} {size : Int} (h : (putL n size).2 ≠ 0) : (putL n size).1 = [] := by
  unfold putL at *
  by_cases h1 : size < 1 ∨ 8 < size
  · rw [if_pos h1]
  · rw [if_neg h1] at h ⊢
    by_cases h2 : n / 256 ^ size.toNat ≠ 0
    · rw [if_pos h2]
    · rw [if_neg h2] at h; exact absurd rfl h
theorem putL_len (n : Nat) (size : Int) : (putL n size).1.length ≤ 8 := by
  unfold putL
  repeat' split
  all_goals simp [Oc.be_len]
  omega

set_option maxHeartbeats 1000000 in
theorem again_walk (w : World) (n size : Int) (wn : (Lit.int .u64 n).wf = true) (ws : (Lit.int .i64 size).wf = true) :
    Calls Try.prog 10 #[.int .u64 n, .int .i64 size] w fun e w' => e = .returned (.bool true) ∧ Kp w w' := by
  have hn := wf_u64 wn
  have hs := wf_i64 ws
  clear wn ws
  obtain ⟨m, rfl⟩ := Int.eq_ofNat_of_zero_le hn.1
  have hm : m < 18446744073709551616 := by omega
  go_enter Try.func10, Try.ntmps10
  go_wp2_with fail
  refine (lives1_any _).mono ?_
  rintro e w1 ⟨rfl, hk1⟩
  have HK1 := Lib.hid hk1
  clear hk1
  go_wp2_with fail
  refine (put_any _ m hm size hs.1 hs.2).mono ?_
  rintro e w2 ⟨hk2, A, c, he, hr, hok⟩
  have HG := Lib.hid (putL_get (size := size) hm)
  have HBAD := Lib.hid (putL_bad (n := m) (size := size))
  have hlen := putL_len m size
  obtain ⟨l, hl⟩ : ∃ l, (putL m size).1 = l := ⟨_, rfl⟩
  obtain ⟨k, hk⟩ : ∃ k, (putL m size).2 = k := ⟨_, rfl⟩
  rw [hl] at he hr hok hlen HG HBAD
  rw [hk] at he HG HBAD
  subst he
  have HR := Lib.hid hr
  have HK2 := Lib.hid hk2
  clear hr hok hl hk hk2
  by_cases h0 : k = 0
  · subst h0
    obtain ⟨g1, g2⟩ := HG.out rfl
    have G1 := Lib.hid g1
    have G2 := Lib.hid g2
    clear g1 g2
    go_wp2_with fail
    refine (get_any _ A l.length c l HR.out.lo0 (by omega)).mono ?_
    rintro e w3 ⟨rfl, rfl⟩
    rw [G1.out]
    have g2 := G2.out
    go_wp2
    go_ret
    exact ⟨rfl, HK1.out.trans HK2.out⟩
  · have hl := HBAD.out h0
    subst hl
    have h1 : (k != 0) = true := by simpa using h0
    go_wp2
    go_ret
    exact ⟨rfl, HK1.out.trans HK2.out⟩

set_option maxHeartbeats 1000000 in
theorem numbers_walk (w : World) (n size : Int) (A : Option Addr) (k c : Nat) (l : List UInt8) (wn : (Lit.int .u64 n).wf = true) (ws : (Lit.int .i64 size).wf = true) (hA : Rd w 0 A k l) (hk : k ≤ 140737488351232) :
    Calls Try.prog 9 #[.int .u64 n, .int .i64 size, .slice A k c] w fun e w' => e = .returned (.bool true) ∧ Kp w w' := by
  have hn := wf_u64 wn
  have hs := wf_i64 ws
  clear wn ws
  obtain ⟨m, rfl⟩ := Int.eq_ofNat_of_zero_le hn.1
  have hm : m < 18446744073709551616 := by omega
  have HA := Lib.hid hA
  have HL := Lib.hid hA.len
  clear hA
  by_cases h : 100 < k
  · go_enter Try.func9, Try.ntmps9
    go_wp2_with (first | (go_at_call 21; refine (lives1_any _).mono ?_; rintro e w1 ⟨rfl, hk⟩))
    go_ret
    exact ⟨rfl, Kp.trans (by assumption) hk⟩
  · go_enter Try.func9, Try.ntmps9
    go_wp2_with fail
    refine (lives1_any _).mono ?_
    rintro e w1 ⟨rfl, hk1⟩
    have HK1 := Lib.hid hk1
    clear hk1
    go_wp2_with fail
    refine (put_any _ m hm size hs.1 hs.2).mono ?_
    rintro e w2 ⟨hk2, A2, c2, rfl, hr, _⟩
    have HR := Lib.hid hr
    have HK2 := Lib.hid hk2
    clear hr hk2
    go_wp2_with fail
    refine (rput_any _ m hm size hs.1 hs.2).mono ?_
    rintro e w3 ⟨rfl, hk3⟩
    obtain ⟨p, hp⟩ : ∃ p, (putL m size).1 = p := ⟨_, rfl⟩
    have hlen := putL_len m size
    rw [hp] at HR hlen ⊢
    clear hp
    have HK3 := Lib.hid hk3
    clear hk3
    go_wp2_with fail
    refine (get_any _ A k c l (HA.out.keep ((HK1.out.trans HK2.out).trans HK3.out)) (by omega)).mono ?_
    rintro e w4 ⟨rfl, rfl⟩
    have cv := conv_str (P := Try.prog) (c := c) Try.underlying22 Try.underlying5 Try.underlying9 (HA.out.keep ((HK1.out.trans HK2.out).trans HK3.out))
    go_wp2_with fail
    refine (rget_any _ l (by rw [HL.out]; omega)).mono ?_
    rintro e w5 ⟨rfl, rfl⟩
    have cv2 := conv_str (P := Try.prog) (c := c2) Try.underlying22 Try.underlying5 Try.underlying9 (HR.out.lo0.keep HK3.out)
    go_wp2
    go_ret
    exact ⟨rfl, (HK1.out.trans HK2.out).trans HK3.out⟩
end Go.Proofs.Ytibbpineaekfoaa
