/-
  The walk of OctetsTexts: it returns true and leaves what was there as it was.
-/
import Derived.Test.YtibbpineaekfoaaLives1
import Derived.Test.YtibbpineaekfoaaOct7
namespace Go.Proofs.Ytibbpineaekfoaa
open Go.RowKit

set_option maxHeartbeats 2000000 in
theorem texts_walk (w : World) (A : Option Addr) (n c : Nat) (l : List UInt8) (S : ByteArray) (hA : Rd w 0 A n l) (hn : n ≤ 140737488351232) :
    Calls Try.prog 12 #[.slice A n c, .string S] w fun e w' => e = .returned (.bool true) ∧ Kp w w' := by
  obtain ⟨m, rfl⟩ : ∃ m, S = str m := ⟨S.data.toList, (str_of S).symm⟩
  have hsz := str_size m
  have HA := Lib.hid hA
  have HL := Lib.hid hA.len
  clear hA
  by_cases h : 300 < n
  · go_enter Try.func12, Try.ntmps12
    go_wp2_with (first | (go_at_call 21; refine (lives1_any _).mono ?_; rintro e w1 ⟨rfl, hk⟩))
    go_ret
    exact ⟨rfl, Kp.trans (by assumption) hk⟩
  by_cases h2 : 300 < m.length
  · go_enter Try.func12, Try.ntmps12
    go_wp2_with (first | (go_at_call 21; refine (lives1_any _).mono ?_; rintro e w1 ⟨rfl, hk⟩))
    go_ret
    exact ⟨rfl, Kp.trans (by assumption) hk⟩
  go_enter Try.func12, Try.ntmps12
  go_wp2_with fail
  refine (lives1_any _).mono ?_
  rintro e w1 ⟨rfl, hk1⟩
  have HK1 := Lib.hid hk1
  clear hk1
  go_wp2_with fail
  refine (hex_any _ A n c l (HA.out.keep HK1.out) (by omega)).mono ?_
  rintro e w2 ⟨rfl, hk2⟩
  have HK2 := Lib.hid (HK1.out.trans hk2)
  have HX := Lib.hid (Oc.unhex_hex l)
  have hxl := Oc.hex_len l
  have hxl' : (Oc.hex l).length ≤ 65536 := by rw [hxl, HL.out]; omega
  clear hk2 hxl
  obtain ⟨x, hx⟩ : ∃ x, Oc.hex l = x := ⟨_, rfl⟩
  have HXE := Lib.hid hx
  rw [hx] at HX hxl' ⊢
  clear hx
  go_wp2_with fail
  refine (unhex_any _ x hxl').mono ?_
  rw [HX.out]
  rintro e w3 ⟨hk3, A3, c3, rfl, hr3, _⟩
  have HK3 := Lib.hid (HK2.out.trans hk3)
  have HR3 := Lib.hid hr3.lo0
  clear hk3 hr3
  go_wp2_with fail
  refine (unhex_any _ m (by omega)).mono ?_
  rintro e w4 ⟨hk4, A4, c4, rfl, hr4, _⟩
  have HK4 := Lib.hid (HK3.out.trans hk4)
  have HR34 := Lib.hid (HR3.out.keep hk4)
  have HR4 := Lib.hid hr4.lo0
  clear hk4 hr4 HR3
  have hul : (Oc.unhex m).1.length ≤ 300 := by
    unfold Oc.unhex
    repeat' split
    all_goals simp
    have := pairs_len m
    omega
  go_wp2_with fail
  refine (runhex_any _ m (by omega)).mono ?_
  rintro e w5 ⟨rfl, hk5⟩
  obtain ⟨y, hy⟩ : ∃ y, (Oc.unhex m).1 = y := ⟨_, rfl⟩
  obtain ⟨er, her⟩ : ∃ er, (Oc.unhex m).2 = er := ⟨_, rfl⟩
  rw [hy] at HR4 hul ⊢
  rw [her]
  clear hy her
  have HK5 := Lib.hid (HK4.out.trans hk5)
  have HR35 := Lib.hid (HR34.out.keep hk5)
  have HR45 := Lib.hid (HR4.out.keep hk5)
  clear hk5 HR34 HR4
  have cv := conv_str (P := Try.prog) (c := c) Try.underlying22 Try.underlying5 Try.underlying9 (HA.out.keep HK5.out)
  go_wp2_with fail
  refine (rhex_any _ l (by rw [HL.out]; omega)).mono ?_
  rintro e w6 ⟨rfl, hk6⟩
  rw [HXE.out]
  have cv1 := conv_str (P := Try.prog) (c := c) Try.underlying22 Try.underlying5 Try.underlying9 (HA.out.keep (HK5.out.trans hk6))
  have cv3 := conv_str (P := Try.prog) (c := c3) Try.underlying22 Try.underlying5 Try.underlying9 (HR35.out.keep hk6)
  have cv4 := conv_str (P := Try.prog) (c := c4) Try.underlying22 Try.underlying5 Try.underlying9 (HR45.out.keep hk6)
  have HL' := HL.out
  simp only [HL'] at cv3
  go_wp2
  go_ret
  exact ⟨rfl, HK5.out.trans hk6⟩
end Go.Proofs.Ytibbpineaekfoaa
