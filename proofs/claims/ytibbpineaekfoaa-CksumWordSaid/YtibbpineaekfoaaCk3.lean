/-
  The contracts of cksum.Adjust and of the document's answers two and Adjust.
-/
import Derived.Test.YtibbpineaekfoaaCk2
namespace Go.Proofs.Ytibbpineaekfoaa
open Go.RowKit

theorem two_any (a b : Int) (ha : 0 ≤ a) (ha' : a ≤ 65535) (hb : 0 ≤ b) (hb' : b ≤ 65535) (w : World) :
    Calls Try.prog 34 #[.int .u16 a, .int .u16 b] w fun e w' => e = .returned (.int .u16 (Ck.add2 a b)) ∧ w = w' := by
  go_enter Try.func34, Try.ntmps34
  go_wp2
  all_goals go_ret
  all_goals exact ⟨ret_int (by unfold Ck.add2; split <;> omega), rfl⟩

theorem adjust_any (a b c : Int) (ha : 0 ≤ a) (ha' : a ≤ 65535) (hb : 0 ≤ b) (hb' : b ≤ 65535) (hc : 0 ≤ c) (hc' : c ≤ 65535) (w : World) :
    Calls Try.prog 19 #[.int .u16 a, .int .u16 b, .int .u16 c] w fun e w' => e = .returned (.int .u16 (65535 - Ck.add2 (Ck.add2 (65535 - a) (65535 - b)) c)) ∧ w = w' := by
  have h1 := xor_u16 a ha ha'
  have h2 := xor_u16 b hb hb'
  obtain ⟨x, hx⟩ : ∃ x, x = Ck.add2 (65535 - a) (65535 - b) := ⟨_, rfl⟩
  have bx := add2_bd (65535 - a) (65535 - b) (by omega) (by omega) (by omega) (by omega)
  have by_ := add2_bd x c (by omega) (by omega) (by omega) (by omega)
  obtain ⟨y, hy⟩ : ∃ y, y = Ck.add2 x c := ⟨_, rfl⟩
  rw [← hx] at bx ⊢
  rw [← hy] at by_ ⊢
  have h3 := xor_u16 y (by omega) (by omega)
  have HX := Lib.hid hx
  have HY := Lib.hid hy
  clear hx hy
  go_enter Try.func19, Try.ntmps19
  go_wp2_with fail
  refine (add_any _ _ (by omega) (by omega) (by omega) (by omega) _).mono ?_
  rintro e w' ⟨rfl, rfl⟩
  rw [← HX.out]
  go_wp2_with fail
  refine (add_any _ _ (by omega) (by omega) (by omega) (by omega) _).mono ?_
  rintro e w' ⟨rfl, rfl⟩
  rw [← HY.out]
  go_wp2
  go_ret
  exact ⟨rfl, rfl⟩

theorem radjust_any (a b c : Int) (ha : 0 ≤ a) (ha' : a ≤ 65535) (hb : 0 ≤ b) (hb' : b ≤ 65535) (hc : 0 ≤ c) (hc' : c ≤ 65535) (w : World) :
    Calls Try.prog 20 #[.int .u16 a, .int .u16 b, .int .u16 c] w fun e w' => e = .returned (.int .u16 (65535 - Ck.add2 (Ck.add2 (65535 - a) (65535 - b)) c)) ∧ w = w' := by
  obtain ⟨x, hx⟩ : ∃ x, x = Ck.add2 (65535 - a) (65535 - b) := ⟨_, rfl⟩
  have bx := add2_bd (65535 - a) (65535 - b) (by omega) (by omega) (by omega) (by omega)
  have by_ := add2_bd x c (by omega) (by omega) (by omega) (by omega)
  obtain ⟨y, hy⟩ : ∃ y, y = Ck.add2 x c := ⟨_, rfl⟩
  rw [← hx] at bx ⊢
  rw [← hy] at by_ ⊢
  have HX := Lib.hid hx
  have HY := Lib.hid hy
  clear hx hy
  go_enter Try.func20, Try.ntmps20
  go_wp2_with fail
  refine (two_any _ _ (by omega) (by omega) (by omega) (by omega) _).mono ?_
  rintro e w' ⟨rfl, rfl⟩
  rw [← HX.out]
  go_wp2_with fail
  refine (two_any _ _ (by omega) (by omega) (by omega) (by omega) _).mono ?_
  rintro e w' ⟨rfl, rfl⟩
  rw [← HY.out]
  go_wp2
  go_ret
  exact ⟨rfl, rfl⟩
end Go.Proofs.Ytibbpineaekfoaa
