/-
  The contract of caravellaw02.lives: it returns true and leaves what was there as it was.
-/
import Derived.Test.YtibbpineaekfoaaCk2
import Derived.Lib.SlBytesConst
namespace Go.Proofs.Ytibbpineaekfoaa
open Go.RowKit
theorem lives_any (w : World) :
    Calls Try.prog 13 #[] w fun e w' => e = .returned (.bool true) ∧ Kp w w' := by
  have kc := fun (w : World) (C : Array Value) (n c : Nat) => Lib.run_convert_bytes_const (P := Try.prog) w 22 5 C n c Try.underlying22 Try.underlying5
  have e1 : Ck.ck ([[0x00, 0x01, 0xf2, 0x03, 0xf4, 0xf5, 0xf6, 0xf7]] : List (List UInt8)).flatten = 56818 := by decide
  have E1 := Lib.hid e1
  clear e1
  go_enter Try.func13, Try.ntmps13
  go_wp2_with fail
  refine (fold_any _ _ _ _ [[0x00, 0x01, 0xf2, 0x03, 0xf4, 0xf5, 0xf6, 0xf7]] ?_).mono ?_
  · exact rdAll_mk (by simp) rfl (by decide) ⟨⟨_, _, _, rfl, rd_lit rfl (Nat.zero_le _) rfl rfl, by decide⟩, trivial⟩
  rintro e w' ⟨rfl, rfl⟩
  rw [E1.out]
  go_wp2_with fail
  refine (sum_any _ _ _ _ [[]] ?_).mono ?_
  · exact rdAll_mk (by simp) rfl (by decide) ⟨⟨_, _, _, rfl, Rd.none_ _ _, by decide⟩, trivial⟩
  rintro e w' ⟨rfl, rfl⟩
  go_wp2
  go_ret
  exact ⟨rfl, (((Kp.refl _).alloc _).alloc _).alloc _⟩
end Go.Proofs.Ytibbpineaekfoaa
