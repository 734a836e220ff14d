/-
  The contract of caravellaw05.lives: it returns true and leaves what was there as it was.
-/
import Derived.Test.YtdibmeapflhhaaaBuild5
import Derived.Test.YtdibmeapflhhaaaParse5
import Derived.Lib.SlBytesConst
namespace Go.Proofs.Ytdibmeapflhhaaa
open Go.RowKit

theorem frameX : frameBytes [0, 0, 0, 0, 0, 0] [0, 0, 0, 0, 0, 0] 2054 [120] = 0 :: 0 :: 0 :: 0 :: 0 :: 0 :: 0 :: 0 :: 0 :: 0 :: 0 :: 0 :: 8 :: 6 :: [120] := by decide

set_option maxHeartbeats 1000000 in
theorem lives_any (w : World) :
    Calls Try.prog 14 #[] w fun e w' => e = .returned (.bool true) ∧ Kp w w' := by
  have kc := fun (w : World) (C : Array Value) (n c : Nat) => Lib.run_convert_bytes_const (P := Try.prog) w 25 5 C n c Try.underlying25 Try.underlying5
  go_enter Try.func14, Try.ntmps14
  go_wp2_with fail
  refine (build_any _ 0 0 0 0 0 0 0 0 0 0 0 0 2054 (by decide) _ 1 _ [120] ?_).mono ?_
  · exact rd_lit rfl (Nat.zero_le _) rfl rfl
  rintro e w1 ⟨hk1, hcase⟩
  rcases hcase with ⟨h, _⟩ | ⟨_, g, cap, rfl, hown⟩
  · exact absurd h (by decide)
  rw [frameX] at hown
  have hok := hown.slOk
  have HO := Lib.hid hown
  have HOK := Lib.hid hok
  have HK1 := Lib.hid hk1
  clear hown hok hk1 kc
  go_wp2_with fail
  refine (parse_ok _ _ _ _ 0 0 0 0 0 0 0 0 0 0 0 0 8 6 [120] (by decide) HO.out.rd0 HOK.out).mono ?_
  rintro e w2 ⟨hk2, A2, c2, rfl, hr, _⟩
  have HR := Lib.hid hr
  have HK2 := Lib.hid hk2
  have cv : ∀ C : Array Value, (convert 25 9 (.slice A2 1 c2)).run Try.prog (w2.alloc (.cells C 27)) = .ok (.string (str [120])) (w2.alloc (.cells C 27)) :=
    fun C => conv_str (P := Try.prog) Try.underlying25 Try.underlying5 Try.underlying9 (hr.lo0.keep ((Kp.refl w2).alloc _))
  have cs : str [120] = ⟨#[120]⟩ := rfl
  clear hr hk2
  go_wp2
  go_ret
  exact ⟨rfl, (((((Kp.refl w).alloc _).trans HK1.out).trans HK2.out).alloc _)⟩
end Go.Proofs.Ytdibmeapflhhaaa
