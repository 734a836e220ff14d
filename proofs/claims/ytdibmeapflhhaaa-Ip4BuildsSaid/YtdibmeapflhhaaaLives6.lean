/-
  The contract of caravellaw06.lives: it returns true and leaves what was there as it was.
-/
import Derived.Test.YtdibmeapflhhaaaI6b
import Derived.Test.YtdibmeapflhhaaaI6f
import Derived.Lib.SlBytesConst
namespace Go.Proofs.Ytdibmeapflhhaaa
open Go.RowKit

theorem pktX : pbytes 0 (placeOf 0 false) 9 17 [0, 0, 0, 0] [0, 0, 0, 0] [120] = 69 :: 0 :: 0 :: 21 :: 0 :: 0 :: 0 :: 0 :: 9 :: 17 :: 177 :: 217 :: 0 :: 0 :: 0 :: 0 :: 0 :: 0 :: 0 :: 0 :: [120] := by decide

set_option maxHeartbeats 1000000 in
theorem lives6_any (w : World) :
    Calls Try.prog 22 #[] w fun e w' => e = .returned (.bool true) ∧ Kp w w' := by
  have kc := fun (w : World) (C : Array Value) (n c : Nat) => Lib.run_convert_bytes_const (P := Try.prog) w 25 5 C n c Try.underlying25 Try.underlying5
  go_enter Try.func22, Try.ntmps22
  go_wp2_with fail
  refine (i6build_ok _ 0 false 0 9 17 0 0 0 0 0 0 0 0 _ 1 _ [120] (by decide) (by decide) (by decide) (by decide) ?_).mono ?_
  · exact rd_lit rfl (Nat.zero_le _) rfl rfl
  rintro e w1 ⟨hk1, g, cap, rfl, hown⟩
  rw [pktX] at hown
  have HO := Lib.hid hown
  have HOK := Lib.hid hown.slOk
  have HK1 := Lib.hid hk1
  clear hown hk1 kc
  go_wp2_with fail
  refine (p6_ok _ _ 21 _ 69 0 0 21 0 0 0 0 9 17 177 217 0 0 0 0 0 0 0 0 [120] HO.out.rd0 HOK.out (by decide) (by decide) (by decide) (by decide) (by decide)).mono ?_
  rintro e w2 ⟨hk2, A2, c2, rfl, hr, _⟩
  have e1 : ([69, 0, 0, 21, 0, 0, 0, 0, 9, 17, 177, 217, 0, 0, 0, 0, 0, 0, 0, 0, 120] : List UInt8).take (256 * (0 : UInt8).toNat + (21 : UInt8).toNat) = [69, 0, 0, 21, 0, 0, 0, 0, 9, 17, 177, 217, 0, 0, 0, 0, 0, 0, 0, 0, 120] := by decide
  have e2 : ([69, 0, 0, 21, 0, 0, 0, 0, 9, 17, 177, 217, 0, 0, 0, 0, 0, 0, 0, 0, 120] : List UInt8).drop (4 * ((69 : UInt8).toNat % 16)) = [120] := by decide
  rw [e1, e2] at hr ⊢
  have hr' : Rd w2 w1.heap.size A2 1 [120] := hr
  have HR := Lib.hid hr'
  have HK2 := Lib.hid hk2
  have cv : ∀ C : Array Value, (convert 25 9 (.slice A2 1 c2)).run Try.prog (w2.alloc (.cells C 50)) = .ok (.string (str [120])) (w2.alloc (.cells C 50)) :=
    fun C => conv_str (P := Try.prog) Try.underlying25 Try.underlying5 Try.underlying9 (hr'.lo0.keep ((Kp.refl w2).alloc _))
  have cs : str [120] = ⟨#[120]⟩ := rfl
  clear hr hr' hk2 e1 e2
  go_wp2_with (refine lst_new (by rfl) (.tmp 3) (.tmp 15) _ rfl rfl rfl szPkt rfl rfl rfl ?_)
  go_ret
  exact ⟨rfl, (((((Kp.refl w).alloc _).trans HK1.out).trans HK2.out).alloc _)⟩
end Go.Proofs.Ytdibmeapflhhaaa
