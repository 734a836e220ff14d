/-
  The contract of caravellaw01.lives: it returns true and leaves what was there as it was.
-/
import Derived.Test.YtibbpineaekfoaaOct3
import Derived.Test.YtibbpineaekfoaaOct5
import Derived.Lib.SlBytesConst
namespace Go.Proofs.Ytibbpineaekfoaa
open Go.RowKit

set_option maxHeartbeats 1000000 in
theorem lives1_any (w : World) :
    Calls Try.prog 21 #[] w fun e w' => e = .returned (.bool true) ∧ Kp w w' := by
  have kc := fun (w : World) (C : Array Value) (n c : Nat) => Lib.run_convert_bytes_const (P := Try.prog) w 22 5 C n c Try.underlying22 Try.underlying5
  have e1 : putL 300 2 = ([1, 44], 0) := by decide
  have e2 : Sp.split [97, 98, 99, 100, 101] [1, 2] = ([[97], [98, 99], [100, 101]], 0) := by decide
  have e3 : Oc.hex [1, 44] = [48, 49, 50, 99] := by decide
  have E1 := Lib.hid e1
  have E2 := Lib.hid e2
  have E3 := Lib.hid e3
  clear e1 e2 e3
  go_enter Try.func21, Try.ntmps21
  go_wp2_with fail
  refine (put_any _ 300 (by decide) 2 (by decide) (by decide)).mono ?_
  rintro e w1 ⟨hk1, A1, c1, he, hr1, _⟩
  rw [E1.out] at he hr1
  subst he
  have HR1 := Lib.hid hr1
  have HK1 := Lib.hid hk1
  clear hr1 hk1
  go_wp2_with fail
  refine (split_any _ _ _ _ [97, 98, 99, 100, 101] _ 2 2 [1, 2] ?_ ?_ (by decide) ?_ (by decide)).mono ?_
  · exact (rd_lit (w := w1) rfl (Nat.zero_le _) rfl rfl).keep ((Kp.refl _).alloc _)
  · exact SlOk.some_ (by decide) (by decide)
  · exact rdV_lit (by simp) (Nat.zero_le _) rfl rfl
  rintro e w2 ⟨hk2, v, he, hcase⟩
  rw [E2.out] at he hcase
  rcases hcase with ⟨h, _⟩ | ⟨_, g, cap, vs, rfl, hown, hps⟩
  · exact absurd rfl h
  subst he
  obtain ⟨g1, cc1, p1, o1⟩ := hps.part hown (j := 1) rfl
  have P1 := Lib.hid p1
  have O1 := Lib.hid o1.rd0
  have HK2 := Lib.hid ((((Kp.refl w1).alloc _).alloc _).trans hk2)
  clear p1 o1 hps hown kc hk2
  have c4 : str [48, 49, 50, 99] = ⟨#[48, 49, 50, 99]⟩ := rfl
  have c2 : str [98, 99] = ⟨#[98, 99]⟩ := rfl
  go_wp2_with (first | (go_at_call 29; refine (hex_any _ _ _ _ [1, 44] (HR1.out.lo0.keep HK2.out) (by decide)).mono ?_; rintro e w3 ⟨rfl, hk3⟩; rw [E3.out]; have p1 := hk3.cell P1.out; have cv : (convert 22 9 (.slice (some ⟨g1, 0, none⟩) 2 cc1)).run Try.prog w3 = .ok (.string (str [98, 99])) w3 := conv_str (P := Try.prog) (c := cc1) Try.underlying22 Try.underlying5 Try.underlying9 (O1.out.keep hk3)))
  go_ret
  exact ⟨rfl, (HK1.out.trans HK2.out).trans hk3⟩
end Go.Proofs.Ytibbpineaekfoaa
