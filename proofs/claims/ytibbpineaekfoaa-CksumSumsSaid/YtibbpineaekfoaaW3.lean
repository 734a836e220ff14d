/-
  The walk of the law CksumSums: it returns true and leaves what was there as it was.
-/
import Derived.Test.YtibbpineaekfoaaLives2
import Derived.Test.YtibbpineaekfoaaApp8
namespace Go.Proofs.Ytibbpineaekfoaa
open Go.RowKit

set_option maxHeartbeats 400000 in
theorem sums_walk (w : World) (A : Option Addr) (n c : Nat) (la : List UInt8) (B : Option Addr) (m d : Nat) (lb : List UInt8) (C : Option Addr) (k f : Nat) (lc : List UInt8)
    (hA : Rd w 0 A n la) (hn : n ≤ 140737488351232) (hB : Rd w 0 B m lb) (hm : m ≤ 140737488351232) (hC : Rd w 0 C k lc) (hkn : k ≤ 140737488351232) :
    Calls Try.prog 5 #[.slice A n c, .slice B m d, .slice C k f] w fun e w' => e = .returned (.bool true) ∧ Kp w w' := by
  have ela := Lib.hid hA.len
  have elb := Lib.hid hB.len
  have elc := Lib.hid hC.len
  go_enter Try.func5, Try.ntmps5
  go_wp2_with (first
    | (go_at_call 13; refine (lives_any _).mono ?_; rintro e w1 ⟨rfl, hk⟩
       have cA := conv_str (P := Try.prog) (c := c) Try.underlying22 Try.underlying5 Try.underlying9 (hA.keep hk)
       have cB := conv_str (P := Try.prog) (c := d) Try.underlying22 Try.underlying5 Try.underlying9 (hB.keep hk)
       have cC := conv_str (P := Try.prog) (c := f) Try.underlying22 Try.underlying5 Try.underlying9 (hC.keep hk)
       have sA : (str la).size ≤ n := by rw [str_size, ela.out]; omega
       have sB : (str lb).size ≤ m := by rw [str_size, elb.out]; omega
       have sC : (str lc).size ≤ k := by rw [str_size, elc.out]; omega)
    | (go_at_call 13; refine (lives_any _).mono ?_; rintro e w2 ⟨rfl, hk2⟩))
  all_goals first
    | (go_ret; exact ⟨rfl, Kp.trans hk hk2⟩)
    | skip
  clear cA cB cC
  have e0 : str la ++ str lb ++ str lc = str (la ++ lb ++ lc) := by rw [str_append, str_append]
  have hs : (str la ++ str lb ++ str lc).size ≤ 65536 := by rw [e0, str_size, List.length_append, List.length_append, ela.out, elb.out, elc.out]; omega
  obtain ⟨X, hX⟩ : ∃ S, Ck.ck [la, lb, lc].flatten = S := ⟨_, rfl⟩
  have bX := Ck.ck_le [la, lb, lc].flatten
  rw [hX] at bX
  have E1 := Lib.hid hX
  have E2 : Hid (Ck.ck (str la ++ str lb ++ str lc).data.toList = X) := Lib.hid (by
    rw [e0, str_list, ← hX]; simp only [List.flatten_cons, List.flatten_nil, List.append_nil, List.append_assoc])
  clear hX e0
  have HS := Lib.hid hs
  clear hs
  have HN : Hid (n ≤ maxLen) := Lib.hid (by unfold maxLen; omega)
  have HM : Hid (m ≤ maxLen) := Lib.hid (by unfold maxLen; omega)
  have HK : Hid (k ≤ maxLen) := Lib.hid (by unfold maxLen; omega)
  have ez : ((X == 65535) == ((X : Int) == 65535)) = true := by
    rw [beq_iff_eq, Bool.eq_iff_iff]; simp; omega
  have EZ := Lib.hid ez
  clear ez
  refine (fold_any _ _ _ _ [la, lb, lc] ?_).mono ?_
  · exact rdAll_mk (by simp) rfl (by decide) ⟨⟨_, _, _, rfl, hA.keep hk, HN.out⟩, ⟨_, _, _, rfl, hB.keep hk, HM.out⟩, ⟨_, _, _, rfl, hC.keep hk, HK.out⟩, trivial⟩
  rintro e w2 ⟨rfl, rfl⟩
  rw [E1.out]
  go_wp2_with fail
  refine (rfold_any _ _ HS.out).mono ?_
  rintro e w2 ⟨rfl, rfl⟩
  rw [E2.out]
  go_wp2_with fail
  refine (sum_any _ _ _ _ [la, lb, lc] ?_).mono ?_
  · exact rdAll_mk (by simp) rfl (by decide) ⟨⟨_, _, _, rfl, hA.keep (hk.alloc _), HN.out⟩, ⟨_, _, _, rfl, hB.keep (hk.alloc _), HM.out⟩, ⟨_, _, _, rfl, hC.keep (hk.alloc _), HK.out⟩, trivial⟩
  rintro e w2 ⟨rfl, rfl⟩
  rw [E1.out]
  go_wp2_with fail
  refine (rsum_any _ _ HS.out).mono ?_
  rintro e w2 ⟨rfl, rfl⟩
  rw [E2.out]
  go_wp2_with fail
  refine (right_any _ _ _ _ [la, lb, lc] ?_).mono ?_
  · exact rdAll_mk (by simp) rfl (by decide) ⟨⟨_, _, _, rfl, hA.keep ((hk.alloc _).alloc _), HN.out⟩, ⟨_, _, _, rfl, hB.keep ((hk.alloc _).alloc _), HM.out⟩, ⟨_, _, _, rfl, hC.keep ((hk.alloc _).alloc _), HK.out⟩, trivial⟩
  rintro e w2 ⟨rfl, rfl⟩
  rw [E1.out]
  go_wp2_with fail
  refine (rfold_any _ _ HS.out).mono ?_
  rintro e w2 ⟨rfl, rfl⟩
  rw [E2.out]
  have ez := EZ.out
  go_wp2
  go_ret
  exact ⟨rfl, ((hk.alloc _).alloc _).alloc _⟩
end Go.Proofs.Ytibbpineaekfoaa
