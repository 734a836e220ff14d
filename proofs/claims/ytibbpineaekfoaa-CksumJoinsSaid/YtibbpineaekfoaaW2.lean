/-
  The walk of the law CksumJoins: it returns true and leaves what was there as it was.
-/
import Derived.Test.YtibbpineaekfoaaLives2
import Derived.Test.YtibbpineaekfoaaApp8
namespace Go.Proofs.Ytibbpineaekfoaa
open Go.RowKit

set_option maxHeartbeats 400000 in
theorem joins_walk (w : World) (A : Option Addr) (n c : Nat) (la : List UInt8) (B : Option Addr) (m d : Nat) (lb : List UInt8) (hA : Rd w 0 A n la) (hn : n ≤ 140737488351232) (hB : Rd w 0 B m lb) (hm : m ≤ 140737488351232) :
    Calls Try.prog 4 #[.slice A n c, .slice B m d] w fun e w' => e = .returned (.bool true) ∧ Kp w w' := by
  have ela := Lib.hid hA.len
  have elb := Lib.hid hB.len
  go_enter Try.func4, Try.ntmps4
  go_wp2_with (go_at_call 13; refine (lives_any _).mono ?_; rintro e w' ⟨rfl, hk⟩)
  all_goals first
    | (go_ret; exact ⟨rfl, Kp.trans (by assumption) hk⟩)
    | skip
  have hev : n % 2 = 0 := by
    simp only [beq_eq_false_iff_ne, ne_eq] at *
    omega
  obtain ⟨X, hX⟩ : ∃ S, Ck.ck [la].flatten = S := ⟨_, rfl⟩
  obtain ⟨Y, hY⟩ : ∃ S, Ck.ck [lb].flatten = S := ⟨_, rfl⟩
  have bX := Ck.ck_le [la].flatten
  have bY := Ck.ck_le [lb].flatten
  rw [hX] at bX
  rw [hY] at bY
  have E1 := Lib.hid hX
  have E2 := Lib.hid hY
  have E3 : Hid (Ck.ck [la, lb].flatten = if X + Y ≤ 65535 then X + Y else X + Y - 65535) := Lib.hid (by
    rw [← hX, ← hY]; simp only [List.flatten_cons, List.flatten_nil, List.append_nil]; exact Ck.ck_join _ _ (by rw [ela.out]; exact hev))
  have E4 : Hid (Ck.ck [la, [], [0, 0]].flatten = X) := Lib.hid (by
    rw [← hX]; simp only [List.flatten_cons, List.flatten_nil, List.append_nil, List.nil_append]; exact Ck.ck_zeros _ (by rw [ela.out]; exact hev))
  clear hX hY
  have HN : Hid (n ≤ maxLen) := Lib.hid (by unfold maxLen; omega)
  have HM : Hid (m ≤ maxLen) := Lib.hid (by unfold maxLen; omega)
  refine (fold_any _ _ _ _ [la] ?_).mono ?_
  · exact rdAll_mk (by simp) rfl (by decide) ⟨⟨_, _, _, rfl, hA.keep hk, HN.out⟩, trivial⟩
  rintro e w1 ⟨rfl, rfl⟩
  rw [E1.out]
  go_wp2_with fail
  refine (fold_any _ _ _ _ [lb] ?_).mono ?_
  · exact rdAll_mk (by simp) rfl (by decide) ⟨⟨_, _, _, rfl, hB.keep (hk.alloc _), HM.out⟩, trivial⟩
  rintro e w1 ⟨rfl, rfl⟩
  rw [E2.out]
  by_cases hxy : X + Y ≤ 65535
  · obtain ⟨Z, hZ, bZ⟩ : ∃ Z, Ck.ck [la, lb].flatten = Z ∧ (Z : Int) = X + Y := ⟨_, rfl, by rw [E3.out]; split <;> omega⟩
    have EZ := Lib.hid hZ
    have z : ((Z : Int) == (X : Int) + Y) = true := by simp; omega
    have BZ : 0 ≤ (Z : Int) ∧ (Z : Int) ≤ 65535 := by omega
    clear hZ bZ
    go_wp2_with fail
    refine (fold_any _ _ _ _ [la, lb] ?_).mono ?_
    · exact rdAll_mk (by simp) rfl (by decide) ⟨⟨_, _, _, rfl, hA.keep ((hk.alloc _).alloc _), HN.out⟩, ⟨_, _, _, rfl, hB.keep ((hk.alloc _).alloc _), HM.out⟩, trivial⟩
    rintro e w1 ⟨rfl, rfl⟩
    rw [EZ.out]
    go_wp2_with fail
    refine (fold_any _ _ _ _ [la, [], [0, 0]] ?_).mono ?_
    · exact rdAll_mk (by simp) rfl (by decide) ⟨⟨_, _, _, rfl, hA.keep ((((hk.alloc _).alloc _).alloc _).alloc _), HN.out⟩, ⟨_, _, _, rfl, Rd.none_ _ _, by decide⟩, ⟨_, _, _, rfl, rd_lit (by simp) (Nat.zero_le _) rfl rfl, by decide⟩, trivial⟩
    rintro e w1 ⟨rfl, rfl⟩
    rw [E4.out]
    go_wp2_with fail
    refine (fold_any _ _ _ _ [la] ?_).mono ?_
    · exact rdAll_mk (by simp) rfl (by decide) ⟨⟨_, _, _, rfl, hA.keep (((((hk.alloc _).alloc _).alloc _).alloc _).alloc _), HN.out⟩, trivial⟩
    rintro e w1 ⟨rfl, rfl⟩
    rw [E1.out]
    go_wp2
    go_ret
    exact ⟨rfl, (((((hk.alloc _).alloc _).alloc _).alloc _).alloc _).alloc _⟩
  · obtain ⟨Z, hZ, bZ⟩ : ∃ Z, Ck.ck [la, lb].flatten = Z ∧ (Z : Int) = X + Y - 65535 := ⟨_, rfl, by rw [E3.out]; split <;> omega⟩
    have EZ := Lib.hid hZ
    have z : ((Z : Int) == (X : Int) + Y - 65535) = true := by simp; omega
    have BZ : 0 ≤ (Z : Int) ∧ (Z : Int) ≤ 65535 := by omega
    clear hZ bZ
    go_wp2_with fail
    refine (fold_any _ _ _ _ [la, lb] ?_).mono ?_
    · exact rdAll_mk (by simp) rfl (by decide) ⟨⟨_, _, _, rfl, hA.keep ((hk.alloc _).alloc _), HN.out⟩, ⟨_, _, _, rfl, hB.keep ((hk.alloc _).alloc _), HM.out⟩, trivial⟩
    rintro e w1 ⟨rfl, rfl⟩
    rw [EZ.out]
    go_wp2_with fail
    refine (fold_any _ _ _ _ [la, [], [0, 0]] ?_).mono ?_
    · exact rdAll_mk (by simp) rfl (by decide) ⟨⟨_, _, _, rfl, hA.keep ((((hk.alloc _).alloc _).alloc _).alloc _), HN.out⟩, ⟨_, _, _, rfl, Rd.none_ _ _, by decide⟩, ⟨_, _, _, rfl, rd_lit (by simp) (Nat.zero_le _) rfl rfl, by decide⟩, trivial⟩
    rintro e w1 ⟨rfl, rfl⟩
    rw [E4.out]
    go_wp2_with fail
    refine (fold_any _ _ _ _ [la] ?_).mono ?_
    · exact rdAll_mk (by simp) rfl (by decide) ⟨⟨_, _, _, rfl, hA.keep (((((hk.alloc _).alloc _).alloc _).alloc _).alloc _), HN.out⟩, trivial⟩
    rintro e w1 ⟨rfl, rfl⟩
    rw [E1.out]
    go_wp2
    go_ret
    exact ⟨rfl, (((((hk.alloc _).alloc _).alloc _).alloc _).alloc _).alloc _⟩
end Go.Proofs.Ytibbpineaekfoaa
