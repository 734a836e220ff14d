/-
  The walk of the law CksumParts: it returns true and leaves what was there as it was.
-/
import Derived.Test.YtibbpineaekfoaaT3
import Derived.Test.YtibbpineaekfoaaApp8
namespace Go.Proofs.Ytibbpineaekfoaa
open Go.RowKit

theorem ck_two (a b : List UInt8) (h : a.length % 2 = 0) : Ck.wsum true ([a, b].flatten) = Ck.wsum true a + Ck.wsum true b := by
  simp only [List.flatten_cons, List.flatten_nil, List.append_nil]
  exact Ck.wsum_even _ _ _ h

set_option maxHeartbeats 400000 in
theorem parts_walk (w : World) (A : Option Addr) (n c : Nat) (la : List UInt8) (B : Option Addr) (m d : Nat) (lb : List UInt8) (hA : Rd w 0 A n la) (hn : n ≤ 140737488351232) (hB : Rd w 0 B m lb) (hm : m ≤ 140737488351232) :
    Calls Try.prog 3 #[.slice A n c, .slice B m d] w fun e w' => e = .returned (.bool true) ∧ Kp w w' := by
  have ela := Lib.hid hA.len
  have elb := Lib.hid hB.len
  go_enter Try.func3, Try.ntmps3
  go_wp2_with (go_at_call 13; refine (lives_any _).mono ?_; rintro e w' ⟨rfl, hk⟩)
  all_goals first
    | (go_ret; exact ⟨rfl, Kp.trans (by assumption) hk⟩)
    | skip
  have hnm : n + m ≤ 3000 := by omega
  have hev : n % 2 = 0 ∧ m % 2 = 0 := by
    simp only [beq_eq_false_iff_ne, ne_eq] at *
    omega
  obtain ⟨S, hS⟩ : ∃ S, Ck.ck [la, lb].flatten = S := ⟨_, rfl⟩
  have E1 := Lib.hid hS
  have E2 : Hid (Ck.ck [lb, la].flatten = S) := Lib.hid (by
    rw [← hS]; unfold Ck.ck; rw [ck_two lb la (by rw [elb.out]; omega), ck_two la lb (by rw [ela.out]; omega), Nat.add_comm])
  have E3 : Hid (Ck.ck [la, [], lb].flatten = S) := Lib.hid (by
    rw [← hS]; simp only [List.flatten_cons, List.flatten_nil, List.append_nil, List.nil_append])
  have E4 : Hid (Ck.ck [la ++ lb].flatten = S) := Lib.hid (by
    rw [← hS]; simp only [List.flatten_cons, List.flatten_nil, List.append_nil])
  clear hS
  have h0 : n ≤ maxLen := by unfold maxLen; omega
  have h0' : m ≤ maxLen := by unfold maxLen; omega
  have HN := Lib.hid h0
  have HM := Lib.hid h0'
  clear h0 h0'
  refine (sum_any _ _ _ _ [la, lb] ?_).mono ?_
  · exact rdAll_mk (by simp) rfl (by decide) ⟨⟨_, _, _, rfl, hA.keep hk, HN.out⟩, ⟨_, _, _, rfl, hB.keep hk, HM.out⟩, trivial⟩
  rintro e w1 ⟨rfl, rfl⟩
  rw [E1.out]
  go_wp2_with fail
  refine (sum_any _ _ _ _ [lb, la] ?_).mono ?_
  · exact rdAll_mk (by simp) rfl (by decide) ⟨⟨_, _, _, rfl, hB.keep (hk.alloc _), HM.out⟩, ⟨_, _, _, rfl, hA.keep (hk.alloc _), HN.out⟩, trivial⟩
  rintro e w1 ⟨rfl, rfl⟩
  rw [E2.out]
  go_wp2_with fail
  refine (sum_any _ _ _ _ [la, [], lb] ?_).mono ?_
  · exact rdAll_mk (by simp) rfl (by decide) ⟨⟨_, _, _, rfl, hA.keep ((hk.alloc _).alloc _), HN.out⟩, ⟨_, _, _, rfl, Rd.none_ _ _, by decide⟩, ⟨_, _, _, rfl, hB.keep ((hk.alloc _).alloc _), HM.out⟩, trivial⟩
  rintro e w1 ⟨rfl, rfl⟩
  rw [E3.out]
  have hk3 : Kp w ((((w'.alloc (.cells #[.slice A n c, .slice B m d] 22)).alloc (.cells #[.slice B m d, .slice A n c] 22)).alloc (.cells #[.slice A n c, .slice none 0 0, .slice B m d] 22)).alloc (.cells #[] 5)) := (((hk.alloc _).alloc _).alloc _).alloc _
  have own0 : OwnV 5 ((((w'.alloc (.cells #[.slice A n c, .slice B m d] 22)).alloc (.cells #[.slice B m d, .slice A n c] 22)).alloc (.cells #[.slice A n c, .slice none 0 0, .slice B m d] 22)).alloc (.cells #[] 5)) w.heap.size (w'.heap.size + 1 + 1 + 1) 0 0 (bvs []) :=
    OwnV.lit (vs := []) (by simp) (by have := hk.size; omega) rfl (by decide)
  go_wp2_with (first
    | (at_builtin; refine app8 (by rfl) (.tmp 42) (.tmp 43) rfl rfl rfl own0 (hA.keep hk3) n la (by omega) rfl (by omega) hk3.size ?_; intro g1 cap1 w1 own1 gr1 at1; have hk4 := hk3.grown gr1 own0.lo_le)
    | (at_builtin; refine app8 (by rfl) (.tmp 44) (.tmp 45) rfl rfl rfl own1 (hB.keep hk4) (n + m) (la ++ lb) rfl rfl (by omega) hk4.size ?_; intro g2 cap2 w2 own2 gr2 at2; have hk5 := hk4.grown gr2 own1.lo_le))
  refine (sum_any _ _ _ _ [la ++ lb] ?_).mono ?_
  · exact rdAll_mk (by simp) rfl (by decide) ⟨⟨_, _, _, rfl, own2.rd0, by unfold maxLen; omega⟩, trivial⟩
  rintro e w3 ⟨rfl, rfl⟩
  rw [E4.out]
  go_wp2
  go_ret
  exact ⟨rfl, hk5.alloc _⟩
end Go.Proofs.Ytibbpineaekfoaa
