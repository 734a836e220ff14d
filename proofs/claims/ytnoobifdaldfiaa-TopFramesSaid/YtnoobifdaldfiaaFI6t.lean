/-
  A packet's bytes of which one of the head is another one are not that packet's: the plain law.
-/
import Derived.Test.YtnoobifdaldfiaaFI6g
namespace Go.Proofs.Ytnoobifdaldfiaa.Fr
open Go.RowKit
set_option maxRecDepth 100000


theorem xor_u8 (x y : UInt8) : bits BinOp.xor IntKind.u8 (x.toNat : Int) (y.toNat : Int) = ((x ^^^ y).toNat : Int) := by
  have hx := x.toNat_lt
  have hy := y.toNat_lt
  show IntKind.u8.wrap ((BitVec.ofInt 8 (x.toNat : Int) ^^^ BitVec.ofInt 8 (y.toNat : Int)).toNat : Int) = _
  rw [BitVec.ofInt_natCast, BitVec.ofInt_natCast, BitVec.toNat_xor, BitVec.toNat_ofNat, BitVec.toNat_ofNat, Nat.mod_eq_of_lt (by omega), Nat.mod_eq_of_lt (by omega), UInt8.toNat_xor]
  have h : x.toNat ^^^ y.toNat < 2 ^ 8 := Nat.xor_lt_two_pow hx hy
  exact wrap_u8 (by omega) (by omega)
theorem xor_ne (x y : UInt8) (h : y ≠ 0) : x ^^^ y ≠ x := by
  intro e
  apply h
  have : x ^^^ (x ^^^ y) = x ^^^ x := by rw [e]
  rw [← UInt8.xor_assoc, UInt8.xor_self, UInt8.zero_xor] at this
  exact this

/-- one byte of right bytes is another one: they are no longer right -/
theorem ck_turn (l : List UInt8) (i : Nat) (x a : UInt8) (hl : l.length % 2 = 0) (hx : l[i]? = some x) (ha : a ≠ x) (h : Ck.ck l = 65535) : Ck.ck (l.set i a) ≠ 65535 := by
  have hi := Ck.lt_of_get hx
  have hne : a.toNat ≠ x.toNat := fun e => ha (UInt8.toNat_inj.1 e)
  have hax := a.toNat_lt
  have hxx := x.toNat_lt
  unfold Ck.ck at h ⊢
  rcases Nat.mod_two_eq_zero_or_one i with hp | hp
  · obtain ⟨y, hy⟩ : ∃ y, l[i + 1]? = some y := ⟨_, List.getElem?_eq_getElem (by omega)⟩
    have hyy := y.toNat_lt
    obtain ⟨T, e1, e2⟩ := Ck.wsum_word l i x y hp hx hy
    have e3 : (l.set i a).set (i + 1) y = l.set i a := by
      apply List.ext_getElem?
      intro k
      by_cases hk : i + 1 = k
      · subst hk
        rw [List.getElem?_set_self (by simp; omega), List.getElem?_set_ne (by omega), hy]
      · rw [List.getElem?_set_ne hk]
    have e4 := e2 a y
    rw [e3] at e4
    rw [e1] at h
    rw [e4]
    exact Ck.word_law T (256 * x.toNat + y.toNat) (256 * a.toNat + y.toNat) (by omega) (by omega) h (by omega)
  · obtain ⟨j, rfl⟩ : ∃ j, i = j + 1 := ⟨i - 1, by omega⟩
    obtain ⟨y, hy⟩ : ∃ y, l[j]? = some y := ⟨_, List.getElem?_eq_getElem (by omega)⟩
    have hyy := y.toNat_lt
    obtain ⟨T, e1, e2⟩ := Ck.wsum_word l j y x (by omega) hy hx
    have e3 : (l.set j y).set (j + 1) a = l.set (j + 1) a := by
      apply List.ext_getElem?
      intro k
      by_cases hk : j = k
      · subst hk
        rw [List.getElem?_set_ne (by omega), List.getElem?_set_self (by omega), List.getElem?_set_ne (by omega), hy]
      · by_cases hk2 : j + 1 = k
        · subst hk2
          rw [List.getElem?_set_self (by simp; omega), List.getElem?_set_self (by omega)]
        · rw [List.getElem?_set_ne hk2, List.getElem?_set_ne hk, List.getElem?_set_ne hk2]
    have e4 := e2 y a
    rw [e3] at e4
    rw [e1] at h
    rw [e4]
    exact Ck.word_law T (256 * y.toNat + x.toNat) (256 * y.toNat + a.toNat) (by omega) (by omega) h (by omega)

theorem out6_turn (p0 p1 p2 p3 p4 p5 p6 p7 q0 q1 q2 q3 s0 s1 s2 s3 d0 d1 d2 d3 : UInt8) (r : List UInt8) (h0 : p0 = 69) (hall : 256 * p2.toNat + p3.toNat = 20 + r.length) (hck : Ck.ck ((p0 :: p1 :: p2 :: p3 :: p4 :: p5 :: p6 :: p7 :: q0 :: q1 :: q2 :: q3 :: s0 :: s1 :: s2 :: s3 :: d0 :: d1 :: d2 :: d3 :: r).take 20) = 65535)
    (i : Nat) (hi : i < 20) (x a : UInt8) (hx : (p0 :: p1 :: p2 :: p3 :: p4 :: p5 :: p6 :: p7 :: q0 :: q1 :: q2 :: q3 :: s0 :: s1 :: s2 :: s3 :: d0 :: d1 :: d2 :: d3 :: r)[i]? = some x) (ha : a ≠ x) (P : Pkt) (hP : out6 ((p0 :: p1 :: p2 :: p3 :: p4 :: p5 :: p6 :: p7 :: q0 :: q1 :: q2 :: q3 :: s0 :: s1 :: s2 :: s3 :: d0 :: d1 :: d2 :: d3 :: r).set i a) = .inr P) : P.data.length ≠ r.length := by
  subst h0
  have b2 := p2.toNat_lt
  have b3 := p3.toNat_lt
  have hal := a.toNat_lt
  have h5 : (69 : UInt8).toNat % 16 = 5 := by decide
  match i, hi with
  | 0, _ =>
    simp only [List.set_cons_zero, out6] at hP
    simp at hx
    subst hx
    split at hP
    · cases hP
    · rename_i hf
      split at hP
      · cases hP
      · split at hP
        · cases hP
        · injection hP with hP
          subst hP
          simp only [List.length_drop, List.length_take, List.length_cons]
          unfold form6 at hf
          simp only [Bool.or_eq_true, bne_iff_ne, ne_eq, decide_eq_true_eq, not_or, Decidable.not_not] at hf
          have hne : a.toNat ≠ 69 := fun e => ha (UInt8.toNat_inj.1 e)
          omega
  | 2, _ =>
    simp only [List.set_cons_zero, List.set_cons_succ, out6] at hP
    simp at hx
    subst hx
    split at hP
    · cases hP
    · rename_i hf
      unfold form6 at hf
      simp only [Bool.or_eq_true, bne_iff_ne, ne_eq, decide_eq_true_eq, not_or, Decidable.not_not, h5] at hf
      obtain ⟨_, hf⟩ := hf
      split at hP
      · cases hP
      · rename_i hc
        split at hP
        · cases hP
        · injection hP with hP
          subst hP
          simp only [List.length_drop, List.length_take, List.length_cons] at hc ⊢
          have hne : a.toNat ≠ p2.toNat := fun e => ha (UInt8.toNat_inj.1 e)
          rw [h5]
          omega
  | 3, _ =>
    simp only [List.set_cons_zero, List.set_cons_succ, out6] at hP
    simp at hx
    subst hx
    split at hP
    · cases hP
    · rename_i hf
      unfold form6 at hf
      simp only [Bool.or_eq_true, bne_iff_ne, ne_eq, decide_eq_true_eq, not_or, Decidable.not_not, h5] at hf
      obtain ⟨_, hf⟩ := hf
      split at hP
      · cases hP
      · rename_i hc
        split at hP
        · cases hP
        · injection hP with hP
          subst hP
          simp only [List.length_drop, List.length_take, List.length_cons] at hc ⊢
          have hne : a.toNat ≠ p3.toNat := fun e => ha (UInt8.toNat_inj.1 e)
          rw [h5]
          omega
  | 1, hi | 4, hi | 5, hi | 6, hi | 7, hi | 8, hi | 9, hi | 10, hi | 11, hi | 12, hi | 13, hi | 14, hi | 15, hi | 16, hi | 17, hi | 18, hi | 19, hi =>
    exfalso
    have ht := ck_turn _ _ x a (by simp) (by rw [List.getElem?_take, if_pos hi]; exact hx) ha hck
    simp only [List.set_cons_zero, List.set_cons_succ, out6, h5] at hP
    split at hP
    · cases hP
    · split at hP
      · cases hP
      · split at hP
        · cases hP
        · rename_i hs
          exact hs (by intro e; exact ht (by rw [← e]; rfl))
  | i + 20, hi => omega
end Go.Proofs.Ytnoobifdaldfiaa.Fr
