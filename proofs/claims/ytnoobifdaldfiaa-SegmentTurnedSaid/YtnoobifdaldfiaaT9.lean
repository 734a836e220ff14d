/-
  A segment's bytes of which one is another one, or that come from another host, are refused: the plain law.
-/
import Derived.Test.YtnoobifdaldfiaaWBack9
namespace Go.Proofs.Ytnoobifdaldfiaa
open Go.RowKit

theorem xor_u8 (x y : UInt8) : bits BinOp.xor IntKind.u8 (x.toNat : Int) (y.toNat : Int) = ((x ^^^ y).toNat : Int) := by
  have hx := x.toNat_lt
  have hy := y.toNat_lt
  show IntKind.u8.wrap ((BitVec.ofInt 8 (x.toNat : Int) ^^^ BitVec.ofInt 8 (y.toNat : Int)).toNat : Int) = _
  rw [BitVec.ofInt_natCast, BitVec.ofInt_natCast, BitVec.toNat_xor, BitVec.toNat_ofNat, BitVec.toNat_ofNat, Nat.mod_eq_of_lt (by omega), Nat.mod_eq_of_lt (by omega), UInt8.toNat_xor]
  have h : x.toNat ^^^ y.toNat < 2 ^ 8 := Nat.xor_lt_two_pow hx hy
  exact wrap_u8 (by omega) (by omega)
theorem xor_ne (x y : UInt8) (h : y ≠ 0) : x ^^^ y ≠ x := by
  intro e
  apply h
  have : x ^^^ (x ^^^ y) = x ^^^ x := by rw [e]
  rw [← UInt8.xor_assoc, UInt8.xor_self, UInt8.zero_xor] at this
  exact this

/-- one byte of right bytes is another one: they are no longer right -/
theorem ck_turn (l : List UInt8) (i : Nat) (x a : UInt8) (hl : l.length % 2 = 0) (hx : l[i]? = some x) (ha : a ≠ x) (h : Ck.ck l = 65535) : Ck.ck (l.set i a) ≠ 65535 := by
  have hi := Ck.lt_of_get hx
  have hne : a.toNat ≠ x.toNat := fun e => ha (UInt8.toNat_inj.1 e)
  have hax := a.toNat_lt
  have hxx := x.toNat_lt
  unfold Ck.ck at h ⊢
  rcases Nat.mod_two_eq_zero_or_one i with hp | hp
  · obtain ⟨y, hy⟩ : ∃ y, l[i + 1]? = some y := ⟨_, List.getElem?_eq_getElem (by omega)⟩
    have hyy := y.toNat_lt
    obtain ⟨T, e1, e2⟩ := Ck.wsum_word l i x y hp hx hy
    have e3 : (l.set i a).set (i + 1) y = l.set i a := by
      apply List.ext_getElem?
      intro k
      by_cases hk : i + 1 = k
      · subst hk
        rw [List.getElem?_set_self (by simp; omega), List.getElem?_set_ne (by omega), hy]
      · rw [List.getElem?_set_ne hk]
    have e4 := e2 a y
    rw [e3] at e4
    rw [e1] at h
    rw [e4]
    exact Ck.word_law T (256 * x.toNat + y.toNat) (256 * a.toNat + y.toNat) (by omega) (by omega) h (by omega)
  · obtain ⟨j, rfl⟩ : ∃ j, i = j + 1 := ⟨i - 1, by omega⟩
    obtain ⟨y, hy⟩ : ∃ y, l[j]? = some y := ⟨_, List.getElem?_eq_getElem (by omega)⟩
    have hyy := y.toNat_lt
    obtain ⟨T, e1, e2⟩ := Ck.wsum_word l j y x (by omega) hy hx
    have e3 : (l.set j y).set (j + 1) a = l.set (j + 1) a := by
      apply List.ext_getElem?
      intro k
      by_cases hk : j = k
      · subst hk
        rw [List.getElem?_set_ne (by omega), List.getElem?_set_self (by omega), List.getElem?_set_ne (by omega), hy]
      · by_cases hk2 : j + 1 = k
        · subst hk2
          rw [List.getElem?_set_self (by simp; omega), List.getElem?_set_self (by omega)]
        · rw [List.getElem?_set_ne hk2, List.getElem?_set_ne hk, List.getElem?_set_ne hk2]
    have e4 := e2 y a
    rw [e3] at e4
    rw [e1] at h
    rw [e4]
    exact Ck.word_law T (256 * y.toNat + x.toNat) (256 * y.toNat + a.toNat) (by omega) (by omega) h (by omega)


theorem ck_zero1 (l : List UInt8) (h : l.length % 2 = 1) : Ck.ck (l ++ [0]) = Ck.ck l := by
  unfold Ck.ck
  rw [Ck.wsum_snoc_low _ _ h]
  simp
/-- the same of any number of bytes -/
theorem ck_turn_any (l : List UInt8) (i : Nat) (x a : UInt8) (hx : l[i]? = some x) (ha : a ≠ x) (h : Ck.ck l = 65535) : Ck.ck (l.set i a) ≠ 65535 := by
  by_cases hl : l.length % 2 = 0
  · exact ck_turn l i x a hl hx ha h
  · have hi := Ck.lt_of_get hx
    have h2 := ck_turn (l ++ [0]) i x a (by rw [List.length_append, List.length_singleton]; omega) (by rw [List.getElem?_append_left hi]; exact hx) ha (by rw [ck_zero1 l (by omega)]; exact h)
    rw [List.set_append_left _ _ hi, ck_zero1 _ (by rw [List.length_set]; omega)] at h2
    exact h2

theorem out9_facts (src dst l : List UInt8) (s : Sg) (h : out9 src dst l = .inr s) : ¬ l.length < 20 ∧ ¬ 4 * ((l.getD 12 0).toNat / 16) < 20 ∧ ¬ l.length < 4 * ((l.getD 12 0).toNat / 16) ∧ ¬ 1000 < l.length ∧ Ck.ck (pseudo src dst 6 l.length ++ l) = 65535 := by
  unfold out9 at h
  by_cases h1 : l.length < 20
  · rw [if_pos h1] at h; cases h
  rw [if_neg h1] at h
  by_cases h2 : 4 * ((l.getD 12 0).toNat / 16) < 20
  · rw [if_pos h2] at h; cases h
  rw [if_neg h2] at h
  by_cases h3 : l.length < 4 * ((l.getD 12 0).toNat / 16)
  · rw [if_pos h3] at h; cases h
  rw [if_neg h3] at h
  by_cases h4 : 1000 < l.length
  · rw [if_pos h4] at h; cases h
  rw [if_neg h4] at h
  by_cases h5 : Ck.ck (pseudo src dst 6 l.length ++ l) = 65535
  · exact ⟨h1, h2, h3, h4, h5⟩
  · rw [if_pos h5] at h; cases h
theorem pseudo_len (src dst : List UInt8) (p : UInt8) (n : Nat) (hs : src.length = 4) (hd : dst.length = 4) : (pseudo src dst p n).length = 12 := by simp [pseudo, wd2, hs, hd]

theorem out9_turn (src dst l : List UInt8) (hs : src.length = 4) (hd : dst.length = 4) (s : Sg) (h : out9 src dst l = .inr s) (i : Nat) (x a : UInt8) (hx : l[i]? = some x) (ha : a ≠ x) : ∃ k : Int, k ≠ 0 ∧ out9 src dst (l.set i a) = .inl k := by
  obtain ⟨h1, _, _, h4, h5⟩ := out9_facts _ _ _ _ h
  have hp := pseudo_len src dst 6 l.length hs hd
  have hc := ck_turn_any (pseudo src dst 6 l.length ++ l) (12 + i) x a (by rw [List.getElem?_append_right (by omega), hp, Nat.add_sub_cancel_left]; exact hx) ha h5
  rw [List.set_append_right _ _ (by omega), hp, Nat.add_sub_cancel_left] at hc
  unfold out9
  rw [List.length_set, if_neg h1]
  by_cases h2 : 4 * (((l.set i a).getD 12 0).toNat / 16) < 20
  · exact ⟨7, by decide, by rw [if_pos h2]⟩
  rw [if_neg h2]
  by_cases h3 : l.length < 4 * (((l.set i a).getD 12 0).toNat / 16)
  · exact ⟨6, by decide, by rw [if_pos h3]⟩
  rw [if_neg h3, if_neg h4, if_pos hc]
  exact ⟨8, by decide, rfl⟩
theorem out9_host (src dst l : List UInt8) (hs : src.length = 4) (hd : dst.length = 4) (s : Sg) (h : out9 src dst l = .inr s) (j : Nat) (x a : UInt8) (hx : src[j]? = some x) (ha : a ≠ x) : out9 (src.set j a) dst l = .inl 8 := by
  obtain ⟨h1, h2, h3, h4, h5⟩ := out9_facts _ _ _ _ h
  have hj := Ck.lt_of_get hx
  have e1 : ∀ z, pseudo (src.set j z) dst 6 l.length ++ l = (pseudo src dst 6 l.length ++ l).set j z := by
    intro z
    unfold pseudo
    rw [List.set_append_left _ _ (by simp; omega), List.set_append_left _ _ (by simp; omega), List.set_append_left _ _ hj]
  have hc := ck_turn_any (pseudo src dst 6 l.length ++ l) j x a (by unfold pseudo; rw [List.getElem?_append_left (by simp; omega), List.getElem?_append_left (by simp; omega), List.getElem?_append_left hj]; exact hx) ha h5
  unfold out9
  rw [if_neg h1, if_neg h2, if_neg h3, if_neg h4, e1 a, if_pos hc]

/-- a byte of four is another one -/
theorem set4 (l : List UInt8) (h : l.length = 4) (j : Nat) (z : UInt8) : ∃ (e0 e1 e2 e3 : UInt8), l.set j z = [e0, e1, e2, e3] := by
  obtain ⟨a, b, c, d, e⟩ := len4 (l := l.set j z) (by rw [List.length_set]; exact h)
  exact ⟨a, b, c, d, e⟩
end Go.Proofs.Ytnoobifdaldfiaa
