/-
  Plain laws of messages: a message's own bytes are that message's; cut, turned, from elsewhere they are refused.
-/
import Derived.Test.YtpjjanbcjkdciaaD8g
import Derived.Test.YtpjjanbcjkdciaaD8h
import Derived.Test.YtpjjanbcjkdciaaD8i
import Derived.Test.YtpjjanbcjkdciaaOpenS
namespace Go.Proofs.Ytpjjanbcjkdciaa
open Go.RowKit

theorem wd2_sum (S : Nat) (h : S ≤ 65535) : Ck.wsum true (wd2 S) = S := by
  simp only [wd2, Ck.wsum]
  rw [UInt8.toNat_ofNat', UInt8.toNat_ofNat']
  omega
theorem sum_right (X B : List UInt8) (hX : X.length % 2 = 0) : Ck.ck (X ++ wd2 (65535 - Ck.ck (X ++ [0, 0] ++ B)) ++ B) = 65535 := by
  have h0 := Ck.ck_le (X ++ [0, 0] ++ B)
  obtain ⟨S, hS⟩ : ∃ S, Ck.ck (X ++ [0, 0] ++ B) = S := ⟨_, rfl⟩
  have e1 : Ck.wsum true (X ++ [0, 0] ++ B) = Ck.wsum true X + Ck.wsum true B := by
    rw [List.append_assoc, Ck.wsum_even _ _ _ hX, Ck.wsum_even _ _ _ (by rfl)]; simp [Ck.wsum]
  have e2 : Ck.wsum true (X ++ wd2 (65535 - S) ++ B) = Ck.wsum true X + ((65535 - S) + Ck.wsum true B) := by
    rw [List.append_assoc, Ck.wsum_even _ _ _ hX, Ck.wsum_even _ _ _ (by simp [wd2]), wd2_sum _ (by omega)]
  rw [hS] at h0 ⊢
  unfold Ck.ck at hS ⊢
  rw [e1] at hS
  rw [e2]
  unfold Ck.norm at hS ⊢
  split at hS
  · split <;> omega
  · split <;> omega
theorem xor_u8 (x y : UInt8) : bits BinOp.xor IntKind.u8 (x.toNat : Int) (y.toNat : Int) = ((x ^^^ y).toNat : Int) := by
  have hx := x.toNat_lt
  have hy := y.toNat_lt
  show IntKind.u8.wrap ((BitVec.ofInt 8 (x.toNat : Int) ^^^ BitVec.ofInt 8 (y.toNat : Int)).toNat : Int) = _
  rw [BitVec.ofInt_natCast, BitVec.ofInt_natCast, BitVec.toNat_xor, BitVec.toNat_ofNat, BitVec.toNat_ofNat, Nat.mod_eq_of_lt (by omega), Nat.mod_eq_of_lt (by omega), UInt8.toNat_xor]
  have h : x.toNat ^^^ y.toNat < 2 ^ 8 := Nat.xor_lt_two_pow hx hy
  exact wrap_u8 (by omega) (by omega)
theorem xor_ne (x y : UInt8) (h : y ≠ 0) : x ^^^ y ≠ x := by
  intro e
  apply h
  have : x ^^^ (x ^^^ y) = x ^^^ x := by rw [e]
  rw [← UInt8.xor_assoc, UInt8.xor_self, UInt8.zero_xor] at this
  exact this

/-- one byte of right bytes is another one: they are no longer right -/
theorem ck_turn (l : List UInt8) (i : Nat) (x a : UInt8) (hl : l.length % 2 = 0) (hx : l[i]? = some x) (ha : a ≠ x) (h : Ck.ck l = 65535) : Ck.ck (l.set i a) ≠ 65535 := by
  have hi := Ck.lt_of_get hx
  have hne : a.toNat ≠ x.toNat := fun e => ha (UInt8.toNat_inj.1 e)
  have hax := a.toNat_lt
  have hxx := x.toNat_lt
  unfold Ck.ck at h ⊢
  rcases Nat.mod_two_eq_zero_or_one i with hp | hp
  · obtain ⟨y, hy⟩ : ∃ y, l[i + 1]? = some y := ⟨_, List.getElem?_eq_getElem (by omega)⟩
    have hyy := y.toNat_lt
    obtain ⟨T, e1, e2⟩ := Ck.wsum_word l i x y hp hx hy
    have e3 : (l.set i a).set (i + 1) y = l.set i a := by
      apply List.ext_getElem?
      intro k
      by_cases hk : i + 1 = k
      · subst hk
        rw [List.getElem?_set_self (by simp; omega), List.getElem?_set_ne (by omega), hy]
      · rw [List.getElem?_set_ne hk]
    have e4 := e2 a y
    rw [e3] at e4
    rw [e1] at h
    rw [e4]
    exact Ck.word_law T (256 * x.toNat + y.toNat) (256 * a.toNat + y.toNat) (by omega) (by omega) h (by omega)
  · obtain ⟨j, rfl⟩ : ∃ j, i = j + 1 := ⟨i - 1, by omega⟩
    obtain ⟨y, hy⟩ : ∃ y, l[j]? = some y := ⟨_, List.getElem?_eq_getElem (by omega)⟩
    have hyy := y.toNat_lt
    obtain ⟨T, e1, e2⟩ := Ck.wsum_word l j y x (by omega) hy hx
    have e3 : (l.set j y).set (j + 1) a = l.set (j + 1) a := by
      apply List.ext_getElem?
      intro k
      by_cases hk : j = k
      · subst hk
        rw [List.getElem?_set_ne (by omega), List.getElem?_set_self (by omega), List.getElem?_set_ne (by omega), hy]
      · by_cases hk2 : j + 1 = k
        · subst hk2
          rw [List.getElem?_set_self (by simp; omega), List.getElem?_set_self (by omega)]
        · rw [List.getElem?_set_ne hk2, List.getElem?_set_ne hk, List.getElem?_set_ne hk2]
    have e4 := e2 y a
    rw [e3] at e4
    rw [e1] at h
    rw [e4]
    exact Ck.word_law T (256 * y.toNat + x.toNat) (256 * y.toNat + a.toNat) (by omega) (by omega) h (by omega)


theorem ck_zero1 (l : List UInt8) (h : l.length % 2 = 1) : Ck.ck (l ++ [0]) = Ck.ck l := by
  unfold Ck.ck
  rw [Ck.wsum_snoc_low _ _ h]
  simp
/-- the same of any number of bytes -/
theorem ck_turn_any (l : List UInt8) (i : Nat) (x a : UInt8) (hx : l[i]? = some x) (ha : a ≠ x) (h : Ck.ck l = 65535) : Ck.ck (l.set i a) ≠ 65535 := by
  by_cases hl : l.length % 2 = 0
  · exact ck_turn l i x a hl hx ha h
  · have hi := Ck.lt_of_get hx
    have h2 := ck_turn (l ++ [0]) i x a (by rw [List.length_append, List.length_singleton]; omega) (by rw [List.getElem?_append_left hi]; exact hx) ha (by rw [ck_zero1 l (by omega)]; exact h)
    rw [List.set_append_left _ _ hi, ck_zero1 _ (by rw [List.length_set]; omega)] at h2
    exact h2
theorem pseudo_len (src dst : List UInt8) (p : UInt8) (n : Nat) (hs : src.length = 4) (hd : dst.length = 4) : (pseudo src dst p n).length = 12 := by simp [pseudo, wd2, hs, hd]
/-- a byte of four is another one -/
theorem set4 (l : List UInt8) (h : l.length = 4) (j : Nat) (z : UInt8) : ∃ (e0 e1 e2 e3 : UInt8), l.set j z = [e0, e1, e2, e3] := by
  obtain ⟨a, b, c, d, e⟩ := len4 (l := l.set j z) (by rw [List.length_set]; exact h)
  exact ⟨a, b, c, d, e⟩

theorem wd2_num (S : Nat) (h : S ≤ 65535) : 256 * (UInt8.ofNat (S / 256)).toNat + (UInt8.ofNat S).toNat = S := by
  rw [UInt8.toNat_ofNat', UInt8.toNat_ofNat']
  omega
theorem ebytes_len (rp : Bool) (id sq : Nat) (D : List UInt8) : (ebytes rp id sq D).length = 8 + D.length := by
  simp [ebytes, wd2]; omega
theorem gbytes_len (src dst : List UInt8) (sp dp : Nat) (D : List UInt8) : (gbytes src dst sp dp D).length = 8 + D.length := by
  simp [gbytes, wd2]; omega
theorem outE_ebytes (rp : Bool) (id sq : Nat) (D : List UInt8) (h1 : id ≤ 65535) (h2 : sq ≤ 65535) : outE (ebytes rp id sq D) = .inr (rp, id, sq, D) := by
  have hck : Ck.ck (ebytes rp id sq D) = 65535 := by
    have h := sum_right [kind8 rp, 0] (wd2 id ++ wd2 sq ++ D) (by simp)
    unfold ebytes esum
    refine Eq.trans (congrArg Ck.ck ?_) h
    simp
  show (if Ck.ck (ebytes rp id sq D) ≠ 65535 then Sum.inl 8 else if (kind8 rp ≠ 0 ∧ kind8 rp ≠ 8) ∨ (0 : UInt8) ≠ 0 then .inl 7 else .inr (decide (kind8 rp = 0), 256 * (UInt8.ofNat (id / 256)).toNat + (UInt8.ofNat id).toNat, 256 * (UInt8.ofNat (sq / 256)).toNat + (UInt8.ofNat sq).toNat, D)) = _
  rw [if_neg (by rw [hck]; simp), wd2_num id h1, wd2_num sq h2, if_neg (by cases rp <;> simp [kind8])]
  cases rp <;> rfl
theorem outE_len (l : List UInt8) (rp : Bool) (id sq : Nat) (D : List UInt8) (h : outE l = .inr (rp, id, sq, D)) : 8 + D.length = l.length := by
  by_cases hs : l.length < 8
  · rw [outE_short hs] at h; cases h
  obtain ⟨k0, k1, c0, c1, i0, i1, q0, q1, r, rfl⟩ := len8s l (by omega)
  simp only [outE] at h
  split at h
  · cases h
  · split at h
    · cases h
    · injection h with h
      injection h with _ h
      injection h with _ h
      injection h with _ h
      subst h
      simp only [List.length_cons]; omega
/-- right bytes of a Datagram -/
structure GRight (src dst : List UInt8) (sp dp : Nat) (D l : List UInt8) : Prop where
  ex : ∃ a0 a1 b0 b1 n0 n1 c0 c1 : UInt8, l = a0 :: a1 :: b0 :: b1 :: n0 :: n1 :: c0 :: c1 :: D ∧ 256 * a0.toNat + a1.toNat = sp ∧ 256 * b0.toNat + b1.toNat = dp ∧ 256 * n0.toNat + n1.toNat = 8 + D.length ∧ 256 * c0.toNat + c1.toNat ≠ 0
  ck : Ck.ck (pseudo src dst 17 (8 + D.length) ++ l) = 65535
theorem fix_right (X B : List UInt8) (hX : X.length % 2 = 0) : Ck.ck (X ++ wd2 (fixs (65535 - Ck.ck (X ++ [0, 0] ++ B))) ++ B) = 65535 := by
  unfold fixs
  split
  case isFalse => exact sum_right X B hX
  case isTrue h0 =>
    have h1 := Ck.ck_le (X ++ [0, 0] ++ B)
    have hS : Ck.ck (X ++ [0, 0] ++ B) = 65535 := by omega
    have e1 : Ck.wsum true (X ++ [0, 0] ++ B) = Ck.wsum true X + Ck.wsum true B := by
      rw [List.append_assoc, Ck.wsum_even _ _ _ hX, Ck.wsum_even _ _ _ (by rfl)]; simp [Ck.wsum]
    have e2 : Ck.wsum true (X ++ wd2 65535 ++ B) = Ck.wsum true X + (65535 + Ck.wsum true B) := by
      rw [List.append_assoc, Ck.wsum_even _ _ _ hX, Ck.wsum_even _ _ _ (by simp [wd2]), wd2_sum _ (by omega)]
    unfold Ck.ck at hS ⊢
    rw [e1] at hS
    rw [e2]
    unfold Ck.norm at hS ⊢
    split at hS
    · omega
    · split <;> omega
theorem gbytes_right (src dst : List UInt8) (hs : src.length = 4) (hd : dst.length = 4) (sp dp : Nat) (D : List UInt8) (h1 : sp ≤ 65535) (h2 : dp ≤ 65535) (hD : D.length ≤ 992) : GRight src dst sp dp D (gbytes src dst sp dp D) := by
  have hS : gsum src dst sp dp D ≤ 65535 := by unfold gsum; omega
  have hF : fixs (gsum src dst sp dp D) ≤ 65535 ∧ fixs (gsum src dst sp dp D) ≠ 0 := by unfold fixs; split <;> omega
  refine ⟨⟨_, _, _, _, _, _, _, _, rfl, wd2_num sp h1, wd2_num dp h2, wd2_num _ (by omega), ?_⟩, ?_⟩
  · rw [wd2_num _ hF.1]; exact hF.2
  · have h := fix_right (pseudo src dst 17 (8 + D.length) ++ (wd2 sp ++ wd2 dp ++ wd2 (8 + D.length))) D (by simp [pseudo, wd2, hs, hd])
    have e1 : pseudo src dst 17 (8 + D.length) ++ (wd2 sp ++ wd2 dp ++ wd2 (8 + D.length)) ++ [0, 0] ++ D = pseudo src dst 17 (8 + D.length) ++ (wd2 sp ++ wd2 dp ++ wd2 (8 + D.length) ++ [0, 0] ++ D) := by simp
    rw [e1] at h
    unfold gbytes gsum
    refine Eq.trans (congrArg Ck.ck ?_) h
    simp
theorem outG_right {src dst : List UInt8} {sp dp : Nat} {D l : List UInt8} (h : GRight src dst sp dp D l) (more : List UInt8) : outG src dst (l ++ more) = .inr (sp, dp, D) := by
  obtain ⟨⟨a0, a1, b0, b1, n0, n1, c0, c1, rfl, e1, e2, e3, e4⟩, hc⟩ := h
  have ht : (a0 :: a1 :: b0 :: b1 :: n0 :: n1 :: c0 :: c1 :: (D ++ more)).take (8 + D.length) = a0 :: a1 :: b0 :: b1 :: n0 :: n1 :: c0 :: c1 :: D := by
    rw [Nat.add_comm]
    simp
  show (if 256 * n0.toNat + n1.toNat < 8 then Sum.inl 7
    else if (a0 :: a1 :: b0 :: b1 :: n0 :: n1 :: c0 :: c1 :: (D ++ more)).length < 256 * n0.toNat + n1.toNat then .inl 6
    else if 256 * c0.toNat + c1.toNat ≠ 0 ∧ Ck.ck (pseudo src dst 17 (256 * n0.toNat + n1.toNat) ++ (a0 :: a1 :: b0 :: b1 :: n0 :: n1 :: c0 :: c1 :: (D ++ more)).take (256 * n0.toNat + n1.toNat)) ≠ 65535 then .inl 8
    else .inr (256 * a0.toNat + a1.toNat, 256 * b0.toNat + b1.toNat, (D ++ more).take (256 * n0.toNat + n1.toNat - 8))) = _
  rw [e3, ht, hc, e1, e2, if_neg (by omega), if_neg (by simp only [List.length_cons, List.length_append]; omega), if_neg (by simp), Nat.add_sub_cancel_left, List.take_left']
  rfl
theorem outG_len (src dst l : List UInt8) (sp dp : Nat) (D : List UInt8) (h : outG src dst l = .inr (sp, dp, D)) : 8 + D.length ≤ l.length := by
  by_cases hs : l.length < 8
  · rw [outG_short hs] at h; cases h
  obtain ⟨a0, a1, b0, b1, n0, n1, c0, c1, r, rfl⟩ := len8s l (by omega)
  simp only [outG] at h
  split at h
  · cases h
  · split at h
    · cases h
    · split at h
      · cases h
      · injection h with h
        injection h with _ h
        injection h with _ h
        subst h
        simp only [List.length_cons, List.length_take]; omega
/-- cut off at any place, it is refused -/
theorem outG_cut {src dst : List UInt8} {sp dp : Nat} {D l : List UInt8} (h : GRight src dst sp dp D l) (k : Nat) (hk : k < l.length) : outG src dst (l.take k) = .inl 6 := by
  obtain ⟨⟨a0, a1, b0, b1, n0, n1, c0, c1, rfl, e1, e2, e3, e4⟩, hc⟩ := h
  have hkl : (List.take k (a0 :: a1 :: b0 :: b1 :: n0 :: n1 :: c0 :: c1 :: D)).length = k := by rw [List.length_take]; omega
  by_cases h8 : k < 8
  · exact outG_short (by omega)
  obtain ⟨m, rfl⟩ : ∃ m, k = m + 8 := ⟨k - 8, by omega⟩
  show (if 256 * n0.toNat + n1.toNat < 8 then Sum.inl 7
    else if (List.take (m + 8) (a0 :: a1 :: b0 :: b1 :: n0 :: n1 :: c0 :: c1 :: D)).length < 256 * n0.toNat + n1.toNat then .inl 6 else _) = _
  rw [if_neg (by omega), if_pos (by rw [hkl, e3]; simp only [List.length_cons] at hk; omega)]
theorem GRight.length {src dst : List UInt8} {sp dp : Nat} {D l : List UInt8} (h : GRight src dst sp dp D l) : l.length = 8 + D.length := by
  obtain ⟨⟨a0, a1, b0, b1, n0, n1, c0, c1, rfl, _⟩, _⟩ := h
  simp only [List.length_cons]; omega
/-- one byte turned: refused, but where the sum is none -/
theorem outG_turn {src dst : List UInt8} (hs : src.length = 4) (hd : dst.length = 4) {sp dp : Nat} {D l : List UInt8} (h : GRight src dst sp dp D l) (i : Nat) (x a : UInt8) (hx : l[i]? = some x) (ha : a ≠ x) (h4 : i ≠ 4) (h5 : i ≠ 5) :
    outG src dst (l.set i a) = .inl 8 ∨ ((l.set i a)[6]? = some 0 ∧ (l.set i a)[7]? = some 0) := by
  have hlen := h.length
  obtain ⟨⟨a0, a1, b0, b1, n0, n1, c0, c1, hl, e1, e2, e3, e4⟩, hc⟩ := h
  have hp := pseudo_len src dst 17 (8 + D.length) hs hd
  have hc2 := ck_turn_any (pseudo src dst 17 (8 + D.length) ++ l) (12 + i) x a (by rw [List.getElem?_append_right (by omega), hp, Nat.add_sub_cancel_left]; exact hx) ha hc
  rw [List.set_append_right _ _ (by omega), hp, Nat.add_sub_cancel_left] at hc2
  obtain ⟨a0', a1', b0', b1', n0', n1', c0', c1', r', hr⟩ := len8s (l.set i a) (by rw [List.length_set]; omega)
  have hn0 : some n0' = some n0 := by
    have e : (l.set i a)[4]? = l[4]? := by rw [List.getElem?_set_ne h4]
    rw [hr, hl] at e
    exact e
  have hn1 : some n1' = some n1 := by
    have e : (l.set i a)[5]? = l[5]? := by rw [List.getElem?_set_ne h5]
    rw [hr, hl] at e
    exact e
  injection hn0 with hn0
  injection hn1 with hn1
  subst hn0 hn1
  have hlr : (a0' :: a1' :: b0' :: b1' :: n0' :: n1' :: c0' :: c1' :: r').length = 8 + D.length := by rw [← hr, List.length_set, hlen]
  by_cases hz : 256 * c0'.toNat + c1'.toNat = 0
  · refine .inr ⟨?_, ?_⟩
    · rw [hr, show c0' = 0 from UInt8.toNat_inj.1 (show c0'.toNat = 0 by omega)]; rfl
    · rw [hr, show c1' = 0 from UInt8.toNat_inj.1 (show c1'.toNat = 0 by omega)]; rfl
  · refine .inl ?_
    rw [hr] at hc2 ⊢
    show (if 256 * n0'.toNat + n1'.toNat < 8 then Sum.inl 7
      else if (a0' :: a1' :: b0' :: b1' :: n0' :: n1' :: c0' :: c1' :: r').length < 256 * n0'.toNat + n1'.toNat then .inl 6
      else if 256 * c0'.toNat + c1'.toNat ≠ 0 ∧ Ck.ck (pseudo src dst 17 (256 * n0'.toNat + n1'.toNat) ++ (a0' :: a1' :: b0' :: b1' :: n0' :: n1' :: c0' :: c1' :: r').take (256 * n0'.toNat + n1'.toNat)) ≠ 65535 then .inl 8 else _) = _
    rw [e3, if_neg (by omega), if_neg (by omega), List.take_of_length_le (by omega), if_pos ⟨hz, hc2⟩]
theorem outG_host {src dst : List UInt8} {sp dp : Nat} {D l : List UInt8} (h : GRight src dst sp dp D l) (j : Nat) (x a : UInt8) (hx : src[j]? = some x) (ha : a ≠ x) : outG (src.set j a) dst l = .inl 8 := by
  have hlen := h.length
  obtain ⟨⟨a0, a1, b0, b1, n0, n1, c0, c1, hl, e1, e2, e3, e4⟩, hc⟩ := h
  have hj := Ck.lt_of_get hx
  have e1 : ∀ z, pseudo (src.set j z) dst 17 (8 + D.length) ++ l = (pseudo src dst 17 (8 + D.length) ++ l).set j z := by
    intro z
    unfold pseudo
    rw [List.set_append_left _ _ (by simp; omega), List.set_append_left _ _ (by simp; omega), List.set_append_left _ _ hj]
  have hc2 := ck_turn_any (pseudo src dst 17 (8 + D.length) ++ l) j x a (by unfold pseudo; rw [List.getElem?_append_left (by simp; omega), List.getElem?_append_left (by simp; omega), List.getElem?_append_left hj]; exact hx) ha hc
  rw [← e1] at hc2
  rw [hl] at hc2 hlen ⊢
  show (if 256 * n0.toNat + n1.toNat < 8 then Sum.inl 7
    else if (a0 :: a1 :: b0 :: b1 :: n0 :: n1 :: c0 :: c1 :: D).length < 256 * n0.toNat + n1.toNat then .inl 6
    else if 256 * c0.toNat + c1.toNat ≠ 0 ∧ Ck.ck (pseudo (src.set j a) dst 17 (256 * n0.toNat + n1.toNat) ++ (a0 :: a1 :: b0 :: b1 :: n0 :: n1 :: c0 :: c1 :: D).take (256 * n0.toNat + n1.toNat)) ≠ 65535 then .inl 8 else _) = _
  rw [e3, if_neg (by omega), if_neg (by omega), List.take_of_length_le (by omega), if_pos ⟨e4, hc2⟩]
end Go.Proofs.Ytpjjanbcjkdciaa
