/-
  The plain law of the Internet's check sum: the sum of words with what is carried round is one number of the plain sum ('norm'). No program in sight.
-/
import Derived.Below
namespace Go.Proofs.Ytnoobifdaldfiaa
namespace Ck

def norm (n : Nat) : Nat := if n = 0 then 0 else (n - 1) % 65535 + 1

theorem norm_le (n : Nat) : norm n ≤ 65535 := by unfold norm; split <;> omega
theorem norm_zero_iff (n : Nat) : norm n = 0 ↔ n = 0 := by unfold norm; split <;> omega
theorem norm_small {n : Nat} (h : n ≤ 65535) : norm n = n := by unfold norm; split <;> omega
theorem norm_add (a b : Nat) : norm (norm a + b) = norm (a + b) := by unfold norm; repeat' split
                                                                      all_goals omega
theorem norm_add' (a b : Nat) : norm (a + norm b) = norm (a + b) := by rw [Nat.add_comm, norm_add, Nat.add_comm]

/-- the plain sum of words; the flag: is the next byte a word's high one -/
def wsum : Bool → List UInt8 → Nat
  | _, [] => 0
  | true, c :: l => 256 * c.toNat + wsum false l
  | false, c :: l => c.toNat + wsum true l

def flip (b : Bool) (n : Nat) : Bool := if n % 2 = 0 then b else !b

theorem wsum_append (h : Bool) (p q : List UInt8) : wsum h (p ++ q) = wsum h p + wsum (flip h p.length) q := by
  induction p generalizing h with
  | nil => simp [wsum, flip]
  | cons c p ih =>
    have e : ∀ b : Bool, flip (!b) p.length = flip b (c :: p).length := by
      intro b
      simp only [flip, List.length_cons]
      by_cases hp : p.length % 2 = 0
      · rw [if_pos hp, if_neg (by omega)]
      · rw [if_neg hp, if_pos (by omega)]; simp
    cases h
    · have := e false
      simp only [List.cons_append, wsum, ih, ← this, Bool.not_false]; omega
    · have := e true
      simp only [List.cons_append, wsum, ih, ← this, Bool.not_true]; omega

theorem wsum_even (h : Bool) (p q : List UInt8) (hp : p.length % 2 = 0) : wsum h (p ++ q) = wsum h p + wsum h q := by
  rw [wsum_append]; simp [flip, hp]

/-- the sum that the program reckons, and its reference -/
def ck (l : List UInt8) : Nat := norm (wsum true l)

theorem ck_le (l : List UInt8) : ck l ≤ 65535 := norm_le _

def high (n : Nat) : Bool := n % 2 == 0

/-- one byte more -/
def add2 (a b : Int) : Int := (if a + b < 65536 then a + b else a + b - 65535)

theorem add2_nat (a b : Nat) (ha : a ≤ 65535) (hb : b ≤ 65535) : add2 a b = (norm (a + b) : Nat) := by
  unfold add2 norm
  repeat' split
  all_goals omega

theorem flip_true (n : Nat) : flip true n = high n := by
  unfold flip high
  by_cases h : n % 2 = 0 <;> simp [h]

theorem ck_snoc_high (p : List UInt8) (c : UInt8) (h : high p.length = true) : add2 (ck p : Nat) (256 * c.toNat : Nat) = (ck (p ++ [c]) : Nat) := by
  have hc : c.toNat < 256 := c.toNat_lt
  rw [add2_nat _ _ (ck_le _) (by omega)]
  simp only [ck, norm_add, wsum_append, flip_true, h, wsum]
  rfl

theorem ck_snoc_low (p : List UInt8) (c : UInt8) (h : high p.length = false) : add2 (ck p : Nat) (c.toNat : Nat) = (ck (p ++ [c]) : Nat) := by
  have hc : c.toNat < 256 := c.toNat_lt
  rw [add2_nat _ _ (ck_le _) (by omega)]
  simp only [ck, norm_add, wsum_append, flip_true, h, wsum]
  rfl

theorem high_snoc (n : Nat) : high (n + 1) = !high n := by
  unfold high
  by_cases h : n % 2 = 0
  · have : (n + 1) % 2 ≠ 0 := by omega
    simp [h, this]
  · have : (n + 1) % 2 = 0 := by omega
    simp [h, this]

theorem wsum_le (h : Bool) (l : List UInt8) : wsum h l ≤ 65280 * l.length := by
  induction l generalizing h with
  | nil => cases h <;> simp [wsum]
  | cons c l ih =>
    have hc : c.toNat < 256 := c.toNat_lt
    cases h
    · have := ih true; simp only [wsum, List.length_cons]; omega
    · have := ih false; simp only [wsum, List.length_cons]; omega

theorem wsum_snoc_high (p : List UInt8) (c : UInt8) (h : p.length % 2 = 0) : wsum true (p ++ [c]) = wsum true p + 256 * c.toNat := by
  rw [wsum_even _ _ _ h]; rfl
theorem wsum_snoc_low (p : List UInt8) (c : UInt8) (h : p.length % 2 = 1) : wsum true (p ++ [c]) = wsum true p + c.toNat := by
  rw [wsum_append, flip, if_neg (by omega)]; rfl

theorem ck_join (a b : List UInt8) (h : a.length % 2 = 0) : ck (a ++ b) = if ck a + ck b ≤ 65535 then ck a + ck b else ck a + ck b - 65535 := by
  have e : ck (a ++ b) = norm (ck a + ck b) := by
    unfold ck; rw [wsum_even _ _ _ h, norm_add, norm_add']
  have ha := ck_le a
  have hb := ck_le b
  rw [e]
  unfold norm
  repeat' split
  all_goals omega
theorem ck_zeros (a : List UInt8) (h : a.length % 2 = 0) : ck (a ++ [0, 0]) = ck a := by
  unfold ck; rw [wsum_even _ _ _ h]; simp [wsum]

/-- one word of bytes, and the rest -/
theorem wsum_word (l : List UInt8) (i : Nat) (x y : UInt8) (hi : i % 2 = 0) (hx : l[i]? = some x) (hy : l[i + 1]? = some y) :
    ∃ T, wsum true l = T + (256 * x.toNat + y.toNat) ∧ ∀ a b : UInt8, wsum true ((l.set i a).set (i + 1) b) = T + (256 * a.toNat + b.toNat) := by
  have h1 : i < l.length := by
    rcases Nat.lt_or_ge i l.length with h | h
    · exact h
    · rw [List.getElem?_eq_none h] at hx; cases hx
  have h2 : i + 1 < l.length := by
    rcases Nat.lt_or_ge (i + 1) l.length with h | h
    · exact h
    · rw [List.getElem?_eq_none h] at hy; cases hy
  have e : ∀ a b : UInt8, (l.set i a).set (i + 1) b = l.take i ++ ([a, b] ++ l.drop (i + 2)) := by
    intro a b
    apply List.ext_getElem?
    intro k
    have hl : (l.take i).length = i := by rw [List.length_take]; omega
    rcases Nat.lt_trichotomy k i with h | h | h
    · rw [List.getElem?_append_left (by omega), List.getElem?_set_ne (by omega), List.getElem?_set_ne (by omega), List.getElem?_take, if_pos h]
    · subst h
      rw [List.getElem?_append_right (by omega), hl, List.getElem?_set_ne (by omega), List.getElem?_set_self (by omega)]; simp
    · rw [List.getElem?_append_right (by omega), hl]
      rcases Nat.lt_or_ge (i + 1) k with h3 | h3
      · rw [List.getElem?_set_ne (by omega), List.getElem?_set_ne (by omega), List.getElem?_append_right (by simp; omega), List.getElem?_drop]
        congr 1
        simp; omega
      · obtain rfl : k = i + 1 := by omega
        rw [List.getElem?_set_self (by simp; omega)]
        simp
  have hl : (l.take i).length = i := by rw [List.length_take]; omega
  have e0 : l = (l.set i x).set (i + 1) y := by
    apply List.ext_getElem?
    intro k
    rcases Nat.lt_trichotomy k i with h | h | h
    · rw [List.getElem?_set_ne (by omega), List.getElem?_set_ne (by omega)]
    · subst h
      rw [List.getElem?_set_ne (by omega), List.getElem?_set_self (by omega), hx]
    · rcases Nat.lt_or_ge (i + 1) k with h3 | h3
      · rw [List.getElem?_set_ne (by omega), List.getElem?_set_ne (by omega)]
      · obtain rfl : k = i + 1 := by omega
        rw [List.getElem?_set_self (by simp; omega), hy]
  have w2 : ∀ a b : UInt8, wsum true ((l.set i a).set (i + 1) b) = wsum true (l.take i) + wsum true (l.drop (i + 2)) + (256 * a.toNat + b.toNat) := by
    intro a b
    rw [e, wsum_even _ _ _ (by rw [hl]; exact hi), wsum_even _ _ _ (by simp)]
    simp only [wsum]
    omega
  exact ⟨_, by rw [← w2, ← e0], w2⟩

theorem lt_of_get {l : List UInt8} {i : Nat} {x : UInt8} (h : l[i]? = some x) : i < l.length := by
  rcases Nat.lt_or_ge i l.length with h' | h'
  · exact h'
  · rw [List.getElem?_eq_none h'] at h; cases h

/-- two words changed for each other -/
theorem swap_sum (X : List UInt8) (i k : Nat) (y0 y1 y2 y3 : UInt8) (hi : i % 2 = 0) (hk : k % 2 = 0) (h0 : X[i]? = some y0) (h1 : X[i + 1]? = some y1) (h2 : X[k]? = some y2) (h3 : X[k + 1]? = some y3) :
    wsum true ((((X.set i y2).set (i + 1) y3).set k y0).set (k + 1) y1) = wsum true X := by
  obtain ⟨T, e1, e2⟩ := wsum_word X i y0 y1 hi h0 h1
  have b2 := lt_of_get h2
  have b3 := lt_of_get h3
  have g2 : ((X.set i y2).set (i + 1) y3)[k]? = some y2 := by
    rw [List.getElem?_set_ne (by omega)]
    by_cases h : i = k
    · subst h; rw [List.getElem?_set_self b2]
    · rw [List.getElem?_set_ne h]; exact h2
  have g3 : ((X.set i y2).set (i + 1) y3)[k + 1]? = some y3 := by
    by_cases h : i = k
    · subst h; rw [List.getElem?_set_self (by simpa using b3)]
    · rw [List.getElem?_set_ne (by omega), List.getElem?_set_ne (by omega)]; exact h3
  obtain ⟨T', e3, e4⟩ := wsum_word ((X.set i y2).set (i + 1) y3) k y2 y3 hk g2 g3
  have := e2 y2 y3
  rw [e4, e1]
  omega

theorem norm_more (a : Nat) (h : 0 < a) : norm (a + 65535) = norm a := by unfold norm; repeat' split
                                                                          all_goals omega

theorem word_same (T P Q : Nat) (h : norm (T + P) = 65535) (hs : P = Q ∨ (P + Q = 65535 ∧ (P = 0 ∨ Q = 0))) : norm (T + Q) = 65535 ∨ norm (T + Q) = 0 := by
  unfold norm at *
  split at h
  · omega
  · split <;> omega
theorem word_law (T P Q : Nat) (hP : P ≤ 65535) (hQ : Q ≤ 65535) (h : norm (T + P) = 65535) (hs : ¬ (P = Q ∨ (P + Q = 65535 ∧ (P = 0 ∨ Q = 0)))) : norm (T + Q) ≠ 65535 := by
  unfold norm at *
  split at h
  · omega
  · split <;> omega

end Ck
end Go.Proofs.Ytnoobifdaldfiaa
