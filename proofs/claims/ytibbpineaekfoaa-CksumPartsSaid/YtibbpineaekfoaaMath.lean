/-
  The plain law of the Internet's check sum: the sum of words with what is carried round is one number of the plain sum ('norm'). No program in sight.
-/
import Derived.Below
namespace Go.Proofs.Ytibbpineaekfoaa
namespace Ck

def norm (n : Nat) : Nat := if n = 0 then 0 else (n - 1) % 65535 + 1

theorem norm_le (n : Nat) : norm n ≤ 65535 := by unfold norm; split <;> omega
theorem norm_zero_iff (n : Nat) : norm n = 0 ↔ n = 0 := by unfold norm; split <;> omega
theorem norm_small {n : Nat} (h : n ≤ 65535) : norm n = n := by unfold norm; split <;> omega
theorem norm_add (a b : Nat) : norm (norm a + b) = norm (a + b) := by unfold norm; repeat' split
                                                                      all_goals omega
theorem norm_add' (a b : Nat) : norm (a + norm b) = norm (a + b) := by rw [Nat.add_comm, norm_add, Nat.add_comm]

/-- the plain sum of words; the flag: is the next byte a word's high one -/
def wsum : Bool → List UInt8 → Nat
  | _, [] => 0
  | true, c :: l => 256 * c.toNat + wsum false l
  | false, c :: l => c.toNat + wsum true l

def flip (b : Bool) (n : Nat) : Bool := if n % 2 = 0 then b else !b

theorem wsum_append (h : Bool) (p q : List UInt8) : wsum h (p ++ q) = wsum h p + wsum (flip h p.length) q := by
  induction p generalizing h with
  | nil => simp [wsum, flip]
  | cons c p ih =>
    have e : ∀ b : Bool, flip (!b) p.length = flip b (c :: p).length := by
      intro b
      simp only [flip, List.length_cons]
      by_cases hp : p.length % 2 = 0
      · rw [if_pos hp, if_neg (by omega)]
      · rw [if_neg hp, if_pos (by omega)]; simp
    cases h
    · have := e false
      simp only [List.cons_append, wsum, ih, ← this, Bool.not_false]; omega
    · have := e true
      simp only [List.cons_append, wsum, ih, ← this, Bool.not_true]; omega

theorem wsum_even (h : Bool) (p q : List UInt8) (hp : p.length % 2 = 0) : wsum h (p ++ q) = wsum h p + wsum h q := by
  rw [wsum_append]; simp [flip, hp]

/-- the sum that the program reckons, and its reference -/
def ck (l : List UInt8) : Nat := norm (wsum true l)

theorem ck_le (l : List UInt8) : ck l ≤ 65535 := norm_le _

def high (n : Nat) : Bool := n % 2 == 0

/-- one byte more -/
def add2 (a b : Int) : Int := (if a + b < 65536 then a + b else a + b - 65535)

theorem add2_nat (a b : Nat) (ha : a ≤ 65535) (hb : b ≤ 65535) : add2 a b = (norm (a + b) : Nat) := by
  unfold add2 norm
  repeat' split
  all_goals omega

theorem flip_true (n : Nat) : flip true n = high n := by
  unfold flip high
  by_cases h : n % 2 = 0 <;> simp [h]

theorem ck_snoc_high (p : List UInt8) (c : UInt8) (h : high p.length = true) : add2 (ck p : Nat) (256 * c.toNat : Nat) = (ck (p ++ [c]) : Nat) := by
  have hc : c.toNat < 256 := c.toNat_lt
  rw [add2_nat _ _ (ck_le _) (by omega)]
  simp only [ck, norm_add, wsum_append, flip_true, h, wsum]
  rfl

theorem ck_snoc_low (p : List UInt8) (c : UInt8) (h : high p.length = false) : add2 (ck p : Nat) (c.toNat : Nat) = (ck (p ++ [c]) : Nat) := by
  have hc : c.toNat < 256 := c.toNat_lt
  rw [add2_nat _ _ (ck_le _) (by omega)]
  simp only [ck, norm_add, wsum_append, flip_true, h, wsum]
  rfl

theorem high_snoc (n : Nat) : high (n + 1) = !high n := by
  unfold high
  by_cases h : n % 2 = 0
  · have : (n + 1) % 2 ≠ 0 := by omega
    simp [h, this]
  · have : (n + 1) % 2 = 0 := by omega
    simp [h, this]

theorem wsum_le (h : Bool) (l : List UInt8) : wsum h l ≤ 65280 * l.length := by
  induction l generalizing h with
  | nil => cases h <;> simp [wsum]
  | cons c l ih =>
    have hc : c.toNat < 256 := c.toNat_lt
    cases h
    · have := ih true; simp only [wsum, List.length_cons]; omega
    · have := ih false; simp only [wsum, List.length_cons]; omega

theorem wsum_snoc_high (p : List UInt8) (c : UInt8) (h : p.length % 2 = 0) : wsum true (p ++ [c]) = wsum true p + 256 * c.toNat := by
  rw [wsum_even _ _ _ h]; rfl
theorem wsum_snoc_low (p : List UInt8) (c : UInt8) (h : p.length % 2 = 1) : wsum true (p ++ [c]) = wsum true p + c.toNat := by
  rw [wsum_append, flip, if_neg (by omega)]; rfl

end Ck
end Go.Proofs.Ytibbpineaekfoaa
