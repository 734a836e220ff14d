/-
  Numbers, bytes as they are written, and the bytes of texts: the plain laws. No program in sight.
-/
import Derived.Below
namespace Go.Proofs.Ytibbpineaekfoaa
namespace Oc

/-- a number in so many bytes, the highest first -/
def be (n : Nat) : Nat → List UInt8
  | 0 => []
  | k + 1 => UInt8.ofNat (n / 256 ^ k % 256) :: be n k

theorem be_len (n k : Nat) : (be n k).length = k := by
  induction k with
  | zero => rfl
  | succ k ih => simp [be, ih]
theorem be_get (n k i : Nat) (h : i < k) : (be n k)[i]? = some (UInt8.ofNat (n / 256 ^ (k - 1 - i) % 256)) := by
  induction k generalizing i with
  | zero => omega
  | succ k ih =>
    cases i with
    | zero => simp [be]
    | succ i =>
      rw [be, List.getElem?_cons_succ, ih i (by omega)]
      rw [show k + 1 - 1 - (i + 1) = k - 1 - i by omega]

/-- the number of bytes -/
def num (l : List UInt8) : Nat := l.foldl (fun n c => n * 256 + c.toNat) 0
theorem num_snoc (l : List UInt8) (c : UInt8) : num (l ++ [c]) = num l * 256 + c.toNat := by simp [num]
theorem num_lt (l : List UInt8) : num l < 256 ^ l.length := by
  have key : ∀ n, ∀ l : List UInt8, l.length = n → num l < 256 ^ n := by
    intro n
    induction n with
    | zero => intro l h; rw [List.eq_nil_of_length_eq_zero h]; decide
    | succ n ih =>
      intro l h
      have hne : l ≠ [] := by rintro rfl; cases h
      rw [← List.dropLast_concat_getLast hne, num_snoc]
      have h1 := ih l.dropLast (by simp [h])
      have h2 := (l.getLast hne).toNat_lt
      rw [Nat.pow_succ]
      omega
  exact key _ l rfl
theorem num_be (n k : Nat) : num (be n k) = n % 256 ^ k := by
  have key : ∀ (k a : Nat), (be n k).foldl (fun n c => n * 256 + c.toNat) a = a * 256 ^ k + n % 256 ^ k := by
    intro k
    induction k with
    | zero => intro a; simp [be, Nat.mod_one]
    | succ k ih =>
      intro a
      rw [be, List.foldl_cons, ih]
      have e : (UInt8.ofNat (n / 256 ^ k % 256)).toNat = n / 256 ^ k % 256 := by rw [UInt8.toNat_ofNat']; omega
      rw [e]
      have h3 : n % 256 ^ (k + 1) = 256 ^ k * (n / 256 ^ k % 256) + n % 256 ^ k := by
        rw [Nat.pow_succ, Nat.mod_mul]; omega
      rw [h3, Nat.add_mul, Nat.pow_succ, Nat.mul_comm (256 ^ k) (n / 256 ^ k % 256), Nat.mul_assoc, Nat.mul_comm 256]
      omega
  have := key k 0
  simpa [num] using this

/-- a digit to the base 16 -/
def hd (n : Nat) : UInt8 := if n < 10 then UInt8.ofNat (48 + n) else UInt8.ofNat (87 + n)
def hex (l : List UInt8) : List UInt8 := l.flatMap fun c => [hd (c.toNat / 16), hd (c.toNat % 16)]
theorem hex_append (a b : List UInt8) : hex (a ++ b) = hex a ++ hex b := by simp [hex]
theorem hex_len (l : List UInt8) : (hex l).length = 2 * l.length := by
  induction l with
  | nil => rfl
  | cons c l ih => rw [show c :: l = [c] ++ l from rfl, hex_append, List.length_append, ih]; simp [hex]; omega
theorem hex_snoc (l : List UInt8) (c : UInt8) : hex (l ++ [c]) = hex l ++ [hd (c.toNat / 16), hd (c.toNat % 16)] := by rw [hex_append]; rfl

/-- a byte's digit; below 0: none -/
def dg (c : Nat) : Int := if 48 ≤ c ∧ c ≤ 57 then (c : Int) - 48 else if 97 ≤ c ∧ c ≤ 102 then (c : Int) - 87 else -1
theorem dg_lt (c : Nat) : dg c < 16 := by unfold dg; repeat' split
                                          all_goals omega
theorem dg_ge (c : Nat) : -1 ≤ dg c := by unfold dg; repeat' split
                                          all_goals omega
theorem dg_high (c : Nat) (h : 128 ≤ c) : dg c = -1 := by unfold dg; repeat' split
                                                          all_goals omega
theorem dg_hd (n : Nat) (h : n < 16) : dg (hd n).toNat = n := by
  unfold hd
  split
  · rw [UInt8.toNat_ofNat']; unfold dg; rw [if_pos (by omega)]; omega
  · rw [UInt8.toNat_ofNat']; unfold dg; rw [if_neg (by omega), if_pos (by omega)]; omega

def pairs : List UInt8 → List UInt8
  | a :: b :: l => UInt8.ofNat (16 * dg a.toNat + dg b.toNat).toNat :: pairs l
  | _ => []
def good (l : List UInt8) : Prop := ∀ c ∈ l, 0 ≤ dg c.toNat

theorem pairs_even (p q : List UInt8) (h : p.length % 2 = 0) : pairs (p ++ q) = pairs p ++ pairs q := by
  have key : ∀ n, ∀ p : List UInt8, p.length = 2 * n → pairs (p ++ q) = pairs p ++ pairs q := by
    intro n
    induction n with
    | zero => intro p h; rw [List.eq_nil_of_length_eq_zero h]; rfl
    | succ n ih =>
      intro p h
      match p, h with
      | a :: b :: p, h =>
        have := ih p (by simp at h; omega)
        simp only [List.cons_append, pairs, this]
  exact key (p.length / 2) p (by omega)
theorem pairs_half (p : List UInt8) (c : UInt8) (h : p.length % 2 = 0) : pairs (p ++ [c]) = pairs p := by rw [pairs_even _ _ h]; simp [pairs]
theorem pairs_whole (p : List UInt8) (a b : UInt8) (h : p.length % 2 = 0) : pairs (p ++ [a] ++ [b]) = pairs (p ++ [a]) ++ [UInt8.ofNat (16 * dg a.toNat + dg b.toNat).toNat] := by
  rw [pairs_half _ _ h, List.append_assoc, pairs_even _ _ h]; simp [pairs]
theorem pairs_hex (l : List UInt8) : pairs (hex l) = l := by
  induction l with
  | nil => rfl
  | cons c l ih =>
    have hc := c.toNat_lt
    rw [show c :: l = [c] ++ l from rfl, hex_append, pairs_even _ _ (by simp [hex]), ih]
    simp only [hex, List.flatMap_cons, List.flatMap_nil, List.append_nil, pairs]
    rw [dg_hd _ (by omega), dg_hd _ (by omega)]
    congr 1
    have : (16 * ((c.toNat / 16 : Nat) : Int) + ((c.toNat % 16 : Nat) : Int)).toNat = c.toNat := by omega
    rw [this]
    simp
theorem good_hex (l : List UInt8) : good (hex l) := by
  intro c hc
  simp only [hex, List.mem_flatMap] at hc
  obtain ⟨d, _, hd'⟩ := hc
  have hd := d.toNat_lt
  simp only [List.mem_cons, List.not_mem_nil, or_false] at hd'
  rcases hd' with rfl | rfl
  · rw [dg_hd _ (by omega)]; omega
  · rw [dg_hd _ (by omega)]; omega

/-- the bytes of a text, and the error's number -/
noncomputable def unhex (l : List UInt8) : List UInt8 × Int :=
  open Classical in if good l then (if l.length % 2 = 1 then ([], 6) else (pairs l, 0)) else ([], 7)
theorem unhex_bad {l : List UInt8} {i : Nat} {c : UInt8} (h : l[i]? = some c) (hc : dg c.toNat < 0) : unhex l = ([], 7) := by
  unfold unhex
  rw [if_neg]
  intro hg
  have := hg c (List.mem_of_getElem? h)
  omega
theorem unhex_cut {l : List UInt8} (h : good l) (hc : l.length % 2 = 1) : unhex l = ([], 6) := by unfold unhex; rw [if_pos h, if_pos hc]
theorem unhex_ok {l : List UInt8} (h : good l) (hc : l.length % 2 = 0) : unhex l = (pairs l, 0) := by unfold unhex; rw [if_pos h, if_neg (by omega)]
theorem unhex_hex (l : List UInt8) : unhex (hex l) = (l, 0) := by rw [unhex_ok (good_hex l) (by rw [hex_len]; omega), pairs_hex]
theorem good_snoc {p : List UInt8} {c : UInt8} (h : good p) (hc : 0 ≤ dg c.toNat) : good (p ++ [c]) := by
  intro d hd
  rcases List.mem_append.1 hd with h' | h'
  · exact h d h'
  · simp at h'; subst h'; exact hc
end Oc
end Go.Proofs.Ytibbpineaekfoaa
