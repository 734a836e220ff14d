/-
  Bytes in parts of these sizes, and the rest as the last one: the plain law. No program in sight.
-/
import Derived.Test.YtnoobifdaldfiaaMem
namespace Go.Proofs.Ytnoobifdaldfiaa
namespace Sp

/-- the parts, and the error's number -/
def split (l : List UInt8) : List Int → List (List UInt8) × Int
  | [] => ([l], 0)
  | z :: zs => if z < 0 then ([], 1) else if (l.length : Int) < z then ([], 6) else
      match split (l.drop z.toNat) zs with
      | (r, e) => if e = 0 then (l.take z.toNat :: r, 0) else ([], e)

/-- what was split before, ahead of what is left -/
def pre (ps : List (List UInt8)) (x : List (List UInt8) × Int) : List (List UInt8) × Int := if x.2 = 0 then (ps ++ x.1, 0) else ([], x.2)

theorem pre_nil (l : List UInt8) (zs : List Int) : pre [] (split l zs) = split l zs := by
  have h : ∀ (zs : List Int) (l : List UInt8), (split l zs).2 ≠ 0 → (split l zs).1 = [] := by
    intro zs
    induction zs with
    | nil => intro l h; exact absurd rfl h
    | cons z zs ih =>
      intro l h
      unfold split at h ⊢
      by_cases h1 : z < 0
      · rw [if_pos h1]
      · rw [if_neg h1] at h ⊢
        by_cases h2 : (l.length : Int) < z
        · rw [if_pos h2]
        · rw [if_neg h2] at h ⊢
          cases hs : split (l.drop z.toNat) zs with
          | mk r e =>
            simp only [hs] at h ⊢
            by_cases he : e = 0
            · simp [he] at h
            · simp [he]
  unfold pre
  by_cases h0 : (split l zs).2 = 0
  · rw [if_pos h0, List.nil_append, ← h0]
  · rw [if_neg h0, ← h zs l h0]

theorem pre_step {l : List UInt8} {z : Int} {zs : List Int} (ps : List (List UInt8)) (h0 : ¬ z < 0) (h1 : ¬ (l.length : Int) < z) :
    pre ps (split l (z :: zs)) = pre (ps ++ [l.take z.toNat]) (split (l.drop z.toNat) zs) := by
  rw [split, if_neg h0, if_neg h1]
  cases hs : split (l.drop z.toNat) zs with
  | mk r e =>
    by_cases he : e = 0
    · subst he; simp [pre]
    · simp [pre, he]

theorem join_ok (zs : List Int) : ∀ (l : List UInt8), (split l zs).2 = 0 → (split l zs).1.flatten = l := by
  induction zs with
  | nil => intro l _; simp [split]
  | cons z zs ih =>
    intro l h
    unfold split at h ⊢
    by_cases h1 : z < 0
    · rw [if_pos h1] at h; cases h
    · rw [if_neg h1] at h ⊢
      by_cases h2 : (l.length : Int) < z
      · rw [if_pos h2] at h; cases h
      · rw [if_neg h2] at h ⊢
        have := ih (l.drop z.toNat)
        cases hs : split (l.drop z.toNat) zs with
        | mk r e =>
          simp only [hs] at h this ⊢
          by_cases he : e = 0
          · subst he
            simp only [if_true, List.flatten_cons, this rfl]
            exact List.take_append_drop _ _
          · simp only [if_neg he] at h
            exact absurd h he

theorem len_le (zs : List Int) : ∀ (l : List UInt8), (split l zs).1.length ≤ zs.length + 1 := by
  induction zs with
  | nil => intro l; simp [split]
  | cons z zs ih =>
    intro l
    unfold split
    by_cases h1 : z < 0
    · rw [if_pos h1]; simp
    · rw [if_neg h1]
      by_cases h2 : (l.length : Int) < z
      · rw [if_pos h2]; simp
      · rw [if_neg h2]
        have := ih (l.drop z.toNat)
        cases hs : split (l.drop z.toNat) zs with
        | mk r e =>
          simp only [hs] at this ⊢
          by_cases he : e = 0 <;> simp [he]; omega
end Sp
end Go.Proofs.Ytnoobifdaldfiaa
