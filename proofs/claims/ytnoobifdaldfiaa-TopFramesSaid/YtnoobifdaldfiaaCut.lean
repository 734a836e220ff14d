/-
  A slice of a slice of bytes: what it reads as. No program in sight.
-/
import Derived.Test.YtnoobifdaldfiaaMem
namespace Go.Proofs.Ytnoobifdaldfiaa
open Go.RowKit
set_option maxRecDepth 100000

/-- a slice's length, room and address go together -/
def SlOk (A : Option Addr) (n c : Nat) : Prop := n ≤ c ∧ c ≤ maxLen ∧ (A = none → c = 0)

theorem SlOk.some_ {g off n c : Nat} (h : n ≤ c) (h2 : c ≤ maxLen) : SlOk (some ⟨g, off, none⟩) n c := ⟨h, h2, fun e => by cases e⟩

section
variable {P : Program} {w : World} {lo n c m k : Nat} {A : Option Addr} {l : List UInt8} {t e : TypeId} {i : TypeInfo}

theorem run_size (hi : P.info? e = some i) (hs : i.size = 1) (w : World) : (sizeOf e).run P w = .ok 1 w := by simp [sizeOf, typeInfo, hi, hs]

theorem cut_lo (ht : P.underlying t = some (.slice (P.elem t))) (hi : P.info? (P.elem t) = some i) (hs : i.size = 1) (hr : Rd w lo A n l) (hok : SlOk A n c) (hm : m ≤ n) (kd : IntKind := .i64) :
    ∃ A2, (∀ wx : World, (Instr.slice t (.slice A n c) (some (.int kd (m : Int))) none none).run P wx = .ok (.slice A2 (n - m) (c - m)) wx) ∧ Rd w lo A2 (n - m) (l.drop m) ∧ SlOk A2 (n - m) (c - m) := by
  refine ⟨if c = m then A else A.map (·.add m), fun wx => ?_, ?_, ?_⟩
  · rw [run_slice_l _ _ _ _ _ ht _ _ (by omega) (by omega), run_size hi hs]
    simp [Result.andThen, sliced]
  · refine ⟨by simp [bvs]; rw [hr.len], fun hn => ?_⟩
    obtain ⟨g, off, rfl, hlo, hc⟩ := hr.2 (by omega)
    have := hok.1
    rw [if_neg (by omega)]
    refine ⟨g, off + m, by simp [Addr.add], hlo, fun j u hu => ?_⟩
    rw [Nat.add_assoc]
    exact hc (m + j) u (by rw [← hu]; simp [bvs])
  · refine ⟨by have := hok.1; omega, by have := hok.2.1; omega, fun h => ?_⟩
    by_cases hc : c = m
    · omega
    · rw [if_neg hc] at h
      cases A with
      | none => have := hok.2.2 rfl; omega
      | some a => cases h

theorem cut_hi (ht : P.underlying t = some (.slice (P.elem t))) (hi : P.info? (P.elem t) = some i) (hs : i.size = 1) (hr : Rd w lo A n l) (hok : SlOk A n c) (hm : m ≤ n) (kd : IntKind := .i64) :
    (∀ wx : World, (Instr.slice t (.slice A n c) none (some (.int kd (m : Int))) none).run P wx = .ok (.slice A m c) wx) ∧ Rd w lo A m (l.take m) ∧ SlOk A m c := by
  have h1 := hok.1
  refine ⟨fun wx => ?_, ?_, ⟨by omega, hok.2.1, hok.2.2⟩⟩
  · rw [run_slice_h _ _ _ _ _ ht _ _ (by omega) (by omega), run_size hi hs]
    simp [Result.andThen, sliced]
    intro hc
    cases A with
    | none => rfl
    | some a => simp [Addr.add]
  · refine ⟨by simp [bvs]; rw [hr.len]; omega, fun hn => ?_⟩
    obtain ⟨g, off, rfl, hlo, hc⟩ := hr.2 (by omega)
    refine ⟨g, off, rfl, hlo, fun j u hu => hc j u ?_⟩
    have : j < m := by
      rcases Nat.lt_or_ge j m with h | h
      · exact h
      · rw [List.getElem?_eq_none (by simp [bvs]; omega)] at hu; cases hu
    rw [← hu]
    simp [bvs, this]

theorem cut_mid (ht : P.underlying t = some (.slice (P.elem t))) (hi : P.info? (P.elem t) = some i) (hs : i.size = 1) (hr : Rd w lo A n l) (hok : SlOk A n c) (hm : k ≤ m) (hmn : m ≤ n) (kd kd2 : IntKind := .i64) :
    ∃ A2, (∀ wx : World, (Instr.slice t (.slice A n c) (some (.int kd (k : Int))) (some (.int kd2 (m : Int))) none).run P wx = .ok (.slice A2 (m - k) (c - k)) wx) ∧ Rd w lo A2 (m - k) ((l.take m).drop k) ∧ SlOk A2 (m - k) (c - k) := by
  have h1 := hok.1
  refine ⟨if c = k then A else A.map (·.add k), fun wx => ?_, ?_, ?_⟩
  · rw [run_slice_lh _ _ _ _ _ ht _ _ _ _ (by omega) (by omega) (by omega), run_size hi hs]
    simp [Result.andThen, sliced]
  · refine ⟨by simp [bvs]; rw [hr.len]; omega, fun hn => ?_⟩
    obtain ⟨g, off, rfl, hlo, hc⟩ := hr.2 (by omega)
    rw [if_neg (by omega)]
    refine ⟨g, off + k, by simp [Addr.add], hlo, fun j u hu => ?_⟩
    rw [Nat.add_assoc]
    refine hc (k + j) u ?_
    have : k + j < m := by
      rcases Nat.lt_or_ge (k + j) m with h | h
      · exact h
      · rw [List.getElem?_eq_none (by simp [bvs]; omega)] at hu; cases hu
    rw [← hu]
    simp [bvs, this]
  · refine ⟨by omega, by have := hok.2.1; omega, fun h => ?_⟩
    by_cases hc : c = k
    · omega
    · rw [if_neg hc] at h
      cases A with
      | none => have := hok.2.2 rfl; omega
      | some a => cases h
end
end Go.Proofs.Ytnoobifdaldfiaa
