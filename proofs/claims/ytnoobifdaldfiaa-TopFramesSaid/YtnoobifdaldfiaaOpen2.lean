/-
  An argument '[]byte' opened, and that it is a right slice. No program in sight.
-/
import Derived.Test.YtnoobifdaldfiaaOpen
import Derived.Test.YtnoobifdaldfiaaCut
namespace Go.Proofs.Ytnoobifdaldfiaa
open Go.ChangeShapes Go.WideShapes Go.RowKit

section
variable {H : Type} {enc : TypeId × Value → H} {P : Program} {W : World} {base : Nat}
theorem open_bytes_ok {ts : List TypeId} {ds : List (DataW H)} (hsz : (DataW.weightsEach P ts ds).all (· ≤ reachBytes) = true) {j : Nat} {t e : TypeId} {v : Value} {d : DataW H} {p : List MemPlace}
    (ht : P.underlying t = some (.slice e)) (he : P.underlying e = some (.int .u8)) (hc : P.cellsOf e = 1) (hby : P.bytesOf e = 1) (htj : ts[j]? = some t) (hdj : ds[j]? = some d)
    (hval : Value.okWide P W .any base t v) (hd : DataW.Trod enc P W 0 (fun _ => true) true t v d p) :
    ∃ (A : Option Addr) (n c : Nat) (l : List UInt8), v = .slice A n c ∧ (Rd W 0 A n l ∧ SlOk A n c) ∧ n ≤ 140737488351232 := by
  obtain ⟨A, n, c, rfl⟩ := okWide_slice ht hval
  obtain ⟨fuel, hf⟩ := hd
  rcases open_ints ht he hc hf with ⟨hcs, _⟩ | ⟨a, n', c', zs, hcs, _, hl, hm, hz, hx, hcell, hwz⟩
  · simp [Value.cells] at hcs
    obtain ⟨rfl, rfl, rfl⟩ := hcs
    exact ⟨_, _, _, [], rfl, ⟨Rd.none_ _ _, ⟨Nat.le_refl _, Nat.zero_le _, fun _ => rfl⟩⟩, by omega⟩
  · simp [Value.cells] at hcs
    obtain ⟨rfl, rfl, rfl⟩ := hcs
    simp only [Prod.mk.injEq] at hx
    obtain ⟨rfl, _⟩ := hx
    simp only [if_true] at hz
    have hr := sized_slice hsz htj hdj ht
    rw [hby] at hr
    simp only [lits, List.length_map, List.length_take, List.length_drop, reachBytes] at hr
    refine ⟨_, _, _, (zs.take n).map (fun z => UInt8.ofNat z.toNat), rfl, ⟨⟨by simp [bvs]; omega, fun hn => ?_⟩, ⟨hl, hm, fun e => by cases e⟩⟩, by omega⟩
    obtain ⟨b, off, spot⟩ := a
    have hspot : spot = none := by simpa [Addr.add] using World.cell?_spot (hcell 0 (by omega))
    subst hspot
    refine ⟨b, off, rfl, Nat.zero_le _, fun j u hu => ?_⟩
    have hj : j < n := by
      rcases Nat.lt_or_ge j n with h | h
      · exact h
      · rw [List.getElem?_eq_none (by simp [bvs]; omega)] at hu; cases hu
    have hjz : j < zs.length := by omega
    have hplain : (⟨b, off, none⟩ : Addr).add j = ⟨b, off + j, none⟩ := by unfold Addr.add; split <;> simp_all
    rw [← hplain, hcell j hjz]
    simp only [bvs, List.map_map, List.getElem?_map, List.getElem?_take, hj, if_true, List.getElem?_eq_getElem hjz, Option.map_some, Option.some.injEq] at hu
    rw [← hu]
    simp only [List.getD, List.getElem?_eq_getElem hjz, Option.getD_some, Function.comp]
    rw [← byte_of_int (hwz _ (List.getElem_mem hjz))]
end
end Go.Proofs.Ytnoobifdaldfiaa
