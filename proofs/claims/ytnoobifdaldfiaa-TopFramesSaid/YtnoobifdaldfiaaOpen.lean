/-
  Arguments opened: a slice of bytes that came in reads as a list of bytes, and is no longer than the form's own reach. No program in sight.
-/
import Derived.Test.YtnoobifdaldfiaaMem
import Derived.ProofKit
import Derived.OpenShut
import Derived.SizedLaws
import Derived.ChangeOld
namespace Go.Proofs.Ytnoobifdaldfiaa
open Go.ChangeShapes Go.WideShapes Go.RowKit

section
variable {H : Type} {enc : TypeId × Value → H} {P : Program} {W : World} {base : Nat}

theorem byte_of_int {z : Int} (h : (Lit.int .u8 z).wf = true) : z = (((UInt8.ofNat z.toNat).toNat : Nat) : Int) := by
  have hz : 0 ≤ z ∧ z ≤ 255 := by simpa [Lit.wf, IntKind.min, IntKind.max, IntKind.signed, IntKind.bits] using h
  rw [UInt8.toNat_ofNat']
  omega

theorem open_bytes {ts : List TypeId} {ds : List (DataW H)} (hsz : (DataW.weightsEach P ts ds).all (· ≤ reachBytes) = true) {j : Nat} {t e : TypeId} {v : Value} {d : DataW H} {p : List MemPlace}
    (ht : P.underlying t = some (.slice e)) (he : P.underlying e = some (.int .u8)) (hc : P.cellsOf e = 1) (hby : P.bytesOf e = 1) (htj : ts[j]? = some t) (hdj : ds[j]? = some d)
    (hval : Value.okWide P W .any base t v) (hd : DataW.Trod enc P W 0 (fun _ => true) true t v d p) :
    ∃ (A : Option Addr) (n c : Nat) (l : List UInt8), v = .slice A n c ∧ Rd W 0 A n l ∧ n ≤ 140737488351232 := by
  obtain ⟨A, n, c, rfl⟩ := okWide_slice ht hval
  obtain ⟨fuel, hf⟩ := hd
  rcases open_ints ht he hc hf with ⟨hcs, _⟩ | ⟨a, n', c', zs, hcs, _, hl, hm, hz, hx, hcell, hwz⟩
  · simp [Value.cells] at hcs
    obtain ⟨rfl, rfl, rfl⟩ := hcs
    exact ⟨_, _, _, [], rfl, Rd.none_ _ _, by omega⟩
  · simp [Value.cells] at hcs
    obtain ⟨rfl, rfl, rfl⟩ := hcs
    simp only [Prod.mk.injEq] at hx
    obtain ⟨rfl, _⟩ := hx
    simp only [if_true] at hz
    have hr := sized_slice hsz htj hdj ht
    rw [hby] at hr
    simp only [lits, List.length_map, List.length_take, List.length_drop, reachBytes] at hr
    refine ⟨_, _, _, (zs.take n).map (fun z => UInt8.ofNat z.toNat), rfl, ⟨by simp [bvs]; omega, fun hn => ?_⟩, by omega⟩
    obtain ⟨b, off, spot⟩ := a
    have hspot : spot = none := by simpa [Addr.add] using World.cell?_spot (hcell 0 (by omega))
    subst hspot
    refine ⟨b, off, rfl, Nat.zero_le _, fun j u hu => ?_⟩
    have hj : j < n := by
      rcases Nat.lt_or_ge j n with h | h
      · exact h
      · rw [List.getElem?_eq_none (by simp [bvs]; omega)] at hu; cases hu
    have hjz : j < zs.length := by omega
    have hplain : (⟨b, off, none⟩ : Addr).add j = ⟨b, off + j, none⟩ := by unfold Addr.add; split <;> simp_all
    rw [← hplain, hcell j hjz]
    simp only [bvs, List.map_map, List.getElem?_map, List.getElem?_take, hj, if_true, List.getElem?_eq_getElem hjz, Option.map_some, Option.some.injEq] at hu
    rw [← hu]
    simp only [List.getD, List.getElem?_eq_getElem hjz, Option.getD_some, Function.comp]
    rw [← byte_of_int (hwz _ (List.getElem_mem hjz))]
/-- a struct or an array by value: its cells, each of its type -/
theorem agg_cells {t : TypeId} {v : Value} {ts : List TypeId} (hu : (∃ fs, P.underlying t = some (.struct fs)) ∨ ∃ n e, P.underlying t = some (.array n e)) (hts : P.cellTypes P.depth t = some ts) (hsz : P.cellsOf t = ts.length)
    (h : Value.okWide P W .any base t v) : ∃ cs : List Value, v = .agg cs.toArray ∧ cs.length = ts.length ∧ ∀ (i : Nat) (x : Value) (T : TypeId), cs[i]? = some x → ts[i]? = some T → Cell.okWide P W .any base T x := by
  have h' : ∃ cs, v = .agg cs ∧ cs.size = P.cellsOf t ∧ Row.okWide P W .any base t cs := by
    unfold Value.okWide at h
    rcases hu with ⟨fs, e⟩ | ⟨n, e', e⟩ <;> rw [e] at h <;> exact h
  obtain ⟨cs, rfl, hs, ts', e, _, hc⟩ := h'
  have e' : ts' = ts := by rw [hts] at e; injection e with e; exact e.symm
  subst e'
  refine ⟨cs.toList, rfl, by simpa using hs.trans hsz, fun i x T hx hT => ?_⟩
  obtain ⟨u, hu, hok⟩ := hc i x (by simpa using hx)
  have hi : i < ts'.length := by
    rcases Nat.lt_or_ge i ts'.length with h | h
    · exact h
    · rw [List.getElem?_eq_none h] at hT; cases hT
  rw [Nat.mod_eq_of_lt hi, hT] at hu
  injection hu with hu
  subst hu
  exact hok

theorem cell_int {T : TypeId} {k : IntKind} {x : Value} (hT : P.underlying T = some (.int k)) (h : Cell.okWide P W .any base T x) : ∃ z, x = .int k z ∧ k.min ≤ z ∧ z ≤ k.max := by
  simp only [Cell.okWide, hT, Cell.ok] at h
  cases x <;> simp_all [IntKind.has]
theorem cell_u8 {T : TypeId} {x : Value} (hT : P.underlying T = some (.int .u8)) (h : Cell.okWide P W .any base T x) : ∃ c : UInt8, x = .int .u8 (c.toNat : Int) := by
  obtain ⟨z, rfl, h0, h1⟩ := cell_int hT h
  have h0' : 0 ≤ z := h0
  have h1' : z ≤ 255 := h1
  exact ⟨UInt8.ofNat z.toNat, by rw [UInt8.toNat_ofNat']; congr 1; omega⟩
theorem cells_u8 {cs : List Value} (h : ∀ x ∈ cs, ∃ c : UInt8, x = .int .u8 (c.toNat : Int)) : ∃ l : List UInt8, cs = bvs l := by
  induction cs with
  | nil => exact ⟨[], rfl⟩
  | cons x cs ih =>
    obtain ⟨c, hc⟩ := h x (by simp)
    obtain ⟨l, hl⟩ := ih fun y hy => h y (by simp [hy])
    exact ⟨c :: l, by rw [hc, hl]; rfl⟩

/-- an array of bytes by value -/
theorem open_u8s {t e : TypeId} {v : Value} {k : Nat} (hu : P.underlying t = some (.array k e)) (he : P.underlying e = some (.int .u8)) (hts : P.cellTypes P.depth t = some (List.replicate k e)) (hsz : P.cellsOf t = k)
    (h : Value.okWide P W .any base t v) : ∃ l : List UInt8, v = .agg (bvs l).toArray ∧ l.length = k := by
  obtain ⟨cs, rfl, hl, hc⟩ := agg_cells (.inr ⟨k, e, hu⟩) hts (by simpa using hsz) h
  obtain ⟨l, rfl⟩ := cells_u8 (cs := cs) fun x hx => by
    obtain ⟨i, hi⟩ := List.getElem?_of_mem hx
    have hlt : i < k := by
      rcases Nat.lt_or_ge i cs.length with h | h
      · simpa [hl] using h
      · rw [List.getElem?_eq_none h] at hi; cases hi
    exact cell_u8 he (hc i x e hi (by simp [hlt]))
  exact ⟨l, rfl, by simpa [bvs] using hl⟩
end
end Go.Proofs.Ytnoobifdaldfiaa
