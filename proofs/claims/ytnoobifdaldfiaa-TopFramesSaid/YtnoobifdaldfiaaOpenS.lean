/-
  Arguments opened: a struct by value, its cells of their types; a slice of bytes in it. No program in sight.
-/
import Derived.Test.YtnoobifdaldfiaaOpen2
namespace Go.Proofs.Ytnoobifdaldfiaa
open Go.ChangeShapes Go.WideShapes Go.RowKit

section
variable {H : Type} {enc : TypeId × Value → H} {P : Program} {W : World} {base : Nat}

/-- the cells of a run of bytes of a struct -/
theorem run_u8s {cs : List Value} {ts : List TypeId} (h : ∀ (i : Nat) (x : Value) (T : TypeId), cs[i]? = some x → ts[i]? = some T → Cell.okWide P W .any base T x) (hl : cs.length = ts.length) {e : TypeId} (he : P.underlying e = some (.int .u8)) (off k : Nat)
    (hT : ∀ i, i < k → ts[off + i]? = some e) : ∃ l : List UInt8, (cs.drop off).take k = bvs l ∧ l.length = k := by
  have hk : ∀ i, i < k → off + i < cs.length := by
    intro i hi
    rcases Nat.lt_or_ge (off + i) ts.length with h' | h'
    · omega
    · have := hT i hi
      rw [List.getElem?_eq_none h'] at this
      cases this
  obtain ⟨l, hl2⟩ := cells_u8 (cs := (cs.drop off).take k) fun x hx => by
    obtain ⟨i, hi⟩ := List.getElem?_of_mem hx
    have hlt : i < k := by
      rcases Nat.lt_or_ge i k with h | h
      · exact h
      · rw [List.getElem?_eq_none (by rw [List.length_take]; omega)] at hi; cases hi
    rw [List.getElem?_take, if_pos hlt, List.getElem?_drop] at hi
    exact cell_u8 he (h _ x e hi (hT i hlt))
  refine ⟨l, hl2, ?_⟩
  have e := congrArg List.length hl2
  rw [List.length_take, List.length_drop] at e
  simp only [bvs, List.length_map] at e
  have : k = 0 ∨ off + (k - 1) < cs.length := by
    rcases Nat.eq_zero_or_pos k with h0 | h0
    · exact .inl h0
    · exact .inr (hk (k - 1) (by omega))
  omega

/-- a slice of bytes that is a field -/
theorem field_bytes {t : TypeId} {fs : Array Field} {v : Value} {d : DataW H} {p : List MemPlace} (ht : P.underlying t = some (.struct fs)) (hd : DataW.Trod enc P W 0 (fun _ => true) true t v d p)
    {i : Nat} {f : Field} (hf : fs[i]? = some f) {e : TypeId} (hs : P.underlying f.type = some (.slice e)) (he : P.underlying e = some (.int .u8)) (hc : P.cellsOf e = 1) (h1 : P.cellsOf f.type = 1) {x : Value} (hx : v.cells.toList[f.offset]? = some x) :
    ∃ (A : Option Addr) (n c : Nat) (l : List UInt8), x = .slice A n c ∧ Rd W 0 A n l ∧ SlOk A n c := by
  obtain ⟨fuel, hfu⟩ := hd
  obtain ⟨xs, m, _, _, _, hlen, hfld⟩ := DataW.trod_struct ht hfu
  have hi : i < xs.length := by
    rw [hlen]
    rcases Nat.lt_or_ge i fs.size with h | h
    · exact h
    · rw [Array.getElem?_eq_none h] at hf; cases hf
  have hg := hfld i f hf
  rw [List.getElem?_eq_getElem hi, h1] at hg
  have hcs : (v.cells.toList.drop f.offset).take 1 = [x] := by
    have hlt : f.offset < v.cells.toList.length := by
      rcases Nat.lt_or_ge f.offset v.cells.toList.length with h | h
      · exact h
      · rw [List.getElem?_eq_none h] at hx; cases hx
    rw [List.getElem?_eq_getElem hlt] at hx
    injection hx with hx
    rw [List.drop_eq_getElem_cons hlt, hx]
    rfl
  rw [hcs] at hg
  rcases open_ints hs he hc hg with ⟨hcs, _⟩ | ⟨a, n', c', zs, hcs, _, hl, hm, hz, hx2, hcell, hwz⟩
  · simp only [List.cons.injEq, and_true] at hcs
    subst hcs
    exact ⟨_, _, _, [], rfl, Rd.none_ _ _, ⟨Nat.le_refl _, Nat.zero_le _, fun _ => rfl⟩⟩
  · simp only [List.cons.injEq, and_true] at hcs
    subst hcs
    simp only [if_true] at hz
    refine ⟨_, _, _, (zs.take n').map (fun z => UInt8.ofNat z.toNat), rfl, ⟨by simp [bvs]; omega, fun hn => ?_⟩, ⟨hl, hm, fun e => by cases e⟩⟩
    obtain ⟨b, off, spot⟩ := a
    have hspot : spot = none := by simpa [Addr.add] using World.cell?_spot (hcell 0 (by omega))
    subst hspot
    refine ⟨b, off, rfl, Nat.zero_le _, fun j u hu => ?_⟩
    have hj : j < n' := by
      rcases Nat.lt_or_ge j n' with h | h
      · exact h
      · rw [List.getElem?_eq_none (by simp [bvs]; omega)] at hu; cases hu
    have hjz : j < zs.length := by omega
    have hplain : (⟨b, off, none⟩ : Addr).add j = ⟨b, off + j, none⟩ := by unfold Addr.add; split <;> simp_all
    rw [← hplain, hcell j hjz]
    simp only [bvs, List.map_map, List.getElem?_map, List.getElem?_take, hj, if_true, List.getElem?_eq_getElem hjz, Option.map_some, Option.some.injEq] at hu
    rw [← hu]
    simp only [List.getD, List.getElem?_eq_getElem hjz, Option.getD_some, Function.comp]
    rw [← byte_of_int (hwz _ (List.getElem_mem hjz))]
end
end Go.Proofs.Ytnoobifdaldfiaa
