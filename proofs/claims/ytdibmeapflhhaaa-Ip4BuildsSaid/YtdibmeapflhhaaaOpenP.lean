/-
  The argument 'a packet' opened.
-/
import Derived.Test.YtdibmeapflhhaaaOpenS
import Derived.Test.YtdibmeapflhhaaaI6g
import Derived.KernelRfl
namespace Go.Proofs.Ytdibmeapflhhaaa
open Go.ChangeShapes Go.WideShapes Go.RowKit

section
variable {H : Type} {enc : TypeId × Value → H} {W : World} {base : Nat}

theorem cell_bool {P : Program} {T : TypeId} {x : Value} (hT : P.underlying T = some .bool) (h : Cell.okWide P W .any base T x) : ∃ b, x = .bool b := by
  simp only [Cell.okWide, hT, Cell.ok] at h
  cases x <;> simp_all

theorem open_packet {v : Value} {d : DataW H} {p : List MemPlace} (hval : Value.okWide Try.prog W .any base 50 v) (hd : DataW.Trod enc Try.prog W 0 (fun _ => true) true 50 v d p) :
    ∃ (id : Nat) (mo : Bool) (off : Int) (t p s0 s1 s2 s3 d0 d1 d2 d3 : UInt8) (A : Option Addr) (n c : Nat) (l : List UInt8), v = .agg #[.int .u16 (id : Int), .bool mo, .int .i64 off, .int .u8 (t.toNat : Int), .int .u8 (p.toNat : Int), .int .u8 (s0.toNat : Int), .int .u8 (s1.toNat : Int), .int .u8 (s2.toNat : Int), .int .u8 (s3.toNat : Int), .int .u8 (d0.toNat : Int), .int .u8 (d1.toNat : Int), .int .u8 (d2.toNat : Int), .int .u8 (d3.toNat : Int), .slice A n c] ∧
      id ≤ 65535 ∧ (-9223372036854775808 ≤ off ∧ off ≤ 9223372036854775807) ∧ Rd W 0 A n l ∧ SlOk A n c := by
  obtain ⟨cs, rfl, hl, hc⟩ := agg_cells (P := Try.prog) (ts := [24, 4, 3] ++ (List.replicate 10 5 ++ [25])) (.inl ⟨_, Try.underlying50⟩) (by kernel_rfl) (by kernel_rfl) hval
  obtain ⟨q, hq, hq2⟩ := run_u8s hc hl Try.underlying5 3 10 (by decide)
  have h14 : cs.length = 14 := by rw [hl]; rfl
  obtain ⟨x0, hx0⟩ : ∃ x, cs[0]? = some x := ⟨_, List.getElem?_eq_getElem (by omega)⟩
  obtain ⟨x1, hx1⟩ : ∃ x, cs[1]? = some x := ⟨_, List.getElem?_eq_getElem (by omega)⟩
  obtain ⟨x2, hx2⟩ : ∃ x, cs[2]? = some x := ⟨_, List.getElem?_eq_getElem (by omega)⟩
  obtain ⟨y, hy⟩ : ∃ y, cs[13]? = some y := ⟨_, List.getElem?_eq_getElem (by omega)⟩
  obtain ⟨z, rfl, z0, z1⟩ := cell_int Try.underlying24 (hc 0 x0 24 hx0 rfl)
  have z0' : 0 ≤ z := z0
  have z1' : z ≤ 65535 := z1
  obtain ⟨mo, rfl⟩ := cell_bool (P := Try.prog) Try.underlying4 (hc 1 x1 4 hx1 rfl)
  obtain ⟨off, rfl, o0, o1⟩ := cell_int Try.underlying3 (hc 2 x2 3 hx2 rfl)
  have o0' : -9223372036854775808 ≤ off := o0
  have o1' : off ≤ 9223372036854775807 := o1
  obtain ⟨A, n, c, l, rfl, hr, hok⟩ := field_bytes (i := 7) Try.underlying50 hd rfl (e := 5) Try.underlying25 Try.underlying5 (by kernel_rfl) (by kernel_rfl) (x := y) (by simpa [Value.cells] using hy)
  have e : cs = [.int .u16 z, .bool mo, .int .i64 off] ++ (bvs q ++ [.slice A n c]) := by
    rw [← hq]
    apply List.ext_getElem?
    intro j
    match j with
    | 0 => rw [hx0]; rfl
    | 1 => rw [hx1]; rfl
    | 2 => rw [hx2]; rfl
    | j + 3 =>
      rw [List.getElem?_append_right (by simp)]
      simp only [List.length_cons, List.length_nil, Nat.zero_add, Nat.add_sub_cancel]
      rcases Nat.lt_or_ge j 10 with h | h
      · rw [List.getElem?_append_left (by rw [List.length_take, List.length_drop]; omega), List.getElem?_take, if_pos h, List.getElem?_drop, Nat.add_comm 3 j]
      · rw [List.getElem?_append_right (by rw [List.length_take, List.length_drop]; omega), List.length_take, List.length_drop, show min 10 (cs.length - 3) = 10 by omega]
        rcases Nat.lt_or_ge j 11 with h2 | h2
        · obtain rfl : j = 10 := by omega
          rw [hy]; rfl
        · rw [List.getElem?_eq_none (by omega), List.getElem?_eq_none (by simp; omega)]
  obtain ⟨w1, r1, rfl, hw1, hr1⟩ := partOf 2 (by omega : 2 ≤ q.length)
  rw [List.length_append] at hr1 hq2
  obtain ⟨w2, w3, rfl, hw2, hr2⟩ := partOf 4 (by omega : 4 ≤ r1.length)
  rw [List.length_append] at hr1 hr2 hq2
  obtain ⟨t, p, rfl⟩ := len2 hw1
  obtain ⟨s0, s1, s2, s3, rfl⟩ := len4 hw2
  obtain ⟨d0, d1, d2, d3, rfl⟩ := len4 (by omega : w3.length = 4)
  refine ⟨z.toNat, mo, off, t, p, s0, s1, s2, s3, d0, d1, d2, d3, A, n, c, l, ?_, by omega, ⟨o0', o1'⟩, hr, hok⟩
  rw [e, show ((z.toNat : Nat) : Int) = z by omega]
  rfl
end
end Go.Proofs.Ytdibmeapflhhaaa
