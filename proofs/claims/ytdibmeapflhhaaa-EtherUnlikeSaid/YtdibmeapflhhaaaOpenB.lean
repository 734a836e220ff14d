/-
  The arguments of caravellaw05's statements opened: an Arp, a frame.
-/
import Derived.Test.YtdibmeapflhhaaaOpenS
import Derived.Test.YtdibmeapflhhaaaArp5h
import Derived.KernelRfl
namespace Go.Proofs.Ytdibmeapflhhaaa
open Go.ChangeShapes Go.WideShapes Go.RowKit

section
variable {H : Type} {enc : TypeId × Value → H} {W : World} {base : Nat}

theorem open_arp {v : Value} (hval : Value.okWide Try.prog W .any base 44 v) : ∃ (op : Int) (a0 a1 a2 a3 a4 a5 b0 b1 b2 b3 c0 c1 c2 c3 c4 c5 d0 d1 d2 d3 : UInt8), v = .agg #[.int .i64 op, .int .u8 (a0.toNat : Int), .int .u8 (a1.toNat : Int), .int .u8 (a2.toNat : Int), .int .u8 (a3.toNat : Int), .int .u8 (a4.toNat : Int), .int .u8 (a5.toNat : Int), .int .u8 (b0.toNat : Int), .int .u8 (b1.toNat : Int), .int .u8 (b2.toNat : Int), .int .u8 (b3.toNat : Int), .int .u8 (c0.toNat : Int), .int .u8 (c1.toNat : Int), .int .u8 (c2.toNat : Int), .int .u8 (c3.toNat : Int), .int .u8 (c4.toNat : Int), .int .u8 (c5.toNat : Int), .int .u8 (d0.toNat : Int), .int .u8 (d1.toNat : Int), .int .u8 (d2.toNat : Int), .int .u8 (d3.toNat : Int)] := by
  obtain ⟨cs, rfl, hl, hc⟩ := agg_cells (P := Try.prog) (ts := 3 :: List.replicate 20 5) (.inl ⟨_, Try.underlying44⟩) (by kernel_rfl) (by kernel_rfl) hval
  obtain ⟨q, hq, hq2⟩ := run_u8s hc hl Try.underlying5 1 20 (by decide)
  rw [List.length_cons, List.length_replicate] at hl
  match cs, hl with
  | x :: cs, hl =>
    obtain ⟨z, rfl, _⟩ := cell_int Try.underlying3 (hc 0 x 3 rfl rfl)
    rw [List.drop_one, List.tail_cons, List.take_of_length_le (by simp at hl; omega)] at hq
    subst hq
    obtain ⟨p1, r1, rfl, hp1, hr1⟩ := partOf 6 (by omega : 6 ≤ q.length)
    rw [List.length_append] at hr1 hq2
    obtain ⟨p2, r2, rfl, hp2, hr2⟩ := partOf 4 (by omega : 4 ≤ r1.length)
    rw [List.length_append] at hr1 hr2 hq2
    obtain ⟨p3, p4, rfl, hp3, hr3⟩ := partOf 6 (by omega : 6 ≤ r2.length)
    rw [List.length_append] at hr1 hr2 hr3 hq2
    obtain ⟨a0, a1, a2, a3, a4, a5, rfl⟩ := len6 hp1
    obtain ⟨b0, b1, b2, b3, rfl⟩ := len4 hp2
    obtain ⟨c0, c1, c2, c3, c4, c5, rfl⟩ := len6 hp3
    obtain ⟨d0, d1, d2, d3, rfl⟩ := len4 (by omega : p4.length = 4)
    exact ⟨z, a0, a1, a2, a3, a4, a5, b0, b1, b2, b3, c0, c1, c2, c3, c4, c5, d0, d1, d2, d3, rfl⟩

theorem open_frame {v : Value} {d : DataW H} {p : List MemPlace} (hval : Value.okWide Try.prog W .any base 27 v) (hd : DataW.Trod enc Try.prog W 0 (fun _ => true) true 27 v d p) :
    ∃ (d0 d1 d2 d3 d4 d5 s0 s1 s2 s3 s4 s5 : UInt8) (ty : Nat) (A : Option Addr) (n c : Nat) (l : List UInt8), v = .agg #[.int .u8 (d0.toNat : Int), .int .u8 (d1.toNat : Int), .int .u8 (d2.toNat : Int), .int .u8 (d3.toNat : Int), .int .u8 (d4.toNat : Int), .int .u8 (d5.toNat : Int), .int .u8 (s0.toNat : Int), .int .u8 (s1.toNat : Int), .int .u8 (s2.toNat : Int), .int .u8 (s3.toNat : Int), .int .u8 (s4.toNat : Int), .int .u8 (s5.toNat : Int), .int .u16 (ty : Int), .slice A n c] ∧ ty ≤ 65535 ∧ Rd W 0 A n l ∧ SlOk A n c := by
  obtain ⟨cs, rfl, hl, hc⟩ := agg_cells (P := Try.prog) (ts := List.replicate 12 5 ++ [24, 25]) (.inl ⟨_, Try.underlying27⟩) (by kernel_rfl) (by kernel_rfl) hval
  obtain ⟨q, hq, hq2⟩ := run_u8s hc hl Try.underlying5 0 12 (by decide)
  have h14 : cs.length = 14 := by rw [hl]; rfl
  obtain ⟨x, hx⟩ : ∃ x, cs[12]? = some x := ⟨_, List.getElem?_eq_getElem (by omega)⟩
  obtain ⟨y, hy⟩ : ∃ y, cs[13]? = some y := ⟨_, List.getElem?_eq_getElem (by omega)⟩
  obtain ⟨z, rfl, h0, h1⟩ := cell_int Try.underlying24 (hc 12 x 24 hx rfl)
  have h0' : 0 ≤ z := h0
  have h1' : z ≤ 65535 := h1
  obtain ⟨A, n, c, l, rfl, hr, hok⟩ := field_bytes (i := 3) Try.underlying27 hd rfl (e := 5) Try.underlying25 Try.underlying5 (by kernel_rfl) (by kernel_rfl) (x := y) (by simpa [Value.cells] using hy)
  have e : cs = bvs q ++ [.int .u16 z, .slice A n c] := by
    rw [← hq]
    apply List.ext_getElem?
    intro j
    rw [List.drop_zero]
    rcases Nat.lt_or_ge j 12 with h | h
    · rw [List.getElem?_append_left (by rw [List.length_take]; omega), List.getElem?_take, if_pos h]
    · rw [List.getElem?_append_right (by rw [List.length_take]; omega), List.length_take, show min 12 cs.length = 12 by omega]
      rcases Nat.lt_trichotomy j 13 with h2 | h2 | h2
      · obtain rfl : j = 12 := by omega
        rw [hx]; rfl
      · subst h2
        rw [hy]; rfl
      · rw [List.getElem?_eq_none (by omega), List.getElem?_eq_none (by simp; omega)]
  obtain ⟨p1, p2, rfl, hp1, hr1⟩ := partOf 6 (by omega : 6 ≤ q.length)
  rw [List.length_append] at hr1 hq2
  obtain ⟨d0, d1, d2, d3, d4, d5, rfl⟩ := len6 hp1
  obtain ⟨s0, s1, s2, s3, s4, s5, rfl⟩ := len6 (by omega : p2.length = 6)
  refine ⟨d0, d1, d2, d3, d4, d5, s0, s1, s2, s3, s4, s5, z.toNat, A, n, c, l, ?_, by omega, hr, hok⟩
  rw [e, show ((z.toNat : Nat) : Int) = z by omega]
  rfl
end
end Go.Proofs.Ytdibmeapflhhaaa
