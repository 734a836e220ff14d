/-
  The arguments 'a segment' and 'two hosts' opened.
-/
import Derived.Test.YtnoobifdaldfiaaRows
import Derived.Test.YtnoobifdaldfiaaOpenS
import Derived.Test.YtnoobifdaldfiaaMem
import Derived.KernelRfl
namespace Go.Proofs.Ytnoobifdaldfiaa
open Go.ChangeShapes Go.WideShapes Go.RowKit

section
variable {H : Type} {enc : TypeId × Value → H} {W : World} {base : Nat}

theorem len8 {α : Type} {l : List α} (h : l.length = 8) : ∃ a b c d e f g i, l = [a, b, c, d, e, f, g, i] := by
  match l, h with
  | [a, b, c, d, e, f, g, i], _ => exact ⟨a, b, c, d, e, f, g, i, rfl⟩

set_option maxRecDepth 100000 in
theorem open_seg {v : Value} {d : DataW H} {p : List MemPlace} (hval : Value.okWide Try.prog W .any base 26 v) (hd : DataW.Trod enc Try.prog W 0 (fun _ => true) true 26 v d p) :
    ∃ (sp dp sq ak : Nat) (fl : UInt8) (wn ms : Nat) (A : Option Addr) (n c : Nat) (l : List UInt8), v = .agg #[.int .u16 (sp : Int), .int .u16 (dp : Int), .int .u32 (sq : Int), .int .u32 (ak : Int), .int .u8 (fl.toNat : Int), .int .u16 (wn : Int), .int .u16 (ms : Int), .slice A n c] ∧
      (sp ≤ 65535 ∧ dp ≤ 65535 ∧ sq < 4294967296 ∧ ak < 4294967296 ∧ wn ≤ 65535 ∧ ms ≤ 65535) ∧ Rd W 0 A n l ∧ SlOk A n c := by
  obtain ⟨cs, rfl, hl, hc⟩ := agg_cells (P := Try.prog) (ts := [22, 22, 23, 23, 5, 22, 22, 24]) (.inl ⟨_, Try.underlying26⟩) (by kernel_rfl) (by kernel_rfl) hval
  obtain ⟨x0, x1, x2, x3, x4, x5, x6, x7, rfl⟩ := len8 (hl.trans rfl)
  obtain ⟨z0, rfl, a0, b0⟩ := cell_int Try.underlying22 (hc 0 x0 22 rfl rfl)
  obtain ⟨z1, rfl, a1, b1⟩ := cell_int Try.underlying22 (hc 1 x1 22 rfl rfl)
  obtain ⟨z2, rfl, a2, b2⟩ := cell_int Try.underlying23 (hc 2 x2 23 rfl rfl)
  obtain ⟨z3, rfl, a3, b3⟩ := cell_int Try.underlying23 (hc 3 x3 23 rfl rfl)
  obtain ⟨z4, rfl, a4, b4⟩ := cell_int Try.underlying5 (hc 4 x4 5 rfl rfl)
  obtain ⟨z5, rfl, a5, b5⟩ := cell_int Try.underlying22 (hc 5 x5 22 rfl rfl)
  obtain ⟨z6, rfl, a6, b6⟩ := cell_int Try.underlying22 (hc 6 x6 22 rfl rfl)
  obtain ⟨A, n, c, l, rfl, hr, hok⟩ := field_bytes (i := 7) Try.underlying26 hd rfl (e := 5) Try.underlying24 Try.underlying5 (by kernel_rfl) (by kernel_rfl) (x := x7) rfl
  have a0' : 0 ≤ z0 := a0
  have b0' : z0 ≤ 65535 := b0
  have a1' : 0 ≤ z1 := a1
  have b1' : z1 ≤ 65535 := b1
  have a2' : 0 ≤ z2 := a2
  have b2' : z2 ≤ 4294967295 := b2
  have a3' : 0 ≤ z3 := a3
  have b3' : z3 ≤ 4294967295 := b3
  have a4' : 0 ≤ z4 := a4
  have b4' : z4 ≤ 255 := b4
  have a5' : 0 ≤ z5 := a5
  have b5' : z5 ≤ 65535 := b5
  have a6' : 0 ≤ z6 := a6
  have b6' : z6 ≤ 65535 := b6
  refine ⟨z0.toNat, z1.toNat, z2.toNat, z3.toNat, UInt8.ofNat z4.toNat, z5.toNat, z6.toNat, A, n, c, l, ?_, ⟨by omega, by omega, by omega, by omega, by omega, by omega⟩, hr, hok⟩
  have e4 : (((UInt8.ofNat z4.toNat).toNat : Nat) : Int) = z4 := by rw [UInt8.toNat_ofNat']; omega
  rw [e4, show ((z0.toNat : Nat) : Int) = z0 by omega, show ((z1.toNat : Nat) : Int) = z1 by omega, show ((z2.toNat : Nat) : Int) = z2 by omega, show ((z3.toNat : Nat) : Int) = z3 by omega, show ((z5.toNat : Nat) : Int) = z5 by omega, show ((z6.toNat : Nat) : Int) = z6 by omega]

set_option maxRecDepth 100000 in
theorem open_ends {v : Value} (hval : Value.okWide Try.prog W .any base 59 v) : ∃ (a0 a1 a2 a3 b0 b1 b2 b3 : UInt8), v = .agg #[.int .u8 (a0.toNat : Int), .int .u8 (a1.toNat : Int), .int .u8 (a2.toNat : Int), .int .u8 (a3.toNat : Int), .int .u8 (b0.toNat : Int), .int .u8 (b1.toNat : Int), .int .u8 (b2.toNat : Int), .int .u8 (b3.toNat : Int)] := by
  obtain ⟨cs, rfl, hl, hc⟩ := agg_cells (P := Try.prog) (ts := List.replicate 8 5) (.inl ⟨_, Try.underlying59⟩) (by kernel_rfl) (by kernel_rfl) hval
  obtain ⟨q, hq, hq2⟩ := run_u8s hc hl Try.underlying5 0 8 (by decide)
  rw [List.length_replicate] at hl
  rw [List.drop_zero, List.take_of_length_le (by omega)] at hq
  subst hq
  obtain ⟨a0, a1, a2, a3, b0, b1, b2, b3, rfl⟩ := len8 hq2
  exact ⟨a0, a1, a2, a3, b0, b1, b2, b3, rfl⟩
end
end Go.Proofs.Ytnoobifdaldfiaa
