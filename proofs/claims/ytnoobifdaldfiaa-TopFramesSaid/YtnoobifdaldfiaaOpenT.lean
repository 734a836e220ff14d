/-
  The arguments 'two hosts in an array' and 'two numbers in an array' opened.
-/
import Derived.Test.YtnoobifdaldfiaaOpenG
namespace Go.Proofs.Ytnoobifdaldfiaa
open Go.ChangeShapes Go.WideShapes Go.RowKit

section
variable {W : World} {base : Nat}

set_option maxRecDepth 100000 in
theorem open_ips {v : Value} (hval : Value.okWide Try.prog W .any base 29 v) : ∃ (a0 a1 a2 a3 b0 b1 b2 b3 : UInt8), v = .agg #[.int .u8 (a0.toNat : Int), .int .u8 (a1.toNat : Int), .int .u8 (a2.toNat : Int), .int .u8 (a3.toNat : Int), .int .u8 (b0.toNat : Int), .int .u8 (b1.toNat : Int), .int .u8 (b2.toNat : Int), .int .u8 (b3.toNat : Int)] := by
  obtain ⟨cs, rfl, hl, hc⟩ := agg_cells (P := Try.prog) (ts := List.replicate 8 5) (.inr ⟨_, _, Try.underlying29⟩) (by kernel_rfl) (by kernel_rfl) hval
  obtain ⟨q, hq, hq2⟩ := run_u8s hc hl Try.underlying5 0 8 (by decide)
  rw [List.length_replicate] at hl
  rw [List.drop_zero, List.take_of_length_le (by omega)] at hq
  subst hq
  obtain ⟨a0, a1, a2, a3, b0, b1, b2, b3, rfl⟩ := len8 hq2
  exact ⟨a0, a1, a2, a3, b0, b1, b2, b3, rfl⟩

set_option maxRecDepth 100000 in
theorem open_turn {v : Value} (hval : Value.okWide Try.prog W .any base 30 v) : ∃ t0 t1 : Int, v = .agg #[.int .i64 t0, .int .i64 t1] := by
  obtain ⟨cs, rfl, hl, hc⟩ := agg_cells (P := Try.prog) (ts := [3, 3]) (.inr ⟨_, _, Try.underlying30⟩) (by kernel_rfl) (by kernel_rfl) hval
  obtain ⟨x, y, rfl⟩ := len2 (hl.trans rfl)
  obtain ⟨z0, rfl, _⟩ := cell_int Try.underlying3 (hc 0 x 3 rfl rfl)
  obtain ⟨z1, rfl, _⟩ := cell_int Try.underlying3 (hc 1 y 3 rfl rfl)
  exact ⟨z0, z1, rfl⟩
end
end Go.Proofs.Ytnoobifdaldfiaa
