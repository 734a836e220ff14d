/-
  The argument 'two hosts' opened.
-/
import Derived.Test.YtdibmeapflhhaaaOpenS
import Derived.Test.YtdibmeapflhhaaaArp5h
import Derived.KernelRfl
namespace Go.Proofs.Ytdibmeapflhhaaa
open Go.ChangeShapes Go.WideShapes Go.RowKit

section
variable {W : World} {base : Nat}
theorem open_hosts {v : Value} (hval : Value.okWide Try.prog W .any base 67 v) : ∃ (a0 a1 a2 a3 b0 b1 b2 b3 : UInt8), v = .agg #[.int .u8 (a0.toNat : Int), .int .u8 (a1.toNat : Int), .int .u8 (a2.toNat : Int), .int .u8 (a3.toNat : Int), .int .u8 (b0.toNat : Int), .int .u8 (b1.toNat : Int), .int .u8 (b2.toNat : Int), .int .u8 (b3.toNat : Int)] := by
  obtain ⟨cs, rfl, hl, hc⟩ := agg_cells (P := Try.prog) (ts := List.replicate 8 5) (.inr ⟨_, _, Try.underlying67⟩) (by kernel_rfl) (by kernel_rfl) hval
  obtain ⟨q, hq, hq2⟩ := run_u8s hc hl Try.underlying5 0 8 (by decide)
  rw [List.length_replicate] at hl
  rw [List.drop_zero, List.take_of_length_le (by omega)] at hq
  subst hq
  obtain ⟨p1, p2, rfl, hp1, hr1⟩ := partOf 4 (by omega : 4 ≤ q.length)
  rw [List.length_append] at hr1 hq2
  obtain ⟨a0, a1, a2, a3, rfl⟩ := len4 hp1
  obtain ⟨b0, b1, b2, b3, rfl⟩ := len4 (by omega : p2.length = 4)
  exact ⟨a0, a1, a2, a3, b0, b1, b2, b3, rfl⟩
end
end Go.Proofs.Ytdibmeapflhhaaa
