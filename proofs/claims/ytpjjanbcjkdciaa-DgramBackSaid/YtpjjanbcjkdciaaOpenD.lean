/-
  The arguments 'an Echo', 'a Datagram' and 'two hosts' opened.
-/
import Derived.Test.YtpjjanbcjkdciaaRows
import Derived.Test.YtpjjanbcjkdciaaOpenS
import Derived.Test.YtpjjanbcjkdciaaMem
import Derived.KernelRfl
namespace Go.Proofs.Ytpjjanbcjkdciaa
open Go.ChangeShapes Go.WideShapes Go.RowKit

section
variable {H : Type} {enc : TypeId × Value → H} {W : World} {base : Nat}

theorem len8 {α : Type} {l : List α} (h : l.length = 8) : ∃ a b c d e f g i, l = [a, b, c, d, e, f, g, i] := by
  match l, h with
  | [a, b, c, d, e, f, g, i], _ => exact ⟨a, b, c, d, e, f, g, i, rfl⟩

theorem cell_bool {P : Program} {T : TypeId} {x : Value} (hT : P.underlying T = some .bool) (h : Cell.okWide P W .any base T x) : ∃ b, x = .bool b := by
  simp only [Cell.okWide, hT, Cell.ok] at h
  cases x <;> simp_all
theorem lenq {α : Type} {l : List α} (h : l.length = 4) : ∃ a b c d, l = [a, b, c, d] := by
  match l, h with
  | [a, b, c, d], _ => exact ⟨a, b, c, d, rfl⟩
theorem lent {α : Type} {l : List α} (h : l.length = 3) : ∃ a b c, l = [a, b, c] := by
  match l, h with
  | [a, b, c], _ => exact ⟨a, b, c, rfl⟩
set_option maxRecDepth 100000 in
theorem open_echo {v : Value} {d : DataW H} {p : List MemPlace} (hval : Value.okWide Try.prog W .any base 25 v) (hd : DataW.Trod enc Try.prog W 0 (fun _ => true) true 25 v d p) :
    ∃ (rp : Bool) (id sq : Nat) (A : Option Addr) (n c : Nat) (l : List UInt8), v = .agg #[.bool rp, .int .u16 (id : Int), .int .u16 (sq : Int), .slice A n c] ∧
      (id ≤ 65535 ∧ sq ≤ 65535) ∧ Rd W 0 A n l ∧ SlOk A n c := by
  obtain ⟨cs, rfl, hl, hc⟩ := agg_cells (P := Try.prog) (ts := [4, 22, 22, 23]) (.inl ⟨_, Try.underlying25⟩) (by kernel_rfl) (by kernel_rfl) hval
  obtain ⟨x0, x1, x2, x3, rfl⟩ := lenq (hl.trans rfl)
  obtain ⟨z0, rfl⟩ := cell_bool Try.underlying4 (hc 0 x0 4 rfl rfl)
  obtain ⟨z1, rfl, a1, b1⟩ := cell_int Try.underlying22 (hc 1 x1 22 rfl rfl)
  obtain ⟨z2, rfl, a2, b2⟩ := cell_int Try.underlying22 (hc 2 x2 22 rfl rfl)
  obtain ⟨A, n, c, l, rfl, hr, hok⟩ := field_bytes (i := 3) Try.underlying25 hd rfl (e := 5) Try.underlying23 Try.underlying5 (by kernel_rfl) (by kernel_rfl) (x := x3) rfl
  have a1' : 0 ≤ z1 := a1
  have b1' : z1 ≤ 65535 := b1
  have a2' : 0 ≤ z2 := a2
  have b2' : z2 ≤ 65535 := b2
  refine ⟨z0, z1.toNat, z2.toNat, A, n, c, l, ?_, ⟨by omega, by omega⟩, hr, hok⟩
  rw [show ((z1.toNat : Nat) : Int) = z1 by omega, show ((z2.toNat : Nat) : Int) = z2 by omega]
set_option maxRecDepth 100000 in
theorem open_gram {v : Value} {d : DataW H} {p : List MemPlace} (hval : Value.okWide Try.prog W .any base 43 v) (hd : DataW.Trod enc Try.prog W 0 (fun _ => true) true 43 v d p) :
    ∃ (sp dp : Nat) (A : Option Addr) (n c : Nat) (l : List UInt8), v = .agg #[.int .u16 (sp : Int), .int .u16 (dp : Int), .slice A n c] ∧
      (sp ≤ 65535 ∧ dp ≤ 65535) ∧ Rd W 0 A n l ∧ SlOk A n c := by
  obtain ⟨cs, rfl, hl, hc⟩ := agg_cells (P := Try.prog) (ts := [22, 22, 23]) (.inl ⟨_, Try.underlying43⟩) (by kernel_rfl) (by kernel_rfl) hval
  obtain ⟨x1, x2, x3, rfl⟩ := lent (hl.trans rfl)
  obtain ⟨z1, rfl, a1, b1⟩ := cell_int Try.underlying22 (hc 0 x1 22 rfl rfl)
  obtain ⟨z2, rfl, a2, b2⟩ := cell_int Try.underlying22 (hc 1 x2 22 rfl rfl)
  obtain ⟨A, n, c, l, rfl, hr, hok⟩ := field_bytes (i := 2) Try.underlying43 hd rfl (e := 5) Try.underlying23 Try.underlying5 (by kernel_rfl) (by kernel_rfl) (x := x3) rfl
  have a1' : 0 ≤ z1 := a1
  have b1' : z1 ≤ 65535 := b1
  have a2' : 0 ≤ z2 := a2
  have b2' : z2 ≤ 65535 := b2
  refine ⟨z1.toNat, z2.toNat, A, n, c, l, ?_, ⟨by omega, by omega⟩, hr, hok⟩
  rw [show ((z1.toNat : Nat) : Int) = z1 by omega, show ((z2.toNat : Nat) : Int) = z2 by omega]

set_option maxRecDepth 100000 in
theorem open_ends8 {v : Value} (hval : Value.okWide Try.prog W .any base 29 v) : ∃ (a0 a1 a2 a3 b0 b1 b2 b3 : UInt8), v = .agg #[.int .u8 (a0.toNat : Int), .int .u8 (a1.toNat : Int), .int .u8 (a2.toNat : Int), .int .u8 (a3.toNat : Int), .int .u8 (b0.toNat : Int), .int .u8 (b1.toNat : Int), .int .u8 (b2.toNat : Int), .int .u8 (b3.toNat : Int)] := by
  obtain ⟨cs, rfl, hl, hc⟩ := agg_cells (P := Try.prog) (ts := List.replicate 8 5) (.inl ⟨_, Try.underlying29⟩) (by kernel_rfl) (by kernel_rfl) hval
  obtain ⟨q, hq, hq2⟩ := run_u8s hc hl Try.underlying5 0 8 (by decide)
  rw [List.length_replicate] at hl
  rw [List.drop_zero, List.take_of_length_le (by omega)] at hq
  subst hq
  obtain ⟨a0, a1, a2, a3, b0, b1, b2, b3, rfl⟩ := len8 hq2
  exact ⟨a0, a1, a2, a3, b0, b1, b2, b3, rfl⟩
end
end Go.Proofs.Ytpjjanbcjkdciaa
