/-
  What stands in the two first blocks of a law over a Datagram and two hosts.
-/
import Derived.Test.YtpjjanbcjkdciaaLives8
namespace Go.Proofs.Ytpjjanbcjkdciaa
open Go.RowKit

theorem cellsBG (w : World) (sp dp : Nat) (A : Option Addr) (n c : Nat) (a0 a1 a2 a3 b0 b1 b2 b3 : UInt8) (W : World) (hk : Kp ((w.alloc (.cells #[.int .u16 (sp : Int), .int .u16 (dp : Int), .slice A n c] 43)).alloc (.cells #[.int .u8 (a0.toNat : Int), .int .u8 (a1.toNat : Int), .int .u8 (a2.toNat : Int), .int .u8 (a3.toNat : Int), .int .u8 (b0.toNat : Int), .int .u8 (b1.toNat : Int), .int .u8 (b2.toNat : Int), .int .u8 (b3.toNat : Int)] 29)) W) : (W.cell? ⟨w.heap.size + 1, 0, none⟩ = some (.int .u8 (a0.toNat : Int)) ∧ W.cell? ⟨w.heap.size + 1, 1, none⟩ = some (.int .u8 (a1.toNat : Int)) ∧ W.cell? ⟨w.heap.size + 1, 2, none⟩ = some (.int .u8 (a2.toNat : Int)) ∧ W.cell? ⟨w.heap.size + 1, 3, none⟩ = some (.int .u8 (a3.toNat : Int))) ∧ (W.cell? ⟨w.heap.size + 1, 4, none⟩ = some (.int .u8 (b0.toNat : Int)) ∧ W.cell? ⟨w.heap.size + 1, 5, none⟩ = some (.int .u8 (b1.toNat : Int)) ∧ W.cell? ⟨w.heap.size + 1, 6, none⟩ = some (.int .u8 (b2.toNat : Int)) ∧ W.cell? ⟨w.heap.size + 1, 7, none⟩ = some (.int .u8 (b3.toNat : Int))) := by
  have e1 : (w.alloc (.cells #[.int .u16 (sp : Int), .int .u16 (dp : Int), .slice A n c] 43)).heap.size = w.heap.size + 1 := by simp
  refine ⟨⟨?_, ?_, ?_, ?_⟩, ⟨?_, ?_, ?_, ?_⟩⟩
  all_goals
    refine hk.cell ?_
    rw [← e1, cell_new]
    rfl
theorem rowBG (w : World) (sp dp : Nat) (A : Option Addr) (n c : Nat) (a0 a1 a2 a3 b0 b1 b2 b3 : UInt8) (W : World) (hk : Kp ((w.alloc (.cells #[.int .u16 (sp : Int), .int .u16 (dp : Int), .slice A n c] 43)).alloc (.cells #[.int .u8 (a0.toNat : Int), .int .u8 (a1.toNat : Int), .int .u8 (a2.toNat : Int), .int .u8 (a3.toNat : Int), .int .u8 (b0.toNat : Int), .int .u8 (b1.toNat : Int), .int .u8 (b2.toNat : Int), .int .u8 (b3.toNat : Int)] 29)) W) : W.heap[w.heap.size]? = some (.cells #[.int .u16 (sp : Int), .int .u16 (dp : Int), .slice A n c] 43 (0, 0)) := by
  have h1 : Kp (w.alloc (.cells #[.int .u16 (sp : Int), .int .u16 (dp : Int), .slice A n c] 43)) W := ((Kp.refl _).alloc _).trans hk
  exact (h1.block _ (by simp)).trans (heap_alloc_new w _)
theorem mod_u64 (z : Int) : ∃ u : Nat, IntKind.u64.wrap z = (u : Int) := ⟨(IntKind.u64.wrap z).toNat, by
  have : 0 ≤ IntKind.u64.wrap z := by simp only [IntKind.wrap, IntKind.bits, IntKind.signed]; simp; omega
  omega⟩
theorem wrap_u64n (n : Nat) (h : n ≤ 1000000) : IntKind.u64.wrap (n : Int) = (n : Int) := by
  simp only [IntKind.wrap, IntKind.bits, IntKind.signed]
  simp
  omega
end Go.Proofs.Ytpjjanbcjkdciaa
