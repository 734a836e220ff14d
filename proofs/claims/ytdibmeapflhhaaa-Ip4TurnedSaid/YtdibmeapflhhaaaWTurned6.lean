/-
  The walk of Ip4Turned: it returns true and leaves what was there as it was.
-/
import Derived.Test.YtdibmeapflhhaaaWTurned6a
namespace Go.Proofs.Ytdibmeapflhhaaa
open Go.RowKit

set_option maxRecDepth 100000 in
set_option maxHeartbeats 4000000 in
theorem turned6_walk (w : World) (id : Nat) (mo : Bool) (off : Int) (t p s0 s1 s2 s3 d0 d1 d2 d3 : UInt8) (A : Option Addr) (n c : Nat) (l : List UInt8) (at_ : Int) (by_ : UInt8) (hid : id ≤ 65535) (ho : -9223372036854775808 ≤ off ∧ off ≤ 9223372036854775807) (hA : Rd w 0 A n l) (_hok : SlOk A n c) :
    Calls Try.prog 8 #[.agg #[.int .u16 (id : Int), .bool mo, .int .i64 off, .int .u8 (t.toNat : Int), .int .u8 (p.toNat : Int), .int .u8 (s0.toNat : Int), .int .u8 (s1.toNat : Int), .int .u8 (s2.toNat : Int), .int .u8 (s3.toNat : Int), .int .u8 (d0.toNat : Int), .int .u8 (d1.toNat : Int), .int .u8 (d2.toNat : Int), .int .u8 (d3.toNat : Int), .slice A n c], .int .i64 at_, .int .u8 (by_.toNat : Int)] w fun e w' => e = .returned (.bool true) ∧ Kp w w' := by
  by_cases hA' : ¬ 180 < n ∧ by_ ≠ 0
  · exact turned6_main w id mo off t p s0 s1 s2 s3 d0 d1 d2 d3 A n c l at_ by_ hid ho hA _hok hA'.1 hA'.2
  have HA := Lib.hid hA
  have HL := Lib.hid hA.len
  clear hA
  have hr0 := heap_alloc_new w (.cells #[.int .u16 (id : Int), .bool mo, .int .i64 off, .int .u8 (t.toNat : Int), .int .u8 (p.toNat : Int), .int .u8 (s0.toNat : Int), .int .u8 (s1.toNat : Int), .int .u8 (s2.toNat : Int), .int .u8 (s3.toNat : Int), .int .u8 (d0.toNat : Int), .int .u8 (d1.toNat : Int), .int .u8 (d2.toNat : Int), .int .u8 (d3.toNat : Int), .slice A n c] 50)
  have HR0 := Lib.hid hr0
  have HK0 : Hid (Kp w (w.alloc (.cells #[.int .u16 (id : Int), .bool mo, .int .i64 off, .int .u8 (t.toNat : Int), .int .u8 (p.toNat : Int), .int .u8 (s0.toNat : Int), .int .u8 (s1.toNat : Int), .int .u8 (s2.toNat : Int), .int .u8 (s3.toNat : Int), .int .u8 (d0.toNat : Int), .int .u8 (d1.toNat : Int), .int .u8 (d2.toNat : Int), .int .u8 (d3.toNat : Int), .slice A n c] 50))) := Lib.hid ((Kp.refl w).alloc _)
  clear hr0
  by_cases h : 180 < n
  · go_enter Try.func8, Try.ntmps8
    go_wp2_with (first | (go_at_call 22; refine (lives6_any _).mono ?_; rintro e w1 ⟨rfl, hk⟩; try have hcell : w1.cell? ⟨w.heap.size, 13, none⟩ = some (.slice A n c) := hk.cell ((cell_of_row _ _ 13 _ _ _ HR0.out).trans rfl)))
    all_goals go_ret
    all_goals exact ⟨rfl, (HK0.out.trans (by assumption)).trans hk⟩
  obtain rfl : by_ = 0 := Decidable.byContradiction fun h0 => hA' ⟨h, h0⟩
  clear hA'
  go_enter Try.func8, Try.ntmps8
  go_wp2_with (first | (go_at_call 22; refine (lives6_any _).mono ?_; rintro e w1 ⟨rfl, hk⟩; try have hcell : w1.cell? ⟨w.heap.size, 13, none⟩ = some (.slice A n c) := hk.cell ((cell_of_row _ _ 13 _ _ _ HR0.out).trans rfl)))
  all_goals go_ret
  all_goals exact ⟨rfl, (HK0.out.trans (by assumption)).trans hk⟩
end Go.Proofs.Ytdibmeapflhhaaa
