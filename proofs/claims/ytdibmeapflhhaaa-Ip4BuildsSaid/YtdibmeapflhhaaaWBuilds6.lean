/-
  The walk of Ip4Builds: it returns true and leaves what was there as it was.
-/
import Derived.Test.YtdibmeapflhhaaaWBuilds6a
namespace Go.Proofs.Ytdibmeapflhhaaa
open Go.RowKit

set_option maxRecDepth 100000 in
set_option maxHeartbeats 4000000 in
theorem builds6_walk (w : World) (id : Nat) (mo : Bool) (off : Int) (t p s0 s1 s2 s3 d0 d1 d2 d3 : UInt8) (A : Option Addr) (n c : Nat) (l : List UInt8) (A2 : Option Addr) (n2 c2 : Nat) (l2 : List UInt8) (hid : id ≤ 65535) (ho : -9223372036854775808 ≤ off ∧ off ≤ 9223372036854775807) (hA : Rd w 0 A n l) (_hok : SlOk A n c) (hA2 : Rd w 0 A2 n2 l2) (_hok2 : SlOk A2 n2 c2) (_hn2 : n2 ≤ 140737488351232) :
    Calls Try.prog 6 #[.agg #[.int .u16 (id : Int), .bool mo, .int .i64 off, .int .u8 (t.toNat : Int), .int .u8 (p.toNat : Int), .int .u8 (s0.toNat : Int), .int .u8 (s1.toNat : Int), .int .u8 (s2.toNat : Int), .int .u8 (s3.toNat : Int), .int .u8 (d0.toNat : Int), .int .u8 (d1.toNat : Int), .int .u8 (d2.toNat : Int), .int .u8 (d3.toNat : Int), .slice A n c], .slice A2 n2 c2] w fun e w' => e = .returned (.bool true) ∧ Kp w w' := by
  by_cases hh : ¬ 400 < n ∧ ¬ 100 < n2
  · exact builds6_main w id mo off t p s0 s1 s2 s3 d0 d1 d2 d3 A n c l A2 n2 c2 l2 hid ho hA hA2 hh.1 hh.2
  clear hA hA2
  have hr0 := heap_alloc_new w (.cells #[.int .u16 (id : Int), .bool mo, .int .i64 off, .int .u8 (t.toNat : Int), .int .u8 (p.toNat : Int), .int .u8 (s0.toNat : Int), .int .u8 (s1.toNat : Int), .int .u8 (s2.toNat : Int), .int .u8 (s3.toNat : Int), .int .u8 (d0.toNat : Int), .int .u8 (d1.toNat : Int), .int .u8 (d2.toNat : Int), .int .u8 (d3.toNat : Int), .slice A n c] 50)
  have HR0 := Lib.hid hr0
  have HK0 : Hid (Kp w (w.alloc (.cells #[.int .u16 (id : Int), .bool mo, .int .i64 off, .int .u8 (t.toNat : Int), .int .u8 (p.toNat : Int), .int .u8 (s0.toNat : Int), .int .u8 (s1.toNat : Int), .int .u8 (s2.toNat : Int), .int .u8 (s3.toNat : Int), .int .u8 (d0.toNat : Int), .int .u8 (d1.toNat : Int), .int .u8 (d2.toNat : Int), .int .u8 (d3.toNat : Int), .slice A n c] 50))) := Lib.hid ((Kp.refl w).alloc _)
  clear hr0
  by_cases h : 400 < n
  · go_enter Try.func6, Try.ntmps6
    go_wp2_with (first | (go_at_call 22; refine (lives6_any _).mono ?_; rintro e w1 ⟨rfl, hk⟩; try have hcell : w1.cell? ⟨w.heap.size, 13, none⟩ = some (.slice A n c) := hk.cell ((cell_of_row _ _ 13 _ _ _ HR0.out).trans rfl)))
    all_goals go_ret
    all_goals exact ⟨rfl, (HK0.out.trans (by assumption)).trans hk⟩
  have h2 : 100 < n2 := Decidable.byContradiction fun h0 => hh ⟨h, h0⟩
  clear hh
  go_enter Try.func6, Try.ntmps6
  go_wp2_with (first | (go_at_call 22; refine (lives6_any _).mono ?_; rintro e w1 ⟨rfl, hk⟩; try have hcell : w1.cell? ⟨w.heap.size, 13, none⟩ = some (.slice A n c) := hk.cell ((cell_of_row _ _ 13 _ _ _ HR0.out).trans rfl)))
  all_goals go_ret
  all_goals exact ⟨rfl, (HK0.out.trans (by assumption)).trans hk⟩
end Go.Proofs.Ytdibmeapflhhaaa
