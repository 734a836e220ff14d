/-
  The walk of EtherReads: it returns true and leaves what was there as it was.
-/
import Derived.Test.YtdibmeapflhhaaaLives5
import Derived.Test.YtdibmeapflhhaaaArpEq
namespace Go.Proofs.Ytdibmeapflhhaaa
open Go.RowKit

set_option maxHeartbeats 1000000 in
theorem reads_walk (w : World) (A : Option Addr) (n c : Nat) (l : List UInt8) (hA : Rd w 0 A n l) (hok : SlOk A n c) (hn : n ≤ 140737488351232) :
    Calls Try.prog 5 #[.slice A n c] w fun e w' => e = .returned (.bool true) ∧ Kp w w' := by
  have HA := Lib.hid hA
  have HOK := Lib.hid hok
  clear hA hok
  by_cases h : 400 < n
  · go_enter Try.func5, Try.ntmps5
    go_wp2_with (first | (go_at_call 14; refine (lives_any _).mono ?_; rintro e w1 ⟨rfl, hk⟩))
    go_ret
    exact ⟨rfl, Kp.trans (by assumption) hk⟩
  · go_enter Try.func5, Try.ntmps5
    go_wp2_with fail
    refine (lives_any _).mono ?_
    rintro e w1 ⟨rfl, hk1⟩
    have HK1 := Lib.hid hk1
    clear hk1
    go_wp2_with fail
    refine (parp_any _ A n c l (HA.out.keep HK1.out) HOK.out hn).mono ?_
    rintro e w2 ⟨hk2, op, a0, a1, a2, a3, a4, a5, b0, b1, b2, b3, c0, c1, c2, c3, c4, c5, d0, d1, d2, d3, k, hp, rfl⟩
    have HK2 := Lib.hid hk2
    have HP := Lib.hid hp
    clear hk2 hp
    have cv : ∀ C : Array Value, (convert 25 9 (.slice A n c)).run Try.prog (w2.alloc (.cells C 44)) = .ok (.string (str l)) (w2.alloc (.cells C 44)) :=
      fun C => conv_str (P := Try.prog) Try.underlying25 Try.underlying5 Try.underlying9 (HA.out.keep ((HK1.out.trans HK2.out).alloc _))
    go_wp2_with (refine lst_new (by rfl) (.tmp 3) (.tmp 18) _ rfl rfl rfl szArp rfl rfl rfl ?_)
    refine (rparp_any _ l).mono ?_
    rintro e w3 ⟨hk3, op2, e0, e1, e2, e3, e4, e5, f0, f1, f2, f3, g0, g1, g2, g3, g4, g5, h0, h1, h2, h3, k2, hp2, rfl⟩
    have hE := HP.out.symm.trans hp2
    simp only [Prod.mk.injEq, List.cons_append, List.nil_append, List.cons.injEq, and_true] at hE
    obtain ⟨rfl, ⟨rfl, rfl, rfl, rfl, rfl, rfl, rfl, rfl, rfl, rfl, rfl, rfl, rfl, rfl, rfl, rfl, rfl, rfl, rfl, rfl⟩, rfl⟩ := hE
    have HK3 := Lib.hid hk3
    have r3 := (hk3.block _ (by simp)).trans (heap_alloc_new w2 (.cells #[.int .i64 op, .int .u8 (a0.toNat : Int), .int .u8 (a1.toNat : Int), .int .u8 (a2.toNat : Int), .int .u8 (a3.toNat : Int), .int .u8 (a4.toNat : Int), .int .u8 (a5.toNat : Int), .int .u8 (b0.toNat : Int), .int .u8 (b1.toNat : Int), .int .u8 (b2.toNat : Int), .int .u8 (b3.toNat : Int), .int .u8 (c0.toNat : Int), .int .u8 (c1.toNat : Int), .int .u8 (c2.toNat : Int), .int .u8 (c3.toNat : Int), .int .u8 (c4.toNat : Int), .int .u8 (c5.toNat : Int), .int .u8 (d0.toNat : Int), .int .u8 (d1.toNat : Int), .int .u8 (d2.toNat : Int), .int .u8 (d3.toNat : Int)] 44))
    have r4 := (Below.heap_alloc w3 (.cells #[.int .i64 op, .int .u8 (a0.toNat : Int), .int .u8 (a1.toNat : Int), .int .u8 (a2.toNat : Int), .int .u8 (a3.toNat : Int), .int .u8 (a4.toNat : Int), .int .u8 (a5.toNat : Int), .int .u8 (b0.toNat : Int), .int .u8 (b1.toNat : Int), .int .u8 (b2.toNat : Int), .int .u8 (b3.toNat : Int), .int .u8 (c0.toNat : Int), .int .u8 (c1.toNat : Int), .int .u8 (c2.toNat : Int), .int .u8 (c3.toNat : Int), .int .u8 (c4.toNat : Int), .int .u8 (c5.toNat : Int), .int .u8 (d0.toNat : Int), .int .u8 (d1.toNat : Int), .int .u8 (d2.toNat : Int), .int .u8 (d3.toNat : Int)] 44) _ (Array.getElem?_eq_some_iff.1 r3).1).trans r3
    have R4 := Lib.hid r4
    have eqa := fun W => eq_arp W op a0 a1 a2 a3 a4 a5 b0 b1 b2 b3 c0 c1 c2 c3 c4 c5 d0 d1 d2 d3 op a0 a1 a2 a3 a4 a5 b0 b1 b2 b3 c0 c1 c2 c3 c4 c5 d0 d1 d2 d3
    rw [sameA_self] at eqa
    clear hp2 hk3 cv r3 r4
    go_wp2_with (first | (refine lst_new (by rfl) (.tmp 5) (.tmp 24) _ rfl rfl rfl szArp rfl rfl rfl ?_) | (refine lld_row (by rfl) (.tmp 3) _ _ rfl rfl R4.out Try.underlying44 rfl szArp ?_; refine lld_row (by rfl) (.tmp 5) _ _ rfl rfl (heap_alloc_new w3 _) Try.underlying44 rfl szArp ?_))
    go_ret
    exact ⟨rfl, (((HK1.out.trans HK2.out).alloc _).trans HK3.out).alloc _⟩
end Go.Proofs.Ytdibmeapflhhaaa
