/-
  The walk of EtherParses: it returns true and leaves what was there as it was.
-/
import Derived.Test.YtdibmeapflhhaaaLives5
import Derived.Test.YtdibmeapflhhaaaParsed5
namespace Go.Proofs.Ytdibmeapflhhaaa
open Go.RowKit

theorem sameF_self (d s : List UInt8) (ty : Nat) (b : List UInt8) : sameF d s ty b d s ty b = true := by simp [sameF]

set_option maxHeartbeats 1000000 in
theorem parses_walk (w : World) (A : Option Addr) (n c : Nat) (l : List UInt8) (hA : Rd w 0 A n l) (hok : SlOk A n c) (hn : n ≤ 140737488351232) :
    Calls Try.prog 4 #[.slice A n c] w fun e w' => e = .returned (.bool true) ∧ Kp w w' := by
  have HA := Lib.hid hA
  have HOK := Lib.hid hok
  have HL := Lib.hid hA.len
  clear hA hok
  by_cases h : 400 < n
  · go_enter Try.func4, Try.ntmps4
    go_wp2_with (first | (go_at_call 14; refine (lives_any _).mono ?_; rintro e w1 ⟨rfl, hk⟩))
    go_ret
    exact ⟨rfl, Kp.trans (by assumption) hk⟩
  · go_enter Try.func4, Try.ntmps4
    go_wp2_with fail
    refine (lives_any _).mono ?_
    rintro e w1 ⟨rfl, hk1⟩
    have HK1 := Lib.hid hk1
    clear hk1
    go_wp2_with fail
    refine (parse_any _ A n c l (HA.out.keep HK1.out) HOK.out hn).mono ?_
    rintro e w2 ⟨hk2, d0, d1, d2, d3, d4, d5, s0, s1, s2, s3, s4, s5, ty, b, k, A2, c2, hp, hty, rfl, hr, _⟩
    have HK2 := Lib.hid hk2
    have HR := Lib.hid hr
    have HP := Lib.hid hp
    clear hk2 hr hp
    have cv : ∀ C : Array Value, (convert 25 9 (.slice A n c)).run Try.prog (w2.alloc (.cells C 27)) = .ok (.string (str l)) (w2.alloc (.cells C 27)) :=
      fun C => conv_str (P := Try.prog) Try.underlying25 Try.underlying5 Try.underlying9 (HA.out.keep ((HK1.out.trans HK2.out).alloc _))
    go_wp2_with fail
    refine (rparse_any _ l (by have := HL.out; omega)).mono ?_
    rintro e w3 ⟨hk3, e0, e1, e2, e3, e4, e5, t0, t1, t2, t3, t4, t5, ty2, b2, k2, A3, c3, hp2, hty2, rfl, hr2, _⟩
    have hE := HP.out.symm.trans hp2
    simp only [Prod.mk.injEq, List.cons.injEq, and_true] at hE
    obtain ⟨⟨rfl, rfl, rfl, rfl, rfl, rfl⟩, ⟨rfl, rfl, rfl, rfl, rfl, rfl⟩, rfl, rfl, rfl⟩ := hE
    have HR2 := Lib.hid hr2
    have HK3 := Lib.hid hk3
    have HC := Lib.hid cv
    have hbk := (hk3.block _ (by simp)).trans (heap_alloc_new w2 (.cells #[.int .u8 (d0.toNat : Int), .int .u8 (d1.toNat : Int), .int .u8 (d2.toNat : Int), .int .u8 (d3.toNat : Int), .int .u8 (d4.toNat : Int), .int .u8 (d5.toNat : Int), .int .u8 (s0.toNat : Int), .int .u8 (s1.toNat : Int), .int .u8 (s2.toNat : Int), .int .u8 (s3.toNat : Int), .int .u8 (s4.toNat : Int), .int .u8 (s5.toNat : Int), .int .u16 (ty : Int), .slice A2 b.length c2] 27))
    have z0 : ∀ C : Array Value, (w3.alloc (.cells C 27)).cell? ⟨w2.heap.size, 0, none⟩ = some (.int .u8 (d0.toNat : Int)) := fun C => ((Kp.refl w3).alloc _).cell ((cell_of_row w3 _ 0 _ _ _ hbk).trans rfl)
    have z1 : ∀ C : Array Value, (w3.alloc (.cells C 27)).cell? ⟨w2.heap.size, 1, none⟩ = some (.int .u8 (d1.toNat : Int)) := fun C => ((Kp.refl w3).alloc _).cell ((cell_of_row w3 _ 1 _ _ _ hbk).trans rfl)
    have z2 : ∀ C : Array Value, (w3.alloc (.cells C 27)).cell? ⟨w2.heap.size, 2, none⟩ = some (.int .u8 (d2.toNat : Int)) := fun C => ((Kp.refl w3).alloc _).cell ((cell_of_row w3 _ 2 _ _ _ hbk).trans rfl)
    have z3 : ∀ C : Array Value, (w3.alloc (.cells C 27)).cell? ⟨w2.heap.size, 3, none⟩ = some (.int .u8 (d3.toNat : Int)) := fun C => ((Kp.refl w3).alloc _).cell ((cell_of_row w3 _ 3 _ _ _ hbk).trans rfl)
    have z4 : ∀ C : Array Value, (w3.alloc (.cells C 27)).cell? ⟨w2.heap.size, 4, none⟩ = some (.int .u8 (d4.toNat : Int)) := fun C => ((Kp.refl w3).alloc _).cell ((cell_of_row w3 _ 4 _ _ _ hbk).trans rfl)
    have z5 : ∀ C : Array Value, (w3.alloc (.cells C 27)).cell? ⟨w2.heap.size, 5, none⟩ = some (.int .u8 (d5.toNat : Int)) := fun C => ((Kp.refl w3).alloc _).cell ((cell_of_row w3 _ 5 _ _ _ hbk).trans rfl)
    have z6 : ∀ C : Array Value, (w3.alloc (.cells C 27)).cell? ⟨w2.heap.size, 6, none⟩ = some (.int .u8 (s0.toNat : Int)) := fun C => ((Kp.refl w3).alloc _).cell ((cell_of_row w3 _ 6 _ _ _ hbk).trans rfl)
    have z7 : ∀ C : Array Value, (w3.alloc (.cells C 27)).cell? ⟨w2.heap.size, 7, none⟩ = some (.int .u8 (s1.toNat : Int)) := fun C => ((Kp.refl w3).alloc _).cell ((cell_of_row w3 _ 7 _ _ _ hbk).trans rfl)
    have z8 : ∀ C : Array Value, (w3.alloc (.cells C 27)).cell? ⟨w2.heap.size, 8, none⟩ = some (.int .u8 (s2.toNat : Int)) := fun C => ((Kp.refl w3).alloc _).cell ((cell_of_row w3 _ 8 _ _ _ hbk).trans rfl)
    have z9 : ∀ C : Array Value, (w3.alloc (.cells C 27)).cell? ⟨w2.heap.size, 9, none⟩ = some (.int .u8 (s3.toNat : Int)) := fun C => ((Kp.refl w3).alloc _).cell ((cell_of_row w3 _ 9 _ _ _ hbk).trans rfl)
    have z10 : ∀ C : Array Value, (w3.alloc (.cells C 27)).cell? ⟨w2.heap.size, 10, none⟩ = some (.int .u8 (s4.toNat : Int)) := fun C => ((Kp.refl w3).alloc _).cell ((cell_of_row w3 _ 10 _ _ _ hbk).trans rfl)
    have z11 : ∀ C : Array Value, (w3.alloc (.cells C 27)).cell? ⟨w2.heap.size, 11, none⟩ = some (.int .u8 (s5.toNat : Int)) := fun C => ((Kp.refl w3).alloc _).cell ((cell_of_row w3 _ 11 _ _ _ hbk).trans rfl)
    have z12 : ∀ C : Array Value, (w3.alloc (.cells C 27)).cell? ⟨w2.heap.size, 12, none⟩ = some (.int .u16 (ty : Int)) := fun C => ((Kp.refl w3).alloc _).cell ((cell_of_row w3 _ 12 _ _ _ hbk).trans rfl)
    have z13 : ∀ C : Array Value, (w3.alloc (.cells C 27)).cell? ⟨w2.heap.size, 13, none⟩ = some (.slice A2 b.length c2) := fun C => ((Kp.refl w3).alloc _).cell ((cell_of_row w3 _ 13 _ _ _ hbk).trans rfl)
    clear hp2 hr2 hk3 cv hbk
    go_wp2_with fail
    refine (same_any _ _ _ _ _ _ _ _ _ _ _ _ _ ty A2 _ c2 b _ _ _ _ _ _ _ _ _ _ _ _ ty A3 _ c3 b (HR.out.lo0.keep ((((Kp.refl w2).alloc _).trans HK3.out).alloc _)) (HR2.out.lo0.keep ((Kp.refl w3).alloc _))).mono ?_
    rintro e w4 ⟨rfl, hk4⟩
    rw [sameF_self]
    have HK4 := Lib.hid hk4
    clear hk4
    go_wp2
    go_ret
    exact ⟨rfl, ((((HK1.out.trans HK2.out).alloc _).trans HK3.out).alloc _).trans HK4.out⟩
end Go.Proofs.Ytdibmeapflhhaaa
