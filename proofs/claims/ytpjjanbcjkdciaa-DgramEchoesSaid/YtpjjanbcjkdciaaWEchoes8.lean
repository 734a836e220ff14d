/-
  The walk of DgramEchoes: it returns true and leaves what was there as it was.
-/
import Derived.Test.YtpjjanbcjkdciaaLives8
import Derived.Test.YtpjjanbcjkdciaaD8d
namespace Go.Proofs.Ytpjjanbcjkdciaa
open Go.RowKit

theorem cellsBE (w : World) (rp : Bool) (id sq : Nat) (A : Option Addr) (n c : Nat) (a0 a1 a2 a3 b0 b1 b2 b3 : UInt8) (W : World) (hk : Kp ((w.alloc (.cells #[.bool rp, .int .u16 (id : Int), .int .u16 (sq : Int), .slice A n c] 25)).alloc (.cells #[.int .u8 (a0.toNat : Int), .int .u8 (a1.toNat : Int), .int .u8 (a2.toNat : Int), .int .u8 (a3.toNat : Int), .int .u8 (b0.toNat : Int), .int .u8 (b1.toNat : Int), .int .u8 (b2.toNat : Int), .int .u8 (b3.toNat : Int)] 29)) W) : (W.cell? ⟨w.heap.size + 1, 0, none⟩ = some (.int .u8 (a0.toNat : Int)) ∧ W.cell? ⟨w.heap.size + 1, 1, none⟩ = some (.int .u8 (a1.toNat : Int)) ∧ W.cell? ⟨w.heap.size + 1, 2, none⟩ = some (.int .u8 (a2.toNat : Int)) ∧ W.cell? ⟨w.heap.size + 1, 3, none⟩ = some (.int .u8 (a3.toNat : Int))) ∧ (W.cell? ⟨w.heap.size + 1, 4, none⟩ = some (.int .u8 (b0.toNat : Int)) ∧ W.cell? ⟨w.heap.size + 1, 5, none⟩ = some (.int .u8 (b1.toNat : Int)) ∧ W.cell? ⟨w.heap.size + 1, 6, none⟩ = some (.int .u8 (b2.toNat : Int)) ∧ W.cell? ⟨w.heap.size + 1, 7, none⟩ = some (.int .u8 (b3.toNat : Int))) := by
  have e1 : (w.alloc (.cells #[.bool rp, .int .u16 (id : Int), .int .u16 (sq : Int), .slice A n c] 25)).heap.size = w.heap.size + 1 := by simp
  refine ⟨⟨?_, ?_, ?_, ?_⟩, ⟨?_, ?_, ?_, ?_⟩⟩
  all_goals
    refine hk.cell ?_
    rw [← e1, cell_new]
    rfl
theorem rowBE (w : World) (rp : Bool) (id sq : Nat) (A : Option Addr) (n c : Nat) (a0 a1 a2 a3 b0 b1 b2 b3 : UInt8) (W : World) (hk : Kp ((w.alloc (.cells #[.bool rp, .int .u16 (id : Int), .int .u16 (sq : Int), .slice A n c] 25)).alloc (.cells #[.int .u8 (a0.toNat : Int), .int .u8 (a1.toNat : Int), .int .u8 (a2.toNat : Int), .int .u8 (a3.toNat : Int), .int .u8 (b0.toNat : Int), .int .u8 (b1.toNat : Int), .int .u8 (b2.toNat : Int), .int .u8 (b3.toNat : Int)] 29)) W) : W.heap[w.heap.size]? = some (.cells #[.bool rp, .int .u16 (id : Int), .int .u16 (sq : Int), .slice A n c] 25 (0, 0)) := by
  have h1 : Kp (w.alloc (.cells #[.bool rp, .int .u16 (id : Int), .int .u16 (sq : Int), .slice A n c] 25)) W := ((Kp.refl _).alloc _).trans hk
  exact (h1.block _ (by simp)).trans (heap_alloc_new w _)

set_option maxRecDepth 100000 in
set_option maxHeartbeats 4000000 in
theorem echoes8_main (w : World) (rp : Bool) (id sq : Nat) (A : Option Addr) (n c : Nat) (l : List UInt8) (a0 a1 a2 a3 b0 b1 b2 b3 : UInt8) (hb : id ≤ 65535 ∧ sq ≤ 65535) (hA : Rd w 0 A n l) (h4 : ¬ 1500 < n) :
    Calls Try.prog 3 #[.agg #[.bool rp, .int .u16 (id : Int), .int .u16 (sq : Int), .slice A n c], .agg #[.int .u8 (a0.toNat : Int), .int .u8 (a1.toNat : Int), .int .u8 (a2.toNat : Int), .int .u8 (a3.toNat : Int), .int .u8 (b0.toNat : Int), .int .u8 (b1.toNat : Int), .int .u8 (b2.toNat : Int), .int .u8 (b3.toNat : Int)]] w fun e w' => e = .returned (.bool true) ∧ Kp w w' := by
  obtain ⟨f1, f2⟩ := hb
  have HL := Lib.hid hA.len
  have hK0 : Kp w ((w.alloc (.cells #[.bool rp, .int .u16 (id : Int), .int .u16 (sq : Int), .slice A n c] 25)).alloc (.cells #[.int .u8 (a0.toNat : Int), .int .u8 (a1.toNat : Int), .int .u8 (a2.toNat : Int), .int .u8 (a3.toNat : Int), .int .u8 (b0.toNat : Int), .int .u8 (b1.toNat : Int), .int .u8 (b2.toNat : Int), .int .u8 (b3.toNat : Int)] 29)) := ((Kp.refl w).alloc _).alloc _
  have HK0 := Lib.hid hK0
  have HA := Lib.hid (hA.keep hK0)
  have KE := Lib.hid (cellsBE w rp id sq A n c a0 a1 a2 a3 b0 b1 b2 b3)
  have HRP := Lib.hid (rowBE w rp id sq A n c a0 a1 a2 a3 b0 b1 b2 b3)
  have i1 : ¬ (1500 : Int) < (n : Int) := by omega
  clear hA hK0
  go_enter Try.func3, Try.ntmps3
  go_wp2_with fail
  refine (lives8_any _).mono ?_
  rintro e w1 ⟨rfl, hk1⟩
  have HK1 := Lib.hid hk1
  clear hk1
  have z7 : w1.cell? ⟨w.heap.size, 3, none⟩ = some (.slice A n c) := (cell_of_row w1 _ 3 _ _ _ (HRP.out _ HK1.out)).trans rfl
  obtain ⟨⟨x0, x1, x2, x3⟩, ⟨y0, y1, y2, y3⟩⟩ := KE.out _ HK1.out
  go_wp2_with (refine lld_row (by rfl) (.tmp 2) _ _ rfl rfl (HRP.out _ HK1.out) Try.underlying25 rfl szEcho ?_)
  clear x0 x1 x2 x3 y0 y1 y2 y3 z7
  by_cases hno : 992 < n
  · refine (b8e_long _ rp id sq A n c a0 a1 a2 a3 b0 b1 b2 b3 hno).mono ?_
    rintro e w2 ⟨rfl, hk2⟩
    have HK2 := Lib.hid (HK1.out.trans hk2)
    clear hk2
    go_wp2_with (refine lld_row (by rfl) (.tmp 2) _ _ rfl rfl (HRP.out _ HK2.out) Try.underlying25 rfl szEcho ?_)
    refine (r8e_long _ rp id sq A n c hno).mono ?_
    rintro e w3 ⟨rfl, hk3⟩
    have HK3 := Lib.hid (HK2.out.trans hk3)
    clear hk3
    have cv := conv_str (P := Try.prog) (c := 0) Try.underlying23 Try.underlying5 Try.underlying9 (Rd.none_ w3 0)
    obtain ⟨⟨x0, x1, x2, x3⟩, ⟨y0, y1, y2, y3⟩⟩ := KE.out _ HK3.out
    go_wp2_with fail
    refine (o8_e _ b0 b1 b2 b3 a0 a1 a2 a3 none 0 0 [] (Rd.none_ _ 0) ⟨Nat.le_refl _, Nat.zero_le _, fun _ => rfl⟩ (by decide)).mono ?_
    clear x0 x1 x2 x3 y0 y1 y2 y3 cv
    rintro e w4 (⟨k', _, _, hk4, rfl⟩ | ⟨_, _, _, _, hs', _⟩)
    · go_wp2
      go_ret
      exact ⟨rfl, HK0.out.trans (HK3.out.trans hk4)⟩
    · exact absurd hs' (by simp [outE])
  · have HB := Lib.hid (outE_ebytes rp id sq l f1 f2)
    refine (b8e_ok _ rp id sq A n c l a0 a1 a2 a3 b0 b1 b2 b3 f1 f2 (by omega) (HA.out.keep HK1.out)).mono ?_
    rintro e w2 ⟨hk2, g, cap, rfl, hown⟩
    obtain ⟨N, hN⟩ : ∃ N, 8 + n = N := ⟨_, rfl⟩
    rw [hN] at hown ⊢
    have hN2 : N ≤ 1000 := by omega
    have HK2 := Lib.hid (HK1.out.trans hk2)
    have HO := Lib.hid hown.rd0
    have HOS := Lib.hid hown.slOk
    clear hk2 hown hN
    go_wp2_with (refine lld_row (by rfl) (.tmp 2) _ _ rfl rfl (HRP.out _ HK2.out) Try.underlying25 rfl szEcho ?_)
    refine (r8e_ok _ rp id sq A n c l f1 f2 (by omega) (HA.out.keep HK2.out)).mono ?_
    rintro e w3 ⟨rfl, hk3⟩
    have HK3 := Lib.hid (HK2.out.trans hk3)
    have HO3 := Lib.hid (HO.out.keep hk3)
    clear hk3 HO
    obtain ⟨pb, hpb⟩ : ∃ pb, ebytes rp id sq l = pb := ⟨_, rfl⟩
    have hB : outE (ebytes rp id sq l) = .inr (rp, id, sq, l) := HB.out
    rw [hpb] at HO3 hB ⊢
    have HB2 := Lib.hid hB
    clear hpb hB HB
    have cv := conv_str (P := Try.prog) (c := cap) Try.underlying23 Try.underlying5 Try.underlying9 HO3.out
    obtain ⟨⟨x0, x1, x2, x3⟩, ⟨y0, y1, y2, y3⟩⟩ := KE.out _ HK3.out
    go_wp2_with fail
    refine (o8_e _ b0 b1 b2 b3 a0 a1 a2 a3 _ N cap pb HO3.out HOS.out (by omega)).mono ?_
    clear x0 x1 x2 x3 y0 y1 y2 y3 cv
    have hB := HB2.out
    rintro e w4 (⟨k', _, hk', _⟩ | ⟨rp', id', sq', l', hs', _, _, _, hk4, A4, c4, rfl, hr4, _⟩)
    · rw [hB] at hk'; cases hk'
    · rw [hB] at hs'
      injection hs' with hs'
      injection hs' with h1 hs'
      injection hs' with h2 hs'
      injection hs' with h3 h4
      subst h1 h2 h3 h4
      have HK4 := Lib.hid (HK3.out.trans hk4)
      have HR4 := Lib.hid hr4.lo0
      clear hk4 hr4 hB HB2
      go_wp2_with (refine lld_row (by rfl) (.tmp 2) _ _ rfl rfl (HRP.out _ HK4.out) Try.underlying25 rfl szEcho ?_)
      refine (s8_ee _ rp id sq A4 l.length c4 l rp id sq A n c l HR4.out (HA.out.keep HK4.out)).mono ?_
      rintro e w5 ⟨rfl, hk5⟩
      rw [sameE_self]
      have HK5 := Lib.hid (HK4.out.trans hk5)
      have HR5 := Lib.hid (HR4.out.keep hk5)
      clear hk5
      go_wp2_with (refine lld_row (by rfl) (.tmp 2) _ _ rfl rfl (HRP.out _ HK5.out) Try.underlying25 rfl szEcho ?_)
      refine (s8_ee _ rp id sq A n c l rp id sq A4 l.length c4 l (HA.out.keep HK5.out) HR5.out).mono ?_
      rintro e w6 ⟨rfl, hk6⟩
      rw [sameE_self]
      go_wp2
      go_ret
      exact ⟨rfl, HK0.out.trans (HK5.out.trans hk6)⟩

set_option maxRecDepth 100000 in
set_option maxHeartbeats 4000000 in
theorem echoes8_walk (w : World) (rp : Bool) (id sq : Nat) (A : Option Addr) (n c : Nat) (l : List UInt8) (a0 a1 a2 a3 b0 b1 b2 b3 : UInt8) (hb : id ≤ 65535 ∧ sq ≤ 65535) (hA : Rd w 0 A n l) (_hok : SlOk A n c) :
    Calls Try.prog 3 #[.agg #[.bool rp, .int .u16 (id : Int), .int .u16 (sq : Int), .slice A n c], .agg #[.int .u8 (a0.toNat : Int), .int .u8 (a1.toNat : Int), .int .u8 (a2.toNat : Int), .int .u8 (a3.toNat : Int), .int .u8 (b0.toNat : Int), .int .u8 (b1.toNat : Int), .int .u8 (b2.toNat : Int), .int .u8 (b3.toNat : Int)]] w fun e w' => e = .returned (.bool true) ∧ Kp w w' := by
  by_cases h : 1500 < n
  · have hK0 : Kp w ((w.alloc (.cells #[.bool rp, .int .u16 (id : Int), .int .u16 (sq : Int), .slice A n c] 25)).alloc (.cells #[.int .u8 (a0.toNat : Int), .int .u8 (a1.toNat : Int), .int .u8 (a2.toNat : Int), .int .u8 (a3.toNat : Int), .int .u8 (b0.toNat : Int), .int .u8 (b1.toNat : Int), .int .u8 (b2.toNat : Int), .int .u8 (b3.toNat : Int)] 29)) := ((Kp.refl w).alloc _).alloc _
    have HK0 := Lib.hid hK0
    have HRP := Lib.hid (rowBE w rp id sq A n c a0 a1 a2 a3 b0 b1 b2 b3)
    clear hK0 hA
    go_enter Try.func3, Try.ntmps3
    go_wp2_with (first | (go_at_call 10; refine (lives8_any _).mono ?_; rintro e w1 ⟨rfl, hk⟩; try have hcell : w1.cell? ⟨w.heap.size, 3, none⟩ = some (.slice A n c) := (cell_of_row w1 _ 3 _ _ _ (HRP.out _ hk)).trans rfl))
    all_goals go_ret
    all_goals exact ⟨rfl, (HK0.out.trans (by assumption)).trans hk⟩
  · exact echoes8_main w rp id sq A n c l a0 a1 a2 a3 b0 b1 b2 b3 hb hA h
end Go.Proofs.Ytpjjanbcjkdciaa
