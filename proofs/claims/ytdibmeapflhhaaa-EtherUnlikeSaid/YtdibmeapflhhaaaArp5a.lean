/-
  The contract of ether.BuildArp: an Arp's bytes in own memory.
-/
import Derived.Test.YtdibmeapflhhaaaBuild5
import Derived.Test.YtdibmeapflhhaaaAppG
import Derived.Lib.SlBytesConst
namespace Go.Proofs.Ytdibmeapflhhaaa
open Go.RowKit

def arpBytes (op : Int) (f s t u : List UInt8) : List UInt8 := [0, 1, 8, 0, 6, 4, 0, UInt8.ofNat op.toNat] ++ f ++ s ++ t ++ u

def ArpPost (w : World) (op : Int) (f s t u : List UInt8) (e : Ending) (w' : World) : Prop :=
  Kp w w' ∧ ((op ≠ 1 ∧ op ≠ 2 ∧ e = .returned (.tuple #[.slice none 0 0, .int .i64 1])) ∨
    ((op = 1 ∨ op = 2) ∧ ∃ g cap, e = .returned (.tuple #[.slice (some ⟨g, 0, none⟩) 28 cap, .int .i64 0]) ∧ OwnV 5 w' w.heap.size g 28 cap (bvs (arpBytes op f s t u))))

set_option maxRecDepth 100000 in
set_option maxHeartbeats 1000000 in
theorem barp_no (w : World) (op : Int) (a0 a1 a2 a3 a4 a5 b0 b1 b2 b3 c0 c1 c2 c3 c4 c5 d0 d1 d2 d3 : UInt8) (h1 : op ≠ 1) (h2 : op ≠ 2) :
    Calls Try.prog 28 #[.agg #[.int .i64 op, .int .u8 (a0.toNat : Int), .int .u8 (a1.toNat : Int), .int .u8 (a2.toNat : Int), .int .u8 (a3.toNat : Int), .int .u8 (a4.toNat : Int), .int .u8 (a5.toNat : Int), .int .u8 (b0.toNat : Int), .int .u8 (b1.toNat : Int), .int .u8 (b2.toNat : Int), .int .u8 (b3.toNat : Int), .int .u8 (c0.toNat : Int), .int .u8 (c1.toNat : Int), .int .u8 (c2.toNat : Int), .int .u8 (c3.toNat : Int), .int .u8 (c4.toNat : Int), .int .u8 (c5.toNat : Int), .int .u8 (d0.toNat : Int), .int .u8 (d1.toNat : Int), .int .u8 (d2.toNat : Int), .int .u8 (d3.toNat : Int)]] w fun e w' => e = .returned (.tuple #[.slice none 0 0, .int .i64 1]) ∧ Kp w w' := by
  have e1 : (op != 1) = true := by simpa using h1
  have e2 : (op != 2) = true := by simpa using h2
  go_enter Try.func28, Try.ntmps28
  go_wp2
  go_ret2
  exact ⟨rfl, (Kp.refl _).alloc _⟩

theorem OwnV.mono_lo {e : TypeId} {w : World} {lo lo' g n cap : Nat} {xs : List Value} (h : OwnV e w lo g n cap xs) (hl : lo' ≤ lo) : OwnV e w lo' g n cap xs := by
  obtain ⟨h1, _, h3, h4, cur, h5, h6, h7⟩ := h.out
  exact OwnV.mk' (by omega) h5 h3 h4 h6 h7

set_option maxRecDepth 100000 in
set_option maxHeartbeats 2000000 in
theorem barp_ok (w : World) (op : Int) (a0 a1 a2 a3 a4 a5 b0 b1 b2 b3 c0 c1 c2 c3 c4 c5 d0 d1 d2 d3 : UInt8) (h : op = 1 ∨ op = 2) :
    Calls Try.prog 28 #[.agg #[.int .i64 op, .int .u8 (a0.toNat : Int), .int .u8 (a1.toNat : Int), .int .u8 (a2.toNat : Int), .int .u8 (a3.toNat : Int), .int .u8 (a4.toNat : Int), .int .u8 (a5.toNat : Int), .int .u8 (b0.toNat : Int), .int .u8 (b1.toNat : Int), .int .u8 (b2.toNat : Int), .int .u8 (b3.toNat : Int), .int .u8 (c0.toNat : Int), .int .u8 (c1.toNat : Int), .int .u8 (c2.toNat : Int), .int .u8 (c3.toNat : Int), .int .u8 (c4.toNat : Int), .int .u8 (c5.toNat : Int), .int .u8 (d0.toNat : Int), .int .u8 (d1.toNat : Int), .int .u8 (d2.toNat : Int), .int .u8 (d3.toNat : Int)]] w (ArpPost w op [a0, a1, a2, a3, a4, a5] [b0, b1, b2, b3] [c0, c1, c2, c3, c4, c5] [d0, d1, d2, d3]) := by
  rcases h with rfl | rfl
  · have kc : ∀ (D : Array Value) (n c : Nat), (convert 25 25 (.slice (some ⟨w.heap.size + 1, 0, none⟩) n c)).run Try.prog ((w.alloc (.cells #[.int .i64 1, .int .u8 (a0.toNat : Int), .int .u8 (a1.toNat : Int), .int .u8 (a2.toNat : Int), .int .u8 (a3.toNat : Int), .int .u8 (a4.toNat : Int), .int .u8 (a5.toNat : Int), .int .u8 (b0.toNat : Int), .int .u8 (b1.toNat : Int), .int .u8 (b2.toNat : Int), .int .u8 (b3.toNat : Int), .int .u8 (c0.toNat : Int), .int .u8 (c1.toNat : Int), .int .u8 (c2.toNat : Int), .int .u8 (c3.toNat : Int), .int .u8 (c4.toNat : Int), .int .u8 (c5.toNat : Int), .int .u8 (d0.toNat : Int), .int .u8 (d1.toNat : Int), .int .u8 (d2.toNat : Int), .int .u8 (d3.toNat : Int)] 44)).alloc (.cells D 5)) = .ok (.slice (some ⟨w.heap.size + 1, 0, none⟩) n c) ((w.alloc (.cells #[.int .i64 1, .int .u8 (a0.toNat : Int), .int .u8 (a1.toNat : Int), .int .u8 (a2.toNat : Int), .int .u8 (a3.toNat : Int), .int .u8 (a4.toNat : Int), .int .u8 (a5.toNat : Int), .int .u8 (b0.toNat : Int), .int .u8 (b1.toNat : Int), .int .u8 (b2.toNat : Int), .int .u8 (b3.toNat : Int), .int .u8 (c0.toNat : Int), .int .u8 (c1.toNat : Int), .int .u8 (c2.toNat : Int), .int .u8 (c3.toNat : Int), .int .u8 (c4.toNat : Int), .int .u8 (c5.toNat : Int), .int .u8 (d0.toNat : Int), .int .u8 (d1.toNat : Int), .int .u8 (d2.toNat : Int), .int .u8 (d3.toNat : Int)] 44)).alloc (.cells D 5 (D.size, D.size + 1))) := by
      intro D n c
      have h := Lib.run_convert_bytes_const (P := Try.prog) (w.alloc (.cells #[.int .i64 1, .int .u8 (a0.toNat : Int), .int .u8 (a1.toNat : Int), .int .u8 (a2.toNat : Int), .int .u8 (a3.toNat : Int), .int .u8 (a4.toNat : Int), .int .u8 (a5.toNat : Int), .int .u8 (b0.toNat : Int), .int .u8 (b1.toNat : Int), .int .u8 (b2.toNat : Int), .int .u8 (b3.toNat : Int), .int .u8 (c0.toNat : Int), .int .u8 (c1.toNat : Int), .int .u8 (c2.toNat : Int), .int .u8 (c3.toNat : Int), .int .u8 (c4.toNat : Int), .int .u8 (c5.toNat : Int), .int .u8 (d0.toNat : Int), .int .u8 (d1.toNat : Int), .int .u8 (d2.toNat : Int), .int .u8 (d3.toNat : Int)] 44)) 25 5 D n c Try.underlying25 Try.underlying5
      rw [show (w.alloc (.cells #[.int .i64 1, .int .u8 (a0.toNat : Int), .int .u8 (a1.toNat : Int), .int .u8 (a2.toNat : Int), .int .u8 (a3.toNat : Int), .int .u8 (a4.toNat : Int), .int .u8 (a5.toNat : Int), .int .u8 (b0.toNat : Int), .int .u8 (b1.toNat : Int), .int .u8 (b2.toNat : Int), .int .u8 (b3.toNat : Int), .int .u8 (c0.toNat : Int), .int .u8 (c1.toNat : Int), .int .u8 (c2.toNat : Int), .int .u8 (c3.toNat : Int), .int .u8 (c4.toNat : Int), .int .u8 (c5.toNat : Int), .int .u8 (d0.toNat : Int), .int .u8 (d1.toNat : Int), .int .u8 (d2.toNat : Int), .int .u8 (d3.toNat : Int)] 44)).heap.size = w.heap.size + 1 by simp] at h
      exact h
    have r1 : Rd (w.alloc (.cells #[.int .i64 1, .int .u8 (a0.toNat : Int), .int .u8 (a1.toNat : Int), .int .u8 (a2.toNat : Int), .int .u8 (a3.toNat : Int), .int .u8 (a4.toNat : Int), .int .u8 (a5.toNat : Int), .int .u8 (b0.toNat : Int), .int .u8 (b1.toNat : Int), .int .u8 (b2.toNat : Int), .int .u8 (b3.toNat : Int), .int .u8 (c0.toNat : Int), .int .u8 (c1.toNat : Int), .int .u8 (c2.toNat : Int), .int .u8 (c3.toNat : Int), .int .u8 (c4.toNat : Int), .int .u8 (c5.toNat : Int), .int .u8 (d0.toNat : Int), .int .u8 (d1.toNat : Int), .int .u8 (d2.toNat : Int), .int .u8 (d3.toNat : Int)] 44)) w.heap.size (some ⟨w.heap.size, 1, none⟩) 6 [a0, a1, a2, a3, a4, a5] := cell_new_rd _ _ _ _ _ _ rfl (by
      intro j u hj; match j with | 0 | 1 | 2 | 3 | 4 | 5 => simpa [bvs] using hj | j + 6 => simp [bvs] at hj)
    have r2 : Rd (w.alloc (.cells #[.int .i64 1, .int .u8 (a0.toNat : Int), .int .u8 (a1.toNat : Int), .int .u8 (a2.toNat : Int), .int .u8 (a3.toNat : Int), .int .u8 (a4.toNat : Int), .int .u8 (a5.toNat : Int), .int .u8 (b0.toNat : Int), .int .u8 (b1.toNat : Int), .int .u8 (b2.toNat : Int), .int .u8 (b3.toNat : Int), .int .u8 (c0.toNat : Int), .int .u8 (c1.toNat : Int), .int .u8 (c2.toNat : Int), .int .u8 (c3.toNat : Int), .int .u8 (c4.toNat : Int), .int .u8 (c5.toNat : Int), .int .u8 (d0.toNat : Int), .int .u8 (d1.toNat : Int), .int .u8 (d2.toNat : Int), .int .u8 (d3.toNat : Int)] 44)) w.heap.size (some ⟨w.heap.size, 7, none⟩) 4 [b0, b1, b2, b3] := cell_new_rd _ _ _ _ _ _ rfl (by
      intro j u hj; match j with | 0 | 1 | 2 | 3 => simpa [bvs] using hj | j + 4 => simp [bvs] at hj)
    have r3 : Rd (w.alloc (.cells #[.int .i64 1, .int .u8 (a0.toNat : Int), .int .u8 (a1.toNat : Int), .int .u8 (a2.toNat : Int), .int .u8 (a3.toNat : Int), .int .u8 (a4.toNat : Int), .int .u8 (a5.toNat : Int), .int .u8 (b0.toNat : Int), .int .u8 (b1.toNat : Int), .int .u8 (b2.toNat : Int), .int .u8 (b3.toNat : Int), .int .u8 (c0.toNat : Int), .int .u8 (c1.toNat : Int), .int .u8 (c2.toNat : Int), .int .u8 (c3.toNat : Int), .int .u8 (c4.toNat : Int), .int .u8 (c5.toNat : Int), .int .u8 (d0.toNat : Int), .int .u8 (d1.toNat : Int), .int .u8 (d2.toNat : Int), .int .u8 (d3.toNat : Int)] 44)) w.heap.size (some ⟨w.heap.size, 11, none⟩) 6 [c0, c1, c2, c3, c4, c5] := cell_new_rd _ _ _ _ _ _ rfl (by
      intro j u hj; match j with | 0 | 1 | 2 | 3 | 4 | 5 => simpa [bvs] using hj | j + 6 => simp [bvs] at hj)
    have r4 : Rd (w.alloc (.cells #[.int .i64 1, .int .u8 (a0.toNat : Int), .int .u8 (a1.toNat : Int), .int .u8 (a2.toNat : Int), .int .u8 (a3.toNat : Int), .int .u8 (a4.toNat : Int), .int .u8 (a5.toNat : Int), .int .u8 (b0.toNat : Int), .int .u8 (b1.toNat : Int), .int .u8 (b2.toNat : Int), .int .u8 (b3.toNat : Int), .int .u8 (c0.toNat : Int), .int .u8 (c1.toNat : Int), .int .u8 (c2.toNat : Int), .int .u8 (c3.toNat : Int), .int .u8 (c4.toNat : Int), .int .u8 (c5.toNat : Int), .int .u8 (d0.toNat : Int), .int .u8 (d1.toNat : Int), .int .u8 (d2.toNat : Int), .int .u8 (d3.toNat : Int)] 44)) w.heap.size (some ⟨w.heap.size, 17, none⟩) 4 [d0, d1, d2, d3] := cell_new_rd _ _ _ _ _ _ rfl (by
      intro j u hj; match j with | 0 | 1 | 2 | 3 => simpa [bvs] using hj | j + 4 => simp [bvs] at hj)
    have R1 := Lib.hid r1
    have R2 := Lib.hid r2
    have R3 := Lib.hid r3
    have R4 := Lib.hid r4
    clear r1 r2 r3 r4
    go_enter Try.func28, Try.ntmps28
    go_wp2_with (first
      | (at_builtin; refine app8g (by rfl) (.tmp 14) (.tmp 18) rfl rfl rfl (lo1 := 0) (lo2 := 0) (l := [0, 1, 8, 0, 6, 4, 0]) (l2 := [1]) ((rd_lit (by simp) (Nat.zero_le _) rfl rfl).keep ((Kp.refl _).alloc _)) (rd_lit (by simp) (Nat.zero_le _) rfl rfl) (by decide) (by decide) (by decide) (by decide) 8 [0, 1, 8, 0, 6, 4, 0, 1] rfl (by decide) (w.heap.size + 1 + 1 + 1) (by simp) ?_; intro cap1 w0 own1 kX))
    have hk1 := ((((Kp.refl w).alloc _).alloc _).alloc _).trans kX
    have kb1 := (((Kp.refl (w.alloc (.cells #[.int .i64 1, .int .u8 (a0.toNat : Int), .int .u8 (a1.toNat : Int), .int .u8 (a2.toNat : Int), .int .u8 (a3.toNat : Int), .int .u8 (a4.toNat : Int), .int .u8 (a5.toNat : Int), .int .u8 (b0.toNat : Int), .int .u8 (b1.toNat : Int), .int .u8 (b2.toNat : Int), .int .u8 (b3.toNat : Int), .int .u8 (c0.toNat : Int), .int .u8 (c1.toNat : Int), .int .u8 (c2.toNat : Int), .int .u8 (c3.toNat : Int), .int .u8 (c4.toNat : Int), .int .u8 (c5.toNat : Int), .int .u8 (d0.toNat : Int), .int .u8 (d1.toNat : Int), .int .u8 (d2.toNat : Int), .int .u8 (d3.toNat : Int)] 44))).alloc _).alloc _).trans kX
    replace hk1 := hk1.drew
    replace kb1 := kb1.drew
    replace own1 := own1.drew
    clear kX kc
    go_region_law (first
      | (refine stp8 rfl (.tmp 20) (.tmp 22) rfl rfl rfl own1 (R1.out.keep kb1) 14 (([0, 1, 8, 0, 6, 4, 0, 1] : List UInt8) ++ [a0, a1, a2, a3, a4, a5]) rfl rfl (by omega) (Nat.le_of_lt (Nat.lt_of_le_of_lt own1.lo_le own1.lt)) ?_; intro g2 cap2 w2 own2 gr2 at2; have hk2 := hk1.grown gr2 (by have := own1.lo_le; omega); have kb2 := kb1.grown gr2 (by have := own1.lo_le; simp <;> omega))
      | (refine stp8 rfl (.tmp 23) (.tmp 25) rfl rfl rfl own2 (R2.out.keep kb2) 18 (([0, 1, 8, 0, 6, 4, 0, 1] : List UInt8) ++ [a0, a1, a2, a3, a4, a5] ++ [b0, b1, b2, b3]) rfl rfl (by omega) (Nat.le_of_lt (Nat.lt_of_le_of_lt own2.lo_le own2.lt)) ?_; intro g3 cap3 w3 own3 gr3 at3; have hk3 := hk2.grown gr3 (by have := own2.lo_le; omega); have kb3 := kb2.grown gr3 (by have := own2.lo_le; simp <;> omega)))
    replace hk3 := hk3.drew
    replace kb3 := kb3.drew
    replace own3 := own3.drew
    clear hk1 kb1 own1 hk2 kb2 own2 gr2 at2 gr3 at3
    go_wp2
    go_region_law (first
      | (refine stp8 rfl (.tmp 27) (.tmp 29) rfl rfl rfl own3 (R3.out.keep kb3) 24 (([0, 1, 8, 0, 6, 4, 0, 1] : List UInt8) ++ [a0, a1, a2, a3, a4, a5] ++ [b0, b1, b2, b3] ++ [c0, c1, c2, c3, c4, c5]) rfl rfl (by omega) (Nat.le_of_lt (Nat.lt_of_le_of_lt own3.lo_le own3.lt)) ?_; intro g4 cap4 w4 own4 gr4 at4; have hk4 := hk3.grown gr4 (by have := own3.lo_le; omega); have kb4 := kb3.grown gr4 (by have := own3.lo_le; simp <;> omega))
      | (refine stp8 rfl (.tmp 30) (.tmp 32) rfl rfl rfl own4 (R4.out.keep kb4) 28 (([0, 1, 8, 0, 6, 4, 0, 1] : List UInt8) ++ [a0, a1, a2, a3, a4, a5] ++ [b0, b1, b2, b3] ++ [c0, c1, c2, c3, c4, c5] ++ [d0, d1, d2, d3]) rfl rfl (by omega) (Nat.le_of_lt (Nat.lt_of_le_of_lt own4.lo_le own4.lt)) ?_; intro g5 cap5 w5 own5 gr5 at5; have hk5 := hk4.grown gr5 (by have := own4.lo_le; omega); have kb5 := kb4.grown gr5 (by have := own4.lo_le; simp <;> omega)))
    go_wp2
    go_ret2
    have e : arpBytes 1 [a0, a1, a2, a3, a4, a5] [b0, b1, b2, b3] [c0, c1, c2, c3, c4, c5] [d0, d1, d2, d3] = ([0, 1, 8, 0, 6, 4, 0, 1] : List UInt8) ++ [a0, a1, a2, a3, a4, a5] ++ [b0, b1, b2, b3] ++ [c0, c1, c2, c3, c4, c5] ++ [d0, d1, d2, d3] := rfl
    refine ⟨hk5, .inr ⟨by decide, g5, cap5, rfl, ?_⟩⟩
    rw [e]
    exact own5.mono_lo (by omega)
  · have kc : ∀ (D : Array Value) (n c : Nat), (convert 25 25 (.slice (some ⟨w.heap.size + 1, 0, none⟩) n c)).run Try.prog ((w.alloc (.cells #[.int .i64 2, .int .u8 (a0.toNat : Int), .int .u8 (a1.toNat : Int), .int .u8 (a2.toNat : Int), .int .u8 (a3.toNat : Int), .int .u8 (a4.toNat : Int), .int .u8 (a5.toNat : Int), .int .u8 (b0.toNat : Int), .int .u8 (b1.toNat : Int), .int .u8 (b2.toNat : Int), .int .u8 (b3.toNat : Int), .int .u8 (c0.toNat : Int), .int .u8 (c1.toNat : Int), .int .u8 (c2.toNat : Int), .int .u8 (c3.toNat : Int), .int .u8 (c4.toNat : Int), .int .u8 (c5.toNat : Int), .int .u8 (d0.toNat : Int), .int .u8 (d1.toNat : Int), .int .u8 (d2.toNat : Int), .int .u8 (d3.toNat : Int)] 44)).alloc (.cells D 5)) = .ok (.slice (some ⟨w.heap.size + 1, 0, none⟩) n c) ((w.alloc (.cells #[.int .i64 2, .int .u8 (a0.toNat : Int), .int .u8 (a1.toNat : Int), .int .u8 (a2.toNat : Int), .int .u8 (a3.toNat : Int), .int .u8 (a4.toNat : Int), .int .u8 (a5.toNat : Int), .int .u8 (b0.toNat : Int), .int .u8 (b1.toNat : Int), .int .u8 (b2.toNat : Int), .int .u8 (b3.toNat : Int), .int .u8 (c0.toNat : Int), .int .u8 (c1.toNat : Int), .int .u8 (c2.toNat : Int), .int .u8 (c3.toNat : Int), .int .u8 (c4.toNat : Int), .int .u8 (c5.toNat : Int), .int .u8 (d0.toNat : Int), .int .u8 (d1.toNat : Int), .int .u8 (d2.toNat : Int), .int .u8 (d3.toNat : Int)] 44)).alloc (.cells D 5 (D.size, D.size + 1))) := by
      intro D n c
      have h := Lib.run_convert_bytes_const (P := Try.prog) (w.alloc (.cells #[.int .i64 2, .int .u8 (a0.toNat : Int), .int .u8 (a1.toNat : Int), .int .u8 (a2.toNat : Int), .int .u8 (a3.toNat : Int), .int .u8 (a4.toNat : Int), .int .u8 (a5.toNat : Int), .int .u8 (b0.toNat : Int), .int .u8 (b1.toNat : Int), .int .u8 (b2.toNat : Int), .int .u8 (b3.toNat : Int), .int .u8 (c0.toNat : Int), .int .u8 (c1.toNat : Int), .int .u8 (c2.toNat : Int), .int .u8 (c3.toNat : Int), .int .u8 (c4.toNat : Int), .int .u8 (c5.toNat : Int), .int .u8 (d0.toNat : Int), .int .u8 (d1.toNat : Int), .int .u8 (d2.toNat : Int), .int .u8 (d3.toNat : Int)] 44)) 25 5 D n c Try.underlying25 Try.underlying5
      rw [show (w.alloc (.cells #[.int .i64 2, .int .u8 (a0.toNat : Int), .int .u8 (a1.toNat : Int), .int .u8 (a2.toNat : Int), .int .u8 (a3.toNat : Int), .int .u8 (a4.toNat : Int), .int .u8 (a5.toNat : Int), .int .u8 (b0.toNat : Int), .int .u8 (b1.toNat : Int), .int .u8 (b2.toNat : Int), .int .u8 (b3.toNat : Int), .int .u8 (c0.toNat : Int), .int .u8 (c1.toNat : Int), .int .u8 (c2.toNat : Int), .int .u8 (c3.toNat : Int), .int .u8 (c4.toNat : Int), .int .u8 (c5.toNat : Int), .int .u8 (d0.toNat : Int), .int .u8 (d1.toNat : Int), .int .u8 (d2.toNat : Int), .int .u8 (d3.toNat : Int)] 44)).heap.size = w.heap.size + 1 by simp] at h
      exact h
    have r1 : Rd (w.alloc (.cells #[.int .i64 2, .int .u8 (a0.toNat : Int), .int .u8 (a1.toNat : Int), .int .u8 (a2.toNat : Int), .int .u8 (a3.toNat : Int), .int .u8 (a4.toNat : Int), .int .u8 (a5.toNat : Int), .int .u8 (b0.toNat : Int), .int .u8 (b1.toNat : Int), .int .u8 (b2.toNat : Int), .int .u8 (b3.toNat : Int), .int .u8 (c0.toNat : Int), .int .u8 (c1.toNat : Int), .int .u8 (c2.toNat : Int), .int .u8 (c3.toNat : Int), .int .u8 (c4.toNat : Int), .int .u8 (c5.toNat : Int), .int .u8 (d0.toNat : Int), .int .u8 (d1.toNat : Int), .int .u8 (d2.toNat : Int), .int .u8 (d3.toNat : Int)] 44)) w.heap.size (some ⟨w.heap.size, 1, none⟩) 6 [a0, a1, a2, a3, a4, a5] := cell_new_rd _ _ _ _ _ _ rfl (by
      intro j u hj; match j with | 0 | 1 | 2 | 3 | 4 | 5 => simpa [bvs] using hj | j + 6 => simp [bvs] at hj)
    have r2 : Rd (w.alloc (.cells #[.int .i64 2, .int .u8 (a0.toNat : Int), .int .u8 (a1.toNat : Int), .int .u8 (a2.toNat : Int), .int .u8 (a3.toNat : Int), .int .u8 (a4.toNat : Int), .int .u8 (a5.toNat : Int), .int .u8 (b0.toNat : Int), .int .u8 (b1.toNat : Int), .int .u8 (b2.toNat : Int), .int .u8 (b3.toNat : Int), .int .u8 (c0.toNat : Int), .int .u8 (c1.toNat : Int), .int .u8 (c2.toNat : Int), .int .u8 (c3.toNat : Int), .int .u8 (c4.toNat : Int), .int .u8 (c5.toNat : Int), .int .u8 (d0.toNat : Int), .int .u8 (d1.toNat : Int), .int .u8 (d2.toNat : Int), .int .u8 (d3.toNat : Int)] 44)) w.heap.size (some ⟨w.heap.size, 7, none⟩) 4 [b0, b1, b2, b3] := cell_new_rd _ _ _ _ _ _ rfl (by
      intro j u hj; match j with | 0 | 1 | 2 | 3 => simpa [bvs] using hj | j + 4 => simp [bvs] at hj)
    have r3 : Rd (w.alloc (.cells #[.int .i64 2, .int .u8 (a0.toNat : Int), .int .u8 (a1.toNat : Int), .int .u8 (a2.toNat : Int), .int .u8 (a3.toNat : Int), .int .u8 (a4.toNat : Int), .int .u8 (a5.toNat : Int), .int .u8 (b0.toNat : Int), .int .u8 (b1.toNat : Int), .int .u8 (b2.toNat : Int), .int .u8 (b3.toNat : Int), .int .u8 (c0.toNat : Int), .int .u8 (c1.toNat : Int), .int .u8 (c2.toNat : Int), .int .u8 (c3.toNat : Int), .int .u8 (c4.toNat : Int), .int .u8 (c5.toNat : Int), .int .u8 (d0.toNat : Int), .int .u8 (d1.toNat : Int), .int .u8 (d2.toNat : Int), .int .u8 (d3.toNat : Int)] 44)) w.heap.size (some ⟨w.heap.size, 11, none⟩) 6 [c0, c1, c2, c3, c4, c5] := cell_new_rd _ _ _ _ _ _ rfl (by
      intro j u hj; match j with | 0 | 1 | 2 | 3 | 4 | 5 => simpa [bvs] using hj | j + 6 => simp [bvs] at hj)
    have r4 : Rd (w.alloc (.cells #[.int .i64 2, .int .u8 (a0.toNat : Int), .int .u8 (a1.toNat : Int), .int .u8 (a2.toNat : Int), .int .u8 (a3.toNat : Int), .int .u8 (a4.toNat : Int), .int .u8 (a5.toNat : Int), .int .u8 (b0.toNat : Int), .int .u8 (b1.toNat : Int), .int .u8 (b2.toNat : Int), .int .u8 (b3.toNat : Int), .int .u8 (c0.toNat : Int), .int .u8 (c1.toNat : Int), .int .u8 (c2.toNat : Int), .int .u8 (c3.toNat : Int), .int .u8 (c4.toNat : Int), .int .u8 (c5.toNat : Int), .int .u8 (d0.toNat : Int), .int .u8 (d1.toNat : Int), .int .u8 (d2.toNat : Int), .int .u8 (d3.toNat : Int)] 44)) w.heap.size (some ⟨w.heap.size, 17, none⟩) 4 [d0, d1, d2, d3] := cell_new_rd _ _ _ _ _ _ rfl (by
      intro j u hj; match j with | 0 | 1 | 2 | 3 => simpa [bvs] using hj | j + 4 => simp [bvs] at hj)
    have R1 := Lib.hid r1
    have R2 := Lib.hid r2
    have R3 := Lib.hid r3
    have R4 := Lib.hid r4
    clear r1 r2 r3 r4
    go_enter Try.func28, Try.ntmps28
    go_wp2_with (first
      | (at_builtin; refine app8g (by rfl) (.tmp 14) (.tmp 18) rfl rfl rfl (lo1 := 0) (lo2 := 0) (l := [0, 1, 8, 0, 6, 4, 0]) (l2 := [2]) ((rd_lit (by simp) (Nat.zero_le _) rfl rfl).keep ((Kp.refl _).alloc _)) (rd_lit (by simp) (Nat.zero_le _) rfl rfl) (by decide) (by decide) (by decide) (by decide) 8 [0, 1, 8, 0, 6, 4, 0, 2] rfl (by decide) (w.heap.size + 1 + 1 + 1) (by simp) ?_; intro cap1 w0 own1 kX))
    have hk1 := ((((Kp.refl w).alloc _).alloc _).alloc _).trans kX
    have kb1 := (((Kp.refl (w.alloc (.cells #[.int .i64 2, .int .u8 (a0.toNat : Int), .int .u8 (a1.toNat : Int), .int .u8 (a2.toNat : Int), .int .u8 (a3.toNat : Int), .int .u8 (a4.toNat : Int), .int .u8 (a5.toNat : Int), .int .u8 (b0.toNat : Int), .int .u8 (b1.toNat : Int), .int .u8 (b2.toNat : Int), .int .u8 (b3.toNat : Int), .int .u8 (c0.toNat : Int), .int .u8 (c1.toNat : Int), .int .u8 (c2.toNat : Int), .int .u8 (c3.toNat : Int), .int .u8 (c4.toNat : Int), .int .u8 (c5.toNat : Int), .int .u8 (d0.toNat : Int), .int .u8 (d1.toNat : Int), .int .u8 (d2.toNat : Int), .int .u8 (d3.toNat : Int)] 44))).alloc _).alloc _).trans kX
    replace hk1 := hk1.drew
    replace kb1 := kb1.drew
    replace own1 := own1.drew
    clear kX kc
    go_region_law (first
      | (refine stp8 rfl (.tmp 20) (.tmp 22) rfl rfl rfl own1 (R1.out.keep kb1) 14 (([0, 1, 8, 0, 6, 4, 0, 2] : List UInt8) ++ [a0, a1, a2, a3, a4, a5]) rfl rfl (by omega) (Nat.le_of_lt (Nat.lt_of_le_of_lt own1.lo_le own1.lt)) ?_; intro g2 cap2 w2 own2 gr2 at2; have hk2 := hk1.grown gr2 (by have := own1.lo_le; omega); have kb2 := kb1.grown gr2 (by have := own1.lo_le; simp <;> omega))
      | (refine stp8 rfl (.tmp 23) (.tmp 25) rfl rfl rfl own2 (R2.out.keep kb2) 18 (([0, 1, 8, 0, 6, 4, 0, 2] : List UInt8) ++ [a0, a1, a2, a3, a4, a5] ++ [b0, b1, b2, b3]) rfl rfl (by omega) (Nat.le_of_lt (Nat.lt_of_le_of_lt own2.lo_le own2.lt)) ?_; intro g3 cap3 w3 own3 gr3 at3; have hk3 := hk2.grown gr3 (by have := own2.lo_le; omega); have kb3 := kb2.grown gr3 (by have := own2.lo_le; simp <;> omega)))
    replace hk3 := hk3.drew
    replace kb3 := kb3.drew
    replace own3 := own3.drew
    clear hk1 kb1 own1 hk2 kb2 own2 gr2 at2 gr3 at3
    go_wp2
    go_region_law (first
      | (refine stp8 rfl (.tmp 27) (.tmp 29) rfl rfl rfl own3 (R3.out.keep kb3) 24 (([0, 1, 8, 0, 6, 4, 0, 2] : List UInt8) ++ [a0, a1, a2, a3, a4, a5] ++ [b0, b1, b2, b3] ++ [c0, c1, c2, c3, c4, c5]) rfl rfl (by omega) (Nat.le_of_lt (Nat.lt_of_le_of_lt own3.lo_le own3.lt)) ?_; intro g4 cap4 w4 own4 gr4 at4; have hk4 := hk3.grown gr4 (by have := own3.lo_le; omega); have kb4 := kb3.grown gr4 (by have := own3.lo_le; simp <;> omega))
      | (refine stp8 rfl (.tmp 30) (.tmp 32) rfl rfl rfl own4 (R4.out.keep kb4) 28 (([0, 1, 8, 0, 6, 4, 0, 2] : List UInt8) ++ [a0, a1, a2, a3, a4, a5] ++ [b0, b1, b2, b3] ++ [c0, c1, c2, c3, c4, c5] ++ [d0, d1, d2, d3]) rfl rfl (by omega) (Nat.le_of_lt (Nat.lt_of_le_of_lt own4.lo_le own4.lt)) ?_; intro g5 cap5 w5 own5 gr5 at5; have hk5 := hk4.grown gr5 (by have := own4.lo_le; omega); have kb5 := kb4.grown gr5 (by have := own4.lo_le; simp <;> omega)))
    go_wp2
    go_ret2
    have e : arpBytes 2 [a0, a1, a2, a3, a4, a5] [b0, b1, b2, b3] [c0, c1, c2, c3, c4, c5] [d0, d1, d2, d3] = ([0, 1, 8, 0, 6, 4, 0, 2] : List UInt8) ++ [a0, a1, a2, a3, a4, a5] ++ [b0, b1, b2, b3] ++ [c0, c1, c2, c3, c4, c5] ++ [d0, d1, d2, d3] := rfl
    refine ⟨hk5, .inr ⟨by decide, g5, cap5, rfl, ?_⟩⟩
    rw [e]
    exact own5.mono_lo (by omega)
end Go.Proofs.Ytdibmeapflhhaaa
