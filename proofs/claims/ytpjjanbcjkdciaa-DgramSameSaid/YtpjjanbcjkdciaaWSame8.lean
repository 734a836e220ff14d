/-
  The walk of DgramSame: it returns true and leaves what was there as it was.
-/
import Derived.Test.YtpjjanbcjkdciaaLives8
import Derived.Deep.DeepCutAuto
namespace Go.Proofs.Ytpjjanbcjkdciaa
open Go.RowKit

set_option maxRecDepth 100000 in
theorem b8_nil (w : World) (s0 s1 s2 s3 d0 d1 d2 d3 : UInt8) : Calls Try.prog 11 #[.nilIface, .agg #[.int .u8 (s0.toNat : Int), .int .u8 (s1.toNat : Int), .int .u8 (s2.toNat : Int), .int .u8 (s3.toNat : Int)], .agg #[.int .u8 (d0.toNat : Int), .int .u8 (d1.toNat : Int), .int .u8 (d2.toNat : Int), .int .u8 (d3.toNat : Int)]] w fun e w' => e = .returned (.tuple #[.slice none 0 0, .int .i64 1]) ∧ Kp w w' := by
  have ta := ta_ne
  have tb := ta_ng
  go_enter Try.func11, Try.ntmps11
  go_wp2
  go_ret2
  exact ⟨rfl, ((Kp.refl _).alloc _).alloc _⟩
set_option maxRecDepth 100000 in
theorem b8_ptr (w : World) (v : Value) (s0 s1 s2 s3 d0 d1 d2 d3 : UInt8) : Calls Try.prog 11 #[.iface 53 v, .agg #[.int .u8 (s0.toNat : Int), .int .u8 (s1.toNat : Int), .int .u8 (s2.toNat : Int), .int .u8 (s3.toNat : Int)], .agg #[.int .u8 (d0.toNat : Int), .int .u8 (d1.toNat : Int), .int .u8 (d2.toNat : Int), .int .u8 (d3.toNat : Int)]] w fun e w' => e = .returned (.tuple #[.slice none 0 0, .int .i64 1]) ∧ Kp w w' := by
  have ta := ta_pe
  have tb := ta_pg
  go_enter Try.func11, Try.ntmps11
  go_wp2
  go_ret2
  exact ⟨rfl, ((Kp.refl _).alloc _).alloc _⟩
set_option maxRecDepth 100000 in
theorem b8_seg (w : World) (v : Value) (s0 s1 s2 s3 d0 d1 d2 d3 : UInt8) : Calls Try.prog 11 #[.iface 56 v, .agg #[.int .u8 (s0.toNat : Int), .int .u8 (s1.toNat : Int), .int .u8 (s2.toNat : Int), .int .u8 (s3.toNat : Int)], .agg #[.int .u8 (d0.toNat : Int), .int .u8 (d1.toNat : Int), .int .u8 (d2.toNat : Int), .int .u8 (d3.toNat : Int)]] w fun e w' => e = .returned (.tuple #[.slice none 0 0, .int .i64 1]) ∧ Kp w w' := by
  have ta := ta_se
  have tb := ta_sg
  go_enter Try.func11, Try.ntmps11
  go_wp2
  go_ret2
  exact ⟨rfl, ((Kp.refl _).alloc _).alloc _⟩
theorem rowsS8 (w : World) (rp : Bool) (id sq : Nat) (A : Option Addr) (n c : Nat) (rp' : Bool) (id' sq' : Nat) (B : Option Addr) (m k : Nat) (sp dp : Nat) (X : Option Addr) (nx cx : Nat) (W : World) (hk : Kp (((w.alloc (.cells #[.bool rp, .int .u16 (id : Int), .int .u16 (sq : Int), .slice A n c] 25)).alloc (.cells #[.bool rp', .int .u16 (id' : Int), .int .u16 (sq' : Int), .slice B m k] 25)).alloc (.cells #[.int .u16 (sp : Int), .int .u16 (dp : Int), .slice X nx cx] 43)) W) :
    W.heap[w.heap.size]? = some (.cells #[.bool rp, .int .u16 (id : Int), .int .u16 (sq : Int), .slice A n c] 25 (0, 0)) ∧ W.heap[w.heap.size + 1]? = some (.cells #[.bool rp', .int .u16 (id' : Int), .int .u16 (sq' : Int), .slice B m k] 25 (0, 0)) ∧ W.heap[w.heap.size + 1 + 1]? = some (.cells #[.int .u16 (sp : Int), .int .u16 (dp : Int), .slice X nx cx] 43 (0, 0)) := by
  have k2 : Kp ((w.alloc (.cells #[.bool rp, .int .u16 (id : Int), .int .u16 (sq : Int), .slice A n c] 25)).alloc (.cells #[.bool rp', .int .u16 (id' : Int), .int .u16 (sq' : Int), .slice B m k] 25)) W := ((Kp.refl _).alloc _).trans hk
  have k1 : Kp (w.alloc (.cells #[.bool rp, .int .u16 (id : Int), .int .u16 (sq : Int), .slice A n c] 25)) W := ((Kp.refl _).alloc _).trans k2
  have e1 : (w.alloc (.cells #[.bool rp, .int .u16 (id : Int), .int .u16 (sq : Int), .slice A n c] 25)).heap.size = w.heap.size + 1 := by simp
  have e2 : ((w.alloc (.cells #[.bool rp, .int .u16 (id : Int), .int .u16 (sq : Int), .slice A n c] 25)).alloc (.cells #[.bool rp', .int .u16 (id' : Int), .int .u16 (sq' : Int), .slice B m k] 25)).heap.size = w.heap.size + 1 + 1 := by simp
  refine ⟨(k1.block _ (by simp)).trans (heap_alloc_new w _), ?_, ?_⟩
  · rw [← e1]; exact (k2.block _ (by simp)).trans (heap_alloc_new _ _)
  · rw [← e2]; exact (hk.block _ (by simp)).trans (heap_alloc_new _ _)

set_option maxRecDepth 100000 in
set_option maxHeartbeats 8000000 in
theorem same8_main (w : World) (rp : Bool) (id sq : Nat) (A : Option Addr) (n c : Nat) (l : List UInt8) (rp' : Bool) (id' sq' : Nat) (B : Option Addr) (m k : Nat) (l' : List UInt8) (sp dp : Nat) (X : Option Addr) (nx cx : Nat) (lx : List UInt8) (hA : Rd w 0 A n l) (hB : Rd w 0 B m l') (hX : Rd w 0 X nx lx) (h1 : ¬ 600 < n) (h2 : ¬ 600 < m) (h3 : ¬ 600 < nx) :
    Calls Try.prog 7 #[.agg #[.bool rp, .int .u16 (id : Int), .int .u16 (sq : Int), .slice A n c], .agg #[.bool rp', .int .u16 (id' : Int), .int .u16 (sq' : Int), .slice B m k], .agg #[.int .u16 (sp : Int), .int .u16 (dp : Int), .slice X nx cx]] w fun e w' => e = .returned (.bool true) ∧ Kp w w' := by
  have hK0 : Kp w (((w.alloc (.cells #[.bool rp, .int .u16 (id : Int), .int .u16 (sq : Int), .slice A n c] 25)).alloc (.cells #[.bool rp', .int .u16 (id' : Int), .int .u16 (sq' : Int), .slice B m k] 25)).alloc (.cells #[.int .u16 (sp : Int), .int .u16 (dp : Int), .slice X nx cx] 43)) := (((Kp.refl w).alloc _).alloc _).alloc _
  have HK0 := Lib.hid hK0
  have HA := Lib.hid (hA.keep hK0)
  have HB := Lib.hid (hB.keep hK0)
  have HX := Lib.hid (hX.keep hK0)
  have HRA : Hid (∀ W, Kp (((w.alloc (.cells #[.bool rp, .int .u16 (id : Int), .int .u16 (sq : Int), .slice A n c] 25)).alloc (.cells #[.bool rp', .int .u16 (id' : Int), .int .u16 (sq' : Int), .slice B m k] 25)).alloc (.cells #[.int .u16 (sp : Int), .int .u16 (dp : Int), .slice X nx cx] 43)) W → _) := Lib.hid fun W hk => (rowsS8 w rp id sq A n c rp' id' sq' B m k sp dp X nx cx W hk).1
  have HRB : Hid (∀ W, Kp (((w.alloc (.cells #[.bool rp, .int .u16 (id : Int), .int .u16 (sq : Int), .slice A n c] 25)).alloc (.cells #[.bool rp', .int .u16 (id' : Int), .int .u16 (sq' : Int), .slice B m k] 25)).alloc (.cells #[.int .u16 (sp : Int), .int .u16 (dp : Int), .slice X nx cx] 43)) W → _) := Lib.hid fun W hk => (rowsS8 w rp id sq A n c rp' id' sq' B m k sp dp X nx cx W hk).2.1
  have HRX : Hid (∀ W, Kp (((w.alloc (.cells #[.bool rp, .int .u16 (id : Int), .int .u16 (sq : Int), .slice A n c] 25)).alloc (.cells #[.bool rp', .int .u16 (id' : Int), .int .u16 (sq' : Int), .slice B m k] 25)).alloc (.cells #[.int .u16 (sp : Int), .int .u16 (dp : Int), .slice X nx cx] 43)) W → _) := Lib.hid fun W hk => (rowsS8 w rp id sq A n c rp' id' sq' B m k sp dp X nx cx W hk).2.2
  have i1 : ¬ (600 : Int) < (n : Int) := by omega
  have i2 : ¬ (600 : Int) < (m : Int) := by omega
  have i3 : ¬ (600 : Int) < (nx : Int) := by omega
  clear hA hB hX hK0
  go_enter Try.func7, Try.ntmps7
  go_wp2_with fail
  refine (lives8_any _).mono ?_
  rintro e w1 ⟨rfl, hk1⟩
  have HK := Lib.hid hk1
  clear hk1
  have a0 : w1.cell? ⟨w.heap.size, 0, none⟩ = some (.bool rp) := (cell_of_row w1 _ 0 _ _ _ (HRA.out _ HK.out)).trans rfl
  have a1 : w1.cell? ⟨w.heap.size, 1, none⟩ = some (.int .u16 (id : Int)) := (cell_of_row w1 _ 1 _ _ _ (HRA.out _ HK.out)).trans rfl
  have a2 : w1.cell? ⟨w.heap.size, 2, none⟩ = some (.int .u16 (sq : Int)) := (cell_of_row w1 _ 2 _ _ _ (HRA.out _ HK.out)).trans rfl
  have a3 : w1.cell? ⟨w.heap.size, 3, none⟩ = some (.slice A n c) := (cell_of_row w1 _ 3 _ _ _ (HRA.out _ HK.out)).trans rfl
  have b0 : w1.cell? ⟨w.heap.size + 1, 0, none⟩ = some (.bool rp') := (cell_of_row w1 _ 0 _ _ _ (HRB.out _ HK.out)).trans rfl
  have b1 : w1.cell? ⟨w.heap.size + 1, 1, none⟩ = some (.int .u16 (id' : Int)) := (cell_of_row w1 _ 1 _ _ _ (HRB.out _ HK.out)).trans rfl
  have b2 : w1.cell? ⟨w.heap.size + 1, 2, none⟩ = some (.int .u16 (sq' : Int)) := (cell_of_row w1 _ 2 _ _ _ (HRB.out _ HK.out)).trans rfl
  have b3 : w1.cell? ⟨w.heap.size + 1, 3, none⟩ = some (.slice B m k) := (cell_of_row w1 _ 3 _ _ _ (HRB.out _ HK.out)).trans rfl
  have c2 : w1.cell? ⟨w.heap.size + 1 + 1, 2, none⟩ = some (.slice X nx cx) := (cell_of_row w1 _ 2 _ _ _ (HRX.out _ HK.out)).trans rfl
  have qn : ∀ x y : Nat, ((x : Int) == (y : Int)) = (x == y) := fun x y => by rw [Bool.eq_iff_iff]; simp; omega
  have q2 := qn id id'
  have q3 := qn sq sq'
  have q4 := str_beq l l'
  have z1 := conv_str (P := Try.prog) (c := c) Try.underlying23 Try.underlying5 Try.underlying9 (HA.out.keep HK.out)
  have z2 := conv_str (P := Try.prog) (c := k) Try.underlying23 Try.underlying5 Try.underlying9 (HB.out.keep HK.out)
  obtain ⟨x1, q1⟩ : ∃ x1, (rp == rp') = x1 := ⟨_, rfl⟩
  have hs : sameE rp id sq l rp' id' sq' l' = (x1 && (id == id' && (sq == sq' && l == l'))) := by rw [← q1]; rfl
  generalize (id == id') = x2 at q2 hs
  generalize (sq == sq') = x3 at q3 hs
  generalize (l == l') = x4 at q4 hs
  clear qn
  obtain ⟨S, hS⟩ : ∃ S, sameE rp id sq l rp' id' sq' l' = S := ⟨_, rfl⟩
  have hs' : (x1 && (x2 && (x3 && x4))) = S := by rw [← hS]; exact hs.symm
  have HS := Lib.hid hS
  have HS' := Lib.hid hs'
  clear hs hs' hS
  go_upto_region 3 with fail
  go_cut [7] (fun s7 wx => s7 = .bool S ∧ wx = w1)
  case first =>
    cases x1
    case' true => cases x2
    case' true.true => cases x3
    all_goals
      have hS := HS'.out
      simp only [Bool.true_and, Bool.false_and] at hS
      have HS2 := Lib.hid hS
      clear hS
      go_wp2_with fail
      go_meet
      exact ⟨by rw [← HS2.out], rfl⟩
  case rest =>
    obtain ⟨rfl, rfl⟩ := hcut
    clear HS' a0 a1 a2 a3 b0 b1 b2 b3 c2 q1 q2 q3 q4 z1 z2
    go_wp2_with (first | (refine lld_row (by rfl) (.tmp 3) _ _ rfl rfl (HRA.out _ HK.out) Try.underlying25 rfl szEcho ?_) | (refine lld_row (by rfl) (.tmp 4) _ _ rfl rfl (HRB.out _ HK.out) Try.underlying25 rfl szEcho ?_) | (refine lld_row (by rfl) (.tmp 5) _ _ rfl rfl (HRX.out _ HK.out) Try.underlying43 rfl szGram ?_))
    refine (b8_nil _ 0 0 0 0 0 0 0 0).mono ?_
    rintro e w5 ⟨rfl, hk⟩
    have HK' := Lib.hid (HK.out.trans hk)
    clear hk HK
    have HK := HK'
    clear HK'
    go_wp2_with (first | (refine lld_row (by rfl) (.tmp 3) _ _ rfl rfl (HRA.out _ HK.out) Try.underlying25 rfl szEcho ?_) | (refine lld_row (by rfl) (.tmp 4) _ _ rfl rfl (HRB.out _ HK.out) Try.underlying25 rfl szEcho ?_) | (refine lld_row (by rfl) (.tmp 5) _ _ rfl rfl (HRX.out _ HK.out) Try.underlying43 rfl szGram ?_))
    refine (b8_ptr _ _ 0 0 0 0 0 0 0 0).mono ?_
    rintro e w5 ⟨rfl, hk⟩
    have HK' := Lib.hid (HK.out.trans hk)
    clear hk HK
    have HK := HK'
    clear HK'
    go_wp2_with (first | (refine lld_row (by rfl) (.tmp 3) _ _ rfl rfl (HRA.out _ HK.out) Try.underlying25 rfl szEcho ?_) | (refine lld_row (by rfl) (.tmp 4) _ _ rfl rfl (HRB.out _ HK.out) Try.underlying25 rfl szEcho ?_) | (refine lld_row (by rfl) (.tmp 5) _ _ rfl rfl (HRX.out _ HK.out) Try.underlying43 rfl szGram ?_))
    refine (b8_seg _ _ 0 0 0 0 0 0 0 0).mono ?_
    rintro e w5 ⟨rfl, hk⟩
    have HK' := Lib.hid (HK.out.trans hk)
    clear hk HK
    have HK := HK'
    clear HK'
    have a0 := (cell_of_row _ _ 0 _ _ _ (HRA.out _ HK.out)).trans (show _ = some (Value.bool rp) from rfl)
    have a1 := (cell_of_row _ _ 1 _ _ _ (HRA.out _ HK.out)).trans (show _ = some (Value.int .u16 (id : Int)) from rfl)
    have a2 := (cell_of_row _ _ 2 _ _ _ (HRA.out _ HK.out)).trans (show _ = some (Value.int .u16 (sq : Int)) from rfl)
    have a3 := (cell_of_row _ _ 3 _ _ _ (HRA.out _ HK.out)).trans (show _ = some (Value.slice A n c) from rfl)
    have b0 := (cell_of_row _ _ 0 _ _ _ (HRB.out _ HK.out)).trans (show _ = some (Value.bool rp') from rfl)
    have b1 := (cell_of_row _ _ 1 _ _ _ (HRB.out _ HK.out)).trans (show _ = some (Value.int .u16 (id' : Int)) from rfl)
    have b2 := (cell_of_row _ _ 2 _ _ _ (HRB.out _ HK.out)).trans (show _ = some (Value.int .u16 (sq' : Int)) from rfl)
    have b3 := (cell_of_row _ _ 3 _ _ _ (HRB.out _ HK.out)).trans (show _ = some (Value.slice B m k) from rfl)
    go_wp2_with (first | (refine lld_row (by rfl) (.tmp 3) _ _ rfl rfl (HRA.out _ HK.out) Try.underlying25 rfl szEcho ?_) | (refine lld_row (by rfl) (.tmp 4) _ _ rfl rfl (HRB.out _ HK.out) Try.underlying25 rfl szEcho ?_) | (refine lld_row (by rfl) (.tmp 5) _ _ rfl rfl (HRX.out _ HK.out) Try.underlying43 rfl szGram ?_))
    clear a0 a1 a2 a3 b0 b1 b2 b3
    refine (s8_ee _ rp id sq A n c l rp' id' sq' B m k l' (HA.out.keep HK.out) (HB.out.keep HK.out)).mono ?_
    rintro e w5 ⟨rfl, hk⟩
    rw [HS.out]
    have HK' := Lib.hid (HK.out.trans hk)
    clear hk HK
    have HK := HK'
    clear HK'
    have a0 := (cell_of_row _ _ 0 _ _ _ (HRA.out _ HK.out)).trans (show _ = some (Value.bool rp) from rfl)
    have a1 := (cell_of_row _ _ 1 _ _ _ (HRA.out _ HK.out)).trans (show _ = some (Value.int .u16 (id : Int)) from rfl)
    have a2 := (cell_of_row _ _ 2 _ _ _ (HRA.out _ HK.out)).trans (show _ = some (Value.int .u16 (sq : Int)) from rfl)
    have a3 := (cell_of_row _ _ 3 _ _ _ (HRA.out _ HK.out)).trans (show _ = some (Value.slice A n c) from rfl)
    go_wp2_with (first | (refine lld_row (by rfl) (.tmp 3) _ _ rfl rfl (HRA.out _ HK.out) Try.underlying25 rfl szEcho ?_) | (refine lld_row (by rfl) (.tmp 4) _ _ rfl rfl (HRB.out _ HK.out) Try.underlying25 rfl szEcho ?_) | (refine lld_row (by rfl) (.tmp 5) _ _ rfl rfl (HRX.out _ HK.out) Try.underlying43 rfl szGram ?_))
    clear a0 a1 a2 a3
    refine (s8_ee _ rp id sq A n c l rp id sq A n c l (HA.out.keep HK.out) (HA.out.keep HK.out)).mono ?_
    rintro e w5 ⟨rfl, hk⟩
    rw [sameE_self]
    have HK' := Lib.hid (HK.out.trans hk)
    clear hk HK
    have HK := HK'
    clear HK'
    have a0 := (cell_of_row _ _ 0 _ _ _ (HRA.out _ HK.out)).trans (show _ = some (Value.bool rp) from rfl)
    have a1 := (cell_of_row _ _ 1 _ _ _ (HRA.out _ HK.out)).trans (show _ = some (Value.int .u16 (id : Int)) from rfl)
    have a2 := (cell_of_row _ _ 2 _ _ _ (HRA.out _ HK.out)).trans (show _ = some (Value.int .u16 (sq : Int)) from rfl)
    have a3 := (cell_of_row _ _ 3 _ _ _ (HRA.out _ HK.out)).trans (show _ = some (Value.slice A n c) from rfl)
    have c0 := (cell_of_row _ _ 0 _ _ _ (HRX.out _ HK.out)).trans (show _ = some (Value.int .u16 (sp : Int)) from rfl)
    have c1 := (cell_of_row _ _ 1 _ _ _ (HRX.out _ HK.out)).trans (show _ = some (Value.int .u16 (dp : Int)) from rfl)
    have c2 := (cell_of_row _ _ 2 _ _ _ (HRX.out _ HK.out)).trans (show _ = some (Value.slice X nx cx) from rfl)
    go_wp2_with (first | (refine lld_row (by rfl) (.tmp 3) _ _ rfl rfl (HRA.out _ HK.out) Try.underlying25 rfl szEcho ?_) | (refine lld_row (by rfl) (.tmp 4) _ _ rfl rfl (HRB.out _ HK.out) Try.underlying25 rfl szEcho ?_) | (refine lld_row (by rfl) (.tmp 5) _ _ rfl rfl (HRX.out _ HK.out) Try.underlying43 rfl szGram ?_))
    clear a0 a1 a2 a3 c0 c1 c2
    refine (s8_eg _ rp id sq A n c sp dp X nx cx).mono ?_
    rintro e w5 ⟨rfl, hk⟩
    have HK' := Lib.hid (HK.out.trans hk)
    clear hk HK
    have HK := HK'
    clear HK'
    have a0 := (cell_of_row _ _ 0 _ _ _ (HRA.out _ HK.out)).trans (show _ = some (Value.bool rp) from rfl)
    have a1 := (cell_of_row _ _ 1 _ _ _ (HRA.out _ HK.out)).trans (show _ = some (Value.int .u16 (id : Int)) from rfl)
    have a2 := (cell_of_row _ _ 2 _ _ _ (HRA.out _ HK.out)).trans (show _ = some (Value.int .u16 (sq : Int)) from rfl)
    have a3 := (cell_of_row _ _ 3 _ _ _ (HRA.out _ HK.out)).trans (show _ = some (Value.slice A n c) from rfl)
    have c0 := (cell_of_row _ _ 0 _ _ _ (HRX.out _ HK.out)).trans (show _ = some (Value.int .u16 (sp : Int)) from rfl)
    have c1 := (cell_of_row _ _ 1 _ _ _ (HRX.out _ HK.out)).trans (show _ = some (Value.int .u16 (dp : Int)) from rfl)
    have c2 := (cell_of_row _ _ 2 _ _ _ (HRX.out _ HK.out)).trans (show _ = some (Value.slice X nx cx) from rfl)
    go_wp2_with (first | (refine lld_row (by rfl) (.tmp 3) _ _ rfl rfl (HRA.out _ HK.out) Try.underlying25 rfl szEcho ?_) | (refine lld_row (by rfl) (.tmp 4) _ _ rfl rfl (HRB.out _ HK.out) Try.underlying25 rfl szEcho ?_) | (refine lld_row (by rfl) (.tmp 5) _ _ rfl rfl (HRX.out _ HK.out) Try.underlying43 rfl szGram ?_))
    clear a0 a1 a2 a3 c0 c1 c2
    refine (s8_ge _ sp dp X nx cx rp id sq A n c).mono ?_
    rintro e w5 ⟨rfl, hk⟩
    have HK' := Lib.hid (HK.out.trans hk)
    clear hk HK
    have HK := HK'
    clear HK'
    have c0 := (cell_of_row _ _ 0 _ _ _ (HRX.out _ HK.out)).trans (show _ = some (Value.int .u16 (sp : Int)) from rfl)
    have c1 := (cell_of_row _ _ 1 _ _ _ (HRX.out _ HK.out)).trans (show _ = some (Value.int .u16 (dp : Int)) from rfl)
    have c2 := (cell_of_row _ _ 2 _ _ _ (HRX.out _ HK.out)).trans (show _ = some (Value.slice X nx cx) from rfl)
    go_wp2_with (first | (refine lld_row (by rfl) (.tmp 3) _ _ rfl rfl (HRA.out _ HK.out) Try.underlying25 rfl szEcho ?_) | (refine lld_row (by rfl) (.tmp 4) _ _ rfl rfl (HRB.out _ HK.out) Try.underlying25 rfl szEcho ?_) | (refine lld_row (by rfl) (.tmp 5) _ _ rfl rfl (HRX.out _ HK.out) Try.underlying43 rfl szGram ?_))
    clear c0 c1 c2
    refine (s8_gg _ sp dp X nx cx lx sp dp X nx cx lx (HX.out.keep HK.out) (HX.out.keep HK.out)).mono ?_
    rintro e w5 ⟨rfl, hk⟩
    rw [sameG_self]
    have HK' := Lib.hid (HK.out.trans hk)
    clear hk HK
    have HK := HK'
    clear HK'
    go_wp2_with (first | (refine lld_row (by rfl) (.tmp 3) _ _ rfl rfl (HRA.out _ HK.out) Try.underlying25 rfl szEcho ?_) | (refine lld_row (by rfl) (.tmp 4) _ _ rfl rfl (HRB.out _ HK.out) Try.underlying25 rfl szEcho ?_) | (refine lld_row (by rfl) (.tmp 5) _ _ rfl rfl (HRX.out _ HK.out) Try.underlying43 rfl szGram ?_))
    refine (s8_nn _).mono ?_
    rintro e w5 ⟨rfl, hk⟩
    have HK' := Lib.hid (HK.out.trans hk)
    clear hk HK
    have HK := HK'
    clear HK'
    have c0 := (cell_of_row _ _ 0 _ _ _ (HRX.out _ HK.out)).trans (show _ = some (Value.int .u16 (sp : Int)) from rfl)
    have c1 := (cell_of_row _ _ 1 _ _ _ (HRX.out _ HK.out)).trans (show _ = some (Value.int .u16 (dp : Int)) from rfl)
    have c2 := (cell_of_row _ _ 2 _ _ _ (HRX.out _ HK.out)).trans (show _ = some (Value.slice X nx cx) from rfl)
    go_wp2_with (first | (refine lld_row (by rfl) (.tmp 3) _ _ rfl rfl (HRA.out _ HK.out) Try.underlying25 rfl szEcho ?_) | (refine lld_row (by rfl) (.tmp 4) _ _ rfl rfl (HRB.out _ HK.out) Try.underlying25 rfl szEcho ?_) | (refine lld_row (by rfl) (.tmp 5) _ _ rfl rfl (HRX.out _ HK.out) Try.underlying43 rfl szGram ?_))
    clear c0 c1 c2
    refine (s8_ng _ _).mono ?_
    rintro e w5 ⟨rfl, hk⟩
    have HK' := Lib.hid (HK.out.trans hk)
    clear hk HK
    have HK := HK'
    clear HK'
    have c0 := (cell_of_row _ _ 0 _ _ _ (HRX.out _ HK.out)).trans (show _ = some (Value.int .u16 (sp : Int)) from rfl)
    have c1 := (cell_of_row _ _ 1 _ _ _ (HRX.out _ HK.out)).trans (show _ = some (Value.int .u16 (dp : Int)) from rfl)
    have c2 := (cell_of_row _ _ 2 _ _ _ (HRX.out _ HK.out)).trans (show _ = some (Value.slice X nx cx) from rfl)
    go_wp2_with (first | (refine lld_row (by rfl) (.tmp 3) _ _ rfl rfl (HRA.out _ HK.out) Try.underlying25 rfl szEcho ?_) | (refine lld_row (by rfl) (.tmp 4) _ _ rfl rfl (HRB.out _ HK.out) Try.underlying25 rfl szEcho ?_) | (refine lld_row (by rfl) (.tmp 5) _ _ rfl rfl (HRX.out _ HK.out) Try.underlying43 rfl szGram ?_))
    clear c0 c1 c2
    refine (s8_gn _ sp dp X nx cx).mono ?_
    rintro e w5 ⟨rfl, hk⟩
    have HK' := Lib.hid (HK.out.trans hk)
    clear hk HK
    have HK := HK'
    clear HK'
    go_wp2_with (first | (refine lld_row (by rfl) (.tmp 3) _ _ rfl rfl (HRA.out _ HK.out) Try.underlying25 rfl szEcho ?_) | (refine lld_row (by rfl) (.tmp 4) _ _ rfl rfl (HRB.out _ HK.out) Try.underlying25 rfl szEcho ?_) | (refine lld_row (by rfl) (.tmp 5) _ _ rfl rfl (HRX.out _ HK.out) Try.underlying43 rfl szGram ?_))
    refine (s8_pp _ _ _).mono ?_
    rintro e w5 ⟨rfl, hk⟩
    have HK' := Lib.hid (HK.out.trans hk)
    clear hk HK
    have HK := HK'
    clear HK'
    go_wp2
    go_ret
    exact ⟨rfl, HK0.out.trans HK.out⟩

set_option maxRecDepth 100000 in
set_option maxHeartbeats 4000000 in
theorem same8_walk (w : World) (rp : Bool) (id sq : Nat) (A : Option Addr) (n c : Nat) (l : List UInt8) (rp' : Bool) (id' sq' : Nat) (B : Option Addr) (m k : Nat) (l' : List UInt8) (sp dp : Nat) (X : Option Addr) (nx cx : Nat) (lx : List UInt8) (_ha : id ≤ 65535 ∧ sq ≤ 65535) (hA : Rd w 0 A n l) (_hs : SlOk A n c) (_hb : id' ≤ 65535 ∧ sq' ≤ 65535) (hB : Rd w 0 B m l') (_hs2 : SlOk B m k) (_hc : sp ≤ 65535 ∧ dp ≤ 65535) (hX : Rd w 0 X nx lx) (_hs3 : SlOk X nx cx) :
    Calls Try.prog 7 #[.agg #[.bool rp, .int .u16 (id : Int), .int .u16 (sq : Int), .slice A n c], .agg #[.bool rp', .int .u16 (id' : Int), .int .u16 (sq' : Int), .slice B m k], .agg #[.int .u16 (sp : Int), .int .u16 (dp : Int), .slice X nx cx]] w fun e w' => e = .returned (.bool true) ∧ Kp w w' := by
  by_cases hall : ¬ 600 < n ∧ ¬ 600 < m ∧ ¬ 600 < nx
  · exact same8_main w rp id sq A n c l rp' id' sq' B m k l' sp dp X nx cx lx hA hB hX hall.1 hall.2.1 hall.2.2
  have hK0 : Kp w (((w.alloc (.cells #[.bool rp, .int .u16 (id : Int), .int .u16 (sq : Int), .slice A n c] 25)).alloc (.cells #[.bool rp', .int .u16 (id' : Int), .int .u16 (sq' : Int), .slice B m k] 25)).alloc (.cells #[.int .u16 (sp : Int), .int .u16 (dp : Int), .slice X nx cx] 43)) := (((Kp.refl w).alloc _).alloc _).alloc _
  have HK0 := Lib.hid hK0
  have HRR := Lib.hid (rowsS8 w rp id sq A n c rp' id' sq' B m k sp dp X nx cx)
  clear hK0 hA hB hX
  have hcase : 600 < n ∨ (¬ 600 < n ∧ 600 < m) ∨ (¬ 600 < n ∧ ¬ 600 < m ∧ 600 < nx) := by omega
  clear hall
  rcases hcase with i1 | ⟨i1, i2⟩ | ⟨i1, i2, i3⟩
  all_goals
    go_enter Try.func7, Try.ntmps7
    go_wp2_with (first | (go_at_call 10; refine (lives8_any _).mono ?_; rintro e w1 ⟨rfl, hk⟩; try have hcell : w1.cell? ⟨w.heap.size, 3, none⟩ = some (.slice A n c) := (cell_of_row w1 _ 3 _ _ _ (HRR.out _ hk).1).trans rfl; try have hcell2 : w1.cell? ⟨w.heap.size + 1, 3, none⟩ = some (.slice B m k) := (cell_of_row w1 _ 3 _ _ _ (HRR.out _ hk).2.1).trans rfl; try have hcell3 : w1.cell? ⟨w.heap.size + 1 + 1, 2, none⟩ = some (.slice X nx cx) := (cell_of_row w1 _ 2 _ _ _ (HRR.out _ hk).2.2).trans rfl))
    all_goals go_ret
    all_goals exact ⟨rfl, (HK0.out.trans (by assumption)).trans hk⟩
end Go.Proofs.Ytpjjanbcjkdciaa
