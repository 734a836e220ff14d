/-
  The contract of the document's BuildArp.
-/
import Derived.Test.YtdibmeapflhhaaaArp5a
import Derived.Test.YtdibmeapflhhaaaStable
namespace Go.Proofs.Ytdibmeapflhhaaa
open Go.RowKit

theorem arpHead (op : Int) (h : op = 1 ∨ op = 2) : (#[.int .u8 0, .int .u8 1, .int .u8 8, .int .u8 0, .int .u8 6, .int .u8 4, .int .u8 0, .int .u8 op] : Array Value) = (bvs [0, 1, 8, 0, 6, 4, 0, UInt8.ofNat op.toNat]).toArray := by
  rcases h with rfl | rfl <;> rfl

set_option maxHeartbeats 1000000 in
theorem rbarp_no (w : World) (op : Int) (a0 a1 a2 a3 a4 a5 b0 b1 b2 b3 c0 c1 c2 c3 c4 c5 d0 d1 d2 d3 : UInt8) (h1 : op ≠ 1) (h2 : op ≠ 2) :
    Calls Try.prog 29 #[.agg #[.int .i64 op, .int .u8 (a0.toNat : Int), .int .u8 (a1.toNat : Int), .int .u8 (a2.toNat : Int), .int .u8 (a3.toNat : Int), .int .u8 (a4.toNat : Int), .int .u8 (a5.toNat : Int), .int .u8 (b0.toNat : Int), .int .u8 (b1.toNat : Int), .int .u8 (b2.toNat : Int), .int .u8 (b3.toNat : Int), .int .u8 (c0.toNat : Int), .int .u8 (c1.toNat : Int), .int .u8 (c2.toNat : Int), .int .u8 (c3.toNat : Int), .int .u8 (c4.toNat : Int), .int .u8 (c5.toNat : Int), .int .u8 (d0.toNat : Int), .int .u8 (d1.toNat : Int), .int .u8 (d2.toNat : Int), .int .u8 (d3.toNat : Int)]] w fun e w' => e = .returned (.tuple #[.string (str []), .int .i64 1]) ∧ Kp w w' := by
  rcases (by omega : op < 1 ∨ (¬ op < 1 ∧ 2 < op)) with h | ⟨h, h'⟩
  · go_enter Try.func29, Try.ntmps29
    go_wp2
    go_ret2
    exact ⟨rfl, (Kp.refl _).alloc _⟩
  · go_enter Try.func29, Try.ntmps29
    go_wp2
    go_ret2
    exact ⟨rfl, (Kp.refl _).alloc _⟩

noncomputable def baphi (w : World) (op : Int) (a0 a1 a2 a3 a4 a5 b0 b1 b2 b3 c0 c1 c2 c3 c4 c5 d0 d1 d2 d3 : UInt8) : Nat → St := fun i => ([St.val (.pointer (some ⟨w.heap.size, 0, none⟩)),
  St.val (.int .i64 op),
  St.val (.int .u8 op),
  St.rd 8 [0, 1, 8, 0, 6, 4, 0, UInt8.ofNat op.toNat],
  St.val (.string (str [0, 1, 8, 0, 6, 4, 0, UInt8.ofNat op.toNat])),
  St.val (.pointer (some ⟨w.heap.size, 1, none⟩)),
  St.val (.agg #[.int .u8 (a0.toNat : Int), .int .u8 (a1.toNat : Int), .int .u8 (a2.toNat : Int), .int .u8 (a3.toNat : Int), .int .u8 (a4.toNat : Int), .int .u8 (a5.toNat : Int)]),
  St.val (.string (str [a0, a1, a2, a3, a4, a5])),
  St.val (.string (str ([0, 1, 8, 0, 6, 4, 0, UInt8.ofNat op.toNat] ++ [a0, a1, a2, a3, a4, a5]))),
  St.val (.pointer (some ⟨w.heap.size, 7, none⟩)),
  St.val (.agg #[.int .u8 (b0.toNat : Int), .int .u8 (b1.toNat : Int), .int .u8 (b2.toNat : Int), .int .u8 (b3.toNat : Int)]),
  St.val (.string (str [b0, b1, b2, b3])),
  St.val (.string (str ([0, 1, 8, 0, 6, 4, 0, UInt8.ofNat op.toNat] ++ [a0, a1, a2, a3, a4, a5] ++ [b0, b1, b2, b3]))),
  St.val (.pointer (some ⟨w.heap.size, 11, none⟩)),
  St.val (.agg #[.int .u8 (c0.toNat : Int), .int .u8 (c1.toNat : Int), .int .u8 (c2.toNat : Int), .int .u8 (c3.toNat : Int), .int .u8 (c4.toNat : Int), .int .u8 (c5.toNat : Int)]),
  St.val (.string (str [c0, c1, c2, c3, c4, c5])),
  St.val (.string (str ([0, 1, 8, 0, 6, 4, 0, UInt8.ofNat op.toNat] ++ [a0, a1, a2, a3, a4, a5] ++ [b0, b1, b2, b3] ++ [c0, c1, c2, c3, c4, c5]))),
  St.val (.pointer (some ⟨w.heap.size, 17, none⟩)),
  St.val (.agg #[.int .u8 (d0.toNat : Int), .int .u8 (d1.toNat : Int), .int .u8 (d2.toNat : Int), .int .u8 (d3.toNat : Int)]),
  St.val (.string (str [d0, d1, d2, d3])),
  St.val (.string (str ([0, 1, 8, 0, 6, 4, 0, UInt8.ofNat op.toNat] ++ [a0, a1, a2, a3, a4, a5] ++ [b0, b1, b2, b3] ++ [c0, c1, c2, c3, c4, c5] ++ [d0, d1, d2, d3]))),
  St.val (.string (str (arpBytes op [a0, a1, a2, a3, a4, a5] [b0, b1, b2, b3] [c0, c1, c2, c3, c4, c5] [d0, d1, d2, d3]))),
  St.val (.int .i64 0)] : List St).getD i St.any

set_option maxRecDepth 100000 in
set_option maxHeartbeats 2000000 in
theorem rbarp_ok (w : World) (op : Int) (a0 a1 a2 a3 a4 a5 b0 b1 b2 b3 c0 c1 c2 c3 c4 c5 d0 d1 d2 d3 : UInt8) (hop : op = 1 ∨ op = 2) :
    Calls Try.prog 29 #[.agg #[.int .i64 op, .int .u8 (a0.toNat : Int), .int .u8 (a1.toNat : Int), .int .u8 (a2.toNat : Int), .int .u8 (a3.toNat : Int), .int .u8 (a4.toNat : Int), .int .u8 (a5.toNat : Int), .int .u8 (b0.toNat : Int), .int .u8 (b1.toNat : Int), .int .u8 (b2.toNat : Int), .int .u8 (b3.toNat : Int), .int .u8 (c0.toNat : Int), .int .u8 (c1.toNat : Int), .int .u8 (c2.toNat : Int), .int .u8 (c3.toNat : Int), .int .u8 (c4.toNat : Int), .int .u8 (c5.toNat : Int), .int .u8 (d0.toNat : Int), .int .u8 (d1.toNat : Int), .int .u8 (d2.toNat : Int), .int .u8 (d3.toNat : Int)]] w fun e w' => e = .returned (.tuple #[.string (str (arpBytes op [a0, a1, a2, a3, a4, a5] [b0, b1, b2, b3] [c0, c1, c2, c3, c4, c5] [d0, d1, d2, d3])), .int .i64 0]) ∧ Kp w w' := by
  have KS : ∀ w' : World, Kp (w.alloc (.cells #[.int .i64 op, .int .u8 (a0.toNat : Int), .int .u8 (a1.toNat : Int), .int .u8 (a2.toNat : Int), .int .u8 (a3.toNat : Int), .int .u8 (a4.toNat : Int), .int .u8 (a5.toNat : Int), .int .u8 (b0.toNat : Int), .int .u8 (b1.toNat : Int), .int .u8 (b2.toNat : Int), .int .u8 (b3.toNat : Int), .int .u8 (c0.toNat : Int), .int .u8 (c1.toNat : Int), .int .u8 (c2.toNat : Int), .int .u8 (c3.toNat : Int), .int .u8 (c4.toNat : Int), .int .u8 (c5.toNat : Int), .int .u8 (d0.toNat : Int), .int .u8 (d1.toNat : Int), .int .u8 (d2.toNat : Int), .int .u8 (d3.toNat : Int)] 44)) w' → (w'.cell? ⟨w.heap.size, 0, none⟩ = some (.int .i64 op) ∧ w'.cell? ⟨w.heap.size, 1, none⟩ = some (.int .u8 (a0.toNat : Int)) ∧ w'.cell? ⟨w.heap.size, 2, none⟩ = some (.int .u8 (a1.toNat : Int)) ∧ w'.cell? ⟨w.heap.size, 3, none⟩ = some (.int .u8 (a2.toNat : Int)) ∧ w'.cell? ⟨w.heap.size, 4, none⟩ = some (.int .u8 (a3.toNat : Int)) ∧ w'.cell? ⟨w.heap.size, 5, none⟩ = some (.int .u8 (a4.toNat : Int)) ∧ w'.cell? ⟨w.heap.size, 6, none⟩ = some (.int .u8 (a5.toNat : Int)) ∧ w'.cell? ⟨w.heap.size, 7, none⟩ = some (.int .u8 (b0.toNat : Int)) ∧ w'.cell? ⟨w.heap.size, 8, none⟩ = some (.int .u8 (b1.toNat : Int)) ∧ w'.cell? ⟨w.heap.size, 9, none⟩ = some (.int .u8 (b2.toNat : Int)) ∧ w'.cell? ⟨w.heap.size, 10, none⟩ = some (.int .u8 (b3.toNat : Int)) ∧ w'.cell? ⟨w.heap.size, 11, none⟩ = some (.int .u8 (c0.toNat : Int)) ∧ w'.cell? ⟨w.heap.size, 12, none⟩ = some (.int .u8 (c1.toNat : Int)) ∧ w'.cell? ⟨w.heap.size, 13, none⟩ = some (.int .u8 (c2.toNat : Int)) ∧ w'.cell? ⟨w.heap.size, 14, none⟩ = some (.int .u8 (c3.toNat : Int)) ∧ w'.cell? ⟨w.heap.size, 15, none⟩ = some (.int .u8 (c4.toNat : Int)) ∧ w'.cell? ⟨w.heap.size, 16, none⟩ = some (.int .u8 (c5.toNat : Int)) ∧ w'.cell? ⟨w.heap.size, 17, none⟩ = some (.int .u8 (d0.toNat : Int)) ∧ w'.cell? ⟨w.heap.size, 18, none⟩ = some (.int .u8 (d1.toNat : Int)) ∧ w'.cell? ⟨w.heap.size, 19, none⟩ = some (.int .u8 (d2.toNat : Int)) ∧ w'.cell? ⟨w.heap.size, 20, none⟩ = some (.int .u8 (d3.toNat : Int))) := by
    intro w' hk
    refine ⟨?_, ?_, ?_, ?_, ?_, ?_, ?_, ?_, ?_, ?_, ?_, ?_, ?_, ?_, ?_, ?_, ?_, ?_, ?_, ?_, ?_⟩
    all_goals (refine hk.cell ?_; rw [cell_new]; rfl)
  have hw8 : IntKind.u8.wrap op = op := wrap_u8 (by omega) (by omega)
  have h1 : ¬ op < 1 := by omega
  have h2 : ¬ 2 < op := by omega
  have hap := str_append
  have hsz := str_size
  go_enter Try.func29, Try.ntmps29
  go_wp2
  refine wp_region_steps (by kernel_rfl) 23 (baphi w op a0 a1 a2 a3 a4 a5 b0 b1 b2 b3 c0 c1 c2 c3 c4 c5 d0 d1 d2 d3) [12, 13, 14, 15, 16, 17, 18, 19, 20, 21, 22, 23, 24, 25, 26, 27, 28, 29, 30, 31, 32, 2, 3] (by kernel_rfl) (by kernel_rfl) ⟨?_, ?_, ?_, ?_, ?_, ?_, ?_, ?_, ?_, ?_, ?_, ?_, ?_, ?_, ?_, ?_, ?_, ?_, ?_, ?_, ?_, ?_, ?_, trivial⟩ ?_
  · intro a W hW hO hφ K hK
    have q1 : a.tmps.getD 1 undef = (.pointer (some ⟨w.heap.size, 0, none⟩)) := hO 1 (by kernel_rfl)
    have r1 := q1
    rw [Array.getD_eq_getD_getElem?] at r1
    clear hO hφ
    clear KS
    go_simp
    exact hK _ _ (Kp.refl _) rfl
  · intro a W hW hO hφ K hK
    have q12 : a.tmps.getD 12 undef = (.pointer (some ⟨w.heap.size, 0, none⟩)) := hφ ⟨0, .data⟩ (by simp) rfl
    have r12 := q12
    rw [Array.getD_eq_getD_getElem?] at r12
    clear hO hφ
    obtain ⟨k0, k1, k2, k3, k4, k5, k6, k7, k8, k9, k10, k11, k12, k13, k14, k15, k16, k17, k18, k19, k20⟩ := KS W (Kp.trans ((Kp.refl _).drew) hW)
    clear KS
    go_simp
    exact hK _ _ (Kp.refl _) rfl
  · intro a W hW hO hφ K hK
    have q13 : a.tmps.getD 13 undef = (.int .i64 op) := hφ ⟨1, .data⟩ (by simp) rfl
    have r13 := q13
    rw [Array.getD_eq_getD_getElem?] at r13
    clear hO hφ
    clear KS
    go_simp
    exact hK _ _ (Kp.refl _) rfl
  · intro a W hW hO hφ K hK
    have q14 : a.tmps.getD 14 undef = (.int .u8 op) := hφ ⟨2, .data⟩ (by simp) rfl
    have r14 := q14
    rw [Array.getD_eq_getD_getElem?] at r14
    clear hO hφ
    clear KS
    go_simp
    exact hK _ _ ((Kp.refl _).alloc _) ⟨_, _, rfl, rd_lit rfl (Nat.zero_le _) rfl (arpHead op hop)⟩
  · intro a W hW hO hφ K hK
    have q15 : (St.rd 8 [0, 1, 8, 0, 6, 4, 0, UInt8.ofNat op.toNat]).p (a.tmps.getD 15 undef) W := hφ ⟨3, .data⟩ (by simp) rfl
    clear hO hφ
    clear KS
    obtain ⟨A1, c1, q15', hr⟩ := q15
    have cv := conv_str (P := Try.prog) (c := c1) Try.underlying25 Try.underlying5 Try.underlying9 hr
    go_simp
    exact hK _ _ (Kp.refl _) rfl
  · intro a W hW hO hφ K hK
    have q1 : a.tmps.getD 1 undef = (.pointer (some ⟨w.heap.size, 0, none⟩)) := hO 1 (by kernel_rfl)
    have r1 := q1
    rw [Array.getD_eq_getD_getElem?] at r1
    clear hO hφ
    clear KS
    go_simp
    exact hK _ _ (Kp.refl _) rfl
  · intro a W hW hO hφ K hK
    have q17 : a.tmps.getD 17 undef = (.pointer (some ⟨w.heap.size, 1, none⟩)) := hφ ⟨5, .data⟩ (by simp) rfl
    have r17 := q17
    rw [Array.getD_eq_getD_getElem?] at r17
    clear hO hφ
    obtain ⟨k0, k1, k2, k3, k4, k5, k6, k7, k8, k9, k10, k11, k12, k13, k14, k15, k16, k17, k18, k19, k20⟩ := KS W (Kp.trans ((Kp.refl _).drew) hW)
    clear KS
    go_simp
    exact hK _ _ (Kp.refl _) rfl
  · intro a W hW hO hφ K hK
    have q18 : a.tmps.getD 18 undef = (.agg #[.int .u8 (a0.toNat : Int), .int .u8 (a1.toNat : Int), .int .u8 (a2.toNat : Int), .int .u8 (a3.toNat : Int), .int .u8 (a4.toNat : Int), .int .u8 (a5.toNat : Int)]) := hφ ⟨6, .data⟩ (by simp) rfl
    have r18 := q18
    rw [Array.getD_eq_getD_getElem?] at r18
    clear hO hφ
    clear KS
    go_simp
    go_at_call 32
    refine (card_any _ _ _ _ _ _ _).mono ?_
    rintro e w' ⟨rfl, hk⟩
    exact hK _ _ hk rfl
  · intro a W hW hO hφ K hK
    have q16 : a.tmps.getD 16 undef = (.string (str [0, 1, 8, 0, 6, 4, 0, UInt8.ofNat op.toNat])) := hφ ⟨4, .data⟩ (by simp) rfl
    have q19 : a.tmps.getD 19 undef = (.string (str [a0, a1, a2, a3, a4, a5])) := hφ ⟨7, .data⟩ (by simp) rfl
    have r16 := q16
    rw [Array.getD_eq_getD_getElem?] at r16
    have r19 := q19
    rw [Array.getD_eq_getD_getElem?] at r19
    clear hO hφ
    clear KS
    go_simp
    exact hK _ _ (Kp.refl _) rfl
  · intro a W hW hO hφ K hK
    have q1 : a.tmps.getD 1 undef = (.pointer (some ⟨w.heap.size, 0, none⟩)) := hO 1 (by kernel_rfl)
    have r1 := q1
    rw [Array.getD_eq_getD_getElem?] at r1
    clear hO hφ
    clear KS
    go_simp
    exact hK _ _ (Kp.refl _) rfl
  · intro a W hW hO hφ K hK
    have q21 : a.tmps.getD 21 undef = (.pointer (some ⟨w.heap.size, 7, none⟩)) := hφ ⟨9, .data⟩ (by simp) rfl
    have r21 := q21
    rw [Array.getD_eq_getD_getElem?] at r21
    clear hO hφ
    obtain ⟨k0, k1, k2, k3, k4, k5, k6, k7, k8, k9, k10, k11, k12, k13, k14, k15, k16, k17, k18, k19, k20⟩ := KS W (Kp.trans ((Kp.refl _).drew) hW)
    clear KS
    go_simp
    exact hK _ _ (Kp.refl _) rfl
  · intro a W hW hO hφ K hK
    have q22 : a.tmps.getD 22 undef = (.agg #[.int .u8 (b0.toNat : Int), .int .u8 (b1.toNat : Int), .int .u8 (b2.toNat : Int), .int .u8 (b3.toNat : Int)]) := hφ ⟨10, .data⟩ (by simp) rfl
    have r22 := q22
    rw [Array.getD_eq_getD_getElem?] at r22
    clear hO hφ
    clear KS
    go_simp
    go_at_call 43
    refine (host_any _ _ _ _ _).mono ?_
    rintro e w' ⟨rfl, hk⟩
    exact hK _ _ hk rfl
  · intro a W hW hO hφ K hK
    have q20 : a.tmps.getD 20 undef = (.string (str ([0, 1, 8, 0, 6, 4, 0, UInt8.ofNat op.toNat] ++ [a0, a1, a2, a3, a4, a5]))) := hφ ⟨8, .data⟩ (by simp) rfl
    have q23 : a.tmps.getD 23 undef = (.string (str [b0, b1, b2, b3])) := hφ ⟨11, .data⟩ (by simp) rfl
    have r20 := q20
    rw [Array.getD_eq_getD_getElem?] at r20
    have r23 := q23
    rw [Array.getD_eq_getD_getElem?] at r23
    clear hO hφ
    clear KS
    go_simp
    exact hK _ _ (Kp.refl _) rfl
  · intro a W hW hO hφ K hK
    have q1 : a.tmps.getD 1 undef = (.pointer (some ⟨w.heap.size, 0, none⟩)) := hO 1 (by kernel_rfl)
    have r1 := q1
    rw [Array.getD_eq_getD_getElem?] at r1
    clear hO hφ
    clear KS
    go_simp
    exact hK _ _ (Kp.refl _) rfl
  · intro a W hW hO hφ K hK
    have q25 : a.tmps.getD 25 undef = (.pointer (some ⟨w.heap.size, 11, none⟩)) := hφ ⟨13, .data⟩ (by simp) rfl
    have r25 := q25
    rw [Array.getD_eq_getD_getElem?] at r25
    clear hO hφ
    obtain ⟨k0, k1, k2, k3, k4, k5, k6, k7, k8, k9, k10, k11, k12, k13, k14, k15, k16, k17, k18, k19, k20⟩ := KS W (Kp.trans ((Kp.refl _).drew) hW)
    clear KS
    go_simp
    exact hK _ _ (Kp.refl _) rfl
  · intro a W hW hO hφ K hK
    have q26 : a.tmps.getD 26 undef = (.agg #[.int .u8 (c0.toNat : Int), .int .u8 (c1.toNat : Int), .int .u8 (c2.toNat : Int), .int .u8 (c3.toNat : Int), .int .u8 (c4.toNat : Int), .int .u8 (c5.toNat : Int)]) := hφ ⟨14, .data⟩ (by simp) rfl
    have r26 := q26
    rw [Array.getD_eq_getD_getElem?] at r26
    clear hO hφ
    clear KS
    go_simp
    go_at_call 32
    refine (card_any _ _ _ _ _ _ _).mono ?_
    rintro e w' ⟨rfl, hk⟩
    exact hK _ _ hk rfl
  · intro a W hW hO hφ K hK
    have q24 : a.tmps.getD 24 undef = (.string (str ([0, 1, 8, 0, 6, 4, 0, UInt8.ofNat op.toNat] ++ [a0, a1, a2, a3, a4, a5] ++ [b0, b1, b2, b3]))) := hφ ⟨12, .data⟩ (by simp) rfl
    have q27 : a.tmps.getD 27 undef = (.string (str [c0, c1, c2, c3, c4, c5])) := hφ ⟨15, .data⟩ (by simp) rfl
    have r24 := q24
    rw [Array.getD_eq_getD_getElem?] at r24
    have r27 := q27
    rw [Array.getD_eq_getD_getElem?] at r27
    clear hO hφ
    clear KS
    go_simp
    exact hK _ _ (Kp.refl _) rfl
  · intro a W hW hO hφ K hK
    have q1 : a.tmps.getD 1 undef = (.pointer (some ⟨w.heap.size, 0, none⟩)) := hO 1 (by kernel_rfl)
    have r1 := q1
    rw [Array.getD_eq_getD_getElem?] at r1
    clear hO hφ
    clear KS
    go_simp
    exact hK _ _ (Kp.refl _) rfl
  · intro a W hW hO hφ K hK
    have q29 : a.tmps.getD 29 undef = (.pointer (some ⟨w.heap.size, 17, none⟩)) := hφ ⟨17, .data⟩ (by simp) rfl
    have r29 := q29
    rw [Array.getD_eq_getD_getElem?] at r29
    clear hO hφ
    obtain ⟨k0, k1, k2, k3, k4, k5, k6, k7, k8, k9, k10, k11, k12, k13, k14, k15, k16, k17, k18, k19, k20⟩ := KS W (Kp.trans ((Kp.refl _).drew) hW)
    clear KS
    go_simp
    exact hK _ _ (Kp.refl _) rfl
  · intro a W hW hO hφ K hK
    have q30 : a.tmps.getD 30 undef = (.agg #[.int .u8 (d0.toNat : Int), .int .u8 (d1.toNat : Int), .int .u8 (d2.toNat : Int), .int .u8 (d3.toNat : Int)]) := hφ ⟨18, .data⟩ (by simp) rfl
    have r30 := q30
    rw [Array.getD_eq_getD_getElem?] at r30
    clear hO hφ
    clear KS
    go_simp
    go_at_call 43
    refine (host_any _ _ _ _ _).mono ?_
    rintro e w' ⟨rfl, hk⟩
    exact hK _ _ hk rfl
  · intro a W hW hO hφ K hK
    have q28 : a.tmps.getD 28 undef = (.string (str ([0, 1, 8, 0, 6, 4, 0, UInt8.ofNat op.toNat] ++ [a0, a1, a2, a3, a4, a5] ++ [b0, b1, b2, b3] ++ [c0, c1, c2, c3, c4, c5]))) := hφ ⟨16, .data⟩ (by simp) rfl
    have q31 : a.tmps.getD 31 undef = (.string (str [d0, d1, d2, d3])) := hφ ⟨19, .data⟩ (by simp) rfl
    have r28 := q28
    rw [Array.getD_eq_getD_getElem?] at r28
    have r31 := q31
    rw [Array.getD_eq_getD_getElem?] at r31
    clear hO hφ
    clear KS
    go_simp
    exact hK _ _ (Kp.refl _) rfl
  · intro a W hW hO hφ K hK
    have q32 : a.tmps.getD 32 undef = (.string (str ([0, 1, 8, 0, 6, 4, 0, UInt8.ofNat op.toNat] ++ [a0, a1, a2, a3, a4, a5] ++ [b0, b1, b2, b3] ++ [c0, c1, c2, c3, c4, c5] ++ [d0, d1, d2, d3]))) := hφ ⟨20, .data⟩ (by simp) rfl
    have r32 := q32
    rw [Array.getD_eq_getD_getElem?] at r32
    clear hO hφ
    clear KS
    go_simp
    exact hK _ _ (Kp.refl _) rfl
  · intro a W hW hO hφ K hK
    clear hO hφ
    clear KS
    go_simp
    exact hK _ _ (Kp.refl _) rfl
  intro f W hW hφ
  have v0 : f 0 = (.pointer (some ⟨w.heap.size, 0, none⟩)) := hφ 0 (by omega)
  have v1 : f 1 = (.int .i64 op) := hφ 1 (by omega)
  have v2 : f 2 = (.int .u8 op) := hφ 2 (by omega)
  have v3 : (St.rd 8 [0, 1, 8, 0, 6, 4, 0, UInt8.ofNat op.toNat]).p (f 3) W := hφ 3 (by omega)
  have v4 : f 4 = (.string (str [0, 1, 8, 0, 6, 4, 0, UInt8.ofNat op.toNat])) := hφ 4 (by omega)
  have v5 : f 5 = (.pointer (some ⟨w.heap.size, 1, none⟩)) := hφ 5 (by omega)
  have v6 : f 6 = (.agg #[.int .u8 (a0.toNat : Int), .int .u8 (a1.toNat : Int), .int .u8 (a2.toNat : Int), .int .u8 (a3.toNat : Int), .int .u8 (a4.toNat : Int), .int .u8 (a5.toNat : Int)]) := hφ 6 (by omega)
  have v7 : f 7 = (.string (str [a0, a1, a2, a3, a4, a5])) := hφ 7 (by omega)
  have v8 : f 8 = (.string (str ([0, 1, 8, 0, 6, 4, 0, UInt8.ofNat op.toNat] ++ [a0, a1, a2, a3, a4, a5]))) := hφ 8 (by omega)
  have v9 : f 9 = (.pointer (some ⟨w.heap.size, 7, none⟩)) := hφ 9 (by omega)
  have v10 : f 10 = (.agg #[.int .u8 (b0.toNat : Int), .int .u8 (b1.toNat : Int), .int .u8 (b2.toNat : Int), .int .u8 (b3.toNat : Int)]) := hφ 10 (by omega)
  have v11 : f 11 = (.string (str [b0, b1, b2, b3])) := hφ 11 (by omega)
  have v12 : f 12 = (.string (str ([0, 1, 8, 0, 6, 4, 0, UInt8.ofNat op.toNat] ++ [a0, a1, a2, a3, a4, a5] ++ [b0, b1, b2, b3]))) := hφ 12 (by omega)
  have v13 : f 13 = (.pointer (some ⟨w.heap.size, 11, none⟩)) := hφ 13 (by omega)
  have v14 : f 14 = (.agg #[.int .u8 (c0.toNat : Int), .int .u8 (c1.toNat : Int), .int .u8 (c2.toNat : Int), .int .u8 (c3.toNat : Int), .int .u8 (c4.toNat : Int), .int .u8 (c5.toNat : Int)]) := hφ 14 (by omega)
  have v15 : f 15 = (.string (str [c0, c1, c2, c3, c4, c5])) := hφ 15 (by omega)
  have v16 : f 16 = (.string (str ([0, 1, 8, 0, 6, 4, 0, UInt8.ofNat op.toNat] ++ [a0, a1, a2, a3, a4, a5] ++ [b0, b1, b2, b3] ++ [c0, c1, c2, c3, c4, c5]))) := hφ 16 (by omega)
  have v17 : f 17 = (.pointer (some ⟨w.heap.size, 17, none⟩)) := hφ 17 (by omega)
  have v18 : f 18 = (.agg #[.int .u8 (d0.toNat : Int), .int .u8 (d1.toNat : Int), .int .u8 (d2.toNat : Int), .int .u8 (d3.toNat : Int)]) := hφ 18 (by omega)
  have v19 : f 19 = (.string (str [d0, d1, d2, d3])) := hφ 19 (by omega)
  have v20 : f 20 = (.string (str ([0, 1, 8, 0, 6, 4, 0, UInt8.ofNat op.toNat] ++ [a0, a1, a2, a3, a4, a5] ++ [b0, b1, b2, b3] ++ [c0, c1, c2, c3, c4, c5] ++ [d0, d1, d2, d3]))) := hφ 20 (by omega)
  have v21 : f 21 = (.string (str (arpBytes op [a0, a1, a2, a3, a4, a5] [b0, b1, b2, b3] [c0, c1, c2, c3, c4, c5] [d0, d1, d2, d3]))) := hφ 21 (by omega)
  have v22 : f 22 = (.int .i64 0) := hφ 22 (by omega)
  clear hφ
  simp only [putAll, List.setIfInBounds_toArray, List.set_cons_succ, List.set_cons_zero, v0, v1, v2, v4, v5, v6, v7, v8, v9, v10, v11, v12, v13, v14, v15, v16, v17, v18, v19, v20, v21, v22]
  clear v0 v1 v2 v4 v5 v6 v7 v8 v9 v10 v11 v12 v13 v14 v15 v16 v17 v18 v19 v20 v21 v22
  refine wpAny_done (by kernel_rfl) ?_ _
  go_wp2
  go_ret2
  exact ⟨rfl, ((Kp.refl w).alloc _).trans (Kp.trans ((Kp.refl _).drew) hW)⟩
end Go.Proofs.Ytdibmeapflhhaaa
