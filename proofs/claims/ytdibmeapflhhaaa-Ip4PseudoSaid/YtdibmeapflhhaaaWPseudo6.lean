/-
  The walk of Ip4Pseudo: it returns true and leaves what was there as it was.
-/
import Derived.Test.YtdibmeapflhhaaaI6a
import Derived.Test.YtdibmeapflhhaaaLives6
import Derived.Test.YtdibmeapflhhaaaRow
import Derived.BigRegion
namespace Go.Proofs.Ytdibmeapflhhaaa
open Go.RowKit

/-- two new blocks of four bytes -/
theorem cells8 (w : World) (X : Obj) (a0 a1 a2 a3 b0 b1 b2 b3 : UInt8) (w' : World) (hk : Kp (((w.alloc X).alloc (.cells #[.int .u8 (a0.toNat : Int), .int .u8 (a1.toNat : Int), .int .u8 (a2.toNat : Int), .int .u8 (a3.toNat : Int)] 42)).alloc (.cells #[.int .u8 (b0.toNat : Int), .int .u8 (b1.toNat : Int), .int .u8 (b2.toNat : Int), .int .u8 (b3.toNat : Int)] 42)).drew w') :
    (w'.cell? ⟨w.heap.size + 1, 0, none⟩ = some (.int .u8 (a0.toNat : Int)) ∧ w'.cell? ⟨w.heap.size + 1, 1, none⟩ = some (.int .u8 (a1.toNat : Int)) ∧ w'.cell? ⟨w.heap.size + 1, 2, none⟩ = some (.int .u8 (a2.toNat : Int)) ∧ w'.cell? ⟨w.heap.size + 1, 3, none⟩ = some (.int .u8 (a3.toNat : Int))) ∧
      (w'.cell? ⟨w.heap.size + 1 + 1, 0, none⟩ = some (.int .u8 (b0.toNat : Int)) ∧ w'.cell? ⟨w.heap.size + 1 + 1, 1, none⟩ = some (.int .u8 (b1.toNat : Int)) ∧ w'.cell? ⟨w.heap.size + 1 + 1, 2, none⟩ = some (.int .u8 (b2.toNat : Int)) ∧ w'.cell? ⟨w.heap.size + 1 + 1, 3, none⟩ = some (.int .u8 (b3.toNat : Int))) := by
  have h2 : Kp (((w.alloc X).alloc (.cells #[.int .u8 (a0.toNat : Int), .int .u8 (a1.toNat : Int), .int .u8 (a2.toNat : Int), .int .u8 (a3.toNat : Int)] 42)).alloc (.cells #[.int .u8 (b0.toNat : Int), .int .u8 (b1.toNat : Int), .int .u8 (b2.toNat : Int), .int .u8 (b3.toNat : Int)] 42)) w' := Kp.trans ((Kp.refl _).drew) hk
  have h1 : Kp ((w.alloc X).alloc (.cells #[.int .u8 (a0.toNat : Int), .int .u8 (a1.toNat : Int), .int .u8 (a2.toNat : Int), .int .u8 (a3.toNat : Int)] 42)) w' := ((Kp.refl _).alloc _).trans h2
  have e1 : (w.alloc X).heap.size = w.heap.size + 1 := by simp
  have e2 : ((w.alloc X).alloc (.cells #[.int .u8 (a0.toNat : Int), .int .u8 (a1.toNat : Int), .int .u8 (a2.toNat : Int), .int .u8 (a3.toNat : Int)] 42)).heap.size = w.heap.size + 1 + 1 := by simp
  refine ⟨⟨?_, ?_, ?_, ?_⟩, ⟨?_, ?_, ?_, ?_⟩⟩
  · refine h1.cell ?_; rw [← e1, cell_new]; rfl
  · refine h1.cell ?_; rw [← e1, cell_new]; rfl
  · refine h1.cell ?_; rw [← e1, cell_new]; rfl
  · refine h1.cell ?_; rw [← e1, cell_new]; rfl
  · refine h2.cell ?_; rw [← e2, cell_new]; rfl
  · refine h2.cell ?_; rw [← e2, cell_new]; rfl
  · refine h2.cell ?_; rw [← e2, cell_new]; rfl
  · refine h2.cell ?_; rw [← e2, cell_new]; rfl

noncomputable def ps6phi (a0 a1 a2 a3 b0 b1 b2 b3 p : UInt8) (m : Nat) : Nat → St := fun i => ([St.val (.agg #[.int .u8 (a0.toNat : Int), .int .u8 (a1.toNat : Int), .int .u8 (a2.toNat : Int), .int .u8 (a3.toNat : Int)]),
  St.val (.agg #[.int .u8 (b0.toNat : Int), .int .u8 (b1.toNat : Int), .int .u8 (b2.toNat : Int), .int .u8 (b3.toNat : Int)]),
  St.val (.int .u8 (p.toNat : Int)),
  St.val (.int .i64 (m : Int)),
  St.rd 12 (pseudo [a0, a1, a2, a3] [b0, b1, b2, b3] p m),
  St.val (.string (str (pseudo [a0, a1, a2, a3] [b0, b1, b2, b3] p m))),
  St.val (.agg #[.int .u8 (a0.toNat : Int), .int .u8 (a1.toNat : Int), .int .u8 (a2.toNat : Int), .int .u8 (a3.toNat : Int)]),
  St.val (.agg #[.int .u8 (b0.toNat : Int), .int .u8 (b1.toNat : Int), .int .u8 (b2.toNat : Int), .int .u8 (b3.toNat : Int)]),
  St.val (.int .u8 (p.toNat : Int)),
  St.val (.int .i64 (m : Int)),
  St.val (.string (str (pseudo [a0, a1, a2, a3] [b0, b1, b2, b3] p m))),
  St.val (.bool true),
  St.val (.bool true)] : List St).getD i St.any

set_option maxRecDepth 100000 in
set_option maxHeartbeats 4000000 in
theorem pseudo6_walk (w : World) (a0 a1 a2 a3 b0 b1 b2 b3 p : UInt8) (n : Int) :
    Calls Try.prog 13 #[.agg #[.int .u8 (a0.toNat : Int), .int .u8 (a1.toNat : Int), .int .u8 (a2.toNat : Int), .int .u8 (a3.toNat : Int), .int .u8 (b0.toNat : Int), .int .u8 (b1.toNat : Int), .int .u8 (b2.toNat : Int), .int .u8 (b3.toNat : Int)], .int .u8 (p.toNat : Int), .int .i64 n] w fun e w' => e = .returned (.bool true) ∧ Kp w w' := by
  have K3 : Kp w (((w.alloc (.cells #[.int .u8 (a0.toNat : Int), .int .u8 (a1.toNat : Int), .int .u8 (a2.toNat : Int), .int .u8 (a3.toNat : Int), .int .u8 (b0.toNat : Int), .int .u8 (b1.toNat : Int), .int .u8 (b2.toNat : Int), .int .u8 (b3.toNat : Int)] 67)).alloc (.cells #[.int .u8 (a0.toNat : Int), .int .u8 (a1.toNat : Int), .int .u8 (a2.toNat : Int), .int .u8 (a3.toNat : Int)] 42)).alloc (.cells #[.int .u8 (b0.toNat : Int), .int .u8 (b1.toNat : Int), .int .u8 (b2.toNat : Int), .int .u8 (b3.toNat : Int)] 42)).drew := ((((Kp.refl w).alloc _).alloc _).alloc _).drew
  have K3' : Kp w (((w.alloc (.cells #[.int .u8 (a0.toNat : Int), .int .u8 (a1.toNat : Int), .int .u8 (a2.toNat : Int), .int .u8 (a3.toNat : Int), .int .u8 (b0.toNat : Int), .int .u8 (b1.toNat : Int), .int .u8 (b2.toNat : Int), .int .u8 (b3.toNat : Int)] 67)).alloc (.cells #[.int .u8 (b0.toNat : Int), .int .u8 (b1.toNat : Int), .int .u8 (b2.toNat : Int), .int .u8 (b3.toNat : Int)] 42)).alloc (.cells #[.int .u8 (a0.toNat : Int), .int .u8 (a1.toNat : Int), .int .u8 (a2.toNat : Int), .int .u8 (a3.toNat : Int)] 42)).drew := ((((Kp.refl w).alloc _).alloc _).alloc _).drew
  have HKA := Lib.hid K3
  have HKB := Lib.hid K3'
  clear K3 K3'
  have hwrap : ∃ u : Nat, IntKind.u64.wrap n = (u : Int) := ⟨(IntKind.u64.wrap n).toNat, by
    have : 0 ≤ IntKind.u64.wrap n := by simp only [IntKind.wrap, IntKind.bits, IntKind.signed]; simp; omega
    omega⟩
  obtain ⟨u, hu⟩ := hwrap
  have hu2 : (u : Int).tmod 1048576 = ((u % 1048576 : Nat) : Int) := by rw [Int.tmod_eq_emod_of_nonneg (by omega)]; omega
  obtain ⟨m, hm⟩ : ∃ m, u % 1048576 = m := ⟨_, rfl⟩
  have hm2 : m < 1048576 := by omega
  rw [hm] at hu2
  clear hm
  have wi : wrap64 (m : Int) = (m : Int) := by unfold wrap64; omega
  go_enter Try.func13, Try.ntmps13
  go_wp2_with fail
  go_region
  · have KS := cells8 w (.cells #[.int .u8 (a0.toNat : Int), .int .u8 (a1.toNat : Int), .int .u8 (a2.toNat : Int), .int .u8 (a3.toNat : Int), .int .u8 (b0.toNat : Int), .int .u8 (b1.toNat : Int), .int .u8 (b2.toNat : Int), .int .u8 (b3.toNat : Int)] 67) a0 a1 a2 a3 b0 b1 b2 b3
    generalize (((w.alloc (.cells #[.int .u8 (a0.toNat : Int), .int .u8 (a1.toNat : Int), .int .u8 (a2.toNat : Int), .int .u8 (a3.toNat : Int), .int .u8 (b0.toNat : Int), .int .u8 (b1.toNat : Int), .int .u8 (b2.toNat : Int), .int .u8 (b3.toNat : Int)] 67)).alloc (.cells #[.int .u8 (a0.toNat : Int), .int .u8 (a1.toNat : Int), .int .u8 (a2.toNat : Int), .int .u8 (a3.toNat : Int)] 42)).alloc (.cells #[.int .u8 (b0.toNat : Int), .int .u8 (b1.toNat : Int), .int .u8 (b2.toNat : Int), .int .u8 (b3.toNat : Int)] 42)).drew = w3 at *
    generalize w.heap.size + 1 + 1 = g2 at *
    generalize w.heap.size + 1 = g1 at *
    clear HKB
    go_wp2_with fail
    refine (lives6_any _).mono ?_
    rintro e w4 ⟨rfl, hk4⟩
    have HK4 := Lib.hid hk4
    clear hk4
    go_wp2_with fail
    refine wp_region_steps (by kernel_rfl) 13 (ps6phi a0 a1 a2 a3 b0 b1 b2 b3 p m) [19, 20, 21, 22, 23, 24, 25, 26, 27, 28, 29, 30, 6] (by kernel_rfl) (by kernel_rfl) ⟨?_, ?_, ?_, ?_, ?_, ?_, ?_, ?_, ?_, ?_, ?_, ?_, ?_, trivial⟩ ?_
    · intro a W hW hO hφ K hK
      have q7 : a.tmps.getD 7 undef = (.pointer (some ⟨g1, 0, none⟩)) := hO 7 (by kernel_rfl)
      have r7 := q7
      rw [Array.getD_eq_getD_getElem?] at r7
      clear hO hφ
      obtain ⟨⟨k0, k1, k2, k3⟩, k4, k5, k6, k7⟩ := KS W (HK4.out.trans (Kp.trans ((Kp.refl _).drew) hW))
      clear KS
      go_simp
      exact hK _ _ (Kp.refl _) rfl
    · intro a W hW hO hφ K hK
      have q8 : a.tmps.getD 8 undef = (.pointer (some ⟨g2, 0, none⟩)) := hO 8 (by kernel_rfl)
      have r8 := q8
      rw [Array.getD_eq_getD_getElem?] at r8
      clear hO hφ
      obtain ⟨⟨k0, k1, k2, k3⟩, k4, k5, k6, k7⟩ := KS W (HK4.out.trans (Kp.trans ((Kp.refl _).drew) hW))
      clear KS
      go_simp
      exact hK _ _ (Kp.refl _) rfl
    · intro a W hW hO hφ K hK
      have q1 : a.tmps.getD 1 undef = (.int .u8 (p.toNat : Int)) := hO 1 (by kernel_rfl)
      have r1 := q1
      rw [Array.getD_eq_getD_getElem?] at r1
      clear hO hφ
      clear KS
      go_simp
      exact hK _ _ (Kp.refl _) rfl
    · intro a W hW hO hφ K hK
      have q2 : a.tmps.getD 2 undef = (.int .i64 (m : Int)) := hO 2 (by kernel_rfl)
      have r2 := q2
      rw [Array.getD_eq_getD_getElem?] at r2
      clear hO hφ
      clear KS
      go_simp
      exact hK _ _ (Kp.refl _) rfl
    · intro a W hW hO hφ K hK
      have q19 : a.tmps.getD 19 undef = (.agg #[.int .u8 (a0.toNat : Int), .int .u8 (a1.toNat : Int), .int .u8 (a2.toNat : Int), .int .u8 (a3.toNat : Int)]) := hφ ⟨0, .data⟩ (by simp) rfl
      have q20 : a.tmps.getD 20 undef = (.agg #[.int .u8 (b0.toNat : Int), .int .u8 (b1.toNat : Int), .int .u8 (b2.toNat : Int), .int .u8 (b3.toNat : Int)]) := hφ ⟨1, .data⟩ (by simp) rfl
      have q21 : a.tmps.getD 21 undef = (.int .u8 (p.toNat : Int)) := hφ ⟨2, .data⟩ (by simp) rfl
      have q22 : a.tmps.getD 22 undef = (.int .i64 (m : Int)) := hφ ⟨3, .data⟩ (by simp) rfl
      have r19 := q19
      rw [Array.getD_eq_getD_getElem?] at r19
      have r20 := q20
      rw [Array.getD_eq_getD_getElem?] at r20
      have r21 := q21
      rw [Array.getD_eq_getD_getElem?] at r21
      have r22 := q22
      rw [Array.getD_eq_getD_getElem?] at r22
      clear hO hφ
      clear KS
      go_simp
      go_at_call 30
      refine (pseudo_any _ a0 a1 a2 a3 b0 b1 b2 b3 p m (by omega)).mono ?_
      rintro e w' ⟨hk, g, cap, rfl, hown⟩
      exact hK _ _ hk ⟨_, _, rfl, hown.rd0⟩
    · intro a W hW hO hφ K hK
      have q23 : (St.rd 12 (pseudo [a0, a1, a2, a3] [b0, b1, b2, b3] p m)).p (a.tmps.getD 23 undef) W := hφ ⟨4, .data⟩ (by simp) rfl
      clear hO hφ
      clear KS
      obtain ⟨A1, c1, q23', hr⟩ := q23
      have cv := conv_str (P := Try.prog) (c := c1) Try.underlying25 Try.underlying5 Try.underlying9 hr
      go_simp
      exact hK _ _ (Kp.refl _) rfl
    · intro a W hW hO hφ K hK
      have q7 : a.tmps.getD 7 undef = (.pointer (some ⟨g1, 0, none⟩)) := hO 7 (by kernel_rfl)
      have r7 := q7
      rw [Array.getD_eq_getD_getElem?] at r7
      clear hO hφ
      obtain ⟨⟨k0, k1, k2, k3⟩, k4, k5, k6, k7⟩ := KS W (HK4.out.trans (Kp.trans ((Kp.refl _).drew) hW))
      clear KS
      go_simp
      exact hK _ _ (Kp.refl _) rfl
    · intro a W hW hO hφ K hK
      have q8 : a.tmps.getD 8 undef = (.pointer (some ⟨g2, 0, none⟩)) := hO 8 (by kernel_rfl)
      have r8 := q8
      rw [Array.getD_eq_getD_getElem?] at r8
      clear hO hφ
      obtain ⟨⟨k0, k1, k2, k3⟩, k4, k5, k6, k7⟩ := KS W (HK4.out.trans (Kp.trans ((Kp.refl _).drew) hW))
      clear KS
      go_simp
      exact hK _ _ (Kp.refl _) rfl
    · intro a W hW hO hφ K hK
      have q1 : a.tmps.getD 1 undef = (.int .u8 (p.toNat : Int)) := hO 1 (by kernel_rfl)
      have r1 := q1
      rw [Array.getD_eq_getD_getElem?] at r1
      clear hO hφ
      clear KS
      go_simp
      exact hK _ _ (Kp.refl _) rfl
    · intro a W hW hO hφ K hK
      have q2 : a.tmps.getD 2 undef = (.int .i64 (m : Int)) := hO 2 (by kernel_rfl)
      have r2 := q2
      rw [Array.getD_eq_getD_getElem?] at r2
      clear hO hφ
      clear KS
      go_simp
      exact hK _ _ (Kp.refl _) rfl
    · intro a W hW hO hφ K hK
      have q25 : a.tmps.getD 25 undef = (.agg #[.int .u8 (a0.toNat : Int), .int .u8 (a1.toNat : Int), .int .u8 (a2.toNat : Int), .int .u8 (a3.toNat : Int)]) := hφ ⟨6, .data⟩ (by simp) rfl
      have q26 : a.tmps.getD 26 undef = (.agg #[.int .u8 (b0.toNat : Int), .int .u8 (b1.toNat : Int), .int .u8 (b2.toNat : Int), .int .u8 (b3.toNat : Int)]) := hφ ⟨7, .data⟩ (by simp) rfl
      have q27 : a.tmps.getD 27 undef = (.int .u8 (p.toNat : Int)) := hφ ⟨8, .data⟩ (by simp) rfl
      have q28 : a.tmps.getD 28 undef = (.int .i64 (m : Int)) := hφ ⟨9, .data⟩ (by simp) rfl
      have r25 := q25
      rw [Array.getD_eq_getD_getElem?] at r25
      have r26 := q26
      rw [Array.getD_eq_getD_getElem?] at r26
      have r27 := q27
      rw [Array.getD_eq_getD_getElem?] at r27
      have r28 := q28
      rw [Array.getD_eq_getD_getElem?] at r28
      clear hO hφ
      clear KS
      go_simp
      go_at_call 31
      refine (rpseudo_any _ a0 a1 a2 a3 b0 b1 b2 b3 p m (by omega)).mono ?_
      rintro e w' ⟨rfl, hk⟩
      exact hK _ _ hk rfl
    · intro a W hW hO hφ K hK
      have q24 : a.tmps.getD 24 undef = (.string (str (pseudo [a0, a1, a2, a3] [b0, b1, b2, b3] p m))) := hφ ⟨5, .data⟩ (by simp) rfl
      have q29 : a.tmps.getD 29 undef = (.string (str (pseudo [a0, a1, a2, a3] [b0, b1, b2, b3] p m))) := hφ ⟨10, .data⟩ (by simp) rfl
      have r24 := q24
      rw [Array.getD_eq_getD_getElem?] at r24
      have r29 := q29
      rw [Array.getD_eq_getD_getElem?] at r29
      clear hO hφ
      clear KS
      go_simp
      exact hK _ _ (Kp.refl _) rfl
    · intro a W hW hO hφ K hK
      have q30 : a.tmps.getD 30 undef = (.bool true) := hφ ⟨11, .data⟩ (by simp) rfl
      have r30 := q30
      rw [Array.getD_eq_getD_getElem?] at r30
      clear hO hφ
      clear KS
      go_simp
      exact hK _ _ (Kp.refl _) rfl
    intro f W hW hφ
    have v0 : f 0 = (.agg #[.int .u8 (a0.toNat : Int), .int .u8 (a1.toNat : Int), .int .u8 (a2.toNat : Int), .int .u8 (a3.toNat : Int)]) := hφ 0 (by omega)
    have v1 : f 1 = (.agg #[.int .u8 (b0.toNat : Int), .int .u8 (b1.toNat : Int), .int .u8 (b2.toNat : Int), .int .u8 (b3.toNat : Int)]) := hφ 1 (by omega)
    have v2 : f 2 = (.int .u8 (p.toNat : Int)) := hφ 2 (by omega)
    have v3 : f 3 = (.int .i64 (m : Int)) := hφ 3 (by omega)
    have v4 : (St.rd 12 (pseudo [a0, a1, a2, a3] [b0, b1, b2, b3] p m)).p (f 4) W := hφ 4 (by omega)
    have v5 : f 5 = (.string (str (pseudo [a0, a1, a2, a3] [b0, b1, b2, b3] p m))) := hφ 5 (by omega)
    have v6 : f 6 = (.agg #[.int .u8 (a0.toNat : Int), .int .u8 (a1.toNat : Int), .int .u8 (a2.toNat : Int), .int .u8 (a3.toNat : Int)]) := hφ 6 (by omega)
    have v7 : f 7 = (.agg #[.int .u8 (b0.toNat : Int), .int .u8 (b1.toNat : Int), .int .u8 (b2.toNat : Int), .int .u8 (b3.toNat : Int)]) := hφ 7 (by omega)
    have v8 : f 8 = (.int .u8 (p.toNat : Int)) := hφ 8 (by omega)
    have v9 : f 9 = (.int .i64 (m : Int)) := hφ 9 (by omega)
    have v10 : f 10 = (.string (str (pseudo [a0, a1, a2, a3] [b0, b1, b2, b3] p m))) := hφ 10 (by omega)
    have v11 : f 11 = (.bool true) := hφ 11 (by omega)
    have v12 : f 12 = (.bool true) := hφ 12 (by omega)
    clear hφ
    simp only [putAll, List.setIfInBounds_toArray, List.set_cons_succ, List.set_cons_zero, v0, v1, v2, v3, v5, v6, v7, v8, v9, v10, v11, v12]
    clear v0 v1 v2 v3 v5 v6 v7 v8 v9 v10 v11 v12
    refine wpAny_done (by kernel_rfl) ?_ _
    go_wp2
    go_ret
    exact ⟨rfl, HKA.out.trans (HK4.out.trans (Kp.trans ((Kp.refl _).drew) hW))⟩
  · have KS := fun w' hk => (cells8 w (.cells #[.int .u8 (a0.toNat : Int), .int .u8 (a1.toNat : Int), .int .u8 (a2.toNat : Int), .int .u8 (a3.toNat : Int), .int .u8 (b0.toNat : Int), .int .u8 (b1.toNat : Int), .int .u8 (b2.toNat : Int), .int .u8 (b3.toNat : Int)] 67) b0 b1 b2 b3 a0 a1 a2 a3 w' hk).symm
    generalize (((w.alloc (.cells #[.int .u8 (a0.toNat : Int), .int .u8 (a1.toNat : Int), .int .u8 (a2.toNat : Int), .int .u8 (a3.toNat : Int), .int .u8 (b0.toNat : Int), .int .u8 (b1.toNat : Int), .int .u8 (b2.toNat : Int), .int .u8 (b3.toNat : Int)] 67)).alloc (.cells #[.int .u8 (b0.toNat : Int), .int .u8 (b1.toNat : Int), .int .u8 (b2.toNat : Int), .int .u8 (b3.toNat : Int)] 42)).alloc (.cells #[.int .u8 (a0.toNat : Int), .int .u8 (a1.toNat : Int), .int .u8 (a2.toNat : Int), .int .u8 (a3.toNat : Int)] 42)).drew = w3 at *
    generalize w.heap.size + 1 + 1 = g1 at *
    generalize w.heap.size + 1 = g2 at *
    clear HKA
    go_wp2_with fail
    refine (lives6_any _).mono ?_
    rintro e w4 ⟨rfl, hk4⟩
    have HK4 := Lib.hid hk4
    clear hk4
    go_wp2_with fail
    refine wp_region_steps (by kernel_rfl) 13 (ps6phi a0 a1 a2 a3 b0 b1 b2 b3 p m) [19, 20, 21, 22, 23, 24, 25, 26, 27, 28, 29, 30, 6] (by kernel_rfl) (by kernel_rfl) ⟨?_, ?_, ?_, ?_, ?_, ?_, ?_, ?_, ?_, ?_, ?_, ?_, ?_, trivial⟩ ?_
    · intro a W hW hO hφ K hK
      have q7 : a.tmps.getD 7 undef = (.pointer (some ⟨g1, 0, none⟩)) := hO 7 (by kernel_rfl)
      have r7 := q7
      rw [Array.getD_eq_getD_getElem?] at r7
      clear hO hφ
      obtain ⟨⟨k0, k1, k2, k3⟩, k4, k5, k6, k7⟩ := KS W (HK4.out.trans (Kp.trans ((Kp.refl _).drew) hW))
      clear KS
      go_simp
      exact hK _ _ (Kp.refl _) rfl
    · intro a W hW hO hφ K hK
      have q8 : a.tmps.getD 8 undef = (.pointer (some ⟨g2, 0, none⟩)) := hO 8 (by kernel_rfl)
      have r8 := q8
      rw [Array.getD_eq_getD_getElem?] at r8
      clear hO hφ
      obtain ⟨⟨k0, k1, k2, k3⟩, k4, k5, k6, k7⟩ := KS W (HK4.out.trans (Kp.trans ((Kp.refl _).drew) hW))
      clear KS
      go_simp
      exact hK _ _ (Kp.refl _) rfl
    · intro a W hW hO hφ K hK
      have q1 : a.tmps.getD 1 undef = (.int .u8 (p.toNat : Int)) := hO 1 (by kernel_rfl)
      have r1 := q1
      rw [Array.getD_eq_getD_getElem?] at r1
      clear hO hφ
      clear KS
      go_simp
      exact hK _ _ (Kp.refl _) rfl
    · intro a W hW hO hφ K hK
      have q2 : a.tmps.getD 2 undef = (.int .i64 (m : Int)) := hO 2 (by kernel_rfl)
      have r2 := q2
      rw [Array.getD_eq_getD_getElem?] at r2
      clear hO hφ
      clear KS
      go_simp
      exact hK _ _ (Kp.refl _) rfl
    · intro a W hW hO hφ K hK
      have q19 : a.tmps.getD 19 undef = (.agg #[.int .u8 (a0.toNat : Int), .int .u8 (a1.toNat : Int), .int .u8 (a2.toNat : Int), .int .u8 (a3.toNat : Int)]) := hφ ⟨0, .data⟩ (by simp) rfl
      have q20 : a.tmps.getD 20 undef = (.agg #[.int .u8 (b0.toNat : Int), .int .u8 (b1.toNat : Int), .int .u8 (b2.toNat : Int), .int .u8 (b3.toNat : Int)]) := hφ ⟨1, .data⟩ (by simp) rfl
      have q21 : a.tmps.getD 21 undef = (.int .u8 (p.toNat : Int)) := hφ ⟨2, .data⟩ (by simp) rfl
      have q22 : a.tmps.getD 22 undef = (.int .i64 (m : Int)) := hφ ⟨3, .data⟩ (by simp) rfl
      have r19 := q19
      rw [Array.getD_eq_getD_getElem?] at r19
      have r20 := q20
      rw [Array.getD_eq_getD_getElem?] at r20
      have r21 := q21
      rw [Array.getD_eq_getD_getElem?] at r21
      have r22 := q22
      rw [Array.getD_eq_getD_getElem?] at r22
      clear hO hφ
      clear KS
      go_simp
      go_at_call 30
      refine (pseudo_any _ a0 a1 a2 a3 b0 b1 b2 b3 p m (by omega)).mono ?_
      rintro e w' ⟨hk, g, cap, rfl, hown⟩
      exact hK _ _ hk ⟨_, _, rfl, hown.rd0⟩
    · intro a W hW hO hφ K hK
      have q23 : (St.rd 12 (pseudo [a0, a1, a2, a3] [b0, b1, b2, b3] p m)).p (a.tmps.getD 23 undef) W := hφ ⟨4, .data⟩ (by simp) rfl
      clear hO hφ
      clear KS
      obtain ⟨A1, c1, q23', hr⟩ := q23
      have cv := conv_str (P := Try.prog) (c := c1) Try.underlying25 Try.underlying5 Try.underlying9 hr
      go_simp
      exact hK _ _ (Kp.refl _) rfl
    · intro a W hW hO hφ K hK
      have q7 : a.tmps.getD 7 undef = (.pointer (some ⟨g1, 0, none⟩)) := hO 7 (by kernel_rfl)
      have r7 := q7
      rw [Array.getD_eq_getD_getElem?] at r7
      clear hO hφ
      obtain ⟨⟨k0, k1, k2, k3⟩, k4, k5, k6, k7⟩ := KS W (HK4.out.trans (Kp.trans ((Kp.refl _).drew) hW))
      clear KS
      go_simp
      exact hK _ _ (Kp.refl _) rfl
    · intro a W hW hO hφ K hK
      have q8 : a.tmps.getD 8 undef = (.pointer (some ⟨g2, 0, none⟩)) := hO 8 (by kernel_rfl)
      have r8 := q8
      rw [Array.getD_eq_getD_getElem?] at r8
      clear hO hφ
      obtain ⟨⟨k0, k1, k2, k3⟩, k4, k5, k6, k7⟩ := KS W (HK4.out.trans (Kp.trans ((Kp.refl _).drew) hW))
      clear KS
      go_simp
      exact hK _ _ (Kp.refl _) rfl
    · intro a W hW hO hφ K hK
      have q1 : a.tmps.getD 1 undef = (.int .u8 (p.toNat : Int)) := hO 1 (by kernel_rfl)
      have r1 := q1
      rw [Array.getD_eq_getD_getElem?] at r1
      clear hO hφ
      clear KS
      go_simp
      exact hK _ _ (Kp.refl _) rfl
    · intro a W hW hO hφ K hK
      have q2 : a.tmps.getD 2 undef = (.int .i64 (m : Int)) := hO 2 (by kernel_rfl)
      have r2 := q2
      rw [Array.getD_eq_getD_getElem?] at r2
      clear hO hφ
      clear KS
      go_simp
      exact hK _ _ (Kp.refl _) rfl
    · intro a W hW hO hφ K hK
      have q25 : a.tmps.getD 25 undef = (.agg #[.int .u8 (a0.toNat : Int), .int .u8 (a1.toNat : Int), .int .u8 (a2.toNat : Int), .int .u8 (a3.toNat : Int)]) := hφ ⟨6, .data⟩ (by simp) rfl
      have q26 : a.tmps.getD 26 undef = (.agg #[.int .u8 (b0.toNat : Int), .int .u8 (b1.toNat : Int), .int .u8 (b2.toNat : Int), .int .u8 (b3.toNat : Int)]) := hφ ⟨7, .data⟩ (by simp) rfl
      have q27 : a.tmps.getD 27 undef = (.int .u8 (p.toNat : Int)) := hφ ⟨8, .data⟩ (by simp) rfl
      have q28 : a.tmps.getD 28 undef = (.int .i64 (m : Int)) := hφ ⟨9, .data⟩ (by simp) rfl
      have r25 := q25
      rw [Array.getD_eq_getD_getElem?] at r25
      have r26 := q26
      rw [Array.getD_eq_getD_getElem?] at r26
      have r27 := q27
      rw [Array.getD_eq_getD_getElem?] at r27
      have r28 := q28
      rw [Array.getD_eq_getD_getElem?] at r28
      clear hO hφ
      clear KS
      go_simp
      go_at_call 31
      refine (rpseudo_any _ a0 a1 a2 a3 b0 b1 b2 b3 p m (by omega)).mono ?_
      rintro e w' ⟨rfl, hk⟩
      exact hK _ _ hk rfl
    · intro a W hW hO hφ K hK
      have q24 : a.tmps.getD 24 undef = (.string (str (pseudo [a0, a1, a2, a3] [b0, b1, b2, b3] p m))) := hφ ⟨5, .data⟩ (by simp) rfl
      have q29 : a.tmps.getD 29 undef = (.string (str (pseudo [a0, a1, a2, a3] [b0, b1, b2, b3] p m))) := hφ ⟨10, .data⟩ (by simp) rfl
      have r24 := q24
      rw [Array.getD_eq_getD_getElem?] at r24
      have r29 := q29
      rw [Array.getD_eq_getD_getElem?] at r29
      clear hO hφ
      clear KS
      go_simp
      exact hK _ _ (Kp.refl _) rfl
    · intro a W hW hO hφ K hK
      have q30 : a.tmps.getD 30 undef = (.bool true) := hφ ⟨11, .data⟩ (by simp) rfl
      have r30 := q30
      rw [Array.getD_eq_getD_getElem?] at r30
      clear hO hφ
      clear KS
      go_simp
      exact hK _ _ (Kp.refl _) rfl
    intro f W hW hφ
    have v0 : f 0 = (.agg #[.int .u8 (a0.toNat : Int), .int .u8 (a1.toNat : Int), .int .u8 (a2.toNat : Int), .int .u8 (a3.toNat : Int)]) := hφ 0 (by omega)
    have v1 : f 1 = (.agg #[.int .u8 (b0.toNat : Int), .int .u8 (b1.toNat : Int), .int .u8 (b2.toNat : Int), .int .u8 (b3.toNat : Int)]) := hφ 1 (by omega)
    have v2 : f 2 = (.int .u8 (p.toNat : Int)) := hφ 2 (by omega)
    have v3 : f 3 = (.int .i64 (m : Int)) := hφ 3 (by omega)
    have v4 : (St.rd 12 (pseudo [a0, a1, a2, a3] [b0, b1, b2, b3] p m)).p (f 4) W := hφ 4 (by omega)
    have v5 : f 5 = (.string (str (pseudo [a0, a1, a2, a3] [b0, b1, b2, b3] p m))) := hφ 5 (by omega)
    have v6 : f 6 = (.agg #[.int .u8 (a0.toNat : Int), .int .u8 (a1.toNat : Int), .int .u8 (a2.toNat : Int), .int .u8 (a3.toNat : Int)]) := hφ 6 (by omega)
    have v7 : f 7 = (.agg #[.int .u8 (b0.toNat : Int), .int .u8 (b1.toNat : Int), .int .u8 (b2.toNat : Int), .int .u8 (b3.toNat : Int)]) := hφ 7 (by omega)
    have v8 : f 8 = (.int .u8 (p.toNat : Int)) := hφ 8 (by omega)
    have v9 : f 9 = (.int .i64 (m : Int)) := hφ 9 (by omega)
    have v10 : f 10 = (.string (str (pseudo [a0, a1, a2, a3] [b0, b1, b2, b3] p m))) := hφ 10 (by omega)
    have v11 : f 11 = (.bool true) := hφ 11 (by omega)
    have v12 : f 12 = (.bool true) := hφ 12 (by omega)
    clear hφ
    simp only [putAll, List.setIfInBounds_toArray, List.set_cons_succ, List.set_cons_zero, v0, v1, v2, v3, v5, v6, v7, v8, v9, v10, v11, v12]
    clear v0 v1 v2 v3 v5 v6 v7 v8 v9 v10 v11 v12
    refine wpAny_done (by kernel_rfl) ?_ _
    go_wp2
    go_ret
    exact ⟨rfl, HKB.out.trans (HK4.out.trans (Kp.trans ((Kp.refl _).drew) hW))⟩
end Go.Proofs.Ytdibmeapflhhaaa
