/-
  The contracts of the document's Echo and Datagram: a message's bytes.
-/
import Derived.Test.YtpjjanbcjkdciaaD8b
namespace Go.Proofs.Ytpjjanbcjkdciaa
open Go.RowKit

theorem ck_zeros2 (K : UInt8) (B : List UInt8) : Ck.ck ([K, 0, 0, 0] ++ B) = Ck.ck ([K, 0] ++ B) := by
  unfold Ck.ck
  rw [Ck.wsum_even _ _ _ (by simp), Ck.wsum_even _ _ _ (by simp)]
  simp [Ck.wsum]
theorem cells8e (w : World) (rp : Bool) (id sq : Nat) (A : Option Addr) (n c : Nat) (W : World) (hk : Kp (w.alloc (.cells #[.bool rp, .int .u16 (id : Int), .int .u16 (sq : Int), .slice A n c] 25)) W) : W.cell? ⟨w.heap.size, 0, none⟩ = some (.bool rp) ∧ W.cell? ⟨w.heap.size, 1, none⟩ = some (.int .u16 (id : Int)) ∧ W.cell? ⟨w.heap.size, 2, none⟩ = some (.int .u16 (sq : Int)) ∧ W.cell? ⟨w.heap.size, 3, none⟩ = some (.slice A n c) := by
  refine ⟨?_, ?_, ?_, ?_⟩
  all_goals
    refine hk.cell ?_
    rw [cell_new]
    rfl
theorem cells8g (w : World) (sp dp : Nat) (A : Option Addr) (n c : Nat) (s0 s1 s2 s3 d0 d1 d2 d3 : UInt8) (W : World) (hk : Kp (((w.alloc (.cells #[.int .u16 (sp : Int), .int .u16 (dp : Int), .slice A n c] 43)).alloc (.cells #[.int .u8 (s0.toNat : Int), .int .u8 (s1.toNat : Int), .int .u8 (s2.toNat : Int), .int .u8 (s3.toNat : Int)] 27)).alloc (.cells #[.int .u8 (d0.toNat : Int), .int .u8 (d1.toNat : Int), .int .u8 (d2.toNat : Int), .int .u8 (d3.toNat : Int)] 27)) W) : (W.cell? ⟨w.heap.size, 0, none⟩ = some (.int .u16 (sp : Int)) ∧ W.cell? ⟨w.heap.size, 1, none⟩ = some (.int .u16 (dp : Int)) ∧ W.cell? ⟨w.heap.size, 2, none⟩ = some (.slice A n c)) ∧ (W.cell? ⟨w.heap.size + 1, 0, none⟩ = some (.int .u8 (s0.toNat : Int)) ∧ W.cell? ⟨w.heap.size + 1, 1, none⟩ = some (.int .u8 (s1.toNat : Int)) ∧ W.cell? ⟨w.heap.size + 1, 2, none⟩ = some (.int .u8 (s2.toNat : Int)) ∧ W.cell? ⟨w.heap.size + 1, 3, none⟩ = some (.int .u8 (s3.toNat : Int))) ∧ (W.cell? ⟨w.heap.size + 1 + 1, 0, none⟩ = some (.int .u8 (d0.toNat : Int)) ∧ W.cell? ⟨w.heap.size + 1 + 1, 1, none⟩ = some (.int .u8 (d1.toNat : Int)) ∧ W.cell? ⟨w.heap.size + 1 + 1, 2, none⟩ = some (.int .u8 (d2.toNat : Int)) ∧ W.cell? ⟨w.heap.size + 1 + 1, 3, none⟩ = some (.int .u8 (d3.toNat : Int))) := by
  have h2 : Kp ((w.alloc (.cells #[.int .u16 (sp : Int), .int .u16 (dp : Int), .slice A n c] 43)).alloc (.cells #[.int .u8 (s0.toNat : Int), .int .u8 (s1.toNat : Int), .int .u8 (s2.toNat : Int), .int .u8 (s3.toNat : Int)] 27)) W := ((Kp.refl _).alloc _).trans hk
  have h1 : Kp (w.alloc (.cells #[.int .u16 (sp : Int), .int .u16 (dp : Int), .slice A n c] 43)) W := ((Kp.refl _).alloc _).trans h2
  have e1 : (w.alloc (.cells #[.int .u16 (sp : Int), .int .u16 (dp : Int), .slice A n c] 43)).heap.size = w.heap.size + 1 := by simp
  have e2 : ((w.alloc (.cells #[.int .u16 (sp : Int), .int .u16 (dp : Int), .slice A n c] 43)).alloc (.cells #[.int .u8 (s0.toNat : Int), .int .u8 (s1.toNat : Int), .int .u8 (s2.toNat : Int), .int .u8 (s3.toNat : Int)] 27)).heap.size = w.heap.size + 1 + 1 := by simp
  refine ⟨⟨?_, ?_, ?_⟩, ⟨?_, ?_, ?_, ?_⟩, ⟨?_, ?_, ?_, ?_⟩⟩
  · refine h1.cell ?_; rw [cell_new]; rfl
  · refine h1.cell ?_; rw [cell_new]; rfl
  · refine h1.cell ?_; rw [cell_new]; rfl
  · refine h2.cell ?_; rw [← e1, cell_new]; rfl
  · refine h2.cell ?_; rw [← e1, cell_new]; rfl
  · refine h2.cell ?_; rw [← e1, cell_new]; rfl
  · refine h2.cell ?_; rw [← e1, cell_new]; rfl
  · refine hk.cell ?_; rw [← e2, cell_new]; rfl
  · refine hk.cell ?_; rw [← e2, cell_new]; rfl
  · refine hk.cell ?_; rw [← e2, cell_new]; rfl
  · refine hk.cell ?_; rw [← e2, cell_new]; rfl

set_option maxHeartbeats 1000000 in
theorem r8e_long (w : World) (rp : Bool) (id sq : Nat) (A : Option Addr) (n c : Nat) (hn : 992 < n) :
    Calls Try.prog 12 #[.agg #[.bool rp, .int .u16 (id : Int), .int .u16 (sq : Int), .slice A n c]] w fun e w' => e = .returned (.tuple #[.string (str []), .int .i64 4]) ∧ Kp w w' := by
  go_enter Try.func12, Try.ntmps12
  go_wp2
  go_ret2
  exact ⟨rfl, (Kp.refl _).alloc _⟩
set_option maxHeartbeats 1000000 in
theorem r8g_long (w : World) (sp dp : Nat) (A : Option Addr) (n c : Nat) (s0 s1 s2 s3 d0 d1 d2 d3 : UInt8) (hn : 992 < n) (hn2 : n ≤ 1048576) :
    Calls Try.prog 15 #[.agg #[.int .u16 (sp : Int), .int .u16 (dp : Int), .slice A n c], .agg #[.int .u8 (s0.toNat : Int), .int .u8 (s1.toNat : Int), .int .u8 (s2.toNat : Int), .int .u8 (s3.toNat : Int)], .agg #[.int .u8 (d0.toNat : Int), .int .u8 (d1.toNat : Int), .int .u8 (d2.toNat : Int), .int .u8 (d3.toNat : Int)]] w fun e w' => e = .returned (.tuple #[.string (str []), .int .i64 4]) ∧ Kp w w' := by
  have i1 : (1000 : Int) < (n : Int) + 8 := by omega
  go_enter Try.func15, Try.ntmps15
  go_wp2
  go_ret2
  exact ⟨rfl, (((Kp.refl _).alloc _).alloc _).alloc _⟩

noncomputable def e8phi (w : World) (id sq n c : Nat) (A : Option Addr) (l B : List UInt8) : Nat → St := fun i => ([St.val (.pointer (some ⟨w.heap.size, 1, none⟩)),
  St.val (.int .u16 (id : Int)),
  St.val (.int .i64 (id : Int)),
  St.val (.string (str (wd2 id))),
  St.val (.pointer (some ⟨w.heap.size, 2, none⟩)),
  St.val (.int .u16 (sq : Int)),
  St.val (.int .i64 (sq : Int)),
  St.val (.string (str (wd2 sq))),
  St.val (.string (str (wd2 id ++ wd2 sq))),
  St.val (.pointer (some ⟨w.heap.size, 3, none⟩)),
  St.val (.slice A n c),
  St.val (.string (str l)),
  St.val (.string (str B)),
  St.val (.string (str B))] : List St).getD i St.any

set_option maxRecDepth 100000 in
set_option maxHeartbeats 4000000 in
theorem r8e_ok (w : World) (rp : Bool) (id sq : Nat) (A : Option Addr) (n c : Nat) (l : List UInt8) (h1 : id ≤ 65535) (h2 : sq ≤ 65535) (hn : n ≤ 992) (hA : Rd w 0 A n l) :
    Calls Try.prog 12 #[.agg #[.bool rp, .int .u16 (id : Int), .int .u16 (sq : Int), .slice A n c]] w fun e w' => e = .returned (.tuple #[.string (str (ebytes rp id sq l)), .int .i64 0]) ∧ Kp w w' := by
  have hll := hA.len
  have KB : Kp w (w.alloc (.cells #[.bool rp, .int .u16 (id : Int), .int .u16 (sq : Int), .slice A n c] 25)) := (Kp.refl w).alloc _
  have HA := Lib.hid (hA.keep KB)
  have HKB := Lib.hid KB
  have HKX : Hid (Kp (w.alloc (.cells #[.bool rp, .int .u16 (id : Int), .int .u16 (sq : Int), .slice A n c] 25)) (w.alloc (.cells #[.bool rp, .int .u16 (id : Int), .int .u16 (sq : Int), .slice A n c] 25))) := Lib.hid (Kp.refl _)
  have KS := cells8e w rp id sq A n c
  clear hA KB
  have i1 : ¬ (992 : Int) < (n : Int) := by omega
  have hpb : ∃ K B S, kind8 rp = K ∧ wd2 id ++ (wd2 sq ++ l) = B ∧ 65535 - Ck.ck (K :: 0 :: B) = S ∧ B.length = 4 + n ∧ ebytes rp id sq l = K :: 0 :: (wd2 S ++ B) := by
    refine ⟨_, _, _, rfl, rfl, rfl, ?_, ?_⟩
    · simp [wd2]; omega
    · unfold ebytes esum
      rw [List.append_assoc [kind8 rp, 0, 0, 0], ck_zeros2]
      simp
  obtain ⟨K, B, S, hK, hB, hS, hB4, hpb⟩ := hpb
  have hS2 : S ≤ 65535 := by omega
  rw [hpb]
  have RS : Hid (∀ W, Calls Try.prog 21 #[.string (str (K :: 0 :: B))] W fun e w' => e = .returned (.int .u16 (S : Int)) ∧ W = w') := Lib.hid fun W => by
    have := rsum_any W (str (K :: 0 :: B)) (by rw [str_size]; simp [hB4]; omega)
    rw [str_list, hS] at this; exact this
  have hap := str_append
  have hsz := str_size
  have hwl : ∀ x, (wd2 x).length = 2 := fun _ => rfl
  have c00 : ({ data := #[0, 0] } : ByteArray) = str [0, 0] := rfl
  have c80 : ({ data := #[8, 0] } : ByteArray) = str [8, 0] := rfl
  have v1 : IntKind.i64.wrap (id : Int) = (id : Int) := by rw [IntKind.wrap_i64]; omega
  have v2 : IntKind.i64.wrap (sq : Int) = (sq : Int) := by rw [IntKind.wrap_i64]; omega
  have v5 : IntKind.i64.wrap (S : Int) = (S : Int) := by rw [IntKind.wrap_i64]; omega
  have hov : ¬ 9223372036854775807 < 4 + n := by omega
  have hov2 : ¬ 9223372036854775807 < 2 + (2 + n) := by omega
  have hov3 : ¬ 9223372036854775807 < 2 + (4 + n) := by omega
  have hov4 : ¬ 9223372036854775807 < 4 + (4 + n) := by omega
  clear hS hpb
  cases rp
  case' false =>
    obtain rfl : K = 8 := hK.symm
    clear hK
    go_enter Try.func12, Try.ntmps12
    go_wp2_with fail
  case' true =>
    obtain rfl : K = 0 := hK.symm
    clear hK
    go_enter Try.func12, Try.ntmps12
    go_wp2_with fail
  all_goals
    refine wp_region_steps (by kernel_rfl) 14 (e8phi w id sq n c A l B) [12, 13, 14, 15, 16, 17, 18, 19, 20, 21, 22, 23, 24, 5] (by kernel_rfl) (by kernel_rfl) ⟨?_, ?_, ?_, ?_, ?_, ?_, ?_, ?_, ?_, ?_, ?_, ?_, ?_, ?_, trivial⟩ ?_
    · intro a W hW hO hφ K hK
      have q1 : a.tmps.getD 1 undef = (.pointer (some ⟨w.heap.size, 0, none⟩)) := hO 1 (by kernel_rfl)
      have r1 := q1
      rw [Array.getD_eq_getD_getElem?] at r1
      clear hO hφ
      clear KS
      go_simp
      exact hK _ _ (Kp.refl _) rfl
    · intro a W hW hO hφ K hK
      have q12 : a.tmps.getD 12 undef = (.pointer (some ⟨w.heap.size, 1, none⟩)) := hφ ⟨0, .data⟩ (by simp) rfl
      have r12 := q12
      rw [Array.getD_eq_getD_getElem?] at r12
      clear hO hφ
      obtain ⟨k0, k1, k2, k3⟩ := KS W (HKX.out.trans (Kp.trans ((Kp.refl _).drew) hW))
      clear KS
      go_simp
      exact hK _ _ (Kp.refl _) rfl
    · intro a W hW hO hφ K hK
      have q13 : a.tmps.getD 13 undef = (.int .u16 (id : Int)) := hφ ⟨1, .data⟩ (by simp) rfl
      have r13 := q13
      rw [Array.getD_eq_getD_getElem?] at r13
      clear hO hφ
      clear KS
      go_simp
      exact hK _ _ (Kp.refl _) rfl
    · intro a W hW hO hφ K hK
      have q14 : a.tmps.getD 14 undef = (.int .i64 (id : Int)) := hφ ⟨2, .data⟩ (by simp) rfl
      have r14 := q14
      rw [Array.getD_eq_getD_getElem?] at r14
      clear hO hφ
      clear KS
      go_simp
      go_at_call 20
      refine (word_any _ id (by omega)).mono ?_
      rintro e w' ⟨rfl, hk⟩
      exact hK _ _ hk rfl
    · intro a W hW hO hφ K hK
      have q1 : a.tmps.getD 1 undef = (.pointer (some ⟨w.heap.size, 0, none⟩)) := hO 1 (by kernel_rfl)
      have r1 := q1
      rw [Array.getD_eq_getD_getElem?] at r1
      clear hO hφ
      clear KS
      go_simp
      exact hK _ _ (Kp.refl _) rfl
    · intro a W hW hO hφ K hK
      have q16 : a.tmps.getD 16 undef = (.pointer (some ⟨w.heap.size, 2, none⟩)) := hφ ⟨4, .data⟩ (by simp) rfl
      have r16 := q16
      rw [Array.getD_eq_getD_getElem?] at r16
      clear hO hφ
      obtain ⟨k0, k1, k2, k3⟩ := KS W (HKX.out.trans (Kp.trans ((Kp.refl _).drew) hW))
      clear KS
      go_simp
      exact hK _ _ (Kp.refl _) rfl
    · intro a W hW hO hφ K hK
      have q17 : a.tmps.getD 17 undef = (.int .u16 (sq : Int)) := hφ ⟨5, .data⟩ (by simp) rfl
      have r17 := q17
      rw [Array.getD_eq_getD_getElem?] at r17
      clear hO hφ
      clear KS
      go_simp
      exact hK _ _ (Kp.refl _) rfl
    · intro a W hW hO hφ K hK
      have q18 : a.tmps.getD 18 undef = (.int .i64 (sq : Int)) := hφ ⟨6, .data⟩ (by simp) rfl
      have r18 := q18
      rw [Array.getD_eq_getD_getElem?] at r18
      clear hO hφ
      clear KS
      go_simp
      go_at_call 20
      refine (word_any _ sq (by omega)).mono ?_
      rintro e w' ⟨rfl, hk⟩
      exact hK _ _ hk rfl
    · intro a W hW hO hφ K hK
      have q15 : a.tmps.getD 15 undef = (.string (str (wd2 id))) := hφ ⟨3, .data⟩ (by simp) rfl
      have q19 : a.tmps.getD 19 undef = (.string (str (wd2 sq))) := hφ ⟨7, .data⟩ (by simp) rfl
      have r15 := q15
      rw [Array.getD_eq_getD_getElem?] at r15
      have r19 := q19
      rw [Array.getD_eq_getD_getElem?] at r19
      clear hO hφ
      clear KS
      go_simp
      exact hK _ _ (Kp.refl _) rfl
    · intro a W hW hO hφ K hK
      have q1 : a.tmps.getD 1 undef = (.pointer (some ⟨w.heap.size, 0, none⟩)) := hO 1 (by kernel_rfl)
      have r1 := q1
      rw [Array.getD_eq_getD_getElem?] at r1
      clear hO hφ
      clear KS
      go_simp
      exact hK _ _ (Kp.refl _) rfl
    · intro a W hW hO hφ K hK
      have q21 : a.tmps.getD 21 undef = (.pointer (some ⟨w.heap.size, 3, none⟩)) := hφ ⟨9, .data⟩ (by simp) rfl
      have r21 := q21
      rw [Array.getD_eq_getD_getElem?] at r21
      clear hO hφ
      obtain ⟨k0, k1, k2, k3⟩ := KS W (HKX.out.trans (Kp.trans ((Kp.refl _).drew) hW))
      clear KS
      go_simp
      exact hK _ _ (Kp.refl _) rfl
    · intro a W hW hO hφ K hK
      have q22 : a.tmps.getD 22 undef = (.slice A n c) := hφ ⟨10, .data⟩ (by simp) rfl
      have r22 := q22
      rw [Array.getD_eq_getD_getElem?] at r22
      clear hO hφ
      clear KS
      have cv := conv_str (P := Try.prog) (c := c) Try.underlying23 Try.underlying5 Try.underlying9 (HA.out.keep (HKX.out.trans (Kp.trans ((Kp.refl _).drew) hW)))
      go_simp
      exact hK _ _ (Kp.refl _) rfl
    · intro a W hW hO hφ K hK
      have q20 : a.tmps.getD 20 undef = (.string (str (wd2 id ++ wd2 sq))) := hφ ⟨8, .data⟩ (by simp) rfl
      have q23 : a.tmps.getD 23 undef = (.string (str l)) := hφ ⟨11, .data⟩ (by simp) rfl
      have r20 := q20
      rw [Array.getD_eq_getD_getElem?] at r20
      have r23 := q23
      rw [Array.getD_eq_getD_getElem?] at r23
      clear hO hφ
      clear KS
      go_simp
      exact hK _ _ (Kp.refl _) rfl
    · intro a W hW hO hφ K hK
      have q24 : a.tmps.getD 24 undef = (.string (str B)) := hφ ⟨12, .data⟩ (by simp) rfl
      have r24 := q24
      rw [Array.getD_eq_getD_getElem?] at r24
      clear hO hφ
      clear KS
      go_simp
      exact hK _ _ (Kp.refl _) rfl
    intro f W hW hφ
    have v0 : f 0 = (.pointer (some ⟨w.heap.size, 1, none⟩)) := hφ 0 (by omega)
    have v1 : f 1 = (.int .u16 (id : Int)) := hφ 1 (by omega)
    have v2 : f 2 = (.int .i64 (id : Int)) := hφ 2 (by omega)
    have v3 : f 3 = (.string (str (wd2 id))) := hφ 3 (by omega)
    have v4 : f 4 = (.pointer (some ⟨w.heap.size, 2, none⟩)) := hφ 4 (by omega)
    have v5 : f 5 = (.int .u16 (sq : Int)) := hφ 5 (by omega)
    have v6 : f 6 = (.int .i64 (sq : Int)) := hφ 6 (by omega)
    have v7 : f 7 = (.string (str (wd2 sq))) := hφ 7 (by omega)
    have v8 : f 8 = (.string (str (wd2 id ++ wd2 sq))) := hφ 8 (by omega)
    have v9 : f 9 = (.pointer (some ⟨w.heap.size, 3, none⟩)) := hφ 9 (by omega)
    have v10 : f 10 = (.slice A n c) := hφ 10 (by omega)
    have v11 : f 11 = (.string (str l)) := hφ 11 (by omega)
    have v12 : f 12 = (.string (str B)) := hφ 12 (by omega)
    have v13 : f 13 = (.string (str B)) := hφ 13 (by omega)
    clear hφ
    simp only [putAll, List.setIfInBounds_toArray, List.set_cons_succ, List.set_cons_zero, v0, v1, v2, v3, v4, v5, v6, v7, v8, v9, v10, v11, v12, v13]
    clear v0 v1 v2 v3 v4 v5 v6 v7 v8 v9 v10 v11 v12 v13
    refine wpAny_done (by kernel_rfl) ?_ _
    have HK8 := Lib.hid (HKX.out.trans (Kp.trans ((Kp.refl _).drew) hW))
    clear hW HKX KS hB
    go_wp2_with fail
    refine (RS.out _).mono ?_
    rintro e w4 ⟨rfl, rfl⟩
    go_wp2_with fail
    refine (word_any _ S (by omega)).mono ?_
    rintro e w5 ⟨rfl, hk5⟩
    go_wp2
    go_ret2
    exact ⟨rfl, HKB.out.trans (HK8.out.trans hk5)⟩

noncomputable def g8aphi (w : World) (sp dp N : Nat) (X : List UInt8) : Nat → St := fun i => ([St.val (.pointer (some ⟨w.heap.size, 0, none⟩)),
  St.val (.int .u16 (sp : Int)),
  St.val (.int .i64 (sp : Int)),
  St.val (.string (str (wd2 sp))),
  St.val (.pointer (some ⟨w.heap.size, 1, none⟩)),
  St.val (.int .u16 (dp : Int)),
  St.val (.int .i64 (dp : Int)),
  St.val (.string (str (wd2 dp))),
  St.val (.string (str (wd2 sp ++ wd2 dp))),
  St.val (.int .i64 (N : Int)),
  St.val (.string (str (wd2 N))),
  St.val (.string (str X)),
  St.val (.string (str X))] : List St).getD i St.any
noncomputable def g8bphi (w : World) (s0 s1 s2 s3 d0 d1 d2 d3 : UInt8) (N S n c : Nat) (A : Option Addr) (PS X l : List UInt8) : Nat → St := fun i => ([St.val (.agg #[.int .u8 (s0.toNat : Int), .int .u8 (s1.toNat : Int), .int .u8 (s2.toNat : Int), .int .u8 (s3.toNat : Int)]),
  St.val (.agg #[.int .u8 (d0.toNat : Int), .int .u8 (d1.toNat : Int), .int .u8 (d2.toNat : Int), .int .u8 (d3.toNat : Int)]),
  St.val (.int .i64 (N : Int)),
  St.val (.string (str PS)),
  St.val (.string (str X)),
  St.val (.string (str (PS ++ X))),
  St.val (.string (str (PS ++ (X ++ [0, 0])))),
  St.val (.pointer (some ⟨w.heap.size, 2, none⟩)),
  St.val (.slice A n c),
  St.val (.string (str l)),
  St.val (.string (str (PS ++ (X ++ 0 :: 0 :: l)))),
  St.val (.int .u16 (S : Int)),
  St.val (.int .i64 (S : Int)),
  St.val (.int .i64 (S : Int))] : List St).getD i St.any
noncomputable def g8cphi (w : World) (fx n c : Nat) (A : Option Addr) (X l : List UInt8) : Nat → St := fun i => ([St.val (.string (str X)),
  St.val (.int .i64 (fx : Int)),
  St.val (.string (str (wd2 fx))),
  St.val (.string (str (X ++ wd2 fx))),
  St.val (.pointer (some ⟨w.heap.size, 2, none⟩)),
  St.val (.slice A n c),
  St.val (.string (str l)),
  St.val (.string (str (X ++ (wd2 fx ++ l)))),
  St.val (.string (str (X ++ (wd2 fx ++ l)))),
  St.val (.int .i64 0)] : List St).getD i St.any

set_option maxRecDepth 100000 in
set_option maxHeartbeats 4000000 in
theorem r8g_ok (w : World) (sp dp : Nat) (A : Option Addr) (n c : Nat) (l : List UInt8) (s0 s1 s2 s3 d0 d1 d2 d3 : UInt8) (h1 : sp ≤ 65535) (h2 : dp ≤ 65535) (hn : n ≤ 992) (hA : Rd w 0 A n l) :
    Calls Try.prog 15 #[.agg #[.int .u16 (sp : Int), .int .u16 (dp : Int), .slice A n c], .agg #[.int .u8 (s0.toNat : Int), .int .u8 (s1.toNat : Int), .int .u8 (s2.toNat : Int), .int .u8 (s3.toNat : Int)], .agg #[.int .u8 (d0.toNat : Int), .int .u8 (d1.toNat : Int), .int .u8 (d2.toNat : Int), .int .u8 (d3.toNat : Int)]] w fun e w' => e = .returned (.tuple #[.string (str (gbytes [s0, s1, s2, s3] [d0, d1, d2, d3] sp dp l)), .int .i64 0]) ∧ Kp w w' := by
  have hll := hA.len
  have KB : Kp w (((w.alloc (.cells #[.int .u16 (sp : Int), .int .u16 (dp : Int), .slice A n c] 43)).alloc (.cells #[.int .u8 (s0.toNat : Int), .int .u8 (s1.toNat : Int), .int .u8 (s2.toNat : Int), .int .u8 (s3.toNat : Int)] 27)).alloc (.cells #[.int .u8 (d0.toNat : Int), .int .u8 (d1.toNat : Int), .int .u8 (d2.toNat : Int), .int .u8 (d3.toNat : Int)] 27)) := (((Kp.refl w).alloc _).alloc _).alloc _
  have HA := Lib.hid (hA.keep KB)
  have HKB := Lib.hid KB
  have HKX : Hid (Kp (((w.alloc (.cells #[.int .u16 (sp : Int), .int .u16 (dp : Int), .slice A n c] 43)).alloc (.cells #[.int .u8 (s0.toNat : Int), .int .u8 (s1.toNat : Int), .int .u8 (s2.toNat : Int), .int .u8 (s3.toNat : Int)] 27)).alloc (.cells #[.int .u8 (d0.toNat : Int), .int .u8 (d1.toNat : Int), .int .u8 (d2.toNat : Int), .int .u8 (d3.toNat : Int)] 27)) (((w.alloc (.cells #[.int .u16 (sp : Int), .int .u16 (dp : Int), .slice A n c] 43)).alloc (.cells #[.int .u8 (s0.toNat : Int), .int .u8 (s1.toNat : Int), .int .u8 (s2.toNat : Int), .int .u8 (s3.toNat : Int)] 27)).alloc (.cells #[.int .u8 (d0.toNat : Int), .int .u8 (d1.toNat : Int), .int .u8 (d2.toNat : Int), .int .u8 (d3.toNat : Int)] 27))) := Lib.hid (Kp.refl _)
  have KS := cells8g w sp dp A n c s0 s1 s2 s3 d0 d1 d2 d3
  clear hA KB
  have hpb : ∃ X S N PS fx, wd2 sp ++ (wd2 dp ++ wd2 N) = X ∧ pseudo [s0, s1, s2, s3] [d0, d1, d2, d3] 17 N = PS ∧ 65535 - Ck.ck (PS ++ (X ++ 0 :: 0 :: l)) = S ∧ 8 + n = N ∧ X.length = 6 ∧ PS.length = 12 ∧ fixs S = fx ∧
      gbytes [s0, s1, s2, s3] [d0, d1, d2, d3] sp dp l = X ++ (wd2 fx ++ l) := by
    refine ⟨_, _, _, _, _, rfl, rfl, rfl, rfl, rfl, rfl, rfl, ?_⟩
    unfold gbytes gsum
    rw [hll]
    simp
  obtain ⟨X, S, N, PS, fx, hX, hPS, hS, hN, hX6, hP12, hfx, hpb⟩ := hpb
  have hS2 : S ≤ 65535 := by omega
  have hN2 : N ≤ 1000 := by omega
  have hfx2 : fx ≤ 65535 := by rw [← hfx]; unfold fixs; split <;> omega
  have nn : (n : Int) + 8 = (N : Int) := by omega
  have nn2 : ¬ (1000 : Int) < (N : Int) := by omega
  rw [hpb]
  have RP : Hid (∀ W, Calls Try.prog 24 #[.agg #[.int .u8 (s0.toNat : Int), .int .u8 (s1.toNat : Int), .int .u8 (s2.toNat : Int), .int .u8 (s3.toNat : Int)], .agg #[.int .u8 (d0.toNat : Int), .int .u8 (d1.toNat : Int), .int .u8 (d2.toNat : Int), .int .u8 (d3.toNat : Int)], .int .u8 17, .int .i64 (N : Int)] W fun e w' => e = .returned (.string (str PS)) ∧ Kp W w') := Lib.hid fun W => by
    have := rpseudo_any W s0 s1 s2 s3 d0 d1 d2 d3 17 N (by omega)
    rw [hPS] at this; exact this
  have RS : Hid (∀ W, Calls Try.prog 21 #[.string (str (PS ++ (X ++ 0 :: 0 :: l)))] W fun e w' => e = .returned (.int .u16 (S : Int)) ∧ W = w') := Lib.hid fun W => by
    have := rsum_any W (str (PS ++ (X ++ 0 :: 0 :: l))) (by rw [str_size]; simp [hX6, hP12, hll]; omega)
    rw [str_list, hS] at this; exact this
  have hap := str_append
  have hsz := str_size
  have hwl : ∀ x, (wd2 x).length = 2 := fun _ => rfl
  have c00 : ({ data := #[0, 0] } : ByteArray) = str [0, 0] := rfl
  have v1 : IntKind.i64.wrap (sp : Int) = (sp : Int) := by rw [IntKind.wrap_i64]; omega
  have v2 : IntKind.i64.wrap (dp : Int) = (dp : Int) := by rw [IntKind.wrap_i64]; omega
  have v3 : IntKind.i64.wrap (N : Int) = (N : Int) := by rw [IntKind.wrap_i64]; omega
  have v5 : IntKind.i64.wrap (S : Int) = (S : Int) := by rw [IntKind.wrap_i64]; omega
  have hov : ¬ 9223372036854775807 < 20 + n := by omega
  have hov2 : ¬ 9223372036854775807 < 8 + n := by omega
  have hov3 : ¬ 9223372036854775807 < 12 + (8 + n) := by omega
  clear hS hpb hPS hN
  go_enter Try.func15, Try.ntmps15
  go_wp2_with fail
  refine wp_region_steps (by kernel_rfl) 13 (g8aphi w sp dp N X) [17, 18, 19, 20, 21, 22, 23, 24, 25, 26, 27, 28, 9] (by kernel_rfl) (by kernel_rfl) ⟨?_, ?_, ?_, ?_, ?_, ?_, ?_, ?_, ?_, ?_, ?_, ?_, ?_, trivial⟩ ?_
  · intro a W hW hO hφ K hK
    have q3 : a.tmps.getD 3 undef = (.pointer (some ⟨w.heap.size, 0, none⟩)) := hO 3 (by kernel_rfl)
    have r3 := q3
    rw [Array.getD_eq_getD_getElem?] at r3
    clear hO hφ
    clear KS
    go_simp
    exact hK _ _ (Kp.refl _) rfl
  · intro a W hW hO hφ K hK
    have q17 : a.tmps.getD 17 undef = (.pointer (some ⟨w.heap.size, 0, none⟩)) := hφ ⟨0, .data⟩ (by simp) rfl
    have r17 := q17
    rw [Array.getD_eq_getD_getElem?] at r17
    clear hO hφ
    obtain ⟨⟨k0, k1, k2⟩, ⟨k3, k4, k5, k6⟩, ⟨k7, k8, k9, k10⟩⟩ := KS W (HKX.out.trans (Kp.trans ((Kp.refl _).drew) hW))
    clear KS
    go_simp
    exact hK _ _ (Kp.refl _) rfl
  · intro a W hW hO hφ K hK
    have q18 : a.tmps.getD 18 undef = (.int .u16 (sp : Int)) := hφ ⟨1, .data⟩ (by simp) rfl
    have r18 := q18
    rw [Array.getD_eq_getD_getElem?] at r18
    clear hO hφ
    clear KS
    go_simp
    exact hK _ _ (Kp.refl _) rfl
  · intro a W hW hO hφ K hK
    have q19 : a.tmps.getD 19 undef = (.int .i64 (sp : Int)) := hφ ⟨2, .data⟩ (by simp) rfl
    have r19 := q19
    rw [Array.getD_eq_getD_getElem?] at r19
    clear hO hφ
    clear KS
    go_simp
    go_at_call 20
    refine (word_any _ sp (by omega)).mono ?_
    rintro e w' ⟨rfl, hk⟩
    exact hK _ _ hk rfl
  · intro a W hW hO hφ K hK
    have q3 : a.tmps.getD 3 undef = (.pointer (some ⟨w.heap.size, 0, none⟩)) := hO 3 (by kernel_rfl)
    have r3 := q3
    rw [Array.getD_eq_getD_getElem?] at r3
    clear hO hφ
    clear KS
    go_simp
    exact hK _ _ (Kp.refl _) rfl
  · intro a W hW hO hφ K hK
    have q21 : a.tmps.getD 21 undef = (.pointer (some ⟨w.heap.size, 1, none⟩)) := hφ ⟨4, .data⟩ (by simp) rfl
    have r21 := q21
    rw [Array.getD_eq_getD_getElem?] at r21
    clear hO hφ
    obtain ⟨⟨k0, k1, k2⟩, ⟨k3, k4, k5, k6⟩, ⟨k7, k8, k9, k10⟩⟩ := KS W (HKX.out.trans (Kp.trans ((Kp.refl _).drew) hW))
    clear KS
    go_simp
    exact hK _ _ (Kp.refl _) rfl
  · intro a W hW hO hφ K hK
    have q22 : a.tmps.getD 22 undef = (.int .u16 (dp : Int)) := hφ ⟨5, .data⟩ (by simp) rfl
    have r22 := q22
    rw [Array.getD_eq_getD_getElem?] at r22
    clear hO hφ
    clear KS
    go_simp
    exact hK _ _ (Kp.refl _) rfl
  · intro a W hW hO hφ K hK
    have q23 : a.tmps.getD 23 undef = (.int .i64 (dp : Int)) := hφ ⟨6, .data⟩ (by simp) rfl
    have r23 := q23
    rw [Array.getD_eq_getD_getElem?] at r23
    clear hO hφ
    clear KS
    go_simp
    go_at_call 20
    refine (word_any _ dp (by omega)).mono ?_
    rintro e w' ⟨rfl, hk⟩
    exact hK _ _ hk rfl
  · intro a W hW hO hφ K hK
    have q20 : a.tmps.getD 20 undef = (.string (str (wd2 sp))) := hφ ⟨3, .data⟩ (by simp) rfl
    have q24 : a.tmps.getD 24 undef = (.string (str (wd2 dp))) := hφ ⟨7, .data⟩ (by simp) rfl
    have r20 := q20
    rw [Array.getD_eq_getD_getElem?] at r20
    have r24 := q24
    rw [Array.getD_eq_getD_getElem?] at r24
    clear hO hφ
    clear KS
    go_simp
    exact hK _ _ (Kp.refl _) rfl
  · intro a W hW hO hφ K hK
    have q8 : a.tmps.getD 8 undef = (.int .i64 (N : Int)) := hO 8 (by kernel_rfl)
    have r8 := q8
    rw [Array.getD_eq_getD_getElem?] at r8
    clear hO hφ
    clear KS
    go_simp
    exact hK _ _ (Kp.refl _) rfl
  · intro a W hW hO hφ K hK
    have q26 : a.tmps.getD 26 undef = (.int .i64 (N : Int)) := hφ ⟨9, .data⟩ (by simp) rfl
    have r26 := q26
    rw [Array.getD_eq_getD_getElem?] at r26
    clear hO hφ
    clear KS
    go_simp
    go_at_call 20
    refine (word_any _ N (by omega)).mono ?_
    rintro e w' ⟨rfl, hk⟩
    exact hK _ _ hk rfl
  · intro a W hW hO hφ K hK
    have q25 : a.tmps.getD 25 undef = (.string (str (wd2 sp ++ wd2 dp))) := hφ ⟨8, .data⟩ (by simp) rfl
    have q27 : a.tmps.getD 27 undef = (.string (str (wd2 N))) := hφ ⟨10, .data⟩ (by simp) rfl
    have r25 := q25
    rw [Array.getD_eq_getD_getElem?] at r25
    have r27 := q27
    rw [Array.getD_eq_getD_getElem?] at r27
    clear hO hφ
    clear KS
    go_simp
    exact hK _ _ (Kp.refl _) rfl
  · intro a W hW hO hφ K hK
    have q28 : a.tmps.getD 28 undef = (.string (str X)) := hφ ⟨11, .data⟩ (by simp) rfl
    have r28 := q28
    rw [Array.getD_eq_getD_getElem?] at r28
    clear hO hφ
    clear KS
    go_simp
    exact hK _ _ (Kp.refl _) rfl
  intro f W hW hφ
  have v0 : f 0 = (.pointer (some ⟨w.heap.size, 0, none⟩)) := hφ 0 (by omega)
  have v1 : f 1 = (.int .u16 (sp : Int)) := hφ 1 (by omega)
  have v2 : f 2 = (.int .i64 (sp : Int)) := hφ 2 (by omega)
  have v3 : f 3 = (.string (str (wd2 sp))) := hφ 3 (by omega)
  have v4 : f 4 = (.pointer (some ⟨w.heap.size, 1, none⟩)) := hφ 4 (by omega)
  have v5 : f 5 = (.int .u16 (dp : Int)) := hφ 5 (by omega)
  have v6 : f 6 = (.int .i64 (dp : Int)) := hφ 6 (by omega)
  have v7 : f 7 = (.string (str (wd2 dp))) := hφ 7 (by omega)
  have v8 : f 8 = (.string (str (wd2 sp ++ wd2 dp))) := hφ 8 (by omega)
  have v9 : f 9 = (.int .i64 (N : Int)) := hφ 9 (by omega)
  have v10 : f 10 = (.string (str (wd2 N))) := hφ 10 (by omega)
  have v11 : f 11 = (.string (str X)) := hφ 11 (by omega)
  have v12 : f 12 = (.string (str X)) := hφ 12 (by omega)
  clear hφ
  simp only [putAll, List.setIfInBounds_toArray, List.set_cons_succ, List.set_cons_zero, v0, v1, v2, v3, v4, v5, v6, v7, v8, v9, v10, v11, v12]
  clear v0 v1 v2 v3 v4 v5 v6 v7 v8 v9 v10 v11 v12
  refine wpAny_done (by kernel_rfl) ?_ _
  have HK8 := Lib.hid (HKX.out.trans (Kp.trans ((Kp.refl _).drew) hW))
  clear hW HKX hX
  have HKX := HK8
  clear HK8
  go_wp2_with fail
  refine wp_region_steps (by kernel_rfl) 14 (g8bphi w s0 s1 s2 s3 d0 d1 d2 d3 N S n c A PS X l) [29, 30, 31, 32, 33, 34, 35, 36, 37, 38, 39, 40, 41, 10] (by kernel_rfl) (by kernel_rfl) ⟨?_, ?_, ?_, ?_, ?_, ?_, ?_, ?_, ?_, ?_, ?_, ?_, ?_, ?_, trivial⟩ ?_
  · intro a W hW hO hφ K hK
    have q4 : a.tmps.getD 4 undef = (.pointer (some ⟨w.heap.size + 1, 0, none⟩)) := hO 4 (by kernel_rfl)
    have r4 := q4
    rw [Array.getD_eq_getD_getElem?] at r4
    clear hO hφ
    obtain ⟨⟨k0, k1, k2⟩, ⟨k3, k4, k5, k6⟩, ⟨k7, k8, k9, k10⟩⟩ := KS W (HKX.out.trans (Kp.trans ((Kp.refl _).drew) hW))
    clear KS
    go_simp
    exact hK _ _ (Kp.refl _) rfl
  · intro a W hW hO hφ K hK
    have q5 : a.tmps.getD 5 undef = (.pointer (some ⟨w.heap.size + 1 + 1, 0, none⟩)) := hO 5 (by kernel_rfl)
    have r5 := q5
    rw [Array.getD_eq_getD_getElem?] at r5
    clear hO hφ
    obtain ⟨⟨k0, k1, k2⟩, ⟨k3, k4, k5, k6⟩, ⟨k7, k8, k9, k10⟩⟩ := KS W (HKX.out.trans (Kp.trans ((Kp.refl _).drew) hW))
    clear KS
    go_simp
    exact hK _ _ (Kp.refl _) rfl
  · intro a W hW hO hφ K hK
    have q8 : a.tmps.getD 8 undef = (.int .i64 (N : Int)) := hO 8 (by kernel_rfl)
    have r8 := q8
    rw [Array.getD_eq_getD_getElem?] at r8
    clear hO hφ
    clear KS
    go_simp
    exact hK _ _ (Kp.refl _) rfl
  · intro a W hW hO hφ K hK
    have q29 : a.tmps.getD 29 undef = (.agg #[.int .u8 (s0.toNat : Int), .int .u8 (s1.toNat : Int), .int .u8 (s2.toNat : Int), .int .u8 (s3.toNat : Int)]) := hφ ⟨0, .data⟩ (by simp) rfl
    have q30 : a.tmps.getD 30 undef = (.agg #[.int .u8 (d0.toNat : Int), .int .u8 (d1.toNat : Int), .int .u8 (d2.toNat : Int), .int .u8 (d3.toNat : Int)]) := hφ ⟨1, .data⟩ (by simp) rfl
    have q31 : a.tmps.getD 31 undef = (.int .i64 (N : Int)) := hφ ⟨2, .data⟩ (by simp) rfl
    have r29 := q29
    rw [Array.getD_eq_getD_getElem?] at r29
    have r30 := q30
    rw [Array.getD_eq_getD_getElem?] at r30
    have r31 := q31
    rw [Array.getD_eq_getD_getElem?] at r31
    clear hO hφ
    clear KS
    go_simp
    go_at_call 24
    refine (RP.out _).mono ?_
    rintro e w' ⟨rfl, hk⟩
    exact hK _ _ hk rfl
  · intro a W hW hO hφ K hK
    have q9 : a.tmps.getD 9 undef = (.string (str X)) := hO 9 (by kernel_rfl)
    have r9 := q9
    rw [Array.getD_eq_getD_getElem?] at r9
    clear hO hφ
    clear KS
    go_simp
    exact hK _ _ (Kp.refl _) rfl
  · intro a W hW hO hφ K hK
    have q32 : a.tmps.getD 32 undef = (.string (str PS)) := hφ ⟨3, .data⟩ (by simp) rfl
    have q33 : a.tmps.getD 33 undef = (.string (str X)) := hφ ⟨4, .data⟩ (by simp) rfl
    have r32 := q32
    rw [Array.getD_eq_getD_getElem?] at r32
    have r33 := q33
    rw [Array.getD_eq_getD_getElem?] at r33
    clear hO hφ
    clear KS
    go_simp
    exact hK _ _ (Kp.refl _) rfl
  · intro a W hW hO hφ K hK
    have q34 : a.tmps.getD 34 undef = (.string (str (PS ++ X))) := hφ ⟨5, .data⟩ (by simp) rfl
    have r34 := q34
    rw [Array.getD_eq_getD_getElem?] at r34
    clear hO hφ
    clear KS
    go_simp
    exact hK _ _ (Kp.refl _) rfl
  · intro a W hW hO hφ K hK
    have q3 : a.tmps.getD 3 undef = (.pointer (some ⟨w.heap.size, 0, none⟩)) := hO 3 (by kernel_rfl)
    have r3 := q3
    rw [Array.getD_eq_getD_getElem?] at r3
    clear hO hφ
    clear KS
    go_simp
    exact hK _ _ (Kp.refl _) rfl
  · intro a W hW hO hφ K hK
    have q36 : a.tmps.getD 36 undef = (.pointer (some ⟨w.heap.size, 2, none⟩)) := hφ ⟨7, .data⟩ (by simp) rfl
    have r36 := q36
    rw [Array.getD_eq_getD_getElem?] at r36
    clear hO hφ
    obtain ⟨⟨k0, k1, k2⟩, ⟨k3, k4, k5, k6⟩, ⟨k7, k8, k9, k10⟩⟩ := KS W (HKX.out.trans (Kp.trans ((Kp.refl _).drew) hW))
    clear KS
    go_simp
    exact hK _ _ (Kp.refl _) rfl
  · intro a W hW hO hφ K hK
    have q37 : a.tmps.getD 37 undef = (.slice A n c) := hφ ⟨8, .data⟩ (by simp) rfl
    have r37 := q37
    rw [Array.getD_eq_getD_getElem?] at r37
    clear hO hφ
    clear KS
    have cv := conv_str (P := Try.prog) (c := c) Try.underlying23 Try.underlying5 Try.underlying9 (HA.out.keep (HKX.out.trans (Kp.trans ((Kp.refl _).drew) hW)))
    go_simp
    exact hK _ _ (Kp.refl _) rfl
  · intro a W hW hO hφ K hK
    have q35 : a.tmps.getD 35 undef = (.string (str (PS ++ (X ++ [0, 0])))) := hφ ⟨6, .data⟩ (by simp) rfl
    have q38 : a.tmps.getD 38 undef = (.string (str l)) := hφ ⟨9, .data⟩ (by simp) rfl
    have r35 := q35
    rw [Array.getD_eq_getD_getElem?] at r35
    have r38 := q38
    rw [Array.getD_eq_getD_getElem?] at r38
    clear hO hφ
    clear KS
    go_simp
    exact hK _ _ (Kp.refl _) rfl
  · intro a W hW hO hφ K hK
    have q39 : a.tmps.getD 39 undef = (.string (str (PS ++ (X ++ 0 :: 0 :: l)))) := hφ ⟨10, .data⟩ (by simp) rfl
    have r39 := q39
    rw [Array.getD_eq_getD_getElem?] at r39
    clear hO hφ
    clear KS
    go_simp
    go_at_call 21
    refine (RS.out _).mono ?_
    rintro e w' ⟨rfl, rfl⟩
    exact hK _ _ (Kp.refl _) rfl
  · intro a W hW hO hφ K hK
    have q40 : a.tmps.getD 40 undef = (.int .u16 (S : Int)) := hφ ⟨11, .data⟩ (by simp) rfl
    have r40 := q40
    rw [Array.getD_eq_getD_getElem?] at r40
    clear hO hφ
    clear KS
    go_simp
    exact hK _ _ (Kp.refl _) rfl
  · intro a W hW hO hφ K hK
    have q41 : a.tmps.getD 41 undef = (.int .i64 (S : Int)) := hφ ⟨12, .data⟩ (by simp) rfl
    have r41 := q41
    rw [Array.getD_eq_getD_getElem?] at r41
    clear hO hφ
    clear KS
    go_simp
    exact hK _ _ (Kp.refl _) rfl
  intro f W hW hφ
  have v0 : f 0 = (.agg #[.int .u8 (s0.toNat : Int), .int .u8 (s1.toNat : Int), .int .u8 (s2.toNat : Int), .int .u8 (s3.toNat : Int)]) := hφ 0 (by omega)
  have v1 : f 1 = (.agg #[.int .u8 (d0.toNat : Int), .int .u8 (d1.toNat : Int), .int .u8 (d2.toNat : Int), .int .u8 (d3.toNat : Int)]) := hφ 1 (by omega)
  have v2 : f 2 = (.int .i64 (N : Int)) := hφ 2 (by omega)
  have v3 : f 3 = (.string (str PS)) := hφ 3 (by omega)
  have v4 : f 4 = (.string (str X)) := hφ 4 (by omega)
  have v5 : f 5 = (.string (str (PS ++ X))) := hφ 5 (by omega)
  have v6 : f 6 = (.string (str (PS ++ (X ++ [0, 0])))) := hφ 6 (by omega)
  have v7 : f 7 = (.pointer (some ⟨w.heap.size, 2, none⟩)) := hφ 7 (by omega)
  have v8 : f 8 = (.slice A n c) := hφ 8 (by omega)
  have v9 : f 9 = (.string (str l)) := hφ 9 (by omega)
  have v10 : f 10 = (.string (str (PS ++ (X ++ 0 :: 0 :: l)))) := hφ 10 (by omega)
  have v11 : f 11 = (.int .u16 (S : Int)) := hφ 11 (by omega)
  have v12 : f 12 = (.int .i64 (S : Int)) := hφ 12 (by omega)
  have v13 : f 13 = (.int .i64 (S : Int)) := hφ 13 (by omega)
  clear hφ
  simp only [putAll, List.setIfInBounds_toArray, List.set_cons_succ, List.set_cons_zero, v0, v1, v2, v3, v4, v5, v6, v7, v8, v9, v10, v11, v12, v13]
  clear v0 v1 v2 v3 v4 v5 v6 v7 v8 v9 v10 v11 v12 v13
  refine wpAny_done (by kernel_rfl) ?_ _
  have HK8 := Lib.hid (HKX.out.trans (Kp.trans ((Kp.refl _).drew) hW))
  clear hW HKX RP RS
  have HKX := HK8
  clear HK8
  by_cases hS0 : S = 0
  case' pos =>
    have hf : fx = 65535 := by rw [← hfx]; unfold fixs; rw [if_pos hS0]
    have hb0 : ((S : Int) == 0) = true := by rw [hS0]; rfl
    have HF := Lib.hid hf
    clear hf hS0 hfx
    go_wp2_with fail
    rw [show Value.int IntKind.i64 65535 = Value.int IntKind.i64 (fx : Int) by rw [HF.out]; rfl]
  case' neg =>
    have hf : fx = S := by rw [← hfx]; unfold fixs; rw [if_neg hS0]
    have hb0 : ((S : Int) == 0) = false := by rw [beq_eq_false_iff_ne]; omega
    have HF := Lib.hid hf
    clear hf hS0 hfx
    go_wp2_with fail
    rw [show Value.int IntKind.i64 (S : Int) = Value.int IntKind.i64 (fx : Int) by rw [HF.out]]
  all_goals
    clear hb0
    refine wp_region_steps (by kernel_rfl) 10 (g8cphi w fx n c A X l) [44, 45, 46, 47, 48, 49, 50, 51, 6, 7] (by kernel_rfl) (by kernel_rfl) ⟨?_, ?_, ?_, ?_, ?_, ?_, ?_, ?_, ?_, ?_, trivial⟩ ?_
    · intro a W hW hO hφ K hK
      have q9 : a.tmps.getD 9 undef = (.string (str X)) := hO 9 (by kernel_rfl)
      have r9 := q9
      rw [Array.getD_eq_getD_getElem?] at r9
      clear hO hφ
      clear KS
      go_simp
      exact hK _ _ (Kp.refl _) rfl
    · intro a W hW hO hφ K hK
      have q10 : a.tmps.getD 10 undef = (.int .i64 (fx : Int)) := hO 10 (by kernel_rfl)
      have r10 := q10
      rw [Array.getD_eq_getD_getElem?] at r10
      clear hO hφ
      clear KS
      go_simp
      exact hK _ _ (Kp.refl _) rfl
    · intro a W hW hO hφ K hK
      have q45 : a.tmps.getD 45 undef = (.int .i64 (fx : Int)) := hφ ⟨1, .data⟩ (by simp) rfl
      have r45 := q45
      rw [Array.getD_eq_getD_getElem?] at r45
      clear hO hφ
      clear KS
      go_simp
      go_at_call 20
      refine (word_any _ fx (by omega)).mono ?_
      rintro e w' ⟨rfl, hk⟩
      exact hK _ _ hk rfl
    · intro a W hW hO hφ K hK
      have q44 : a.tmps.getD 44 undef = (.string (str X)) := hφ ⟨0, .data⟩ (by simp) rfl
      have q46 : a.tmps.getD 46 undef = (.string (str (wd2 fx))) := hφ ⟨2, .data⟩ (by simp) rfl
      have r44 := q44
      rw [Array.getD_eq_getD_getElem?] at r44
      have r46 := q46
      rw [Array.getD_eq_getD_getElem?] at r46
      clear hO hφ
      clear KS
      go_simp
      exact hK _ _ (Kp.refl _) rfl
    · intro a W hW hO hφ K hK
      have q3 : a.tmps.getD 3 undef = (.pointer (some ⟨w.heap.size, 0, none⟩)) := hO 3 (by kernel_rfl)
      have r3 := q3
      rw [Array.getD_eq_getD_getElem?] at r3
      clear hO hφ
      clear KS
      go_simp
      exact hK _ _ (Kp.refl _) rfl
    · intro a W hW hO hφ K hK
      have q48 : a.tmps.getD 48 undef = (.pointer (some ⟨w.heap.size, 2, none⟩)) := hφ ⟨4, .data⟩ (by simp) rfl
      have r48 := q48
      rw [Array.getD_eq_getD_getElem?] at r48
      clear hO hφ
      obtain ⟨⟨k0, k1, k2⟩, ⟨k3, k4, k5, k6⟩, ⟨k7, k8, k9, k10⟩⟩ := KS W (HKX.out.trans (Kp.trans ((Kp.refl _).drew) hW))
      clear KS
      go_simp
      exact hK _ _ (Kp.refl _) rfl
    · intro a W hW hO hφ K hK
      have q49 : a.tmps.getD 49 undef = (.slice A n c) := hφ ⟨5, .data⟩ (by simp) rfl
      have r49 := q49
      rw [Array.getD_eq_getD_getElem?] at r49
      clear hO hφ
      clear KS
      have cv := conv_str (P := Try.prog) (c := c) Try.underlying23 Try.underlying5 Try.underlying9 (HA.out.keep (HKX.out.trans (Kp.trans ((Kp.refl _).drew) hW)))
      go_simp
      exact hK _ _ (Kp.refl _) rfl
    · intro a W hW hO hφ K hK
      have q47 : a.tmps.getD 47 undef = (.string (str (X ++ wd2 fx))) := hφ ⟨3, .data⟩ (by simp) rfl
      have q50 : a.tmps.getD 50 undef = (.string (str l)) := hφ ⟨6, .data⟩ (by simp) rfl
      have r47 := q47
      rw [Array.getD_eq_getD_getElem?] at r47
      have r50 := q50
      rw [Array.getD_eq_getD_getElem?] at r50
      clear hO hφ
      clear KS
      go_simp
      exact hK _ _ (Kp.refl _) rfl
    · intro a W hW hO hφ K hK
      have q51 : a.tmps.getD 51 undef = (.string (str (X ++ (wd2 fx ++ l)))) := hφ ⟨7, .data⟩ (by simp) rfl
      have r51 := q51
      rw [Array.getD_eq_getD_getElem?] at r51
      clear hO hφ
      clear KS
      go_simp
      exact hK _ _ (Kp.refl _) rfl
    · intro a W hW hO hφ K hK
      clear hO hφ
      clear KS
      go_simp
      exact hK _ _ (Kp.refl _) rfl
    intro f W hW hφ
    have v0 : f 0 = (.string (str X)) := hφ 0 (by omega)
    have v1 : f 1 = (.int .i64 (fx : Int)) := hφ 1 (by omega)
    have v2 : f 2 = (.string (str (wd2 fx))) := hφ 2 (by omega)
    have v3 : f 3 = (.string (str (X ++ wd2 fx))) := hφ 3 (by omega)
    have v4 : f 4 = (.pointer (some ⟨w.heap.size, 2, none⟩)) := hφ 4 (by omega)
    have v5 : f 5 = (.slice A n c) := hφ 5 (by omega)
    have v6 : f 6 = (.string (str l)) := hφ 6 (by omega)
    have v7 : f 7 = (.string (str (X ++ (wd2 fx ++ l)))) := hφ 7 (by omega)
    have v8 : f 8 = (.string (str (X ++ (wd2 fx ++ l)))) := hφ 8 (by omega)
    have v9 : f 9 = (.int .i64 0) := hφ 9 (by omega)
    clear hφ
    simp only [putAll, List.setIfInBounds_toArray, List.set_cons_succ, List.set_cons_zero, v0, v1, v2, v3, v4, v5, v6, v7, v8, v9]
    clear v0 v1 v2 v3 v4 v5 v6 v7 v8 v9
    refine wpAny_done (by kernel_rfl) ?_ _
    go_wp2
    go_ret2
    exact ⟨rfl, HKB.out.trans (HKX.out.trans (Kp.trans ((Kp.refl _).drew) hW))⟩
end Go.Proofs.Ytpjjanbcjkdciaa
