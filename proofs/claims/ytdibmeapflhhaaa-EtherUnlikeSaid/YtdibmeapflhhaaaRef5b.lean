/-
  The contracts of the document's answers for frames: Build and Parse.
-/
import Derived.Test.YtdibmeapflhhaaaSame5
import Derived.Test.YtdibmeapflhhaaaCut
import Derived.Test.YtdibmeapflhhaaaStable
namespace Go.Proofs.Ytdibmeapflhhaaa
open Go.RowKit

def frameBytes (d s : List UInt8) (ty : Nat) (b : List UInt8) : List UInt8 := d ++ s ++ [UInt8.ofNat (ty / 256), UInt8.ofNat (ty % 256)] ++ b

def RBuildPost (w : World) (d s : List UInt8) (ty : Nat) (b : List UInt8) (e : Ending) (w' : World) : Prop :=
  Kp w w' ∧ ((200 < b.length ∧ e = .returned (.tuple #[.string (str []), .int .i64 4])) ∨ (b.length ≤ 200 ∧ e = .returned (.tuple #[.string (str (frameBytes d s ty b)), .int .i64 0])))

noncomputable def bphi (w : World) (d0 d1 d2 d3 d4 d5 s0 s1 s2 s3 s4 s5 : UInt8) (ty : Nat) (A : Option Addr) (n c : Nat) (l : List UInt8) : Nat → St := fun i => ([St.val (.pointer (some ⟨w.heap.size, 0, none⟩)),
  St.val (.agg #[.int .u8 (d0.toNat : Int), .int .u8 (d1.toNat : Int), .int .u8 (d2.toNat : Int), .int .u8 (d3.toNat : Int), .int .u8 (d4.toNat : Int), .int .u8 (d5.toNat : Int)]),
  St.val (.string (str [d0, d1, d2, d3, d4, d5])),
  St.val (.pointer (some ⟨w.heap.size, 6, none⟩)),
  St.val (.agg #[.int .u8 (s0.toNat : Int), .int .u8 (s1.toNat : Int), .int .u8 (s2.toNat : Int), .int .u8 (s3.toNat : Int), .int .u8 (s4.toNat : Int), .int .u8 (s5.toNat : Int)]),
  St.val (.string (str [s0, s1, s2, s3, s4, s5])),
  St.val (.string (str ([d0, d1, d2, d3, d4, d5] ++ [s0, s1, s2, s3, s4, s5]))),
  St.val (.pointer (some ⟨w.heap.size, 12, none⟩)),
  St.val (.int .u16 (ty : Int)),
  St.val (.int .u16 ((ty : Int) / 256)),
  St.val (.int .u8 ((ty : Int) / 256)),
  St.val (.pointer (some ⟨w.heap.size, 12, none⟩)),
  St.val (.int .u16 (ty : Int)),
  St.val (.int .u16 ((ty : Int) % 256)),
  St.val (.int .u8 ((ty : Int) % 256)),
  St.rd 2 [UInt8.ofNat (ty / 256), UInt8.ofNat (ty % 256)],
  St.val (.string (str [UInt8.ofNat (ty / 256), UInt8.ofNat (ty % 256)])),
  St.val (.string (str ([d0, d1, d2, d3, d4, d5] ++ [s0, s1, s2, s3, s4, s5] ++ [UInt8.ofNat (ty / 256), UInt8.ofNat (ty % 256)]))),
  St.val (.pointer (some ⟨w.heap.size, 13, none⟩)),
  St.val (.slice A n c),
  St.val (.string (str l)),
  St.val (.string (str (frameBytes [d0, d1, d2, d3, d4, d5] [s0, s1, s2, s3, s4, s5] ty l))),
  St.val (.string (str (frameBytes [d0, d1, d2, d3, d4, d5] [s0, s1, s2, s3, s4, s5] ty l))),
  St.val (.int .i64 0)] : List St).getD i St.any

set_option maxRecDepth 100000 in
set_option maxHeartbeats 2000000 in
theorem rbuild_any (w : World) (d0 d1 d2 d3 d4 d5 s0 s1 s2 s3 s4 s5 : UInt8) (ty : Nat) (hty : ty ≤ 65535) (A : Option Addr) (n c : Nat) (l : List UInt8) (hA : Rd w 0 A n l) :
    Calls Try.prog 16 #[.agg #[.int .u8 (d0.toNat : Int), .int .u8 (d1.toNat : Int), .int .u8 (d2.toNat : Int), .int .u8 (d3.toNat : Int), .int .u8 (d4.toNat : Int), .int .u8 (d5.toNat : Int), .int .u8 (s0.toNat : Int), .int .u8 (s1.toNat : Int), .int .u8 (s2.toNat : Int), .int .u8 (s3.toNat : Int), .int .u8 (s4.toNat : Int), .int .u8 (s5.toNat : Int), .int .u16 (ty : Int), .slice A n c]] w (RBuildPost w [d0, d1, d2, d3, d4, d5] [s0, s1, s2, s3, s4, s5] ty l) := by
  by_cases h : 200 < n
  · go_enter Try.func16, Try.ntmps16
    go_wp2
    go_ret2
    exact ⟨(Kp.refl _).alloc _, .inl ⟨by rw [hA.len]; exact h, rfl⟩⟩
  · have KS : ∀ w' : World, Kp (w.alloc (.cells #[.int .u8 (d0.toNat : Int), .int .u8 (d1.toNat : Int), .int .u8 (d2.toNat : Int), .int .u8 (d3.toNat : Int), .int .u8 (d4.toNat : Int), .int .u8 (d5.toNat : Int), .int .u8 (s0.toNat : Int), .int .u8 (s1.toNat : Int), .int .u8 (s2.toNat : Int), .int .u8 (s3.toNat : Int), .int .u8 (s4.toNat : Int), .int .u8 (s5.toNat : Int), .int .u16 (ty : Int), .slice A n c] 27)) w' → (Kp (w.alloc (.cells #[.int .u8 (d0.toNat : Int), .int .u8 (d1.toNat : Int), .int .u8 (d2.toNat : Int), .int .u8 (d3.toNat : Int), .int .u8 (d4.toNat : Int), .int .u8 (d5.toNat : Int), .int .u8 (s0.toNat : Int), .int .u8 (s1.toNat : Int), .int .u8 (s2.toNat : Int), .int .u8 (s3.toNat : Int), .int .u8 (s4.toNat : Int), .int .u8 (s5.toNat : Int), .int .u16 (ty : Int), .slice A n c] 27)) w' ∧ w'.cell? ⟨w.heap.size, 0, none⟩ = some (.int .u8 (d0.toNat : Int)) ∧ w'.cell? ⟨w.heap.size, 1, none⟩ = some (.int .u8 (d1.toNat : Int)) ∧ w'.cell? ⟨w.heap.size, 2, none⟩ = some (.int .u8 (d2.toNat : Int)) ∧ w'.cell? ⟨w.heap.size, 3, none⟩ = some (.int .u8 (d3.toNat : Int)) ∧ w'.cell? ⟨w.heap.size, 4, none⟩ = some (.int .u8 (d4.toNat : Int)) ∧ w'.cell? ⟨w.heap.size, 5, none⟩ = some (.int .u8 (d5.toNat : Int)) ∧ w'.cell? ⟨w.heap.size, 6, none⟩ = some (.int .u8 (s0.toNat : Int)) ∧ w'.cell? ⟨w.heap.size, 7, none⟩ = some (.int .u8 (s1.toNat : Int)) ∧ w'.cell? ⟨w.heap.size, 8, none⟩ = some (.int .u8 (s2.toNat : Int)) ∧ w'.cell? ⟨w.heap.size, 9, none⟩ = some (.int .u8 (s3.toNat : Int)) ∧ w'.cell? ⟨w.heap.size, 10, none⟩ = some (.int .u8 (s4.toNat : Int)) ∧ w'.cell? ⟨w.heap.size, 11, none⟩ = some (.int .u8 (s5.toNat : Int)) ∧ w'.cell? ⟨w.heap.size, 12, none⟩ = some (.int .u16 (ty : Int)) ∧ w'.cell? ⟨w.heap.size, 13, none⟩ = some (.slice A n c) ∧ (convert 25 9 (.slice A n c)).run Try.prog w' = .ok (.string (str l)) w') := by
      intro w' hk
      have hw : Kp w w' := ((Kp.refl w).alloc _).trans hk
      refine ⟨hk, ?_, ?_, ?_, ?_, ?_, ?_, ?_, ?_, ?_, ?_, ?_, ?_, ?_, ?_, conv_str (P := Try.prog) (c := c) Try.underlying25 Try.underlying5 Try.underlying9 (hA.keep hw)⟩
      all_goals (refine hk.cell ?_; rw [cell_new]; rfl)
    have ru1 : IntKind.u16.wrap ((ty : Int) / 256) = (ty : Int) / 256 := wrap_u16 (by omega) (by omega)
    have ru2 : (ty : Int).tmod 256 = (ty : Int) % 256 := Int.tmod_eq_emod_of_nonneg (by omega)
    have ru3 : IntKind.u8.wrap ((ty : Int) / 256) = (ty : Int) / 256 := wrap_u8 (by omega) (by omega)
    have ru4 : IntKind.u8.wrap ((ty : Int) % 256) = (ty : Int) % 256 := wrap_u8 (by omega) (by omega)
    have hap := str_append
    have hsz := str_size
    have hll : l.length ≤ 200 := by rw [hA.len]; omega
    have hcv : ∀ W : World, (convert 25 9 (.slice (some ⟨W.heap.size, 0, none⟩) 2 2)).run Try.prog (W.alloc (.cells #[.int .u8 ((ty : Int) / 256), .int .u8 ((ty : Int) % 256)] 5)) = .ok (.string (str [UInt8.ofNat (ty / 256), UInt8.ofNat (ty % 256)])) (W.alloc (.cells #[.int .u8 ((ty : Int) / 256), .int .u8 ((ty : Int) % 256)] 5)) :=
      fun W => conv_str (P := Try.prog) (lo := 0) Try.underlying25 Try.underlying5 Try.underlying9 (rd_lit rfl (Nat.zero_le _) rfl (bytes2 ty hty))
    go_enter Try.func16, Try.ntmps16
    go_wp2
    refine wp_region_steps (by kernel_rfl) 24 (bphi w d0 d1 d2 d3 d4 d5 s0 s1 s2 s3 s4 s5 ty A n c l) [8, 9, 10, 11, 12, 13, 14, 15, 16, 17, 18, 19, 20, 21, 22, 23, 24, 25, 26, 27, 28, 29, 2, 3] (by kernel_rfl) (by kernel_rfl) ⟨?_, ?_, ?_, ?_, ?_, ?_, ?_, ?_, ?_, ?_, ?_, ?_, ?_, ?_, ?_, ?_, ?_, ?_, ?_, ?_, ?_, ?_, ?_, ?_, trivial⟩ ?_
    · intro a W hW hO hφ K hK
      have q1 : a.tmps.getD 1 undef = (.pointer (some ⟨w.heap.size, 0, none⟩)) := hO 1 (by kernel_rfl)
      have r1 := q1
      rw [Array.getD_eq_getD_getElem?] at r1
      clear hO hφ
      clear KS
      go_simp
      exact hK _ _ (Kp.refl _) rfl
    · intro a W hW hO hφ K hK
      have q8 : a.tmps.getD 8 undef = (.pointer (some ⟨w.heap.size, 0, none⟩)) := hφ ⟨0, .data⟩ (by simp) rfl
      have r8 := q8
      rw [Array.getD_eq_getD_getElem?] at r8
      clear hO hφ
      obtain ⟨_, c0, c1, c2, c3, c4, c5, c6, c7, c8, c9, c10, c11, c12, c13, cv⟩ := KS W (Kp.trans ((Kp.refl _).drew) hW)
      clear KS
      go_simp
      exact hK _ _ (Kp.refl _) rfl
    · intro a W hW hO hφ K hK
      have q9 : a.tmps.getD 9 undef = (.agg #[.int .u8 (d0.toNat : Int), .int .u8 (d1.toNat : Int), .int .u8 (d2.toNat : Int), .int .u8 (d3.toNat : Int), .int .u8 (d4.toNat : Int), .int .u8 (d5.toNat : Int)]) := hφ ⟨1, .data⟩ (by simp) rfl
      have r9 := q9
      rw [Array.getD_eq_getD_getElem?] at r9
      clear hO hφ
      clear KS
      go_simp
      go_at_call 32
      refine (card_any _ _ _ _ _ _ _).mono ?_
      rintro e w' ⟨rfl, hk⟩
      exact hK _ _ hk rfl
    · intro a W hW hO hφ K hK
      have q1 : a.tmps.getD 1 undef = (.pointer (some ⟨w.heap.size, 0, none⟩)) := hO 1 (by kernel_rfl)
      have r1 := q1
      rw [Array.getD_eq_getD_getElem?] at r1
      clear hO hφ
      clear KS
      go_simp
      exact hK _ _ (Kp.refl _) rfl
    · intro a W hW hO hφ K hK
      have q11 : a.tmps.getD 11 undef = (.pointer (some ⟨w.heap.size, 6, none⟩)) := hφ ⟨3, .data⟩ (by simp) rfl
      have r11 := q11
      rw [Array.getD_eq_getD_getElem?] at r11
      clear hO hφ
      obtain ⟨_, c0, c1, c2, c3, c4, c5, c6, c7, c8, c9, c10, c11, c12, c13, cv⟩ := KS W (Kp.trans ((Kp.refl _).drew) hW)
      clear KS
      go_simp
      exact hK _ _ (Kp.refl _) rfl
    · intro a W hW hO hφ K hK
      have q12 : a.tmps.getD 12 undef = (.agg #[.int .u8 (s0.toNat : Int), .int .u8 (s1.toNat : Int), .int .u8 (s2.toNat : Int), .int .u8 (s3.toNat : Int), .int .u8 (s4.toNat : Int), .int .u8 (s5.toNat : Int)]) := hφ ⟨4, .data⟩ (by simp) rfl
      have r12 := q12
      rw [Array.getD_eq_getD_getElem?] at r12
      clear hO hφ
      clear KS
      go_simp
      go_at_call 32
      refine (card_any _ _ _ _ _ _ _).mono ?_
      rintro e w' ⟨rfl, hk⟩
      exact hK _ _ hk rfl
    · intro a W hW hO hφ K hK
      have q10 : a.tmps.getD 10 undef = (.string (str [d0, d1, d2, d3, d4, d5])) := hφ ⟨2, .data⟩ (by simp) rfl
      have q13 : a.tmps.getD 13 undef = (.string (str [s0, s1, s2, s3, s4, s5])) := hφ ⟨5, .data⟩ (by simp) rfl
      have r10 := q10
      rw [Array.getD_eq_getD_getElem?] at r10
      have r13 := q13
      rw [Array.getD_eq_getD_getElem?] at r13
      clear hO hφ
      clear KS
      go_simp
      exact hK _ _ (Kp.refl _) rfl
    · intro a W hW hO hφ K hK
      have q1 : a.tmps.getD 1 undef = (.pointer (some ⟨w.heap.size, 0, none⟩)) := hO 1 (by kernel_rfl)
      have r1 := q1
      rw [Array.getD_eq_getD_getElem?] at r1
      clear hO hφ
      clear KS
      go_simp
      exact hK _ _ (Kp.refl _) rfl
    · intro a W hW hO hφ K hK
      have q15 : a.tmps.getD 15 undef = (.pointer (some ⟨w.heap.size, 12, none⟩)) := hφ ⟨7, .data⟩ (by simp) rfl
      have r15 := q15
      rw [Array.getD_eq_getD_getElem?] at r15
      clear hO hφ
      obtain ⟨_, c0, c1, c2, c3, c4, c5, c6, c7, c8, c9, c10, c11, c12, c13, cv⟩ := KS W (Kp.trans ((Kp.refl _).drew) hW)
      clear KS
      go_simp
      exact hK _ _ (Kp.refl _) rfl
    · intro a W hW hO hφ K hK
      have q16 : a.tmps.getD 16 undef = (.int .u16 (ty : Int)) := hφ ⟨8, .data⟩ (by simp) rfl
      have r16 := q16
      rw [Array.getD_eq_getD_getElem?] at r16
      clear hO hφ
      clear KS
      go_simp
      exact hK _ _ (Kp.refl _) rfl
    · intro a W hW hO hφ K hK
      have q17 : a.tmps.getD 17 undef = (.int .u16 ((ty : Int) / 256)) := hφ ⟨9, .data⟩ (by simp) rfl
      have r17 := q17
      rw [Array.getD_eq_getD_getElem?] at r17
      clear hO hφ
      clear KS
      go_simp
      exact hK _ _ (Kp.refl _) rfl
    · intro a W hW hO hφ K hK
      have q1 : a.tmps.getD 1 undef = (.pointer (some ⟨w.heap.size, 0, none⟩)) := hO 1 (by kernel_rfl)
      have r1 := q1
      rw [Array.getD_eq_getD_getElem?] at r1
      clear hO hφ
      clear KS
      go_simp
      exact hK _ _ (Kp.refl _) rfl
    · intro a W hW hO hφ K hK
      have q19 : a.tmps.getD 19 undef = (.pointer (some ⟨w.heap.size, 12, none⟩)) := hφ ⟨11, .data⟩ (by simp) rfl
      have r19 := q19
      rw [Array.getD_eq_getD_getElem?] at r19
      clear hO hφ
      obtain ⟨_, c0, c1, c2, c3, c4, c5, c6, c7, c8, c9, c10, c11, c12, c13, cv⟩ := KS W (Kp.trans ((Kp.refl _).drew) hW)
      clear KS
      go_simp
      exact hK _ _ (Kp.refl _) rfl
    · intro a W hW hO hφ K hK
      have q20 : a.tmps.getD 20 undef = (.int .u16 (ty : Int)) := hφ ⟨12, .data⟩ (by simp) rfl
      have r20 := q20
      rw [Array.getD_eq_getD_getElem?] at r20
      clear hO hφ
      clear KS
      go_simp
      exact hK _ _ (Kp.refl _) rfl
    · intro a W hW hO hφ K hK
      have q21 : a.tmps.getD 21 undef = (.int .u16 ((ty : Int) % 256)) := hφ ⟨13, .data⟩ (by simp) rfl
      have r21 := q21
      rw [Array.getD_eq_getD_getElem?] at r21
      clear hO hφ
      clear KS
      go_simp
      exact hK _ _ (Kp.refl _) rfl
    · intro a W hW hO hφ K hK
      have q18 : a.tmps.getD 18 undef = (.int .u8 ((ty : Int) / 256)) := hφ ⟨10, .data⟩ (by simp) rfl
      have q22 : a.tmps.getD 22 undef = (.int .u8 ((ty : Int) % 256)) := hφ ⟨14, .data⟩ (by simp) rfl
      have r18 := q18
      rw [Array.getD_eq_getD_getElem?] at r18
      have r22 := q22
      rw [Array.getD_eq_getD_getElem?] at r22
      clear hO hφ
      clear KS
      go_simp
      exact hK _ _ ((Kp.refl _).alloc _) ⟨_, _, rfl, rd_lit rfl (Nat.zero_le _) rfl (bytes2 ty hty)⟩
    · intro a W hW hO hφ K hK
      have q23 : (St.rd 2 [UInt8.ofNat (ty / 256), UInt8.ofNat (ty % 256)]).p (a.tmps.getD 23 undef) W := hφ ⟨15, .data⟩ (by simp) rfl
      clear hO hφ
      clear KS
      obtain ⟨A1, c1, q23', hr⟩ := q23
      have cv := conv_str (P := Try.prog) (c := c1) Try.underlying25 Try.underlying5 Try.underlying9 hr
      go_simp
      exact hK _ _ (Kp.refl _) rfl
    · intro a W hW hO hφ K hK
      have q14 : a.tmps.getD 14 undef = (.string (str ([d0, d1, d2, d3, d4, d5] ++ [s0, s1, s2, s3, s4, s5]))) := hφ ⟨6, .data⟩ (by simp) rfl
      have q24 : a.tmps.getD 24 undef = (.string (str [UInt8.ofNat (ty / 256), UInt8.ofNat (ty % 256)])) := hφ ⟨16, .data⟩ (by simp) rfl
      have r14 := q14
      rw [Array.getD_eq_getD_getElem?] at r14
      have r24 := q24
      rw [Array.getD_eq_getD_getElem?] at r24
      clear hO hφ
      clear KS
      go_simp
      exact hK _ _ (Kp.refl _) rfl
    · intro a W hW hO hφ K hK
      have q1 : a.tmps.getD 1 undef = (.pointer (some ⟨w.heap.size, 0, none⟩)) := hO 1 (by kernel_rfl)
      have r1 := q1
      rw [Array.getD_eq_getD_getElem?] at r1
      clear hO hφ
      clear KS
      go_simp
      exact hK _ _ (Kp.refl _) rfl
    · intro a W hW hO hφ K hK
      have q26 : a.tmps.getD 26 undef = (.pointer (some ⟨w.heap.size, 13, none⟩)) := hφ ⟨18, .data⟩ (by simp) rfl
      have r26 := q26
      rw [Array.getD_eq_getD_getElem?] at r26
      clear hO hφ
      obtain ⟨_, c0, c1, c2, c3, c4, c5, c6, c7, c8, c9, c10, c11, c12, c13, cv⟩ := KS W (Kp.trans ((Kp.refl _).drew) hW)
      clear KS
      go_simp
      exact hK _ _ (Kp.refl _) rfl
    · intro a W hW hO hφ K hK
      have q27 : a.tmps.getD 27 undef = (.slice A n c) := hφ ⟨19, .data⟩ (by simp) rfl
      have r27 := q27
      rw [Array.getD_eq_getD_getElem?] at r27
      clear hO hφ
      obtain ⟨_, c0, c1, c2, c3, c4, c5, c6, c7, c8, c9, c10, c11, c12, c13, cv⟩ := KS W (Kp.trans ((Kp.refl _).drew) hW)
      clear KS
      go_simp
      exact hK _ _ (Kp.refl _) rfl
    · intro a W hW hO hφ K hK
      have q25 : a.tmps.getD 25 undef = (.string (str ([d0, d1, d2, d3, d4, d5] ++ [s0, s1, s2, s3, s4, s5] ++ [UInt8.ofNat (ty / 256), UInt8.ofNat (ty % 256)]))) := hφ ⟨17, .data⟩ (by simp) rfl
      have q28 : a.tmps.getD 28 undef = (.string (str l)) := hφ ⟨20, .data⟩ (by simp) rfl
      have r25 := q25
      rw [Array.getD_eq_getD_getElem?] at r25
      have r28 := q28
      rw [Array.getD_eq_getD_getElem?] at r28
      clear hO hφ
      have hb : ¬ 9223372036854775807 < 14 + l.length := by omega
      clear KS
      go_simp
      exact hK _ _ (Kp.refl _) rfl
    · intro a W hW hO hφ K hK
      have q29 : a.tmps.getD 29 undef = (.string (str (frameBytes [d0, d1, d2, d3, d4, d5] [s0, s1, s2, s3, s4, s5] ty l))) := hφ ⟨21, .data⟩ (by simp) rfl
      have r29 := q29
      rw [Array.getD_eq_getD_getElem?] at r29
      clear hO hφ
      clear KS
      go_simp
      exact hK _ _ (Kp.refl _) rfl
    · intro a W hW hO hφ K hK
      clear hO hφ
      clear KS
      go_simp
      exact hK _ _ (Kp.refl _) rfl
    intro f W hW hφ
    have v0 : f 0 = (.pointer (some ⟨w.heap.size, 0, none⟩)) := hφ 0 (by omega)
    have v1 : f 1 = (.agg #[.int .u8 (d0.toNat : Int), .int .u8 (d1.toNat : Int), .int .u8 (d2.toNat : Int), .int .u8 (d3.toNat : Int), .int .u8 (d4.toNat : Int), .int .u8 (d5.toNat : Int)]) := hφ 1 (by omega)
    have v2 : f 2 = (.string (str [d0, d1, d2, d3, d4, d5])) := hφ 2 (by omega)
    have v3 : f 3 = (.pointer (some ⟨w.heap.size, 6, none⟩)) := hφ 3 (by omega)
    have v4 : f 4 = (.agg #[.int .u8 (s0.toNat : Int), .int .u8 (s1.toNat : Int), .int .u8 (s2.toNat : Int), .int .u8 (s3.toNat : Int), .int .u8 (s4.toNat : Int), .int .u8 (s5.toNat : Int)]) := hφ 4 (by omega)
    have v5 : f 5 = (.string (str [s0, s1, s2, s3, s4, s5])) := hφ 5 (by omega)
    have v6 : f 6 = (.string (str ([d0, d1, d2, d3, d4, d5] ++ [s0, s1, s2, s3, s4, s5]))) := hφ 6 (by omega)
    have v7 : f 7 = (.pointer (some ⟨w.heap.size, 12, none⟩)) := hφ 7 (by omega)
    have v8 : f 8 = (.int .u16 (ty : Int)) := hφ 8 (by omega)
    have v9 : f 9 = (.int .u16 ((ty : Int) / 256)) := hφ 9 (by omega)
    have v10 : f 10 = (.int .u8 ((ty : Int) / 256)) := hφ 10 (by omega)
    have v11 : f 11 = (.pointer (some ⟨w.heap.size, 12, none⟩)) := hφ 11 (by omega)
    have v12 : f 12 = (.int .u16 (ty : Int)) := hφ 12 (by omega)
    have v13 : f 13 = (.int .u16 ((ty : Int) % 256)) := hφ 13 (by omega)
    have v14 : f 14 = (.int .u8 ((ty : Int) % 256)) := hφ 14 (by omega)
    have v15 : (St.rd 2 [UInt8.ofNat (ty / 256), UInt8.ofNat (ty % 256)]).p (f 15) W := hφ 15 (by omega)
    have v16 : f 16 = (.string (str [UInt8.ofNat (ty / 256), UInt8.ofNat (ty % 256)])) := hφ 16 (by omega)
    have v17 : f 17 = (.string (str ([d0, d1, d2, d3, d4, d5] ++ [s0, s1, s2, s3, s4, s5] ++ [UInt8.ofNat (ty / 256), UInt8.ofNat (ty % 256)]))) := hφ 17 (by omega)
    have v18 : f 18 = (.pointer (some ⟨w.heap.size, 13, none⟩)) := hφ 18 (by omega)
    have v19 : f 19 = (.slice A n c) := hφ 19 (by omega)
    have v20 : f 20 = (.string (str l)) := hφ 20 (by omega)
    have v21 : f 21 = (.string (str (frameBytes [d0, d1, d2, d3, d4, d5] [s0, s1, s2, s3, s4, s5] ty l))) := hφ 21 (by omega)
    have v22 : f 22 = (.string (str (frameBytes [d0, d1, d2, d3, d4, d5] [s0, s1, s2, s3, s4, s5] ty l))) := hφ 22 (by omega)
    have v23 : f 23 = (.int .i64 0) := hφ 23 (by omega)
    clear hφ
    simp only [putAll, List.setIfInBounds_toArray, List.set_cons_succ, List.set_cons_zero, v0, v1, v2, v3, v4, v5, v6, v7, v8, v9, v10, v11, v12, v13, v14, v16, v17, v18, v19, v20, v21, v22, v23]
    clear v0 v1 v2 v3 v4 v5 v6 v7 v8 v9 v10 v11 v12 v13 v14 v16 v17 v18 v19 v20 v21 v22 v23
    refine wpAny_done (by kernel_rfl) ?_ _
    go_wp2
    go_ret2
    exact ⟨((Kp.refl w).alloc _).trans (Kp.trans ((Kp.refl _).drew) hW), .inr ⟨hll, rfl⟩⟩
end Go.Proofs.Ytdibmeapflhhaaa
