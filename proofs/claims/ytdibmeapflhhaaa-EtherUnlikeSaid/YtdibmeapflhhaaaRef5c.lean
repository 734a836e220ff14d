/-
  The contract of the document's answer for frames: Parse.
-/
import Derived.Test.YtdibmeapflhhaaaRef5a
import Derived.Test.YtdibmeapflhhaaaStable
namespace Go.Proofs.Ytdibmeapflhhaaa
open Go.RowKit

def frame0 : Value := .agg #[.int .u8 0, .int .u8 0, .int .u8 0, .int .u8 0, .int .u8 0, .int .u8 0, .int .u8 0, .int .u8 0, .int .u8 0, .int .u8 0, .int .u8 0, .int .u8 0, .int .u16 0, .slice none 0 0]

/-- a frame of these bytes: its body lies in new memory -/
def FrameOk (w : World) (d0 d1 d2 d3 d4 d5 s0 s1 s2 s3 s4 s5 x y : UInt8) (b : List UInt8) (e : Ending) (w' : World) : Prop :=
  Kp w w' ∧ ∃ A c, e = .returned (.tuple #[.agg #[.int .u8 (d0.toNat : Int), .int .u8 (d1.toNat : Int), .int .u8 (d2.toNat : Int), .int .u8 (d3.toNat : Int), .int .u8 (d4.toNat : Int), .int .u8 (d5.toNat : Int), .int .u8 (s0.toNat : Int), .int .u8 (s1.toNat : Int), .int .u8 (s2.toNat : Int), .int .u8 (s3.toNat : Int), .int .u8 (s4.toNat : Int), .int .u8 (s5.toNat : Int), .int .u16 ((256 * x.toNat + y.toNat : Nat) : Int), .slice A b.length c], .int .i64 0]) ∧ Rd w' w.heap.size A b.length b ∧ SlOk A b.length c
/-- no frame -/
def FrameNo (w : World) (k : Int) (e : Ending) (w' : World) : Prop := Kp w w' ∧ e = .returned (.tuple #[frame0, .int .i64 k])

set_option maxHeartbeats 400000 in
theorem rparse_long (w : World) (l : List UInt8) (h : 214 < l.length) (h2 : l.length ≤ 1048576) : Calls Try.prog 19 #[.string (str l)] w (FrameNo w 4) := by
  have hsz := str_size l
  go_enter Try.func19, Try.ntmps19
  go_wp2
  refine bodyPost_ret (v := .tuple #[frame0, .int .i64 4]) (by simp [results, Try.results19, go_sem, frame0]) rfl ⟨(Kp.refl _).alloc _, rfl⟩

set_option maxHeartbeats 400000 in
theorem rparse_short (w : World) (l : List UInt8) (h : l.length < 14) : Calls Try.prog 19 #[.string (str l)] w (FrameNo w 6) := by
  have hsz := str_size l
  go_enter Try.func19, Try.ntmps19
  go_wp2
  refine bodyPost_ret (v := .tuple #[frame0, .int .i64 6]) (by simp [results, Try.results19, go_sem, frame0]) rfl ⟨(Kp.refl _).alloc _, rfl⟩

noncomputable def rpphi (w : World) (d0 d1 d2 d3 d4 d5 s0 s1 s2 s3 s4 s5 x y : UInt8) (b : List UInt8) : Nat → St := fun i => ([St.val (.string (str (d0 :: d1 :: d2 :: d3 :: d4 :: d5 :: s0 :: s1 :: s2 :: s3 :: s4 :: s5 :: x :: y :: b))),
  St.val (.string (str [d0, d1, d2, d3, d4, d5])),
  St.val (.agg #[.int .u8 (d0.toNat : Int), .int .u8 (d1.toNat : Int), .int .u8 (d2.toNat : Int), .int .u8 (d3.toNat : Int), .int .u8 (d4.toNat : Int), .int .u8 (d5.toNat : Int)]),
  St.val (.string (str (d0 :: d1 :: d2 :: d3 :: d4 :: d5 :: s0 :: s1 :: s2 :: s3 :: s4 :: s5 :: x :: y :: b))),
  St.val (.string (str [s0, s1, s2, s3, s4, s5])),
  St.val (.agg #[.int .u8 (s0.toNat : Int), .int .u8 (s1.toNat : Int), .int .u8 (s2.toNat : Int), .int .u8 (s3.toNat : Int), .int .u8 (s4.toNat : Int), .int .u8 (s5.toNat : Int)]),
  St.val (.string (str (d0 :: d1 :: d2 :: d3 :: d4 :: d5 :: s0 :: s1 :: s2 :: s3 :: s4 :: s5 :: x :: y :: b))),
  St.val (.int .u8 (x.toNat : Int)),
  St.val (.int .u16 (x.toNat : Int)),
  St.val (.int .u16 ((x.toNat : Int) * 256)),
  St.val (.string (str (d0 :: d1 :: d2 :: d3 :: d4 :: d5 :: s0 :: s1 :: s2 :: s3 :: s4 :: s5 :: x :: y :: b))),
  St.val (.int .u8 (y.toNat : Int)),
  St.val (.int .u16 (y.toNat : Int)),
  St.val (.int .u16 ((256 * x.toNat + y.toNat : Nat) : Int)),
  St.val (.string (str (d0 :: d1 :: d2 :: d3 :: d4 :: d5 :: s0 :: s1 :: s2 :: s3 :: s4 :: s5 :: x :: y :: b))),
  St.val (.string (str b)),
  St.rdk (w.heap.size + 1) b.length b,
  St.withRd (w.heap.size + 1) b.length b (fun A c => .agg #[.int .u8 (d0.toNat : Int), .int .u8 (d1.toNat : Int), .int .u8 (d2.toNat : Int), .int .u8 (d3.toNat : Int), .int .u8 (d4.toNat : Int), .int .u8 (d5.toNat : Int), .int .u8 (s0.toNat : Int), .int .u8 (s1.toNat : Int), .int .u8 (s2.toNat : Int), .int .u8 (s3.toNat : Int), .int .u8 (s4.toNat : Int), .int .u8 (s5.toNat : Int), .int .u16 ((256 * x.toNat + y.toNat : Nat) : Int), .slice A b.length c])] : List St).getD i St.any

set_option maxRecDepth 100000 in
set_option maxHeartbeats 2000000 in
theorem rparse_ok (w : World) (d0 d1 d2 d3 d4 d5 s0 s1 s2 s3 s4 s5 x y : UInt8) (b : List UInt8) (hb : b.length ≤ 200) : Calls Try.prog 19 #[.string (str (d0 :: d1 :: d2 :: d3 :: d4 :: d5 :: s0 :: s1 :: s2 :: s3 :: s4 :: s5 :: x :: y :: b))] w (FrameOk w d0 d1 d2 d3 d4 d5 s0 s1 s2 s3 s4 s5 x y b) := by
  have hsz : (str (d0 :: d1 :: d2 :: d3 :: d4 :: d5 :: s0 :: s1 :: s2 :: s3 :: s4 :: s5 :: x :: y :: b)).size = b.length + 14 := by rw [str_size]; rfl
  have hszb : (str b).size = b.length := str_size b
  have u4 : IntKind.u16.wrap (x.toNat : Int) = (x.toNat : Int) := wrap_u16 (by omega) (by have := x.toNat_lt; omega)
  have u5 : IntKind.u16.wrap (y.toNat : Int) = (y.toNat : Int) := wrap_u16 (by omega) (by have := y.toNat_lt; omega)
  have u6 : IntKind.u16.wrap (256 * (x.toNat : Int) + (y.toNat : Int)) = 256 * (x.toNat : Int) + (y.toNat : Int) := wrap_u16 (by omega) (by have := x.toNat_lt; have := y.toNat_lt; omega)
  have k1 : (6 : Int) ≤ (b.length : Int) + 14 := by omega
  have k2 : (12 : Int) ≤ (b.length : Int) + 14 := by omega
  have k3 : (12 : Int) < (b.length : Int) + 14 := by omega
  have k4 : (13 : Int) < (b.length : Int) + 14 := by omega
  have k5 : (14 : Int) ≤ (b.length : Int) + 14 := by omega
  have k6 : ((b.length : Int) + 14).toNat = b.length + 14 := by omega
  have x1 : (str (d0 :: d1 :: d2 :: d3 :: d4 :: d5 :: s0 :: s1 :: s2 :: s3 :: s4 :: s5 :: x :: y :: b)).extract 0 6 = str [d0, d1, d2, d3, d4, d5] := by rw [str_extract]; rfl
  have x2 : (str (d0 :: d1 :: d2 :: d3 :: d4 :: d5 :: s0 :: s1 :: s2 :: s3 :: s4 :: s5 :: x :: y :: b)).extract 6 12 = str [s0, s1, s2, s3, s4, s5] := by rw [str_extract]; rfl
  have x3 : (str (d0 :: d1 :: d2 :: d3 :: d4 :: d5 :: s0 :: s1 :: s2 :: s3 :: s4 :: s5 :: x :: y :: b)).extract 14 (b.length + 14) = str b := by rw [str_extract, List.take_of_length_le (by simp)]; rfl
  have e1 : ∀ h, (str (d0 :: d1 :: d2 :: d3 :: d4 :: d5 :: s0 :: s1 :: s2 :: s3 :: s4 :: s5 :: x :: y :: b))[12]'h = x := fun _ => rfl
  have e2 : ∀ h, (str (d0 :: d1 :: d2 :: d3 :: d4 :: d5 :: s0 :: s1 :: s2 :: s3 :: s4 :: s5 :: x :: y :: b))[13]'h = y := fun _ => rfl
  have bx := x.toNat_lt
  have by_ := y.toNat_lt
  have u1 : IntKind.u16.wrap ((x.toNat : Int) * 256) = (x.toNat : Int) * 256 := wrap_u16 (by omega) (by omega)
  have u2 : IntKind.u16.wrap ((x.toNat : Int) * 256 + (y.toNat : Int)) = ((256 * x.toNat + y.toNat : Nat) : Int) := by rw [wrap_u16 (by omega) (by omega)]; omega
  have u3 : (x.toNat : Int) * 256 + (y.toNat : Int) = ((256 * x.toNat + y.toNat : Nat) : Int) := by omega
  have hb1 : (14 : Int) < 14 + b.length ∨ b.length = 0 := by omega
  clear hb1
  go_enter Try.func19, Try.ntmps19
  go_wp2
  refine wp_region_steps (by kernel_rfl) 18 (rpphi w d0 d1 d2 d3 d4 d5 s0 s1 s2 s3 s4 s5 x y b) [12, 13, 14, 15, 16, 17, 18, 19, 20, 21, 22, 23, 24, 25, 26, 27, 28, 29] (by kernel_rfl) (by kernel_rfl) ⟨?_, ?_, ?_, ?_, ?_, ?_, ?_, ?_, ?_, ?_, ?_, ?_, ?_, ?_, ?_, ?_, ?_, ?_, trivial⟩ ?_
  · intro a W hW hO hφ K hK
    have q0 : a.tmps.getD 0 undef = (.string (str (d0 :: d1 :: d2 :: d3 :: d4 :: d5 :: s0 :: s1 :: s2 :: s3 :: s4 :: s5 :: x :: y :: b))) := hO 0 (by kernel_rfl)
    have r0 := q0
    rw [Array.getD_eq_getD_getElem?] at r0
    clear hO hφ
    go_simp
    exact hK _ _ (Kp.refl _) rfl
  · intro a W hW hO hφ K hK
    have q12 : a.tmps.getD 12 undef = (.string (str (d0 :: d1 :: d2 :: d3 :: d4 :: d5 :: s0 :: s1 :: s2 :: s3 :: s4 :: s5 :: x :: y :: b))) := hφ ⟨0, .data⟩ (by simp) rfl
    have r12 := q12
    rw [Array.getD_eq_getD_getElem?] at r12
    clear hO hφ
    go_simp
    exact hK _ _ (Kp.refl _) rfl
  · intro a W hW hO hφ K hK
    have q13 : a.tmps.getD 13 undef = (.string (str [d0, d1, d2, d3, d4, d5])) := hφ ⟨1, .data⟩ (by simp) rfl
    have r13 := q13
    rw [Array.getD_eq_getD_getElem?] at r13
    clear hO hφ
    go_simp
    go_at_call 34
    refine (asCard_any _ _ _ _ _ _ _).mono ?_
    rintro e w' ⟨rfl, hk⟩
    exact hK _ _ hk rfl
  · intro a W hW hO hφ K hK
    have q0 : a.tmps.getD 0 undef = (.string (str (d0 :: d1 :: d2 :: d3 :: d4 :: d5 :: s0 :: s1 :: s2 :: s3 :: s4 :: s5 :: x :: y :: b))) := hO 0 (by kernel_rfl)
    have r0 := q0
    rw [Array.getD_eq_getD_getElem?] at r0
    clear hO hφ
    go_simp
    exact hK _ _ (Kp.refl _) rfl
  · intro a W hW hO hφ K hK
    have q15 : a.tmps.getD 15 undef = (.string (str (d0 :: d1 :: d2 :: d3 :: d4 :: d5 :: s0 :: s1 :: s2 :: s3 :: s4 :: s5 :: x :: y :: b))) := hφ ⟨3, .data⟩ (by simp) rfl
    have r15 := q15
    rw [Array.getD_eq_getD_getElem?] at r15
    clear hO hφ
    go_simp
    exact hK _ _ (Kp.refl _) rfl
  · intro a W hW hO hφ K hK
    have q16 : a.tmps.getD 16 undef = (.string (str [s0, s1, s2, s3, s4, s5])) := hφ ⟨4, .data⟩ (by simp) rfl
    have r16 := q16
    rw [Array.getD_eq_getD_getElem?] at r16
    clear hO hφ
    go_simp
    go_at_call 34
    refine (asCard_any _ _ _ _ _ _ _).mono ?_
    rintro e w' ⟨rfl, hk⟩
    exact hK _ _ hk rfl
  · intro a W hW hO hφ K hK
    have q0 : a.tmps.getD 0 undef = (.string (str (d0 :: d1 :: d2 :: d3 :: d4 :: d5 :: s0 :: s1 :: s2 :: s3 :: s4 :: s5 :: x :: y :: b))) := hO 0 (by kernel_rfl)
    have r0 := q0
    rw [Array.getD_eq_getD_getElem?] at r0
    clear hO hφ
    go_simp
    exact hK _ _ (Kp.refl _) rfl
  · intro a W hW hO hφ K hK
    have q18 : a.tmps.getD 18 undef = (.string (str (d0 :: d1 :: d2 :: d3 :: d4 :: d5 :: s0 :: s1 :: s2 :: s3 :: s4 :: s5 :: x :: y :: b))) := hφ ⟨6, .data⟩ (by simp) rfl
    have r18 := q18
    rw [Array.getD_eq_getD_getElem?] at r18
    clear hO hφ
    go_simp
    exact hK _ _ (Kp.refl _) rfl
  · intro a W hW hO hφ K hK
    have q19 : a.tmps.getD 19 undef = (.int .u8 (x.toNat : Int)) := hφ ⟨7, .data⟩ (by simp) rfl
    have r19 := q19
    rw [Array.getD_eq_getD_getElem?] at r19
    clear hO hφ
    go_simp
    exact hK _ _ (Kp.refl _) rfl
  · intro a W hW hO hφ K hK
    have q20 : a.tmps.getD 20 undef = (.int .u16 (x.toNat : Int)) := hφ ⟨8, .data⟩ (by simp) rfl
    have r20 := q20
    rw [Array.getD_eq_getD_getElem?] at r20
    clear hO hφ
    go_simp
    exact hK _ _ (Kp.refl _) rfl
  · intro a W hW hO hφ K hK
    have q0 : a.tmps.getD 0 undef = (.string (str (d0 :: d1 :: d2 :: d3 :: d4 :: d5 :: s0 :: s1 :: s2 :: s3 :: s4 :: s5 :: x :: y :: b))) := hO 0 (by kernel_rfl)
    have r0 := q0
    rw [Array.getD_eq_getD_getElem?] at r0
    clear hO hφ
    go_simp
    exact hK _ _ (Kp.refl _) rfl
  · intro a W hW hO hφ K hK
    have q22 : a.tmps.getD 22 undef = (.string (str (d0 :: d1 :: d2 :: d3 :: d4 :: d5 :: s0 :: s1 :: s2 :: s3 :: s4 :: s5 :: x :: y :: b))) := hφ ⟨10, .data⟩ (by simp) rfl
    have r22 := q22
    rw [Array.getD_eq_getD_getElem?] at r22
    clear hO hφ
    go_simp
    exact hK _ _ (Kp.refl _) rfl
  · intro a W hW hO hφ K hK
    have q23 : a.tmps.getD 23 undef = (.int .u8 (y.toNat : Int)) := hφ ⟨11, .data⟩ (by simp) rfl
    have r23 := q23
    rw [Array.getD_eq_getD_getElem?] at r23
    clear hO hφ
    go_simp
    exact hK _ _ (Kp.refl _) rfl
  · intro a W hW hO hφ K hK
    have q21 : a.tmps.getD 21 undef = (.int .u16 ((x.toNat : Int) * 256)) := hφ ⟨9, .data⟩ (by simp) rfl
    have q24 : a.tmps.getD 24 undef = (.int .u16 (y.toNat : Int)) := hφ ⟨12, .data⟩ (by simp) rfl
    have r21 := q21
    rw [Array.getD_eq_getD_getElem?] at r21
    have r24 := q24
    rw [Array.getD_eq_getD_getElem?] at r24
    clear hO hφ
    go_simp
    exact hK _ _ (Kp.refl _) rfl
  · intro a W hW hO hφ K hK
    have q0 : a.tmps.getD 0 undef = (.string (str (d0 :: d1 :: d2 :: d3 :: d4 :: d5 :: s0 :: s1 :: s2 :: s3 :: s4 :: s5 :: x :: y :: b))) := hO 0 (by kernel_rfl)
    have r0 := q0
    rw [Array.getD_eq_getD_getElem?] at r0
    clear hO hφ
    go_simp
    exact hK _ _ (Kp.refl _) rfl
  · intro a W hW hO hφ K hK
    have q26 : a.tmps.getD 26 undef = (.string (str (d0 :: d1 :: d2 :: d3 :: d4 :: d5 :: s0 :: s1 :: s2 :: s3 :: s4 :: s5 :: x :: y :: b))) := hφ ⟨14, .data⟩ (by simp) rfl
    have r26 := q26
    rw [Array.getD_eq_getD_getElem?] at r26
    clear hO hφ
    go_simp
    exact hK _ _ (Kp.refl _) rfl
  · intro a W hW hO hφ K hK
    have q27 : a.tmps.getD 27 undef = (.string (str b)) := hφ ⟨15, .data⟩ (by simp) rfl
    have r27 := q27
    rw [Array.getD_eq_getD_getElem?] at r27
    clear hO hφ
    have hcv := Lib.run_convert_string_bytes (P := Try.prog) W 9 25 5 (str b) Try.underlying9 Try.underlying25 Try.underlying5
    rw [str_size] at hcv
    go_simp
    exact hK _ _ (kp_bytes _ _ _) ⟨_, _, rfl, RdV.mono_lo (rd_bytes W _ b (by omega)).1 (by have := hW.size; simp at this; omega), (rd_bytes W _ b (by omega)).2⟩
  · intro a W hW hO hφ K hK
    have q14 : a.tmps.getD 14 undef = (.agg #[.int .u8 (d0.toNat : Int), .int .u8 (d1.toNat : Int), .int .u8 (d2.toNat : Int), .int .u8 (d3.toNat : Int), .int .u8 (d4.toNat : Int), .int .u8 (d5.toNat : Int)]) := hφ ⟨2, .data⟩ (by simp) rfl
    have q17 : a.tmps.getD 17 undef = (.agg #[.int .u8 (s0.toNat : Int), .int .u8 (s1.toNat : Int), .int .u8 (s2.toNat : Int), .int .u8 (s3.toNat : Int), .int .u8 (s4.toNat : Int), .int .u8 (s5.toNat : Int)]) := hφ ⟨5, .data⟩ (by simp) rfl
    have q25 : a.tmps.getD 25 undef = (.int .u16 ((256 * x.toNat + y.toNat : Nat) : Int)) := hφ ⟨13, .data⟩ (by simp) rfl
    have q28 : (St.rdk (w.heap.size + 1) b.length b).p (a.tmps.getD 28 undef) W := hφ ⟨16, .data⟩ (by simp) rfl
    have r14 := q14
    rw [Array.getD_eq_getD_getElem?] at r14
    have r17 := q17
    rw [Array.getD_eq_getD_getElem?] at r17
    have r25 := q25
    rw [Array.getD_eq_getD_getElem?] at r25
    clear hO hφ
    obtain ⟨A1, c1, q28', hr, hok⟩ := q28
    have r28 := q28'
    rw [Array.getD_eq_getD_getElem?] at r28
    go_simp
    exact hK _ _ (Kp.refl _) ⟨_, _, rfl, hr, hok⟩
  intro f W hW hφ
  have v0 : f 0 = (.string (str (d0 :: d1 :: d2 :: d3 :: d4 :: d5 :: s0 :: s1 :: s2 :: s3 :: s4 :: s5 :: x :: y :: b))) := hφ 0 (by omega)
  have v1 : f 1 = (.string (str [d0, d1, d2, d3, d4, d5])) := hφ 1 (by omega)
  have v2 : f 2 = (.agg #[.int .u8 (d0.toNat : Int), .int .u8 (d1.toNat : Int), .int .u8 (d2.toNat : Int), .int .u8 (d3.toNat : Int), .int .u8 (d4.toNat : Int), .int .u8 (d5.toNat : Int)]) := hφ 2 (by omega)
  have v3 : f 3 = (.string (str (d0 :: d1 :: d2 :: d3 :: d4 :: d5 :: s0 :: s1 :: s2 :: s3 :: s4 :: s5 :: x :: y :: b))) := hφ 3 (by omega)
  have v4 : f 4 = (.string (str [s0, s1, s2, s3, s4, s5])) := hφ 4 (by omega)
  have v5 : f 5 = (.agg #[.int .u8 (s0.toNat : Int), .int .u8 (s1.toNat : Int), .int .u8 (s2.toNat : Int), .int .u8 (s3.toNat : Int), .int .u8 (s4.toNat : Int), .int .u8 (s5.toNat : Int)]) := hφ 5 (by omega)
  have v6 : f 6 = (.string (str (d0 :: d1 :: d2 :: d3 :: d4 :: d5 :: s0 :: s1 :: s2 :: s3 :: s4 :: s5 :: x :: y :: b))) := hφ 6 (by omega)
  have v7 : f 7 = (.int .u8 (x.toNat : Int)) := hφ 7 (by omega)
  have v8 : f 8 = (.int .u16 (x.toNat : Int)) := hφ 8 (by omega)
  have v9 : f 9 = (.int .u16 ((x.toNat : Int) * 256)) := hφ 9 (by omega)
  have v10 : f 10 = (.string (str (d0 :: d1 :: d2 :: d3 :: d4 :: d5 :: s0 :: s1 :: s2 :: s3 :: s4 :: s5 :: x :: y :: b))) := hφ 10 (by omega)
  have v11 : f 11 = (.int .u8 (y.toNat : Int)) := hφ 11 (by omega)
  have v12 : f 12 = (.int .u16 (y.toNat : Int)) := hφ 12 (by omega)
  have v13 : f 13 = (.int .u16 ((256 * x.toNat + y.toNat : Nat) : Int)) := hφ 13 (by omega)
  have v14 : f 14 = (.string (str (d0 :: d1 :: d2 :: d3 :: d4 :: d5 :: s0 :: s1 :: s2 :: s3 :: s4 :: s5 :: x :: y :: b))) := hφ 14 (by omega)
  have v15 : f 15 = (.string (str b)) := hφ 15 (by omega)
  have v16 : (St.rdk (w.heap.size + 1) b.length b).p (f 16) W := hφ 16 (by omega)
  have v17 : (St.withRd (w.heap.size + 1) b.length b (fun A c => .agg #[.int .u8 (d0.toNat : Int), .int .u8 (d1.toNat : Int), .int .u8 (d2.toNat : Int), .int .u8 (d3.toNat : Int), .int .u8 (d4.toNat : Int), .int .u8 (d5.toNat : Int), .int .u8 (s0.toNat : Int), .int .u8 (s1.toNat : Int), .int .u8 (s2.toNat : Int), .int .u8 (s3.toNat : Int), .int .u8 (s4.toNat : Int), .int .u8 (s5.toNat : Int), .int .u16 ((256 * x.toNat + y.toNat : Nat) : Int), .slice A b.length c])).p (f 17) W := hφ 17 (by omega)
  clear hφ
  simp only [putAll, List.setIfInBounds_toArray, List.set_cons_succ, List.set_cons_zero, v0, v1, v2, v3, v4, v5, v6, v7, v8, v9, v10, v11, v12, v13, v14, v15]
  clear v0 v1 v2 v3 v4 v5 v6 v7 v8 v9 v10 v11 v12 v13 v14 v15
  obtain ⟨A1, c1, hv, hr, hok⟩ := v17
  clear x1 x2 x3 e1 e2
  refine wpAny_ready (rs := [18]) (by kernel_rfl) (by simp) (AllReady.cons rfl (fun K' hK' => ?_) AllReady.nil)
  have hv' : f 17 = .agg #[.int .u8 (d0.toNat : Int), .int .u8 (d1.toNat : Int), .int .u8 (d2.toNat : Int), .int .u8 (d3.toNat : Int), .int .u8 (d4.toNat : Int), .int .u8 (d5.toNat : Int), .int .u8 (s0.toNat : Int), .int .u8 (s1.toNat : Int), .int .u8 (s2.toNat : Int), .int .u8 (s3.toNat : Int), .int .u8 (s4.toNat : Int), .int .u8 (s5.toNat : Int), .int .u16 ((256 * x.toNat + y.toNat : Nat) : Int), .slice A1 b.length c1] := hv
  have hbk : W.heap[w.heap.size]? = some (.cells #[.int .u8 0, .int .u8 0, .int .u8 0, .int .u8 0, .int .u8 0, .int .u8 0, .int .u8 0, .int .u8 0, .int .u8 0, .int .u8 0, .int .u8 0, .int .u8 0, .int .u16 0, .slice none 0 0] 27 (0, 0)) := (hW.block _ (by simp)).trans (heap_alloc_new w _)
  have z0 : W.cell? ⟨w.heap.size, 0, none⟩ = some (.int .u8 0) := (cell_of_row W _ 0 _ _ _ hbk).trans rfl
  have fz0 : W.frozen? ⟨w.heap.size, 0, none⟩ = false := by simp [World.frozen?, hbk]
  have z1 : W.cell? ⟨w.heap.size, 1, none⟩ = some (.int .u8 0) := (cell_of_row W _ 1 _ _ _ hbk).trans rfl
  have fz1 : W.frozen? ⟨w.heap.size, 1, none⟩ = false := by simp [World.frozen?, hbk]
  have z2 : W.cell? ⟨w.heap.size, 2, none⟩ = some (.int .u8 0) := (cell_of_row W _ 2 _ _ _ hbk).trans rfl
  have fz2 : W.frozen? ⟨w.heap.size, 2, none⟩ = false := by simp [World.frozen?, hbk]
  have z3 : W.cell? ⟨w.heap.size, 3, none⟩ = some (.int .u8 0) := (cell_of_row W _ 3 _ _ _ hbk).trans rfl
  have fz3 : W.frozen? ⟨w.heap.size, 3, none⟩ = false := by simp [World.frozen?, hbk]
  have z4 : W.cell? ⟨w.heap.size, 4, none⟩ = some (.int .u8 0) := (cell_of_row W _ 4 _ _ _ hbk).trans rfl
  have fz4 : W.frozen? ⟨w.heap.size, 4, none⟩ = false := by simp [World.frozen?, hbk]
  have z5 : W.cell? ⟨w.heap.size, 5, none⟩ = some (.int .u8 0) := (cell_of_row W _ 5 _ _ _ hbk).trans rfl
  have fz5 : W.frozen? ⟨w.heap.size, 5, none⟩ = false := by simp [World.frozen?, hbk]
  have z6 : W.cell? ⟨w.heap.size, 6, none⟩ = some (.int .u8 0) := (cell_of_row W _ 6 _ _ _ hbk).trans rfl
  have fz6 : W.frozen? ⟨w.heap.size, 6, none⟩ = false := by simp [World.frozen?, hbk]
  have z7 : W.cell? ⟨w.heap.size, 7, none⟩ = some (.int .u8 0) := (cell_of_row W _ 7 _ _ _ hbk).trans rfl
  have fz7 : W.frozen? ⟨w.heap.size, 7, none⟩ = false := by simp [World.frozen?, hbk]
  have z8 : W.cell? ⟨w.heap.size, 8, none⟩ = some (.int .u8 0) := (cell_of_row W _ 8 _ _ _ hbk).trans rfl
  have fz8 : W.frozen? ⟨w.heap.size, 8, none⟩ = false := by simp [World.frozen?, hbk]
  have z9 : W.cell? ⟨w.heap.size, 9, none⟩ = some (.int .u8 0) := (cell_of_row W _ 9 _ _ _ hbk).trans rfl
  have fz9 : W.frozen? ⟨w.heap.size, 9, none⟩ = false := by simp [World.frozen?, hbk]
  have z10 : W.cell? ⟨w.heap.size, 10, none⟩ = some (.int .u8 0) := (cell_of_row W _ 10 _ _ _ hbk).trans rfl
  have fz10 : W.frozen? ⟨w.heap.size, 10, none⟩ = false := by simp [World.frozen?, hbk]
  have z11 : W.cell? ⟨w.heap.size, 11, none⟩ = some (.int .u8 0) := (cell_of_row W _ 11 _ _ _ hbk).trans rfl
  have fz11 : W.frozen? ⟨w.heap.size, 11, none⟩ = false := by simp [World.frozen?, hbk]
  have z12 : W.cell? ⟨w.heap.size, 12, none⟩ = some (.int .u16 0) := (cell_of_row W _ 12 _ _ _ hbk).trans rfl
  have fz12 : W.frozen? ⟨w.heap.size, 12, none⟩ = false := by simp [World.frozen?, hbk]
  have z13 : W.cell? ⟨w.heap.size, 13, none⟩ = some (.slice none 0 0) := (cell_of_row W _ 13 _ _ _ hbk).trans rfl
  have fz13 : W.frozen? ⟨w.heap.size, 13, none⟩ = false := by simp [World.frozen?, hbk]
  clear hv hbk
  simp only [hv']
  go_simp
  refine hK' _ _ ?_
  refine wpAny_ready (rs := [19]) (by kernel_rfl) (by simp) (AllReady.cons rfl (fun K2 hK2 => ?_) AllReady.nil)
  go_simp
  refine hK2 _ _ ?_
  refine wpAny_done (by kernel_rfl) ?_ _
  go_wp2
  refine bodyPost_ret (v := .tuple #[.agg #[.int .u8 (d0.toNat : Int), .int .u8 (d1.toNat : Int), .int .u8 (d2.toNat : Int), .int .u8 (d3.toNat : Int), .int .u8 (d4.toNat : Int), .int .u8 (d5.toNat : Int), .int .u8 (s0.toNat : Int), .int .u8 (s1.toNat : Int), .int .u8 (s2.toNat : Int), .int .u8 (s3.toNat : Int), .int .u8 (s4.toNat : Int), .int .u8 (s5.toNat : Int), .int .u16 ((256 * x.toNat + y.toNat : Nat) : Int), .slice A1 b.length c1], .int .i64 0]) (by simp [results, Try.results19, go_sem, z0, z1, z2, z3, z4, z5, z6, z7, z8, z9, z10, z11, z12, z13]) rfl ⟨((((((((((((((((Kp.refl w).alloc _).drew.trans hW).setCell (p := ⟨w.heap.size, 0, none⟩) (Nat.le_refl _) _).setCell (p := ⟨w.heap.size, 1, none⟩) (Nat.le_refl _) _).setCell (p := ⟨w.heap.size, 2, none⟩) (Nat.le_refl _) _).setCell (p := ⟨w.heap.size, 3, none⟩) (Nat.le_refl _) _).setCell (p := ⟨w.heap.size, 4, none⟩) (Nat.le_refl _) _).setCell (p := ⟨w.heap.size, 5, none⟩) (Nat.le_refl _) _).setCell (p := ⟨w.heap.size, 6, none⟩) (Nat.le_refl _) _).setCell (p := ⟨w.heap.size, 7, none⟩) (Nat.le_refl _) _).setCell (p := ⟨w.heap.size, 8, none⟩) (Nat.le_refl _) _).setCell (p := ⟨w.heap.size, 9, none⟩) (Nat.le_refl _) _).setCell (p := ⟨w.heap.size, 10, none⟩) (Nat.le_refl _) _).setCell (p := ⟨w.heap.size, 11, none⟩) (Nat.le_refl _) _).setCell (p := ⟨w.heap.size, 12, none⟩) (Nat.le_refl _) _).setCell (p := ⟨w.heap.size, 13, none⟩) (Nat.le_refl _) _, A1, c1, rfl, RdV.mono_lo (((((((((((((((hr).setCell (a := ⟨w.heap.size, 0, none⟩) (by simp) _).setCell (a := ⟨w.heap.size, 1, none⟩) (by simp) _).setCell (a := ⟨w.heap.size, 2, none⟩) (by simp) _).setCell (a := ⟨w.heap.size, 3, none⟩) (by simp) _).setCell (a := ⟨w.heap.size, 4, none⟩) (by simp) _).setCell (a := ⟨w.heap.size, 5, none⟩) (by simp) _).setCell (a := ⟨w.heap.size, 6, none⟩) (by simp) _).setCell (a := ⟨w.heap.size, 7, none⟩) (by simp) _).setCell (a := ⟨w.heap.size, 8, none⟩) (by simp) _).setCell (a := ⟨w.heap.size, 9, none⟩) (by simp) _).setCell (a := ⟨w.heap.size, 10, none⟩) (by simp) _).setCell (a := ⟨w.heap.size, 11, none⟩) (by simp) _).setCell (a := ⟨w.heap.size, 12, none⟩) (by simp) _).setCell (a := ⟨w.heap.size, 13, none⟩) (by simp) _) (by omega), hok⟩
end Go.Proofs.Ytdibmeapflhhaaa
