/-
  The contract of the document's ParseArp.
-/
import Derived.Test.YtdibmeapflhhaaaArp5f
namespace Go.Proofs.Ytdibmeapflhhaaa
open Go.RowKit

set_option maxHeartbeats 1000000 in
theorem rparp_short (w : World) (l : List UInt8) (h : l.length < 28) : Calls Try.prog 21 #[.string (str l)] w (ArpNo w 6) := by
  have hsz := str_size l
  have hbk := heap_alloc_new w (.cells #[.int .i64 0, .int .u8 0, .int .u8 0, .int .u8 0, .int .u8 0, .int .u8 0, .int .u8 0, .int .u8 0, .int .u8 0, .int .u8 0, .int .u8 0, .int .u8 0, .int .u8 0, .int .u8 0, .int .u8 0, .int .u8 0, .int .u8 0, .int .u8 0, .int .u8 0, .int .u8 0, .int .u8 0] 44)
  have hrow := setRow_heap (w.alloc (.cells #[.int .i64 0, .int .u8 0, .int .u8 0, .int .u8 0, .int .u8 0, .int .u8 0, .int .u8 0, .int .u8 0, .int .u8 0, .int .u8 0, .int .u8 0, .int .u8 0, .int .u8 0, .int .u8 0, .int .u8 0, .int .u8 0, .int .u8 0, .int .u8 0, .int .u8 0, .int .u8 0, .int .u8 0] 44)) w.heap.size _ #[.int .i64 0, .int .u8 0, .int .u8 0, .int .u8 0, .int .u8 0, .int .u8 0, .int .u8 0, .int .u8 0, .int .u8 0, .int .u8 0, .int .u8 0, .int .u8 0, .int .u8 0, .int .u8 0, .int .u8 0, .int .u8 0, .int .u8 0, .int .u8 0, .int .u8 0, .int .u8 0, .int .u8 0] _ _ hbk
  have HX := Lib.hid hbk
  clear hbk
  go_enter Try.func21, Try.ntmps21
  go_wp2_with (refine lst_row (by rfl) (.tmp 2) (.tmp 10) _ rfl rfl rfl HX.out szArp rfl rfl rfl ?_)
  refine bodyPost_ret (v := .tuple #[.agg #[.int .i64 0, .int .u8 0, .int .u8 0, .int .u8 0, .int .u8 0, .int .u8 0, .int .u8 0, .int .u8 0, .int .u8 0, .int .u8 0, .int .u8 0, .int .u8 0, .int .u8 0, .int .u8 0, .int .u8 0, .int .u8 0, .int .u8 0, .int .u8 0, .int .u8 0, .int .u8 0, .int .u8 0], .int .i64 6]) (results_cell2 (fn := Try.f21) szArp uArp hrow rfl Try.results21 rfl rfl) rfl ⟨((Kp.refl _).alloc _).setRow (Nat.le_refl _), rfl⟩

noncomputable def raphi (w : World) (S : ByteArray) (o a0 a1 a2 a3 a4 a5 b0 b1 b2 b3 c0 c1 c2 c3 c4 c5 d0 d1 d2 d3 : UInt8) : Nat → St := fun i => ([St.val (.string S),
  St.val (.int .u8 (o.toNat : Int)),
  St.val (.int .i64 (o.toNat : Int)),
  St.val (.string S),
  St.val (.string (str [a0, a1, a2, a3, a4, a5])),
  St.val (.agg #[.int .u8 (a0.toNat : Int), .int .u8 (a1.toNat : Int), .int .u8 (a2.toNat : Int), .int .u8 (a3.toNat : Int), .int .u8 (a4.toNat : Int), .int .u8 (a5.toNat : Int)]),
  St.val (.string S),
  St.val (.string (str [b0, b1, b2, b3])),
  St.val (.agg #[.int .u8 (b0.toNat : Int), .int .u8 (b1.toNat : Int), .int .u8 (b2.toNat : Int), .int .u8 (b3.toNat : Int)]),
  St.val (.string S),
  St.val (.string (str [c0, c1, c2, c3, c4, c5])),
  St.val (.agg #[.int .u8 (c0.toNat : Int), .int .u8 (c1.toNat : Int), .int .u8 (c2.toNat : Int), .int .u8 (c3.toNat : Int), .int .u8 (c4.toNat : Int), .int .u8 (c5.toNat : Int)]),
  St.val (.string S),
  St.val (.string (str [d0, d1, d2, d3])),
  St.val (.agg #[.int .u8 (d0.toNat : Int), .int .u8 (d1.toNat : Int), .int .u8 (d2.toNat : Int), .int .u8 (d3.toNat : Int)]),
  St.val (.agg #[.int .i64 (o.toNat : Int), .int .u8 (a0.toNat : Int), .int .u8 (a1.toNat : Int), .int .u8 (a2.toNat : Int), .int .u8 (a3.toNat : Int), .int .u8 (a4.toNat : Int), .int .u8 (a5.toNat : Int), .int .u8 (b0.toNat : Int), .int .u8 (b1.toNat : Int), .int .u8 (b2.toNat : Int), .int .u8 (b3.toNat : Int), .int .u8 (c0.toNat : Int), .int .u8 (c1.toNat : Int), .int .u8 (c2.toNat : Int), .int .u8 (c3.toNat : Int), .int .u8 (c4.toNat : Int), .int .u8 (c5.toNat : Int), .int .u8 (d0.toNat : Int), .int .u8 (d1.toNat : Int), .int .u8 (d2.toNat : Int), .int .u8 (d3.toNat : Int)]),
  St.row (w.heap.size + 1) #[.int .i64 0, .int .u8 0, .int .u8 0, .int .u8 0, .int .u8 0, .int .u8 0, .int .u8 0, .int .u8 0, .int .u8 0, .int .u8 0, .int .u8 0, .int .u8 0, .int .u8 0, .int .u8 0, .int .u8 0, .int .u8 0, .int .u8 0, .int .u8 0, .int .u8 0, .int .u8 0, .int .u8 0] 44] : List St).getD i St.any

set_option maxRecDepth 100000 in
set_option maxHeartbeats 2000000 in
theorem rparp_ok (w : World) (h0 h1 h2 h3 h4 h5 h6 o a0 a1 a2 a3 a4 a5 b0 b1 b2 b3 c0 c1 c2 c3 c4 c5 d0 d1 d2 d3 : UInt8) (m : List UInt8) :
    Calls Try.prog 21 #[.string (str ([h0, h1, h2, h3, h4, h5, h6] ++ ([o] ++ ([a0, a1, a2, a3, a4, a5] ++ ([b0, b1, b2, b3] ++ ([c0, c1, c2, c3, c4, c5] ++ ([d0, d1, d2, d3] ++ m)))))))] w fun e w' => (arpGood [h0, h1, h2, h3, h4, h5, h6] o = true → ArpOk w o a0 a1 a2 a3 a4 a5 b0 b1 b2 b3 c0 c1 c2 c3 c4 c5 d0 d1 d2 d3 e w') ∧ (arpGood [h0, h1, h2, h3, h4, h5, h6] o = false → ArpNo w 7 e w') := by
  have hsz : (str ([h0, h1, h2, h3, h4, h5, h6] ++ ([o] ++ ([a0, a1, a2, a3, a4, a5] ++ ([b0, b1, b2, b3] ++ ([c0, c1, c2, c3, c4, c5] ++ ([d0, d1, d2, d3] ++ m))))))).size = m.length + 28 := by rw [str_size]; simp
  have x1 : (str ([h0, h1, h2, h3, h4, h5, h6] ++ ([o] ++ ([a0, a1, a2, a3, a4, a5] ++ ([b0, b1, b2, b3] ++ ([c0, c1, c2, c3, c4, c5] ++ ([d0, d1, d2, d3] ++ m))))))).extract 8 14 = str [a0, a1, a2, a3, a4, a5] := by rw [str_extract]; rfl
  have x2 : (str ([h0, h1, h2, h3, h4, h5, h6] ++ ([o] ++ ([a0, a1, a2, a3, a4, a5] ++ ([b0, b1, b2, b3] ++ ([c0, c1, c2, c3, c4, c5] ++ ([d0, d1, d2, d3] ++ m))))))).extract 14 18 = str [b0, b1, b2, b3] := by rw [str_extract]; rfl
  have x3 : (str ([h0, h1, h2, h3, h4, h5, h6] ++ ([o] ++ ([a0, a1, a2, a3, a4, a5] ++ ([b0, b1, b2, b3] ++ ([c0, c1, c2, c3, c4, c5] ++ ([d0, d1, d2, d3] ++ m))))))).extract 18 24 = str [c0, c1, c2, c3, c4, c5] := by rw [str_extract]; rfl
  have x4 : (str ([h0, h1, h2, h3, h4, h5, h6] ++ ([o] ++ ([a0, a1, a2, a3, a4, a5] ++ ([b0, b1, b2, b3] ++ ([c0, c1, c2, c3, c4, c5] ++ ([d0, d1, d2, d3] ++ m))))))).extract 24 28 = str [d0, d1, d2, d3] := by rw [str_extract]; rfl
  have x5 : (str ([h0, h1, h2, h3, h4, h5, h6] ++ ([o] ++ ([a0, a1, a2, a3, a4, a5] ++ ([b0, b1, b2, b3] ++ ([c0, c1, c2, c3, c4, c5] ++ ([d0, d1, d2, d3] ++ m))))))).extract 0 28 = str ([h0, h1, h2, h3, h4, h5, h6] ++ ([o] ++ ([a0, a1, a2, a3, a4, a5] ++ ([b0, b1, b2, b3] ++ ([c0, c1, c2, c3, c4, c5] ++ [d0, d1, d2, d3]))))) := by rw [str_extract]; rfl
  have e1 : ∀ h, (str ([h0, h1, h2, h3, h4, h5, h6] ++ ([o] ++ ([a0, a1, a2, a3, a4, a5] ++ ([b0, b1, b2, b3] ++ ([c0, c1, c2, c3, c4, c5] ++ ([d0, d1, d2, d3] ++ m)))))))[7]'h = o := fun _ => rfl
  generalize str ([h0, h1, h2, h3, h4, h5, h6] ++ ([o] ++ ([a0, a1, a2, a3, a4, a5] ++ ([b0, b1, b2, b3] ++ ([c0, c1, c2, c3, c4, c5] ++ ([d0, d1, d2, d3] ++ m)))))) = S at hsz x1 x2 x3 x4 x5 e1 ⊢
  obtain ⟨s28, h28⟩ : ∃ s, str ([h0, h1, h2, h3, h4, h5, h6] ++ ([o] ++ ([a0, a1, a2, a3, a4, a5] ++ ([b0, b1, b2, b3] ++ ([c0, c1, c2, c3, c4, c5] ++ [d0, d1, d2, d3]))))) = s := ⟨_, rfl⟩
  rw [h28] at x5
  have H28 := Lib.hid h28
  clear h28
  have bo := o.toNat_lt
  have wo : wrap64 (o.toNat : Int) = (o.toNat : Int) := by unfold wrap64; omega
  have wi : IntKind.i64.wrap (o.toNat : Int) = (o.toNat : Int) := by rw [IntKind.wrap_i64]; omega
  have k0 : ¬ (m.length : Int) + 28 < 28 := by omega
  have k1 : (14 : Int) ≤ (m.length : Int) + 28 := by omega
  have k2 : (18 : Int) ≤ (m.length : Int) + 28 := by omega
  have k3 : (24 : Int) ≤ (m.length : Int) + 28 := by omega
  have k4 : (28 : Int) ≤ (m.length : Int) + 28 := by omega
  have k5 : (7 : Int) < (m.length : Int) + 28 := by omega
  go_enter Try.func21, Try.ntmps21
  go_wp2
  refine wp_region_steps (by kernel_rfl) 17 (raphi w S o a0 a1 a2 a3 a4 a5 b0 b1 b2 b3 c0 c1 c2 c3 c4 c5 d0 d1 d2 d3) [11, 12, 13, 14, 15, 16, 17, 18, 19, 20, 21, 22, 23, 24, 25, 26, 4] (by kernel_rfl) (by kernel_rfl) ⟨?_, ?_, ?_, ?_, ?_, ?_, ?_, ?_, ?_, ?_, ?_, ?_, ?_, ?_, ?_, ?_, ?_, trivial⟩ ?_
  · intro a W hW hO hφ K hK
    have q0 : a.tmps.getD 0 undef = (.string S) := hO 0 (by kernel_rfl)
    have r0 := q0
    rw [Array.getD_eq_getD_getElem?] at r0
    clear hO hφ
    go_simp
    exact hK _ _ (Kp.refl _) rfl
  · intro a W hW hO hφ K hK
    have q11 : a.tmps.getD 11 undef = (.string S) := hφ ⟨0, .data⟩ (by simp) rfl
    have r11 := q11
    rw [Array.getD_eq_getD_getElem?] at r11
    clear hO hφ
    go_simp
    exact hK _ _ (Kp.refl _) rfl
  · intro a W hW hO hφ K hK
    have q12 : a.tmps.getD 12 undef = (.int .u8 (o.toNat : Int)) := hφ ⟨1, .data⟩ (by simp) rfl
    have r12 := q12
    rw [Array.getD_eq_getD_getElem?] at r12
    clear hO hφ
    go_simp
    exact hK _ _ (Kp.refl _) rfl
  · intro a W hW hO hφ K hK
    have q0 : a.tmps.getD 0 undef = (.string S) := hO 0 (by kernel_rfl)
    have r0 := q0
    rw [Array.getD_eq_getD_getElem?] at r0
    clear hO hφ
    go_simp
    exact hK _ _ (Kp.refl _) rfl
  · intro a W hW hO hφ K hK
    have q14 : a.tmps.getD 14 undef = (.string S) := hφ ⟨3, .data⟩ (by simp) rfl
    have r14 := q14
    rw [Array.getD_eq_getD_getElem?] at r14
    clear hO hφ
    go_simp
    exact hK _ _ (Kp.refl _) rfl
  · intro a W hW hO hφ K hK
    have q15 : a.tmps.getD 15 undef = (.string (str [a0, a1, a2, a3, a4, a5])) := hφ ⟨4, .data⟩ (by simp) rfl
    have r15 := q15
    rw [Array.getD_eq_getD_getElem?] at r15
    clear hO hφ
    go_simp
    go_at_call 34
    refine (asCard_any _ _ _ _ _ _ _).mono ?_
    rintro e w' ⟨rfl, hk⟩
    exact hK _ _ hk rfl
  · intro a W hW hO hφ K hK
    have q0 : a.tmps.getD 0 undef = (.string S) := hO 0 (by kernel_rfl)
    have r0 := q0
    rw [Array.getD_eq_getD_getElem?] at r0
    clear hO hφ
    go_simp
    exact hK _ _ (Kp.refl _) rfl
  · intro a W hW hO hφ K hK
    have q17 : a.tmps.getD 17 undef = (.string S) := hφ ⟨6, .data⟩ (by simp) rfl
    have r17 := q17
    rw [Array.getD_eq_getD_getElem?] at r17
    clear hO hφ
    go_simp
    exact hK _ _ (Kp.refl _) rfl
  · intro a W hW hO hφ K hK
    have q18 : a.tmps.getD 18 undef = (.string (str [b0, b1, b2, b3])) := hφ ⟨7, .data⟩ (by simp) rfl
    have r18 := q18
    rw [Array.getD_eq_getD_getElem?] at r18
    clear hO hφ
    go_simp
    go_at_call 35
    refine (asHost_any _ _ _ _ _).mono ?_
    rintro e w' ⟨rfl, hk⟩
    exact hK _ _ hk rfl
  · intro a W hW hO hφ K hK
    have q0 : a.tmps.getD 0 undef = (.string S) := hO 0 (by kernel_rfl)
    have r0 := q0
    rw [Array.getD_eq_getD_getElem?] at r0
    clear hO hφ
    go_simp
    exact hK _ _ (Kp.refl _) rfl
  · intro a W hW hO hφ K hK
    have q20 : a.tmps.getD 20 undef = (.string S) := hφ ⟨9, .data⟩ (by simp) rfl
    have r20 := q20
    rw [Array.getD_eq_getD_getElem?] at r20
    clear hO hφ
    go_simp
    exact hK _ _ (Kp.refl _) rfl
  · intro a W hW hO hφ K hK
    have q21 : a.tmps.getD 21 undef = (.string (str [c0, c1, c2, c3, c4, c5])) := hφ ⟨10, .data⟩ (by simp) rfl
    have r21 := q21
    rw [Array.getD_eq_getD_getElem?] at r21
    clear hO hφ
    go_simp
    go_at_call 34
    refine (asCard_any _ _ _ _ _ _ _).mono ?_
    rintro e w' ⟨rfl, hk⟩
    exact hK _ _ hk rfl
  · intro a W hW hO hφ K hK
    have q0 : a.tmps.getD 0 undef = (.string S) := hO 0 (by kernel_rfl)
    have r0 := q0
    rw [Array.getD_eq_getD_getElem?] at r0
    clear hO hφ
    go_simp
    exact hK _ _ (Kp.refl _) rfl
  · intro a W hW hO hφ K hK
    have q23 : a.tmps.getD 23 undef = (.string S) := hφ ⟨12, .data⟩ (by simp) rfl
    have r23 := q23
    rw [Array.getD_eq_getD_getElem?] at r23
    clear hO hφ
    go_simp
    exact hK _ _ (Kp.refl _) rfl
  · intro a W hW hO hφ K hK
    have q24 : a.tmps.getD 24 undef = (.string (str [d0, d1, d2, d3])) := hφ ⟨13, .data⟩ (by simp) rfl
    have r24 := q24
    rw [Array.getD_eq_getD_getElem?] at r24
    clear hO hφ
    go_simp
    go_at_call 35
    refine (asHost_any _ _ _ _ _).mono ?_
    rintro e w' ⟨rfl, hk⟩
    exact hK _ _ hk rfl
  · intro a W hW hO hφ K hK
    have q13 : a.tmps.getD 13 undef = (.int .i64 (o.toNat : Int)) := hφ ⟨2, .data⟩ (by simp) rfl
    have q16 : a.tmps.getD 16 undef = (.agg #[.int .u8 (a0.toNat : Int), .int .u8 (a1.toNat : Int), .int .u8 (a2.toNat : Int), .int .u8 (a3.toNat : Int), .int .u8 (a4.toNat : Int), .int .u8 (a5.toNat : Int)]) := hφ ⟨5, .data⟩ (by simp) rfl
    have q19 : a.tmps.getD 19 undef = (.agg #[.int .u8 (b0.toNat : Int), .int .u8 (b1.toNat : Int), .int .u8 (b2.toNat : Int), .int .u8 (b3.toNat : Int)]) := hφ ⟨8, .data⟩ (by simp) rfl
    have q22 : a.tmps.getD 22 undef = (.agg #[.int .u8 (c0.toNat : Int), .int .u8 (c1.toNat : Int), .int .u8 (c2.toNat : Int), .int .u8 (c3.toNat : Int), .int .u8 (c4.toNat : Int), .int .u8 (c5.toNat : Int)]) := hφ ⟨11, .data⟩ (by simp) rfl
    have q25 : a.tmps.getD 25 undef = (.agg #[.int .u8 (d0.toNat : Int), .int .u8 (d1.toNat : Int), .int .u8 (d2.toNat : Int), .int .u8 (d3.toNat : Int)]) := hφ ⟨14, .data⟩ (by simp) rfl
    have r13 := q13
    rw [Array.getD_eq_getD_getElem?] at r13
    have r16 := q16
    rw [Array.getD_eq_getD_getElem?] at r16
    have r19 := q19
    rw [Array.getD_eq_getD_getElem?] at r19
    have r22 := q22
    rw [Array.getD_eq_getD_getElem?] at r22
    have r25 := q25
    rw [Array.getD_eq_getD_getElem?] at r25
    clear hO hφ
    go_simp
    exact hK _ _ (Kp.refl _) rfl
  · intro a W hW hO hφ K hK
    clear hO hφ
    go_simp
    exact hK _ _ ((Kp.refl _).alloc _) ⟨_, rfl, by have := hW.size; simp at this; omega, heap_alloc_new _ _⟩
  intro f W hW hφ
  have v0 : f 0 = (.string S) := hφ 0 (by omega)
  have v1 : f 1 = (.int .u8 (o.toNat : Int)) := hφ 1 (by omega)
  have v2 : f 2 = (.int .i64 (o.toNat : Int)) := hφ 2 (by omega)
  have v3 : f 3 = (.string S) := hφ 3 (by omega)
  have v4 : f 4 = (.string (str [a0, a1, a2, a3, a4, a5])) := hφ 4 (by omega)
  have v5 : f 5 = (.agg #[.int .u8 (a0.toNat : Int), .int .u8 (a1.toNat : Int), .int .u8 (a2.toNat : Int), .int .u8 (a3.toNat : Int), .int .u8 (a4.toNat : Int), .int .u8 (a5.toNat : Int)]) := hφ 5 (by omega)
  have v6 : f 6 = (.string S) := hφ 6 (by omega)
  have v7 : f 7 = (.string (str [b0, b1, b2, b3])) := hφ 7 (by omega)
  have v8 : f 8 = (.agg #[.int .u8 (b0.toNat : Int), .int .u8 (b1.toNat : Int), .int .u8 (b2.toNat : Int), .int .u8 (b3.toNat : Int)]) := hφ 8 (by omega)
  have v9 : f 9 = (.string S) := hφ 9 (by omega)
  have v10 : f 10 = (.string (str [c0, c1, c2, c3, c4, c5])) := hφ 10 (by omega)
  have v11 : f 11 = (.agg #[.int .u8 (c0.toNat : Int), .int .u8 (c1.toNat : Int), .int .u8 (c2.toNat : Int), .int .u8 (c3.toNat : Int), .int .u8 (c4.toNat : Int), .int .u8 (c5.toNat : Int)]) := hφ 11 (by omega)
  have v12 : f 12 = (.string S) := hφ 12 (by omega)
  have v13 : f 13 = (.string (str [d0, d1, d2, d3])) := hφ 13 (by omega)
  have v14 : f 14 = (.agg #[.int .u8 (d0.toNat : Int), .int .u8 (d1.toNat : Int), .int .u8 (d2.toNat : Int), .int .u8 (d3.toNat : Int)]) := hφ 14 (by omega)
  have v15 : f 15 = (.agg #[.int .i64 (o.toNat : Int), .int .u8 (a0.toNat : Int), .int .u8 (a1.toNat : Int), .int .u8 (a2.toNat : Int), .int .u8 (a3.toNat : Int), .int .u8 (a4.toNat : Int), .int .u8 (a5.toNat : Int), .int .u8 (b0.toNat : Int), .int .u8 (b1.toNat : Int), .int .u8 (b2.toNat : Int), .int .u8 (b3.toNat : Int), .int .u8 (c0.toNat : Int), .int .u8 (c1.toNat : Int), .int .u8 (c2.toNat : Int), .int .u8 (c3.toNat : Int), .int .u8 (c4.toNat : Int), .int .u8 (c5.toNat : Int), .int .u8 (d0.toNat : Int), .int .u8 (d1.toNat : Int), .int .u8 (d2.toNat : Int), .int .u8 (d3.toNat : Int)]) := hφ 15 (by omega)
  have v16 : (St.row (w.heap.size + 1) #[.int .i64 0, .int .u8 0, .int .u8 0, .int .u8 0, .int .u8 0, .int .u8 0, .int .u8 0, .int .u8 0, .int .u8 0, .int .u8 0, .int .u8 0, .int .u8 0, .int .u8 0, .int .u8 0, .int .u8 0, .int .u8 0, .int .u8 0, .int .u8 0, .int .u8 0, .int .u8 0, .int .u8 0] 44).p (f 16) W := hφ 16 (by omega)
  clear hφ
  simp only [putAll, List.setIfInBounds_toArray, List.set_cons_succ, List.set_cons_zero, v0, v1, v2, v3, v4, v5, v6, v7, v8, v9, v10, v11, v12, v13, v14, v15]
  clear v0 v1 v2 v3 v4 v5 v6 v7 v8 v9 v10 v11 v12 v13 v14 v15
  obtain ⟨nb, hv, hnb, hrow⟩ := v16
  clear x1 x2 x3 x4 e1
  refine wpAny_ready (rs := [17]) (by kernel_rfl) (by simp) (AllReady.cons rfl (fun K' hK' => ?_) AllReady.nil)
  have hv' : f 16 = .pointer (some ⟨nb, 0, none⟩) := hv
  have hkW : Kp (w.alloc (.cells #[.int .i64 0, .int .u8 0, .int .u8 0, .int .u8 0, .int .u8 0, .int .u8 0, .int .u8 0, .int .u8 0, .int .u8 0, .int .u8 0, .int .u8 0, .int .u8 0, .int .u8 0, .int .u8 0, .int .u8 0, .int .u8 0, .int .u8 0, .int .u8 0, .int .u8 0, .int .u8 0, .int .u8 0] 44)) W := Kp.trans ((Kp.refl _).drew) hW
  simp only [hv']
  split
  case isFalse hx => exact (hx rfl).elim
  refine ost_row (.tmp 4) (.tmp 26) _ rfl rfl rfl rfl hrow szArp rfl rfl ?_
  refine hK' _ _ ?_
  refine wpAny_done (by kernel_rfl) ?_ _
  obtain ⟨W2, hW2, hk2, hrow2⟩ : ∃ W2, W2 = W.setRow nb #[.int .i64 (o.toNat : Int), .int .u8 (a0.toNat : Int), .int .u8 (a1.toNat : Int), .int .u8 (a2.toNat : Int), .int .u8 (a3.toNat : Int), .int .u8 (a4.toNat : Int), .int .u8 (a5.toNat : Int), .int .u8 (b0.toNat : Int), .int .u8 (b1.toNat : Int), .int .u8 (b2.toNat : Int), .int .u8 (b3.toNat : Int), .int .u8 (c0.toNat : Int), .int .u8 (c1.toNat : Int), .int .u8 (c2.toNat : Int), .int .u8 (c3.toNat : Int), .int .u8 (c4.toNat : Int), .int .u8 (c5.toNat : Int), .int .u8 (d0.toNat : Int), .int .u8 (d1.toNat : Int), .int .u8 (d2.toNat : Int), .int .u8 (d3.toNat : Int)] ∧ Kp (w.alloc (.cells #[.int .i64 0, .int .u8 0, .int .u8 0, .int .u8 0, .int .u8 0, .int .u8 0, .int .u8 0, .int .u8 0, .int .u8 0, .int .u8 0, .int .u8 0, .int .u8 0, .int .u8 0, .int .u8 0, .int .u8 0, .int .u8 0, .int .u8 0, .int .u8 0, .int .u8 0, .int .u8 0, .int .u8 0] 44)) W2 ∧ W2.heap[nb]? = some (.cells #[.int .i64 (o.toNat : Int), .int .u8 (a0.toNat : Int), .int .u8 (a1.toNat : Int), .int .u8 (a2.toNat : Int), .int .u8 (a3.toNat : Int), .int .u8 (a4.toNat : Int), .int .u8 (a5.toNat : Int), .int .u8 (b0.toNat : Int), .int .u8 (b1.toNat : Int), .int .u8 (b2.toNat : Int), .int .u8 (b3.toNat : Int), .int .u8 (c0.toNat : Int), .int .u8 (c1.toNat : Int), .int .u8 (c2.toNat : Int), .int .u8 (c3.toNat : Int), .int .u8 (c4.toNat : Int), .int .u8 (c5.toNat : Int), .int .u8 (d0.toNat : Int), .int .u8 (d1.toNat : Int), .int .u8 (d2.toNat : Int), .int .u8 (d3.toNat : Int)] 44 (0, 0)) := ⟨_, rfl, hkW.setRow (by simpa using hnb), setRow_heap _ _ _ _ _ _ hrow⟩
  rw [← hW2]
  have HROW2 := Lib.hid hrow2
  clear hW2 hrow hkW hW hrow2 hK' hv hv'
  by_cases ho : o = 1 ∨ o = 2
  · have hop : (o.toNat : Int) = 1 ∨ (o.toNat : Int) = 2 := by rcases ho with rfl | rfl <;> decide
    have ho2 : (o == 1 || o == 2) = true := by rcases ho with rfl | rfl <;> rfl
    go_wp2_with (refine lld_row (by rfl) (.tmp 4) _ _ rfl rfl HROW2.out Try.underlying44 rfl szArp ?_)
    refine (rbarp_ok _ _ _ _ _ _ _ _ _ _ _ _ _ _ _ _ _ _ _ _ _ _ hop).mono ?_
    rintro e W3 ⟨rfl, hk3⟩
    have hk4 := hk2.trans hk3
    have hbk := (hk4.block _ (by simp)).trans (heap_alloc_new w (.cells #[.int .i64 0, .int .u8 0, .int .u8 0, .int .u8 0, .int .u8 0, .int .u8 0, .int .u8 0, .int .u8 0, .int .u8 0, .int .u8 0, .int .u8 0, .int .u8 0, .int .u8 0, .int .u8 0, .int .u8 0, .int .u8 0, .int .u8 0, .int .u8 0, .int .u8 0, .int .u8 0, .int .u8 0] 44))
    have HBK := Lib.hid hbk
    have hrow3 := (hk3.block _ (Array.getElem?_eq_some_iff.1 HROW2.out).1).trans HROW2.out
    have HROW3 := Lib.hid hrow3
    have eo : UInt8.ofNat ((o.toNat : Int)).toNat = o := by simp
    have hb := str_beq (arpBytes (o.toNat : Int) [a0, a1, a2, a3, a4, a5] [b0, b1, b2, b3] [c0, c1, c2, c3, c4, c5] [d0, d1, d2, d3]) ([h0, h1, h2, h3, h4, h5, h6] ++ ([o] ++ ([a0, a1, a2, a3, a4, a5] ++ ([b0, b1, b2, b3] ++ ([c0, c1, c2, c3, c4, c5] ++ [d0, d1, d2, d3])))))
    unfold arpBytes at hb ⊢
    rw [eo] at hb ⊢
    rw [H28.out] at hb
    clear hbk hrow3 eo hop ho bo hk3
    by_cases hh : [h0, h1, h2, h3, h4, h5, h6] = [0, 1, 8, 0, 6, 4, 0]
    · have GH : Hid (arpGood [h0, h1, h2, h3, h4, h5, h6] o = true) := Lib.hid (by unfold arpGood; rw [beq_iff_eq.2 hh, ho2]; rfl)
      have hc : ([0, 1, 8, 0, 6, 4, 0, o] ++ [a0, a1, a2, a3, a4, a5] ++ [b0, b1, b2, b3] ++ [c0, c1, c2, c3, c4, c5] ++ [d0, d1, d2, d3] == [h0, h1, h2, h3, h4, h5, h6] ++ ([o] ++ ([a0, a1, a2, a3, a4, a5] ++ ([b0, b1, b2, b3] ++ ([c0, c1, c2, c3, c4, c5] ++ [d0, d1, d2, d3]))))) = true := by rw [hh]; exact beq_iff_eq.2 rfl
      rw [hc] at hb
      generalize str ([0, 1, 8, 0, 6, 4, 0, o] ++ [a0, a1, a2, a3, a4, a5] ++ [b0, b1, b2, b3] ++ [c0, c1, c2, c3, c4, c5] ++ [d0, d1, d2, d3]) = sb at hb ⊢
      clear hc hh ho2
      have hrow4 := setRow_heap W3 w.heap.size _ #[.int .i64 (o.toNat : Int), .int .u8 (a0.toNat : Int), .int .u8 (a1.toNat : Int), .int .u8 (a2.toNat : Int), .int .u8 (a3.toNat : Int), .int .u8 (a4.toNat : Int), .int .u8 (a5.toNat : Int), .int .u8 (b0.toNat : Int), .int .u8 (b1.toNat : Int), .int .u8 (b2.toNat : Int), .int .u8 (b3.toNat : Int), .int .u8 (c0.toNat : Int), .int .u8 (c1.toNat : Int), .int .u8 (c2.toNat : Int), .int .u8 (c3.toNat : Int), .int .u8 (c4.toNat : Int), .int .u8 (c5.toNat : Int), .int .u8 (d0.toNat : Int), .int .u8 (d1.toNat : Int), .int .u8 (d2.toNat : Int), .int .u8 (d3.toNat : Int)] _ _ HBK.out
      go_wp2_with (refine lld_row (by rfl) (.tmp 4) _ _ rfl rfl HROW3.out Try.underlying44 rfl szArp ?_; refine lst_row (by rfl) (.tmp 2) (.tmp 41) _ rfl rfl rfl HBK.out szArp rfl rfl rfl ?_)
      refine bodyPost_ret (v := .tuple #[.agg #[.int .i64 (o.toNat : Int), .int .u8 (a0.toNat : Int), .int .u8 (a1.toNat : Int), .int .u8 (a2.toNat : Int), .int .u8 (a3.toNat : Int), .int .u8 (a4.toNat : Int), .int .u8 (a5.toNat : Int), .int .u8 (b0.toNat : Int), .int .u8 (b1.toNat : Int), .int .u8 (b2.toNat : Int), .int .u8 (b3.toNat : Int), .int .u8 (c0.toNat : Int), .int .u8 (c1.toNat : Int), .int .u8 (c2.toNat : Int), .int .u8 (c3.toNat : Int), .int .u8 (c4.toNat : Int), .int .u8 (c5.toNat : Int), .int .u8 (d0.toNat : Int), .int .u8 (d1.toNat : Int), .int .u8 (d2.toNat : Int), .int .u8 (d3.toNat : Int)], .int .i64 0]) (results_cell2 (fn := Try.f21) szArp uArp hrow4 rfl Try.results21 rfl rfl) rfl ⟨fun _ => ⟨(((Kp.refl w).alloc _).trans hk4).setRow (Nat.le_refl _), rfl⟩, fun h => ?_⟩
      rw [GH.out] at h
      cases h
    · have GH : Hid (arpGood [h0, h1, h2, h3, h4, h5, h6] o = false) := Lib.hid (by unfold arpGood; rw [beq_eq_false_iff_ne.2 hh]; rfl)
      have hc : ([0, 1, 8, 0, 6, 4, 0, o] ++ [a0, a1, a2, a3, a4, a5] ++ [b0, b1, b2, b3] ++ [c0, c1, c2, c3, c4, c5] ++ [d0, d1, d2, d3] == [h0, h1, h2, h3, h4, h5, h6] ++ ([o] ++ ([a0, a1, a2, a3, a4, a5] ++ ([b0, b1, b2, b3] ++ ([c0, c1, c2, c3, c4, c5] ++ [d0, d1, d2, d3]))))) = false := by
        rw [beq_eq_false_iff_ne]
        intro h
        exact hh (congrArg (List.take 7) h).symm
      rw [hc] at hb
      generalize str ([0, 1, 8, 0, 6, 4, 0, o] ++ [a0, a1, a2, a3, a4, a5] ++ [b0, b1, b2, b3] ++ [c0, c1, c2, c3, c4, c5] ++ [d0, d1, d2, d3]) = sb at hb ⊢
      clear hc hh ho2
      go_wp2_with (refine lst_row (by rfl) (.tmp 2) (.tmp 40) _ rfl rfl rfl HBK.out szArp rfl rfl rfl ?_)
      have hrow3 := setRow_heap W3 w.heap.size _ #[.int .i64 0, .int .u8 0, .int .u8 0, .int .u8 0, .int .u8 0, .int .u8 0, .int .u8 0, .int .u8 0, .int .u8 0, .int .u8 0, .int .u8 0, .int .u8 0, .int .u8 0, .int .u8 0, .int .u8 0, .int .u8 0, .int .u8 0, .int .u8 0, .int .u8 0, .int .u8 0, .int .u8 0] _ _ HBK.out
      refine bodyPost_ret (v := .tuple #[.agg #[.int .i64 0, .int .u8 0, .int .u8 0, .int .u8 0, .int .u8 0, .int .u8 0, .int .u8 0, .int .u8 0, .int .u8 0, .int .u8 0, .int .u8 0, .int .u8 0, .int .u8 0, .int .u8 0, .int .u8 0, .int .u8 0, .int .u8 0, .int .u8 0, .int .u8 0, .int .u8 0, .int .u8 0], .int .i64 7]) (results_cell2 (fn := Try.f21) szArp uArp hrow3 rfl Try.results21 rfl rfl) rfl ⟨fun h => ?_, fun _ => ⟨(((Kp.refl w).alloc _).trans hk4).setRow (Nat.le_refl _), rfl⟩⟩
      rw [GH.out] at h
      cases h
  · have hop1 : (o.toNat : Int) ≠ 1 := fun h => ho (.inl (UInt8.toNat_inj.1 (by simpa using (by omega : o.toNat = 1))))
    have hop2 : (o.toNat : Int) ≠ 2 := fun h => ho (.inr (UInt8.toNat_inj.1 (by simpa using (by omega : o.toNat = 2))))
    have GH : Hid (arpGood [h0, h1, h2, h3, h4, h5, h6] o = false) := Lib.hid (by
      simp only [not_or] at ho
      simp [arpGood, ho.1, ho.2])
    go_wp2_with (refine lld_row (by rfl) (.tmp 4) _ _ rfl rfl HROW2.out Try.underlying44 rfl szArp ?_)
    refine (rbarp_no _ _ _ _ _ _ _ _ _ _ _ _ _ _ _ _ _ _ _ _ _ _ hop1 hop2).mono ?_
    rintro e W3 ⟨rfl, hk3⟩
    have hk4 := hk2.trans hk3
    have HBK := Lib.hid ((hk4.block _ (by simp)).trans (heap_alloc_new w _))
    go_wp2_with (refine lst_row (by rfl) (.tmp 2) (.tmp 40) _ rfl rfl rfl HBK.out szArp rfl rfl rfl ?_)
    have hrow3 := setRow_heap W3 w.heap.size _ #[.int .i64 0, .int .u8 0, .int .u8 0, .int .u8 0, .int .u8 0, .int .u8 0, .int .u8 0, .int .u8 0, .int .u8 0, .int .u8 0, .int .u8 0, .int .u8 0, .int .u8 0, .int .u8 0, .int .u8 0, .int .u8 0, .int .u8 0, .int .u8 0, .int .u8 0, .int .u8 0, .int .u8 0] _ _ HBK.out
    refine bodyPost_ret (v := .tuple #[.agg #[.int .i64 0, .int .u8 0, .int .u8 0, .int .u8 0, .int .u8 0, .int .u8 0, .int .u8 0, .int .u8 0, .int .u8 0, .int .u8 0, .int .u8 0, .int .u8 0, .int .u8 0, .int .u8 0, .int .u8 0, .int .u8 0, .int .u8 0, .int .u8 0, .int .u8 0, .int .u8 0, .int .u8 0], .int .i64 7]) (results_cell2 (fn := Try.f21) szArp uArp hrow3 rfl Try.results21 rfl rfl) rfl ⟨fun h => ?_, fun _ => ⟨(((Kp.refl w).alloc _).trans hk4).setRow (Nat.le_refl _), rfl⟩⟩
    rw [GH.out] at h
    cases h
end Go.Proofs.Ytdibmeapflhhaaa
