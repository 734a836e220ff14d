/-
  The contracts of the document's digit and Unhex.
-/
import Derived.Test.YtibbpineaekfoaaOct6
import Derived.Test.YtibbpineaekfoaaStable
namespace Go.Proofs.Ytibbpineaekfoaa
open Go.RowKit

theorem rdigit_any (w : World) (c : UInt8) : Calls Try.prog 36 #[.int .u8 (c.toNat : Int)] w fun e w' => e = .returned (.int .i64 (Oc.dg c.toNat)) ∧ w = w' := by
  have hb := c.toNat_lt
  obtain ⟨n, hn⟩ : ∃ n, c.toNat = n := ⟨_, rfl⟩
  rw [hn] at hb ⊢
  clear hn
  have u1 : 48 ≤ n → IntKind.u8.wrap ((n : Int) - 48) = (n : Int) - 48 := fun h => wrap_u8 (by omega) (by omega)
  have u2 : 97 ≤ n → IntKind.u8.wrap ((n : Int) - 97) = (n : Int) - 97 := fun h => wrap_u8 (by omega) (by omega)
  by_cases h1 : 48 ≤ n ∧ n ≤ 57
  · have e : Oc.dg n = (n : Int) - 48 := by unfold Oc.dg; rw [if_pos h1]
    have u := u1 h1.1
    have h3 : (48 : Int) ≤ n := by omega
    have h4 : (n : Int) ≤ 57 := by omega
    rw [e]
    clear e u1 u2 h1
    go_enter Try.func36, Try.ntmps36
    go_wp2
    go_ret
    exact ⟨ret_int (by omega), rfl⟩
  · by_cases h2 : 97 ≤ n ∧ n ≤ 102
    · have e : Oc.dg n = (n : Int) - 87 := by unfold Oc.dg; rw [if_neg h1, if_pos h2]
      have u := u2 h2.1
      have h3 : (48 : Int) ≤ n := by omega
      have h4 : ¬ (n : Int) ≤ 57 := by omega
      have h5 : (97 : Int) ≤ n := by omega
      have h6 : (n : Int) ≤ 102 := by omega
      rw [e]
      clear e u1 u2 h1 h2
      go_enter Try.func36, Try.ntmps36
      go_wp2
      go_ret
      exact ⟨ret_int (by omega), rfl⟩
    · have e : Oc.dg n = -1 := by unfold Oc.dg; rw [if_neg h1, if_neg h2]
      rw [e]
      clear e u1 u2
      rcases (by omega : n < 48 ∨ (57 < n ∧ n < 97) ∨ 102 < n) with h | ⟨h, h'⟩ | h
      all_goals
        go_enter Try.func36, Try.ntmps36
        go_wp2
        go_ret
        exact ⟨rfl, rfl⟩

noncomputable def ruphi (l : List UInt8) (k : Nat) (t : List UInt8) (ab c : UInt8) (xv dv : Int) : Nat → St := fun i => ([St.val (.string (str t)),
  St.val (.string (str l)),
  St.val (.int .i64 (k : Int)),
  St.val (.int .i64 ((k : Int) - 1)),
  St.val (.int .u8 (ab.toNat : Int)),
  St.val (.int .i64 xv),
  St.val (.int .i64 (16 * xv)),
  St.val (.string (str l)),
  St.val (.int .i64 (k : Int)),
  St.val (.int .u8 (c.toNat : Int)),
  St.val (.int .i64 dv),
  St.val (.int .i64 (16 * xv + dv)),
  St.val (.int .u8 (16 * xv + dv)),
  St.rd 1 [UInt8.ofNat (16 * xv + dv).toNat],
  St.val (.string (str [UInt8.ofNat (16 * xv + dv).toNat])),
  St.val (.string (str (t ++ [UInt8.ofNat (16 * xv + dv).toNat])))] : List St).getD i St.any

set_option maxRecDepth 100000 in
set_option maxHeartbeats 2000000 in
theorem runhex_any (w : World) (l : List UInt8) (hl : l.length ≤ 65536) :
    Calls Try.prog 31 #[.string (str l)] w fun e w' => e = .returned (.tuple #[.string (str (Oc.unhex l).1), .int .i64 (Oc.unhex l).2]) ∧ Kp w w' := by
  have hsz := str_size
  have hap := str_append
  go_enter Try.func31, Try.ntmps31
  go_wp2
  go_loopw [4, 5] (fun o i wr => ∃ k : Nat, k ≤ l.length ∧ i = .int .i64 k ∧ o = .string (str (Oc.pairs (l.take k))) ∧ Oc.good (l.take k) ∧ Kp w wr)
    (fun _ i _ => l.length - (intOf i).toNat)
  case atStart => exact ⟨0, Nat.zero_le _, rfl, rfl, fun c hc => by simp at hc, Kp.refl _⟩
  case round =>
    obtain ⟨k, hk, rfl, rfl, hgood, hkp⟩ := hrel
    have HGD := Lib.hid hgood
    clear hgood
    by_cases hlt : k < l.length
    · obtain ⟨c, hc⟩ : ∃ c, l[k]? = some c := ⟨_, List.getElem?_eq_getElem hlt⟩
      have hgc : ∀ h, (str l)[k]'h = c := fun h => by rw [str_get]; rw [List.getElem?_eq_getElem hlt] at hc; injection hc
      have HC := Lib.hid hc
      have hd2 := Oc.dg_lt c.toNat
      have HU := Lib.hid (Oc.unhex_bad (i := k) (c := c) hc)
      obtain ⟨dv, hdv⟩ : ∃ dv, Oc.dg c.toNat = dv := ⟨_, rfl⟩
      have HDV := Lib.hid hdv
      rw [hdv] at hd2 HU
      clear hdv hc
      by_cases hd0 : dv < 0
      · go_wp2_with (first | (go_at_call 36; refine (rdigit_any _ c).mono ?_; rintro e w' ⟨rfl, rfl⟩; rw [HDV.out]))
        go_ret2
        rw [HU.out hd0]
        exact ⟨rfl, hkp⟩
      · have hd1 : 0 ≤ dv := by omega
        clear HU hd0
        rcases Nat.mod_two_eq_zero_or_one k with hpar | hpar
        · have hpz : (k : Int).tmod 2 = 0 := by rw [Int.tmod_eq_emod_of_nonneg (by omega)]; omega
          have HPE := Lib.hid (pairs_even_step hpar HC.out)
          go_wp2_with (first | (go_at_call 36; refine (rdigit_any _ c).mono ?_; rintro e w' ⟨rfl, rfl⟩; rw [HDV.out]))
          go_roundw
          case rel => exact ⟨k + 1, by omega, by go_num, by rw [HPE.out], good_take HGD.out HC.out (by rw [HDV.out]; exact hd1), hkp⟩
          case measure => simp [intOf]; omega
        · have hpz : (k : Int).tmod 2 = 1 := by rw [Int.tmod_eq_emod_of_nonneg (by omega)]; omega
          obtain ⟨ab, ha⟩ : ∃ ab, l[k - 1]? = some ab := ⟨_, List.getElem?_eq_getElem (by omega)⟩
          have hga : ∀ h, (str l)[k - 1]'h = ab := fun h => by rw [str_get]; rw [List.getElem?_eq_getElem (by omega)] at ha; injection ha
          have hx0 : 0 ≤ Oc.dg ab.toNat := HGD.out ab (List.mem_of_getElem? (i := k - 1) (by rw [List.getElem?_take, if_pos (by omega)]; exact ha))
          have hx1 := Oc.dg_lt ab.toNat
          have HPO := Lib.hid (pairs_odd_step hpar ha HC.out)
          have hpl := pairs_len (l.take k)
          rw [List.length_take] at hpl
          have hpl' : (Oc.pairs (l.take k)).length ≤ 65536 := by omega
          obtain ⟨xv, hxv⟩ : ∃ xv, Oc.dg ab.toNat = xv := ⟨_, rfl⟩
          obtain ⟨t, ht⟩ : ∃ t, Oc.pairs (l.take k) = t := ⟨_, rfl⟩
          have HXV := Lib.hid hxv
          rw [hxv] at hx0 hx1 HPO
          rw [HDV.out] at HPO
          rw [ht] at HPO hpl' ⊢
          clear ha hxv ht hpl
          have hu8 : IntKind.u8.wrap (16 * xv + dv) = 16 * xv + dv := wrap_u8 (by omega) (by omega)
          have he8 : (#[.int .u8 (16 * xv + dv)] : Array Value) = (bvs [UInt8.ofNat (16 * xv + dv).toNat]).toArray := by
            have e8 : (((UInt8.ofNat (16 * xv + dv).toNat).toNat : Nat) : Int) = 16 * xv + dv := by rw [UInt8.toNat_ofNat']; omega
            simp only [bvs, List.map_cons, List.map_nil, e8]
          have HE8 := Lib.hid he8
          clear he8
          have wi1 : IntKind.i64.wrap (16 * xv) = 16 * xv := by rw [IntKind.wrap_i64]; omega
          have wi2 : IntKind.i64.wrap (16 * xv + dv) = 16 * xv + dv := by rw [IntKind.wrap_i64]; omega
          have hbb : ¬ 9223372036854775807 < t.length + 1 := by omega
          have hk1 : ((k : Int) - 1).toNat = k - 1 := by omega
          have hk2 : (k : Int) - 1 < (l.length : Int) := by omega
          have hk3 : (1 : Int) ≤ (k : Int) := by omega
          have wi3 : IntKind.i64.wrap ((k : Int) - 1) = (k : Int) - 1 := by rw [IntKind.wrap_i64]; omega
          have hcv : ∀ W : World, (convert 22 9 (.slice (some ⟨W.heap.size, 0, none⟩) 1 1)).run Try.prog (W.alloc (.cells #[.int .u8 (16 * xv + dv)] 5)) = .ok (.string (str [UInt8.ofNat (16 * xv + dv).toNat])) (W.alloc (.cells #[.int .u8 (16 * xv + dv)] 5)) :=
            fun W => conv_str (P := Try.prog) (lo := 0) Try.underlying22 Try.underlying5 Try.underlying9 (rd_lit rfl (Nat.zero_le _) rfl HE8.out)
          go_wp2_with (first | (go_at_call 36; refine (rdigit_any _ c).mono ?_; rintro e w' ⟨rfl, rfl⟩; rw [HDV.out]))
          refine wp_region_steps (by kernel_rfl) 16 (ruphi l k t ab c xv dv) [20, 21, 22, 23, 24, 25, 26, 27, 28, 29, 30, 31, 32, 33, 34, 35] (by kernel_rfl) (by kernel_rfl) ⟨?_, ?_, ?_, ?_, ?_, ?_, ?_, ?_, ?_, ?_, ?_, ?_, ?_, ?_, ?_, ?_, trivial⟩ ?_
          · intro a W hW hO hφ K hK
            have q4 : a.tmps.getD 4 undef = (.string (str t)) := hO 4 (by kernel_rfl)
            have r4 := q4
            rw [Array.getD_eq_getD_getElem?] at r4
            clear hO hφ
            go_simp
            exact hK _ _ (Kp.refl _) rfl
          · intro a W hW hO hφ K hK
            have q0 : a.tmps.getD 0 undef = (.string (str l)) := hO 0 (by kernel_rfl)
            have r0 := q0
            rw [Array.getD_eq_getD_getElem?] at r0
            clear hO hφ
            go_simp
            exact hK _ _ (Kp.refl _) rfl
          · intro a W hW hO hφ K hK
            have q5 : a.tmps.getD 5 undef = (.int .i64 (k : Int)) := hO 5 (by kernel_rfl)
            have r5 := q5
            rw [Array.getD_eq_getD_getElem?] at r5
            clear hO hφ
            go_simp
            exact hK _ _ (Kp.refl _) rfl
          · intro a W hW hO hφ K hK
            have q22 : a.tmps.getD 22 undef = (.int .i64 (k : Int)) := hφ ⟨2, .data⟩ (by simp) rfl
            have r22 := q22
            rw [Array.getD_eq_getD_getElem?] at r22
            clear hO hφ
            go_simp
            exact hK _ _ (Kp.refl _) rfl
          · intro a W hW hO hφ K hK
            have q21 : a.tmps.getD 21 undef = (.string (str l)) := hφ ⟨1, .data⟩ (by simp) rfl
            have q23 : a.tmps.getD 23 undef = (.int .i64 ((k : Int) - 1)) := hφ ⟨3, .data⟩ (by simp) rfl
            have r21 := q21
            rw [Array.getD_eq_getD_getElem?] at r21
            have r23 := q23
            rw [Array.getD_eq_getD_getElem?] at r23
            clear hO hφ
            go_simp
            exact hK _ _ (Kp.refl _) rfl
          · intro a W hW hO hφ K hK
            have q24 : a.tmps.getD 24 undef = (.int .u8 (ab.toNat : Int)) := hφ ⟨4, .data⟩ (by simp) rfl
            have r24 := q24
            rw [Array.getD_eq_getD_getElem?] at r24
            clear hO hφ
            go_simp
            go_at_call 36
            refine (rdigit_any _ ab).mono ?_
            rintro e w' ⟨rfl, rfl⟩
            rw [HXV.out]
            exact hK _ _ (Kp.refl _) rfl
          · intro a W hW hO hφ K hK
            have q25 : a.tmps.getD 25 undef = (.int .i64 xv) := hφ ⟨5, .data⟩ (by simp) rfl
            have r25 := q25
            rw [Array.getD_eq_getD_getElem?] at r25
            clear hO hφ
            go_simp
            exact hK _ _ (Kp.refl _) rfl
          · intro a W hW hO hφ K hK
            have q0 : a.tmps.getD 0 undef = (.string (str l)) := hO 0 (by kernel_rfl)
            have r0 := q0
            rw [Array.getD_eq_getD_getElem?] at r0
            clear hO hφ
            go_simp
            exact hK _ _ (Kp.refl _) rfl
          · intro a W hW hO hφ K hK
            have q5 : a.tmps.getD 5 undef = (.int .i64 (k : Int)) := hO 5 (by kernel_rfl)
            have r5 := q5
            rw [Array.getD_eq_getD_getElem?] at r5
            clear hO hφ
            go_simp
            exact hK _ _ (Kp.refl _) rfl
          · intro a W hW hO hφ K hK
            have q27 : a.tmps.getD 27 undef = (.string (str l)) := hφ ⟨7, .data⟩ (by simp) rfl
            have q28 : a.tmps.getD 28 undef = (.int .i64 (k : Int)) := hφ ⟨8, .data⟩ (by simp) rfl
            have r27 := q27
            rw [Array.getD_eq_getD_getElem?] at r27
            have r28 := q28
            rw [Array.getD_eq_getD_getElem?] at r28
            clear hO hφ
            go_simp
            exact hK _ _ (Kp.refl _) rfl
          · intro a W hW hO hφ K hK
            have q29 : a.tmps.getD 29 undef = (.int .u8 (c.toNat : Int)) := hφ ⟨9, .data⟩ (by simp) rfl
            have r29 := q29
            rw [Array.getD_eq_getD_getElem?] at r29
            clear hO hφ
            go_simp
            go_at_call 36
            refine (rdigit_any _ c).mono ?_
            rintro e w' ⟨rfl, rfl⟩
            rw [HDV.out]
            exact hK _ _ (Kp.refl _) rfl
          · intro a W hW hO hφ K hK
            have q26 : a.tmps.getD 26 undef = (.int .i64 (16 * xv)) := hφ ⟨6, .data⟩ (by simp) rfl
            have q30 : a.tmps.getD 30 undef = (.int .i64 dv) := hφ ⟨10, .data⟩ (by simp) rfl
            have r26 := q26
            rw [Array.getD_eq_getD_getElem?] at r26
            have r30 := q30
            rw [Array.getD_eq_getD_getElem?] at r30
            clear hO hφ
            go_simp
            exact hK _ _ (Kp.refl _) rfl
          · intro a W hW hO hφ K hK
            have q31 : a.tmps.getD 31 undef = (.int .i64 (16 * xv + dv)) := hφ ⟨11, .data⟩ (by simp) rfl
            have r31 := q31
            rw [Array.getD_eq_getD_getElem?] at r31
            clear hO hφ
            go_simp
            exact hK _ _ (Kp.refl _) rfl
          · intro a W hW hO hφ K hK
            have q32 : a.tmps.getD 32 undef = (.int .u8 (16 * xv + dv)) := hφ ⟨12, .data⟩ (by simp) rfl
            have r32 := q32
            rw [Array.getD_eq_getD_getElem?] at r32
            clear hO hφ
            go_simp
            exact hK _ _ ((Kp.refl _).alloc _) ⟨_, _, rfl, rd_lit rfl (Nat.zero_le _) rfl HE8.out⟩
          · intro a W hW hO hφ K hK
            have q33 : (St.rd 1 [UInt8.ofNat (16 * xv + dv).toNat]).p (a.tmps.getD 33 undef) W := hφ ⟨13, .data⟩ (by simp) rfl
            clear hO hφ
            obtain ⟨A1, c1, q33', hr⟩ := q33
            have cv := conv_str (P := Try.prog) (c := c1) Try.underlying22 Try.underlying5 Try.underlying9 hr
            go_simp
            exact hK _ _ (Kp.refl _) rfl
          · intro a W hW hO hφ K hK
            have q20 : a.tmps.getD 20 undef = (.string (str t)) := hφ ⟨0, .data⟩ (by simp) rfl
            have q34 : a.tmps.getD 34 undef = (.string (str [UInt8.ofNat (16 * xv + dv).toNat])) := hφ ⟨14, .data⟩ (by simp) rfl
            have r20 := q20
            rw [Array.getD_eq_getD_getElem?] at r20
            have r34 := q34
            rw [Array.getD_eq_getD_getElem?] at r34
            clear hO hφ
            go_simp
            exact hK _ _ (Kp.refl _) rfl
          intro f W hW hφ
          have v0 : f 0 = (.string (str t)) := hφ 0 (by omega)
          have v1 : f 1 = (.string (str l)) := hφ 1 (by omega)
          have v2 : f 2 = (.int .i64 (k : Int)) := hφ 2 (by omega)
          have v3 : f 3 = (.int .i64 ((k : Int) - 1)) := hφ 3 (by omega)
          have v4 : f 4 = (.int .u8 (ab.toNat : Int)) := hφ 4 (by omega)
          have v5 : f 5 = (.int .i64 xv) := hφ 5 (by omega)
          have v6 : f 6 = (.int .i64 (16 * xv)) := hφ 6 (by omega)
          have v7 : f 7 = (.string (str l)) := hφ 7 (by omega)
          have v8 : f 8 = (.int .i64 (k : Int)) := hφ 8 (by omega)
          have v9 : f 9 = (.int .u8 (c.toNat : Int)) := hφ 9 (by omega)
          have v10 : f 10 = (.int .i64 dv) := hφ 10 (by omega)
          have v11 : f 11 = (.int .i64 (16 * xv + dv)) := hφ 11 (by omega)
          have v12 : f 12 = (.int .u8 (16 * xv + dv)) := hφ 12 (by omega)
          have v13 : (St.rd 1 [UInt8.ofNat (16 * xv + dv).toNat]).p (f 13) W := hφ 13 (by omega)
          have v14 : f 14 = (.string (str [UInt8.ofNat (16 * xv + dv).toNat])) := hφ 14 (by omega)
          have v15 : f 15 = (.string (str (t ++ [UInt8.ofNat (16 * xv + dv).toNat]))) := hφ 15 (by omega)
          clear hφ
          simp only [putAll, List.setIfInBounds_toArray, List.set_cons_succ, List.set_cons_zero, v0, v1, v2, v3, v4, v5, v6, v7, v8, v9, v10, v11, v12, v14, v15]
          clear v0 v1 v2 v3 v4 v5 v6 v7 v8 v9 v10 v11 v12 v14 v15
          refine wpAny_ready (rs := [16]) (by kernel_rfl) (by simp) (AllReady.cons rfl (fun K' hK' => ?_) AllReady.nil)
          go_simp
          refine hK' _ _ ?_
          refine wpAny_done (by kernel_rfl) ?_ _
          go_wp2
          go_roundw
          case rel => exact ⟨k + 1, by omega, by go_num, by rw [HPO.out], good_take HGD.out HC.out (by rw [HDV.out]; exact hd1), hkp.trans (Kp.trans ((Kp.refl _).drew) hW)⟩
          case measure => simp [intOf]; omega
    · obtain rfl : k = l.length := by omega
      rw [List.take_length] at HGD ⊢
      rcases Nat.mod_two_eq_zero_or_one l.length with hpar | hpar
      · have hpz : (l.length : Int).tmod 2 = 0 := by rw [Int.tmod_eq_emod_of_nonneg (by omega)]; omega
        have HU := Lib.hid (Oc.unhex_ok HGD.out hpar)
        go_wp2
        go_ret2
        rw [HU.out]
        exact ⟨rfl, hkp⟩
      · have hpz : (l.length : Int).tmod 2 = 1 := by rw [Int.tmod_eq_emod_of_nonneg (by omega)]; omega
        have HU := Lib.hid (Oc.unhex_cut HGD.out hpar)
        go_wp2
        go_ret2
        rw [HU.out]
        exact ⟨rfl, hkp⟩
end Go.Proofs.Ytibbpineaekfoaa
