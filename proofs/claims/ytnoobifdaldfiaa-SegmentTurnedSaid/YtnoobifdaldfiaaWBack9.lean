/-
  The walk of SegmentBack: it returns true and leaves what was there as it was.
-/
import Derived.Test.YtnoobifdaldfiaaWOpens9
namespace Go.Proofs.Ytnoobifdaldfiaa
open Go.RowKit

theorem opts_four : ∀ (q : Nat) (l : List UInt8) (m k : Nat), l.length ≤ q → opts l m = some k → k = m ∨ 4 ≤ l.length := by
  intro q
  induction q with
  | zero =>
    intro l m k hl h
    obtain rfl : l = [] := List.eq_nil_of_length_eq_zero (by omega)
    rw [opts_nil] at h
    injection h with h
    exact .inl h.symm
  | succ q ih =>
    intro l m k hl h
    rcases l with _ | ⟨x, r⟩
    · rw [opts_nil] at h; injection h with h; exact .inl h.symm
    · rw [List.length_cons] at hl ⊢
      by_cases h0 : x = 0
      · subst h0; rw [opts_zero] at h; injection h with h; exact .inl h.symm
      by_cases h1 : x = 1
      · subst h1; rw [opts_one] at h
        rcases ih r m k (by omega) h with h | h
        · exact .inl h
        · exact .inr (by omega)
      by_cases hb : r = [] ∨ sec r < 2 ∨ r.length + 1 < sec r ∨ (x = 2 ∧ sec r ≠ 4)
      · rw [opts_bad x r m h0 h1 hb] at h; cases h
      · rw [opts_go x r m h0 h1 hb] at h
        by_cases h2 : x = 2
        · have h4 : sec r = 4 := Decidable.byContradiction fun h4 => hb (.inr (.inr (.inr ⟨h2, h4⟩)))
          have h5 : ¬ r.length + 1 < sec r := fun h5 => hb (.inr (.inr (.inl h5)))
          exact .inr (by omega)
        · rw [if_neg h2] at h
          rcases ih (r.drop (sec r - 1)) m k (by rw [List.length_drop]; omega) h with h | h
          · exact .inl h
          · rw [List.length_drop] at h; exact .inr (by omega)

theorem out9_len (src dst l : List UInt8) (s : Sg) (h : out9 src dst l = .inr s) : 20 + (opt9 s.ms).length + s.data.length ≤ l.length := by
  unfold out9 at h
  by_cases h1 : l.length < 20
  · rw [if_pos h1] at h; cases h
  rw [if_neg h1] at h
  by_cases h2 : 4 * ((l.getD 12 0).toNat / 16) < 20
  · rw [if_pos h2] at h; cases h
  rw [if_neg h2] at h
  by_cases h3 : l.length < 4 * ((l.getD 12 0).toNat / 16)
  · rw [if_pos h3] at h; cases h
  rw [if_neg h3] at h
  by_cases h4 : 1000 < l.length
  · rw [if_pos h4] at h; cases h
  rw [if_neg h4] at h
  by_cases h5 : Ck.ck (pseudo src dst 6 l.length ++ l) ≠ 65535
  · rw [if_pos h5] at h; cases h
  rw [if_neg h5] at h
  cases ho : opts ((l.take (4 * ((l.getD 12 0).toNat / 16))).drop 20) 0 with
  | none => rw [ho] at h; cases h
  | some k =>
    rw [ho] at h
    injection h with h
    subst h
    have hf := opts_four _ _ 0 k (Nat.le_refl _) ho
    rw [List.length_drop, List.length_take] at hf
    simp only [List.length_drop]
    have h6 := opt9_le (if (l.getD 13 0).toNat / 2 % 2 = 0 then 0 else k)
    by_cases h7 : (l.getD 13 0).toNat / 2 % 2 = 0
    · rw [if_pos h7]
      have : (opt9 0).length = 0 := rfl
      omega
    · rw [if_neg h7] at h6 ⊢
      by_cases h8 : k = 0
      · subst h8
        have : (opt9 0).length = 0 := rfl
        omega
      · omega

set_option maxRecDepth 100000 in
set_option maxHeartbeats 4000000 in
theorem back9_walk (w : World) (A : Option Addr) (n c : Nat) (l : List UInt8) (a0 a1 a2 a3 b0 b1 b2 b3 : UInt8) (hA : Rd w 0 A n l) (hok : SlOk A n c) (hn : n ≤ 140737488351232) :
    Calls Try.prog 7 #[.slice A n c, .agg #[.int .u8 (a0.toNat : Int), .int .u8 (a1.toNat : Int), .int .u8 (a2.toNat : Int), .int .u8 (a3.toNat : Int), .int .u8 (b0.toNat : Int), .int .u8 (b1.toNat : Int), .int .u8 (b2.toNat : Int), .int .u8 (b3.toNat : Int)]] w fun e w' => e = .returned (.bool true) ∧ Kp w w' := by
  have HL := Lib.hid hA.len
  have hK0 : Kp w (w.alloc (.cells #[.int .u8 (a0.toNat : Int), .int .u8 (a1.toNat : Int), .int .u8 (a2.toNat : Int), .int .u8 (a3.toNat : Int), .int .u8 (b0.toNat : Int), .int .u8 (b1.toNat : Int), .int .u8 (b2.toNat : Int), .int .u8 (b3.toNat : Int)] 59)) := (Kp.refl w).alloc _
  have HK0 := Lib.hid hK0
  have HA := Lib.hid (hA.keep hK0)
  have HOK := Lib.hid hok
  have KE := Lib.hid (cellsE9 w a0 a1 a2 a3 b0 b1 b2 b3)
  clear hA hok hK0
  by_cases h : 1200 < n
  · go_enter Try.func7, Try.ntmps7
    go_wp2_with (first | (go_at_call 19; refine (lives9_any _).mono ?_; rintro e w1 ⟨rfl, hk⟩))
    go_ret
    exact ⟨rfl, Kp.trans HK0.out (Kp.trans (by assumption) hk)⟩
  go_enter Try.func7, Try.ntmps7
  go_wp2_with fail
  refine (lives9_any _).mono ?_
  rintro e w1 ⟨rfl, hk1⟩
  have HK1 := Lib.hid hk1
  clear hk1
  obtain ⟨⟨x0, x1, x2, x3⟩, ⟨y0, y1, y2, y3⟩⟩ := KE.out _ HK1.out
  go_wp2_with fail
  refine (o9_any _ A n c l a0 a1 a2 a3 b0 b1 b2 b3 (HA.out.keep HK1.out) HOK.out (by omega)).mono ?_
  clear x0 x1 x2 x3 y0 y1 y2 y3
  rintro e w2 (⟨k, hk0, hko, hk2, rfl⟩ | ⟨s, hko, hfit, hdl, hk2, A2, c2, rfl, hr, hs2⟩)
  · have HK2 := Lib.hid ((HK1.out.trans hk2).alloc (.cells #[.int .u16 0, .int .u16 0, .int .u32 0, .int .u32 0, .int .u8 0, .int .u16 0, .int .u16 0, .slice none 0 0] 26))
    have hk0' : (k != 0) = true := by simpa using hk0
    clear hk2 hko
    go_wp2_with (first | (refine lst_new (by rfl) (.tmp 5) (.tmp 26) _ rfl rfl rfl szSeg rfl rfl rfl ?_) | (refine lld_row (by rfl) (.tmp 5) _ _ rfl rfl (heap_alloc_new w2 _) Try.underlying26 rfl szSeg ?_))
    refine (same9_any _ ⟨0, 0, 0, 0, 0, 0, 0, []⟩ ⟨0, 0, 0, 0, 0, 0, 0, []⟩ none 0 0 none 0 0 (Rd.none_ _ 0) (Rd.none_ _ 0)).mono ?_
    rintro e w5 ⟨rfl, hk5⟩
    rw [sameS_self]
    go_wp2
    go_ret
    exact ⟨rfl, HK0.out.trans (HK2.out.trans hk5)⟩
  · obtain ⟨f1, f2, f3, f4, f5, f6, f7, f8⟩ := hfit
    have hlen := out9_len _ _ _ _ hko
    rw [HL.out] at hlen
    have HK2 := Lib.hid ((HK1.out.trans hk2).alloc (.cells #[.int .u16 (s.sp : Int), .int .u16 (s.dp : Int), .int .u32 (s.sq : Int), .int .u32 (s.ak : Int), .int .u8 (s.fl.toNat : Int), .int .u16 (s.wn : Int), .int .u16 (s.ms : Int), .slice A2 s.data.length c2] 26))
    have ROW3 := Lib.hid (heap_alloc_new w2 (.cells #[.int .u16 (s.sp : Int), .int .u16 (s.dp : Int), .int .u32 (s.sq : Int), .int .u32 (s.ak : Int), .int .u8 (s.fl.toNat : Int), .int .u16 (s.wn : Int), .int .u16 (s.ms : Int), .slice A2 s.data.length c2] 26))
    have HRS : Hid (∀ W, Kp (w2.alloc (.cells #[.int .u16 (s.sp : Int), .int .u16 (s.dp : Int), .int .u32 (s.sq : Int), .int .u32 (s.ak : Int), .int .u8 (s.fl.toNat : Int), .int .u16 (s.wn : Int), .int .u16 (s.ms : Int), .slice A2 s.data.length c2] 26)) W → W.heap[w2.heap.size]? = some (.cells #[.int .u16 (s.sp : Int), .int .u16 (s.dp : Int), .int .u32 (s.sq : Int), .int .u32 (s.ak : Int), .int .u8 (s.fl.toNat : Int), .int .u16 (s.wn : Int), .int .u16 (s.ms : Int), .slice A2 s.data.length c2] 26 (0, 0))) := Lib.hid fun W hk => (hk.block _ (Array.getElem?_eq_some_iff.1 ROW3.out).1).trans ROW3.out
    have hr3 : Rd (w2.alloc (.cells #[.int .u16 (s.sp : Int), .int .u16 (s.dp : Int), .int .u32 (s.sq : Int), .int .u32 (s.ak : Int), .int .u8 (s.fl.toNat : Int), .int .u16 (s.wn : Int), .int .u16 (s.ms : Int), .slice A2 s.data.length c2] 26)) 0 A2 s.data.length s.data := hr.lo0.keep ((Kp.refl w2).alloc _)
    have HR3 := Lib.hid hr3
    have HKR : Hid (Kp (w2.alloc (.cells #[.int .u16 (s.sp : Int), .int .u16 (s.dp : Int), .int .u32 (s.sq : Int), .int .u32 (s.ak : Int), .int .u8 (s.fl.toNat : Int), .int .u16 (s.wn : Int), .int .u16 (s.ms : Int), .slice A2 s.data.length c2] 26)) (w2.alloc (.cells #[.int .u16 (s.sp : Int), .int .u16 (s.dp : Int), .int .u32 (s.sq : Int), .int .u32 (s.ak : Int), .int .u8 (s.fl.toNat : Int), .int .u16 (s.wn : Int), .int .u16 (s.ms : Int), .slice A2 s.data.length c2] 26))) := Lib.hid (Kp.refl _)
    obtain ⟨⟨x0, x1, x2, x3⟩, ⟨y0, y1, y2, y3⟩⟩ := KE.out _ HK2.out
    clear hk2 hko hr hr3 hs2
    go_wp2_with (first | (refine lst_new (by rfl) (.tmp 5) (.tmp 26) _ rfl rfl rfl szSeg rfl rfl rfl ?_) | (refine lld_row (by rfl) (.tmp 5) _ _ rfl rfl (HRS.out _ HKR.out) Try.underlying26 rfl szSeg ?_))
    clear x0 x1 x2 x3 y0 y1 y2 y3
    by_cases h156 : 156 < s.data.length
    · refine (b9_long _ s.sp s.dp s.sq s.ak s.fl s.wn s.ms A2 s.data.length c2 a0 a1 a2 a3 b0 b1 b2 b3 h156).mono ?_
      rintro e w3 ⟨rfl, hk3⟩
      have z7 : w3.cell? ⟨w2.heap.size, 7, none⟩ = some (.slice A2 s.data.length c2) := (cell_of_row w3 _ 7 _ _ _ (HRS.out _ hk3)).trans rfl
      have i1 : (156 : Int) < (s.data.length : Int) := by omega
      have HK3 := Lib.hid (HK2.out.trans hk3)
      clear hk3
      go_wp2
      go_ret
      exact ⟨rfl, HK0.out.trans HK3.out⟩
    · have HB := Lib.hid (out9_sbytes [a0, a1, a2, a3] [b0, b1, b2, b3] rfl rfl s ⟨f1, f2, f3, f4, f5, f6, f7, f8⟩ (by omega))
      refine (b9_ok _ s.sp s.dp s.sq s.ak s.fl s.wn s.ms A2 s.data.length c2 s.data a0 a1 a2 a3 b0 b1 b2 b3 f1 f2 f3 f4 f6 f7 f5 f8 (by omega) HR3.out).mono ?_
      rintro e w3 ⟨hk3, g, cap, rfl, hown⟩
      have ho4 := opt9_le s.ms
      obtain ⟨N, hN⟩ : ∃ N, 20 + (opt9 s.ms).length + s.data.length = N := ⟨_, rfl⟩
      rw [hN] at hown hlen ⊢
      have hN2 : N ≤ 200 := by omega
      have hNn : (N : Int) ≤ (n : Int) := by omega
      have HK3 := Lib.hid (HK2.out.trans hk3)
      have HKR3 := Lib.hid hk3
      have HO := Lib.hid hown.rd0
      have HOS := Lib.hid hown.slOk
      obtain ⟨⟨x0, x1, x2, x3⟩, ⟨y0, y1, y2, y3⟩⟩ := KE.out _ HK3.out
      clear hk3 hown hN ho4
      go_wp2_with fail
      refine (o9_any _ _ N cap _ a0 a1 a2 a3 b0 b1 b2 b3 HO.out HOS.out (by omega)).mono ?_
      clear x0 x1 x2 x3 y0 y1 y2 y3
      have hB := HB.out
      rintro e w4 (⟨k', _, hk', _⟩ | ⟨s', hs', _, _, hk4, A4, c4, rfl, hr4, _⟩)
      · rw [hB] at hk'; cases hk'
      · rw [hB] at hs'
        injection hs' with hs'
        subst hs'
        have HK4 := Lib.hid ((HK3.out.trans hk4).alloc (.cells #[.int .u16 (s.sp : Int), .int .u16 (s.dp : Int), .int .u32 (s.sq : Int), .int .u32 (s.ak : Int), .int .u8 (s.fl.toNat : Int), .int .u16 (s.wn : Int), .int .u16 (s.ms : Int), .slice A4 s.data.length c4] 26))
        have HKR4 := Lib.hid ((HKR3.out.trans hk4).alloc (.cells #[.int .u16 (s.sp : Int), .int .u16 (s.dp : Int), .int .u32 (s.sq : Int), .int .u32 (s.ak : Int), .int .u8 (s.fl.toNat : Int), .int .u16 (s.wn : Int), .int .u16 (s.ms : Int), .slice A4 s.data.length c4] 26))
        have HR4 : Hid (Rd (w4.alloc (.cells #[.int .u16 (s.sp : Int), .int .u16 (s.dp : Int), .int .u32 (s.sq : Int), .int .u32 (s.ak : Int), .int .u8 (s.fl.toNat : Int), .int .u16 (s.wn : Int), .int .u16 (s.ms : Int), .slice A4 s.data.length c4] 26)) 0 A4 s.data.length s.data) := Lib.hid (hr4.lo0.keep ((Kp.refl w4).alloc _))
        clear hk4 hr4 hB HB
        go_wp2_with (first | (refine lst_new (by rfl) (.tmp 9) (.tmp 59) _ rfl rfl rfl szSeg rfl rfl rfl ?_) | (refine lld_row (by rfl) (.tmp 9) _ _ rfl rfl (heap_alloc_new w4 _) Try.underlying26 rfl szSeg ?_) | (refine lld_row (by rfl) (.tmp 5) _ _ rfl rfl (HRS.out _ HKR4.out) Try.underlying26 rfl szSeg ?_))
        refine (same9_any _ s s A2 s.data.length c2 A4 s.data.length c4 (HR3.out.keep HKR4.out) HR4.out).mono ?_
        rintro e w5 ⟨rfl, hk5⟩
        rw [sameS_self]
        go_wp2
        go_ret
        exact ⟨rfl, HK0.out.trans (HK4.out.trans hk5)⟩
end Go.Proofs.Ytnoobifdaldfiaa
