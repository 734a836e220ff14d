/-
  The walk of EtherBack: it returns true and leaves what was there as it was.
-/
import Derived.Test.YtdibmeapflhhaaaLives5
import Derived.Test.YtdibmeapflhhaaaParsed5
import Derived.Test.YtdibmeapflhhaaaArpEq
import Derived.Test.YtdibmeapflhhaaaCut
namespace Go.Proofs.Ytdibmeapflhhaaa
open Go.RowKit

theorem szFrame : (Try.prog.info? 27).map (·.size) = some 14 := by kernel_rfl

theorem frame_word (x y : UInt8) : UInt8.ofNat ((256 * x.toNat + y.toNat) / 256) = x ∧ UInt8.ofNat ((256 * x.toNat + y.toNat) % 256) = y := by
  have hx := x.toNat_lt
  have hy := y.toNat_lt
  refine ⟨UInt8.toNat_inj.1 ?_, UInt8.toNat_inj.1 ?_⟩
  · rw [UInt8.toNat_ofNat']; omega
  · rw [UInt8.toNat_ofNat']; omega

theorem parsed_back {l : List UInt8} {d s : List UInt8} {ty : Nat} {b : List UInt8} (h : parsed l = (d, s, ty, b, 0)) : frameBytes d s ty b = l ∧ b.length ≤ 200 := by
  by_cases h1 : 214 < l.length
  · unfold parsed at h
    rw [if_pos h1] at h
    simp at h
  · by_cases h2 : l.length < 14
    · unfold parsed at h
      rw [if_neg h1, if_pos h2] at h
      simp at h
    · obtain ⟨d0, d1, d2, d3, d4, d5, s0, s1, s2, s3, s4, s5, x, y, q, rfl⟩ := len14 l (by omega)
      have hq : q.length ≤ 200 := by simp only [List.length_cons] at h1; omega
      rw [parsed_ok _ _ _ _ _ _ _ _ _ _ _ _ _ _ _ hq] at h
      simp only [Prod.mk.injEq, and_true] at h
      obtain ⟨rfl, rfl, rfl, rfl⟩ := h
      refine ⟨?_, hq⟩
      unfold frameBytes
      rw [(frame_word x y).1, (frame_word x y).2]
      rfl

theorem arpOf_back {l : List UInt8} {op : Int} {q : List UInt8} (h : arpOf l = (op, q, 0)) : ∃ o : UInt8, op = (o.toNat : Int) ∧ (o = 1 ∨ o = 2) ∧ [0, 1, 8, 0, 6, 4, 0] ++ ([o] ++ q) = l.take 28 ∧ 28 ≤ l.length := by
  by_cases hs : l.length < 28
  · rw [arpOf_short hs] at h
    simp at h
  · obtain ⟨h0, h1, h2, h3, h4, h5, h6, o, a0, a1, a2, a3, a4, a5, b0, b1, b2, b3, c0, c1, c2, c3, c4, c5, d0, d1, d2, d3, m, rfl⟩ := len28 l (by omega)
    cases hg : arpGood [h0, h1, h2, h3, h4, h5, h6] o
    · rw [arpOf_bad _ _ _ _ _ _ _ _ _ _ _ _ _ _ _ _ _ _ _ _ _ _ _ _ _ _ _ _ _ hg] at h
      simp at h
    · rw [arpOf_good _ _ _ _ _ _ _ _ _ _ _ _ _ _ _ _ _ _ _ _ _ _ _ _ _ _ _ _ _ hg] at h
      simp only [Prod.mk.injEq, and_true] at h
      obtain ⟨rfl, rfl⟩ := h
      unfold arpGood at hg
      simp only [Bool.and_eq_true, Bool.or_eq_true, beq_iff_eq] at hg
      obtain ⟨hh, ho⟩ := hg
      refine ⟨o, rfl, ho, ?_, by omega⟩
      rw [hh]
      rfl
theorem arpOf_none {l : List UInt8} {op : Int} {q : List UInt8} {k : Int} (h : arpOf l = (op, q, k)) (hk : k ≠ 0) : op = 0 ∧ q = [0, 0, 0, 0, 0, 0, 0, 0, 0, 0, 0, 0, 0, 0, 0, 0, 0, 0, 0, 0] := by
  unfold arpOf at h
  split at h
  · simp only [Prod.mk.injEq] at h
    exact ⟨h.1.symm, h.2.1.symm⟩
  · split at h
    · simp only [Prod.mk.injEq] at h
      exact absurd h.2.2.symm hk
    · simp only [Prod.mk.injEq] at h
      exact ⟨h.1.symm, h.2.1.symm⟩

theorem szU8 : ∃ i, Try.prog.info? (Try.prog.elem 25) = some i ∧ i.size = 1 := by
  obtain ⟨i0, hi0, _, hz1, _⟩ := info_parts info5
  exact ⟨i0, hi0, hz1⟩

set_option maxRecDepth 100000 in
set_option maxHeartbeats 2000000 in
theorem back_walk (w : World) (A : Option Addr) (n c : Nat) (l : List UInt8) (hA : Rd w 0 A n l) (hok : SlOk A n c) (hn : n ≤ 140737488351232) :
    Calls Try.prog 12 #[.slice A n c] w fun e w' => e = .returned (.bool true) ∧ Kp w w' := by
  have HA := Lib.hid hA
  have HOK := Lib.hid hok
  have HL := Lib.hid hA.len
  clear hA hok
  by_cases h : 400 < n
  · go_enter Try.func12, Try.ntmps12
    go_wp2_with (first | (go_at_call 14; refine (lives_any _).mono ?_; rintro e w1 ⟨rfl, hk⟩))
    go_ret
    exact ⟨rfl, Kp.trans (by assumption) hk⟩
  go_enter Try.func12, Try.ntmps12
  go_wp2_with fail
  refine (lives_any _).mono ?_
  rintro e w1 ⟨rfl, hk1⟩
  have HK1 := Lib.hid hk1
  clear hk1
  go_wp2_with fail
  refine (parse_any _ A n c l (HA.out.keep HK1.out) HOK.out hn).mono ?_
  rintro e w2 ⟨hk2, d0, d1, d2, d3, d4, d5, s0, s1, s2, s3, s4, s5, ty, b, k, A2, c2, hp, hty, rfl, hr, _⟩
  have HK2 := Lib.hid (HK1.out.trans hk2)
  have HR := Lib.hid hr.lo0
  have HP := Lib.hid hp
  clear hk2 hr hp
  by_cases hk0 : k = 0
  case' pos =>
    subst hk0
    obtain ⟨hb, hb2⟩ := parsed_back HP.out
    have HB := Lib.hid hb
    clear hb
    go_wp2_with (first | (refine lst_new (by rfl) (.tmp 3) (.tmp 21) _ rfl rfl rfl szFrame rfl rfl rfl ?_) | (refine lld_row (by rfl) (.tmp 3) _ _ rfl rfl (heap_alloc_new w2 _) Try.underlying27 rfl szFrame ?_))
    refine (build_any _ d0 d1 d2 d3 d4 d5 s0 s1 s2 s3 s4 s5 ty hty A2 _ c2 b (HR.out.keep ((Kp.refl w2).alloc _))).mono ?_
    rintro e w3 ⟨hk3, hcase⟩
    rcases hcase with ⟨h0, _⟩ | ⟨_, g, cap, rfl, hown⟩
    · exact absurd hb2 (by omega)
    rw [HB.out] at hown
    have HK3 := Lib.hid ((HK2.out.alloc _).trans hk3)
    have hlen : 14 + b.length = n := by
      have := hown.len
      simp only [bvs, List.length_map] at this
      rw [HL.out] at this
      exact this.symm
    rw [hlen] at hown ⊢
    have cv1 := conv_str (P := Try.prog) (c := cap) Try.underlying25 Try.underlying5 Try.underlying9 hown.rd0
    have cv2 := conv_str (P := Try.prog) (c := c) Try.underlying25 Try.underlying5 Try.underlying9 (HA.out.keep HK3.out)
    clear hk3 hown hlen hb2
    go_wp2_with fail
    have HK4 := HK3
    clear HK3 cv1 cv2
  case' neg =>
    have hk0' : (k == 0) = false := by simpa using hk0
    go_wp2_with (first | (refine lst_new (by rfl) (.tmp 3) (.tmp 21) _ rfl rfl rfl szFrame rfl rfl rfl ?_))
    have HK4 := Lib.hid (HK2.out.alloc (.cells #[.int .u8 (d0.toNat : Int), .int .u8 (d1.toNat : Int), .int .u8 (d2.toNat : Int), .int .u8 (d3.toNat : Int), .int .u8 (d4.toNat : Int), .int .u8 (d5.toNat : Int), .int .u8 (s0.toNat : Int), .int .u8 (s1.toNat : Int), .int .u8 (s2.toNat : Int), .int .u8 (s3.toNat : Int), .int .u8 (s4.toNat : Int), .int .u8 (s5.toNat : Int), .int .u16 (ty : Int), .slice A2 b.length c2] 27))
  all_goals
    refine (parp_any _ A n c l (HA.out.keep HK4.out) HOK.out hn).mono ?_
    rintro e w5 ⟨hk5, op, e0, e1, e2, e3, e4, e5, f0, f1, f2, f3, g0, g1, g2, g3, g4, g5, i0, i1, i2, i3, k2, hp2, rfl⟩
    have HK5 := Lib.hid (HK4.out.trans hk5)
    clear hk5
    by_cases hk2 : k2 = 0
    · subst hk2
      obtain ⟨o, rfl, ho, htk, hl28⟩ := arpOf_back hp2
      rw [HL.out] at hl28
      have hop : (o.toNat : Int) = 1 ∨ (o.toNat : Int) = 2 := by rcases ho with rfl | rfl <;> decide
      have eb : arpBytes (o.toNat : Int) [e0, e1, e2, e3, e4, e5] [f0, f1, f2, f3] [g0, g1, g2, g3, g4, g5] [i0, i1, i2, i3] = l.take 28 := by
        have eo : UInt8.ofNat ((o.toNat : Int)).toNat = o := by simp
        rw [← htk]
        unfold arpBytes
        rw [eo]
        rfl
      have EB := Lib.hid eb
      clear eb htk ho hp2
      go_wp2_with (first | (refine lst_new (by rfl) (.tmp 7) (.tmp 42) _ rfl rfl rfl szArp rfl rfl rfl ?_) | (refine lld_row (by rfl) (.tmp 7) _ _ rfl rfl (heap_alloc_new w5 _) Try.underlying44 rfl szArp ?_))
      refine (barp_ok _ _ e0 e1 e2 e3 e4 e5 f0 f1 f2 f3 g0 g1 g2 g3 g4 g5 i0 i1 i2 i3 hop).mono ?_
      rintro e w6 ⟨hk6, hcase⟩
      rcases hcase with ⟨h1, h2, _⟩ | ⟨_, g9, cap9, rfl, hown9⟩
      · exact absurd hop (by omega)
      rw [EB.out] at hown9
      have HK6 := Lib.hid ((HK5.out.alloc _).trans hk6)
      obtain ⟨i8, hi8, hs8⟩ := szU8
      obtain ⟨s1, rd1, _⟩ := cut_hi (P := Try.prog) (kd := .i64) (m := 28) Try.underlying25 hi8 hs8 (HA.out.keep HK6.out) HOK.out hl28
      have s2 : ∀ wx : World, (Instr.slice 25 (.slice A n c) none (some (.int .i64 28)) none).run Try.prog wx = .ok (.slice A 28 c) wx := s1
      clear s1
      have cv1 := fun k : Nat => conv_str (P := Try.prog) (w := w6.drewN k) (c := cap9) Try.underlying25 Try.underlying5 Try.underlying9 hown9.rd0
      have cv2 := fun k : Nat => conv_str (P := Try.prog) (w := w6.drewN k) (c := c) Try.underlying25 Try.underlying5 Try.underlying9 rd1
      clear hk6 hown9 rd1
      go_wp2
      go_quiet (fail)
      go_wp2
      go_ret
      exact ⟨rfl, HK6.out.of_drawn _⟩
    · obtain ⟨rfl, hz⟩ := arpOf_none hp2 hk2
      simp only [List.cons_append, List.nil_append, List.cons.injEq, and_true] at hz
      obtain ⟨rfl, rfl, rfl, rfl, rfl, rfl, rfl, rfl, rfl, rfl, rfl, rfl, rfl, rfl, rfl, rfl, rfl, rfl, rfl, rfl⟩ := hz
      have hk2' : (k2 != 0) = true := by simpa using hk2
      have eqa : ∀ W, (binOp .eql 44 (.agg #[.int .i64 0, .int .u8 0, .int .u8 0, .int .u8 0, .int .u8 0, .int .u8 0, .int .u8 0, .int .u8 0, .int .u8 0, .int .u8 0, .int .u8 0, .int .u8 0, .int .u8 0, .int .u8 0, .int .u8 0, .int .u8 0, .int .u8 0, .int .u8 0, .int .u8 0, .int .u8 0, .int .u8 0]) (.agg #[.int .i64 0, .int .u8 0, .int .u8 0, .int .u8 0, .int .u8 0, .int .u8 0, .int .u8 0, .int .u8 0, .int .u8 0, .int .u8 0, .int .u8 0, .int .u8 0, .int .u8 0, .int .u8 0, .int .u8 0, .int .u8 0, .int .u8 0, .int .u8 0, .int .u8 0, .int .u8 0, .int .u8 0])).run Try.prog W = .ok (.bool true) W := fun W => (eq_arp W 0 0 0 0 0 0 0 0 0 0 0 0 0 0 0 0 0 0 0 0 0 0 0 0 0 0 0 0 0 0 0 0 0 0 0 0 0 0 0 0 0 0).trans (by rw [sameA_self])
      clear hp2
      go_wp2_with (first | (refine lst_new (by rfl) (.tmp 7) (.tmp 42) _ rfl rfl rfl szArp rfl rfl rfl ?_) | (refine lld_row (by rfl) (.tmp 7) _ _ rfl rfl (heap_alloc_new w5 _) Try.underlying44 rfl szArp ?_))
      go_ret
      exact ⟨rfl, HK5.out.alloc _⟩
end Go.Proofs.Ytdibmeapflhhaaa
