/-
  The walk of Ip4Builds where neither the packet nor what stands behind is too long.
-/
import Derived.Test.YtdibmeapflhhaaaI6s
import Derived.Test.YtdibmeapflhhaaaWTurned6a
namespace Go.Proofs.Ytdibmeapflhhaaa
open Go.RowKit

/-- what neither builds: the same error -/
theorem build_no (id : Nat) (mo : Bool) (off : Int) (t p s0 s1 s2 s3 d0 d1 d2 d3 : UInt8) (A : Option Addr) (n c : Nat) (ho : -9223372036854775808 ≤ off ∧ off ≤ 9223372036854775807) (h : pktBad off mo n ∨ 180 < n) :
    ∃ k : Int, k ≠ 0 ∧ (∀ w, Calls Try.prog 23 #[.agg #[.int .u16 (id : Int), .bool mo, .int .i64 off, .int .u8 (t.toNat : Int), .int .u8 (p.toNat : Int), .int .u8 (s0.toNat : Int), .int .u8 (s1.toNat : Int), .int .u8 (s2.toNat : Int), .int .u8 (s3.toNat : Int), .int .u8 (d0.toNat : Int), .int .u8 (d1.toNat : Int), .int .u8 (d2.toNat : Int), .int .u8 (d3.toNat : Int), .slice A n c]] w fun e w' => e = .returned (.tuple #[.slice none 0 0, .int .i64 k]) ∧ Kp w w') ∧
      (∀ w, Calls Try.prog 24 #[.agg #[.int .u16 (id : Int), .bool mo, .int .i64 off, .int .u8 (t.toNat : Int), .int .u8 (p.toNat : Int), .int .u8 (s0.toNat : Int), .int .u8 (s1.toNat : Int), .int .u8 (s2.toNat : Int), .int .u8 (s3.toNat : Int), .int .u8 (d0.toNat : Int), .int .u8 (d1.toNat : Int), .int .u8 (d2.toNat : Int), .int .u8 (d3.toNat : Int), .slice A n c]] w fun e w' => e = .returned (.tuple #[.string (str []), .int .i64 k]) ∧ Kp w w') := by
  by_cases hb : pktBad off mo n
  · exact ⟨1, by decide, fun w => i6build_bad w id mo off t p s0 s1 s2 s3 d0 d1 d2 d3 A n c hb ho, fun w => r6build_bad w id mo off t p s0 s1 s2 s3 d0 d1 d2 d3 A n c hb ho⟩
  · obtain ⟨pl, rfl, hpl, hm⟩ := notBad hb
    have hn : 180 < n := h.resolve_left hb
    exact ⟨4, by decide, fun w => i6build_long w id mo pl t p s0 s1 s2 s3 d0 d1 d2 d3 A n c hpl hm hn, fun w => r6build_long w id mo pl t p s0 s1 s2 s3 d0 d1 d2 d3 A n c hpl hm hn⟩

set_option maxRecDepth 100000 in
set_option maxHeartbeats 4000000 in
theorem builds6_main (w : World) (id : Nat) (mo : Bool) (off : Int) (t p s0 s1 s2 s3 d0 d1 d2 d3 : UInt8) (A : Option Addr) (n c : Nat) (l : List UInt8) (A2 : Option Addr) (n2 c2 : Nat) (l2 : List UInt8) (hid : id ≤ 65535) (ho : -9223372036854775808 ≤ off ∧ off ≤ 9223372036854775807) (hA : Rd w 0 A n l) (hA2 : Rd w 0 A2 n2 l2) (h1 : ¬ 400 < n) (h2 : ¬ 100 < n2) :
    Calls Try.prog 6 #[.agg #[.int .u16 (id : Int), .bool mo, .int .i64 off, .int .u8 (t.toNat : Int), .int .u8 (p.toNat : Int), .int .u8 (s0.toNat : Int), .int .u8 (s1.toNat : Int), .int .u8 (s2.toNat : Int), .int .u8 (s3.toNat : Int), .int .u8 (d0.toNat : Int), .int .u8 (d1.toNat : Int), .int .u8 (d2.toNat : Int), .int .u8 (d3.toNat : Int), .slice A n c], .slice A2 n2 c2] w fun e w' => e = .returned (.bool true) ∧ Kp w w' := by
  have HL := Lib.hid hA.len
  have HK0 : Hid (Kp w (w.alloc (.cells #[.int .u16 (id : Int), .bool mo, .int .i64 off, .int .u8 (t.toNat : Int), .int .u8 (p.toNat : Int), .int .u8 (s0.toNat : Int), .int .u8 (s1.toNat : Int), .int .u8 (s2.toNat : Int), .int .u8 (s3.toNat : Int), .int .u8 (d0.toNat : Int), .int .u8 (d1.toNat : Int), .int .u8 (d2.toNat : Int), .int .u8 (d3.toNat : Int), .slice A n c] 50))) := Lib.hid ((Kp.refl w).alloc _)
  have HA := Lib.hid (hA.keep HK0.out)
  have HA2 := Lib.hid (hA2.keep HK0.out)
  clear hA hA2
  have HRP : Hid (∀ W, Kp (w.alloc (.cells #[.int .u16 (id : Int), .bool mo, .int .i64 off, .int .u8 (t.toNat : Int), .int .u8 (p.toNat : Int), .int .u8 (s0.toNat : Int), .int .u8 (s1.toNat : Int), .int .u8 (s2.toNat : Int), .int .u8 (s3.toNat : Int), .int .u8 (d0.toNat : Int), .int .u8 (d1.toNat : Int), .int .u8 (d2.toNat : Int), .int .u8 (d3.toNat : Int), .slice A n c] 50)) W → W.heap[w.heap.size]? = some (.cells #[.int .u16 (id : Int), .bool mo, .int .i64 off, .int .u8 (t.toNat : Int), .int .u8 (p.toNat : Int), .int .u8 (s0.toNat : Int), .int .u8 (s1.toNat : Int), .int .u8 (s2.toNat : Int), .int .u8 (s3.toNat : Int), .int .u8 (d0.toNat : Int), .int .u8 (d1.toNat : Int), .int .u8 (d2.toNat : Int), .int .u8 (d3.toNat : Int), .slice A n c] 50 (0, 0))) := Lib.hid fun W hk => (hk.block _ (by simp)).trans (heap_alloc_new w _)
  have i1 : ¬ (400 : Int) < (n : Int) := by omega
  have i2 : ¬ (100 : Int) < (n2 : Int) := by omega
  go_enter Try.func6, Try.ntmps6
  go_wp2_with fail
  refine (lives6_any _).mono ?_
  rintro e w1 ⟨rfl, hk1⟩
  have HK1 := Lib.hid hk1
  clear hk1
  generalize w.alloc (.cells #[.int .u16 (id : Int), .bool mo, .int .i64 off, .int .u8 (t.toNat : Int), .int .u8 (p.toNat : Int), .int .u8 (s0.toNat : Int), .int .u8 (s1.toNat : Int), .int .u8 (s2.toNat : Int), .int .u8 (s3.toNat : Int), .int .u8 (d0.toNat : Int), .int .u8 (d1.toNat : Int), .int .u8 (d2.toNat : Int), .int .u8 (d3.toNat : Int), .slice A n c] 50) = WP at HK0 HA HA2 HRP HK1
  have z13 : w1.cell? ⟨w.heap.size, 13, none⟩ = some (.slice A n c) := (cell_of_row w1 _ 13 _ _ _ (HRP.out _ HK1.out)).trans rfl
  go_wp2_with (refine lld_row (by rfl) (.tmp 2) _ _ rfl rfl (HRP.out _ HK1.out) Try.underlying50 rfl szPkt ?_)
  by_cases hno : pktBad off mo n ∨ 180 < n
  · obtain ⟨k, hk0, hB1, hB2⟩ := build_no id mo off t p s0 s1 s2 s3 d0 d1 d2 d3 A n c ho hno
    have HB2 := Lib.hid hB2
    clear hB2
    refine (hB1 _).mono ?_
    rintro e w2 ⟨rfl, hk2⟩
    have HK2 := Lib.hid (HK1.out.trans hk2)
    clear hk2 z13 hB1
    go_wp2_with (refine lld_row (by rfl) (.tmp 2) _ _ rfl rfl (HRP.out _ HK2.out) Try.underlying50 rfl szPkt ?_)
    refine (HB2.out _).mono ?_
    rintro e w3 ⟨rfl, hk3⟩
    have HK3 := Lib.hid (HK2.out.trans hk3)
    clear hk3 HB2
    have cv := conv_str (P := Try.prog) (c := 0) Try.underlying25 Try.underlying5 Try.underlying9 (Rd.none_ w3 0)
    have hkk : (k != k) = false := by simp
    have hk0' : (k != 0) = true := by simpa using hk0
    have hlo3 := HK3.out.size
    have own0 : OwnV 5 (w3.alloc (.cells #[] 5)) WP.heap.size w3.heap.size 0 0 (bvs []) := OwnV.lit (vs := []) rfl hlo3 rfl (by decide)
    have hk40 : Kp WP (w3.alloc (.cells #[] 5)) := HK3.out.alloc _
    go_wp2_with (first
      | (at_builtin; refine app8 (by rfl) (.tmp 45) (.tmp 46) rfl rfl rfl own0 (Rd.none_ _ 0) 0 [] rfl rfl (by omega) hk40.size ?_; intro g1 cap1 w4 own1 gr1 at1; have hk41 := hk40.grown gr1 own0.lo_le; have HK41 := Lib.hid hk41; clear gr1 at1 cv)
      | (at_builtin; refine app8 (by rfl) (.tmp 47) (.tmp 48) rfl rfl rfl own1 (HA2.out.keep HK41.out) n2 l2 (by omega) rfl (by omega) HK41.out.size ?_; intro g2 cap2 w5 own2 gr2 at2; have hk42 := HK41.out.grown gr2 own1.lo_le; have HK42 := Lib.hid hk42; clear gr2 at2 hk42 hk41 hk40 own0))
    refine (p6_any _ _ n2 cap2 l2 own2.rd0 own2.slOk (by omega)).mono ?_
    rintro e w6 (⟨k', _, _, hk6, rfl⟩ | ⟨id', mo', pm', t', p', e0, e1, e2, e3, f0, f1, f2, f3, data', _, _, _, _, hk6, A4, c4, rfl, _, _⟩)
    · have HK6 := Lib.hid (HK0.out.trans (HK42.out.trans hk6))
      clear own1 own2 hk6
      go_wp2_with (refine lst_new (by rfl) (.tmp 9) (.tmp 51) _ rfl rfl rfl szPkt rfl rfl rfl ?_)
      go_ret
      exact ⟨rfl, HK6.out.alloc _⟩
    · have HK6 := Lib.hid (HK0.out.trans (HK42.out.trans hk6))
      clear own1 own2 hk6
      go_wp2_with (refine lst_new (by rfl) (.tmp 9) (.tmp 51) _ rfl rfl rfl szPkt rfl rfl rfl ?_)
      go_ret
      exact ⟨rfl, HK6.out.alloc _⟩
  · obtain ⟨hnb, h180⟩ : ¬ pktBad off mo n ∧ ¬ 180 < n := ⟨fun h => hno (.inl h), fun h => hno (.inr h)⟩
    obtain ⟨pl, rfl, hpl, hm⟩ := notBad hnb
    have HB := Lib.hid (out6_pbytes id pl mo t p s0 s1 s2 s3 d0 d1 d2 d3 l l2 hid hpl (by rw [HL.out]; omega))
    refine (i6build_ok _ id mo pl t p s0 s1 s2 s3 d0 d1 d2 d3 A n c l hid hpl hm (by omega) (HA.out.keep HK1.out)).mono ?_
    rintro e w2 ⟨hk2, g, cap, rfl, hown⟩
    have HK2 := Lib.hid (HK1.out.trans hk2)
    have HO := Lib.hid hown.rd0
    clear hk2 z13 hown
    go_wp2_with (refine lld_row (by rfl) (.tmp 2) _ _ rfl rfl (HRP.out _ HK2.out) Try.underlying50 rfl szPkt ?_)
    refine (r6build_ok _ id mo pl t p s0 s1 s2 s3 d0 d1 d2 d3 A n c l hid hpl hm (by omega) (HA.out.keep HK2.out)).mono ?_
    rintro e w3 ⟨rfl, hk3⟩
    have HK3 := Lib.hid (HK2.out.trans hk3)
    have HO3 := Lib.hid (HO.out.keep hk3)
    clear hk3 HO
    obtain ⟨pb, hpb⟩ : ∃ pb, pbytes id (placeOf pl mo) t p [s0, s1, s2, s3] [d0, d1, d2, d3] l = pb := ⟨_, rfl⟩
    rw [hpb] at HO3 HB ⊢
    clear hpb
    have cv := conv_str (P := Try.prog) (c := cap) Try.underlying25 Try.underlying5 Try.underlying9 HO3.out
    have hlo3 := HK3.out.size
    have own0 : OwnV 5 (w3.alloc (.cells #[] 5)) WP.heap.size w3.heap.size 0 0 (bvs []) := OwnV.lit (vs := []) rfl hlo3 rfl (by decide)
    have hk40 : Kp WP (w3.alloc (.cells #[] 5)) := HK3.out.alloc _
    have HO4 := Lib.hid (HO3.out.keep ((Kp.refl w3).alloc (.cells #[] 5)))
    go_wp2_with (first
      | (at_builtin; refine app8 (by rfl) (.tmp 45) (.tmp 46) rfl rfl rfl own0 HO4.out (20 + n) pb (by omega) rfl (by omega) hk40.size ?_; intro g1 cap1 w4 own1 gr1 at1; have hk41 := hk40.grown gr1 own0.lo_le; have HK41 := Lib.hid hk41; clear gr1 at1 cv)
      | (at_builtin; refine app8 (by rfl) (.tmp 47) (.tmp 48) rfl rfl rfl own1 (HA2.out.keep HK41.out) (20 + n + n2) (pb ++ l2) rfl rfl (by omega) HK41.out.size ?_; intro g2 cap2 w5 own2 gr2 at2; have hk42 := HK41.out.grown gr2 own1.lo_le; have HK42 := Lib.hid hk42; clear gr2 at2 hk42 hk41 hk40 own0))
    refine (p6_any _ _ (20 + n + n2) cap2 _ own2.rd0 own2.slOk (by omega)).mono ?_
    have hB := HB.out
    rintro e w6 (⟨k, _, hk, _⟩ | ⟨id', mo', pm', t', p', e0, e1, e2, e3, f0, f1, f2, f3, data', hk, _, _, _, hk6, A4, c4, rfl, hr6, _⟩)
    · rw [hB] at hk; cases hk
    · rw [hB] at hk
      simp only [Sum.inr.injEq, Pkt.mk.injEq, List.cons.injEq, and_true] at hk
      obtain ⟨rfl, rfl, rfl, rfl, rfl, ⟨rfl, rfl, rfl, rfl⟩, ⟨rfl, rfl, rfl, rfl⟩, rfl⟩ := hk
      have HK6 := Lib.hid ((HK42.out.trans hk6).alloc (.cells #[.int .u16 (id : Int), .bool mo, .int .i64 (8 * (pl : Int)), .int .u8 (t.toNat : Int), .int .u8 (p.toNat : Int), .int .u8 (s0.toNat : Int), .int .u8 (s1.toNat : Int), .int .u8 (s2.toNat : Int), .int .u8 (s3.toNat : Int), .int .u8 (d0.toNat : Int), .int .u8 (d1.toNat : Int), .int .u8 (d2.toNat : Int), .int .u8 (d3.toNat : Int), .slice A4 l.length c4] 50))
      have HR6 : Hid (Rd (w6.alloc (.cells #[.int .u16 (id : Int), .bool mo, .int .i64 (8 * (pl : Int)), .int .u8 (t.toNat : Int), .int .u8 (p.toNat : Int), .int .u8 (s0.toNat : Int), .int .u8 (s1.toNat : Int), .int .u8 (s2.toNat : Int), .int .u8 (s3.toNat : Int), .int .u8 (d0.toNat : Int), .int .u8 (d1.toNat : Int), .int .u8 (d2.toNat : Int), .int .u8 (d3.toNat : Int), .slice A4 l.length c4] 50)) 0 A4 l.length l) := Lib.hid (hr6.lo0.keep ((Kp.refl w6).alloc _))
      clear own1 own2 hk6 hr6 hB HB
      go_wp2_with (first | (refine lst_new (by rfl) (.tmp 9) (.tmp 51) _ rfl rfl rfl szPkt rfl rfl rfl ?_) | (refine lld_row (by rfl) (.tmp 9) _ _ rfl rfl (heap_alloc_new w6 _) Try.underlying50 rfl szPkt ?_) | (refine lld_row (by rfl) (.tmp 2) _ _ rfl rfl (HRP.out _ HK6.out) Try.underlying50 rfl szPkt ?_))
      refine (same6_any _ id mo (8 * (pl : Int)) t p s0 s1 s2 s3 d0 d1 d2 d3 A4 l.length c4 l id mo (8 * (pl : Int)) t p s0 s1 s2 s3 d0 d1 d2 d3 A n c l HR6.out (HA.out.keep HK6.out)).mono ?_
      rintro e w7 ⟨rfl, hk7⟩
      rw [sameP_self]
      go_wp2
      go_ret
      exact ⟨rfl, HK0.out.trans (HK6.out.trans hk7)⟩
end Go.Proofs.Ytdibmeapflhhaaa
