/-
  The walk of EtherArps: it returns true and leaves what was there as it was.
-/
import Derived.Test.YtdibmeapflhhaaaLives5
import Derived.Test.YtdibmeapflhhaaaArpEq
import Derived.Test.YtdibmeapflhhaaaApp8
namespace Go.Proofs.Ytdibmeapflhhaaa
open Go.RowKit

set_option maxRecDepth 100000 in
set_option maxHeartbeats 2000000 in
theorem arps_walk (w : World) (op : Int) (a0 a1 a2 a3 a4 a5 b0 b1 b2 b3 c0 c1 c2 c3 c4 c5 d0 d1 d2 d3 : UInt8) (A : Option Addr) (n c : Nat) (l : List UInt8) (hA : Rd w 0 A n l) (hn : n ≤ 140737488351232) :
    Calls Try.prog 10 #[.agg #[.int .i64 op, .int .u8 (a0.toNat : Int), .int .u8 (a1.toNat : Int), .int .u8 (a2.toNat : Int), .int .u8 (a3.toNat : Int), .int .u8 (a4.toNat : Int), .int .u8 (a5.toNat : Int), .int .u8 (b0.toNat : Int), .int .u8 (b1.toNat : Int), .int .u8 (b2.toNat : Int), .int .u8 (b3.toNat : Int), .int .u8 (c0.toNat : Int), .int .u8 (c1.toNat : Int), .int .u8 (c2.toNat : Int), .int .u8 (c3.toNat : Int), .int .u8 (c4.toNat : Int), .int .u8 (c5.toNat : Int), .int .u8 (d0.toNat : Int), .int .u8 (d1.toNat : Int), .int .u8 (d2.toNat : Int), .int .u8 (d3.toNat : Int)], .slice A n c] w fun e w' => e = .returned (.bool true) ∧ Kp w w' := by
  have HA := Lib.hid hA
  have HL := Lib.hid hA.len
  clear hA
  have hk0 : Kp w (w.alloc (.cells #[.int .i64 op, .int .u8 (a0.toNat : Int), .int .u8 (a1.toNat : Int), .int .u8 (a2.toNat : Int), .int .u8 (a3.toNat : Int), .int .u8 (a4.toNat : Int), .int .u8 (a5.toNat : Int), .int .u8 (b0.toNat : Int), .int .u8 (b1.toNat : Int), .int .u8 (b2.toNat : Int), .int .u8 (b3.toNat : Int), .int .u8 (c0.toNat : Int), .int .u8 (c1.toNat : Int), .int .u8 (c2.toNat : Int), .int .u8 (c3.toNat : Int), .int .u8 (c4.toNat : Int), .int .u8 (c5.toNat : Int), .int .u8 (d0.toNat : Int), .int .u8 (d1.toNat : Int), .int .u8 (d2.toNat : Int), .int .u8 (d3.toNat : Int)] 44)) := (Kp.refl w).alloc _
  have hr0 := heap_alloc_new w (.cells #[.int .i64 op, .int .u8 (a0.toNat : Int), .int .u8 (a1.toNat : Int), .int .u8 (a2.toNat : Int), .int .u8 (a3.toNat : Int), .int .u8 (a4.toNat : Int), .int .u8 (a5.toNat : Int), .int .u8 (b0.toNat : Int), .int .u8 (b1.toNat : Int), .int .u8 (b2.toNat : Int), .int .u8 (b3.toNat : Int), .int .u8 (c0.toNat : Int), .int .u8 (c1.toNat : Int), .int .u8 (c2.toNat : Int), .int .u8 (c3.toNat : Int), .int .u8 (c4.toNat : Int), .int .u8 (c5.toNat : Int), .int .u8 (d0.toNat : Int), .int .u8 (d1.toNat : Int), .int .u8 (d2.toNat : Int), .int .u8 (d3.toNat : Int)] 44)
  have HK0 := Lib.hid hk0
  have HR0 := Lib.hid hr0
  clear hk0 hr0
  by_cases h : 200 < n
  · go_enter Try.func10, Try.ntmps10
    go_wp2_with (first | (go_at_call 14; refine (lives_any _).mono ?_; rintro e w1 ⟨rfl, hk⟩))
    go_ret
    exact ⟨rfl, (HK0.out.trans (by assumption)).trans hk⟩
  by_cases hop : op = 1 ∨ op = 2
  · obtain ⟨o, rfl, ho⟩ : ∃ o : UInt8, op = (o.toNat : Int) ∧ (o = 1 ∨ o = 2) := by
      rcases hop with rfl | rfl
      · exact ⟨1, rfl, .inl rfl⟩
      · exact ⟨2, rfl, .inr rfl⟩
    have hgood : arpGood [0, 1, 8, 0, 6, 4, 0] o = true := by rcases ho with rfl | rfl <;> rfl
    have eb : arpBytes (o.toNat : Int) [a0, a1, a2, a3, a4, a5] [b0, b1, b2, b3] [c0, c1, c2, c3, c4, c5] [d0, d1, d2, d3] = [0, 1, 8, 0, 6, 4, 0] ++ ([o] ++ ([a0, a1, a2, a3, a4, a5] ++ ([b0, b1, b2, b3] ++ ([c0, c1, c2, c3, c4, c5] ++ [d0, d1, d2, d3])))) := by
      have eo : UInt8.ofNat ((o.toNat : Int)).toNat = o := by simp
      unfold arpBytes
      rw [eo]
      rfl
    have EB := Lib.hid eb
    have GOOD := Lib.hid hgood
    clear eb hgood ho
    go_enter Try.func10, Try.ntmps10
    go_wp2_with fail
    refine (lives_any _).mono ?_
    rintro e w1 ⟨rfl, hk1⟩
    have HK1 := Lib.hid (HK0.out.trans hk1)
    have HR1 := Lib.hid ((hk1.block _ (Array.getElem?_eq_some_iff.1 HR0.out).1).trans HR0.out)
    clear hk1
    go_wp2_with (refine lld_row (by rfl) (.tmp 2) _ _ rfl rfl HR1.out Try.underlying44 rfl szArp ?_)
    refine (barp_ok _ _ a0 a1 a2 a3 a4 a5 b0 b1 b2 b3 c0 c1 c2 c3 c4 c5 d0 d1 d2 d3 hop).mono ?_
    rintro e w2 ⟨hk2, hcase⟩
    rcases hcase with ⟨h1, h2, _⟩ | ⟨_, g, cap, rfl, hown⟩
    · exact absurd hop (by omega)
    rw [EB.out] at hown
    have HK2 := Lib.hid (HK1.out.trans hk2)
    have HR2 := Lib.hid ((hk2.block _ (Array.getElem?_eq_some_iff.1 HR1.out).1).trans HR1.out)
    have HO := Lib.hid hown
    clear hk2 hown
    go_wp2_with (refine lld_row (by rfl) (.tmp 2) _ _ rfl rfl HR2.out Try.underlying44 rfl szArp ?_)
    refine (rbarp_ok _ _ a0 a1 a2 a3 a4 a5 b0 b1 b2 b3 c0 c1 c2 c3 c4 c5 d0 d1 d2 d3 hop).mono ?_
    rintro e w3 ⟨rfl, hk3⟩
    rw [EB.out]
    have HK3 := Lib.hid (HK2.out.trans hk3)
    have HR3 := Lib.hid ((hk3.block _ (Array.getElem?_eq_some_iff.1 HR2.out).1).trans HR2.out)
    have HO3 := Lib.hid (HO.out.keep hk3)
    have cv := conv_str (P := Try.prog) (c := cap) Try.underlying25 Try.underlying5 Try.underlying9 HO3.out.rd0
    clear hk3 HO
    generalize str ([0, 1, 8, 0, 6, 4, 0] ++ ([o] ++ ([a0, a1, a2, a3, a4, a5] ++ ([b0, b1, b2, b3] ++ ([c0, c1, c2, c3, c4, c5] ++ [d0, d1, d2, d3]))))) = sb at cv ⊢
    have own0 : OwnV 5 (w3.alloc (.cells #[] 5)) w.heap.size w3.heap.size 0 0 (bvs []) := OwnV.lit (vs := []) rfl HK3.out.size rfl (by decide)
    have hka : Kp w (w3.alloc (.cells #[] 5)) := HK3.out.alloc _
    have kb : Kp w3 (w3.alloc (.cells #[] 5)) := (Kp.refl w3).alloc _
    have rdb := HO3.out.rd0.keep kb
    have RDB := Lib.hid rdb
    clear rdb
    go_wp2_with (first
      | (at_builtin; refine app8 (by rfl) (.tmp 39) (.tmp 40) rfl rfl rfl own0 RDB.out 28 ([0, 1, 8, 0, 6, 4, 0] ++ ([o] ++ ([a0, a1, a2, a3, a4, a5] ++ ([b0, b1, b2, b3] ++ ([c0, c1, c2, c3, c4, c5] ++ [d0, d1, d2, d3]))))) rfl rfl (by omega) hka.size ?_; intro g1 cap1 w4 own1 gr1 at1; have hk4 := hka.grown gr1 own0.lo_le; have kb4 := kb.grown gr1 (Nat.le_refl _))
      | (at_builtin; refine app8 (by rfl) (.tmp 41) (.tmp 42) rfl rfl rfl own1 (HA.out.keep hk4) (28 + n) ([0, 1, 8, 0, 6, 4, 0] ++ ([o] ++ ([a0, a1, a2, a3, a4, a5] ++ ([b0, b1, b2, b3] ++ ([c0, c1, c2, c3, c4, c5] ++ ([d0, d1, d2, d3] ++ l)))))) rfl rfl (by omega) hk4.size ?_; intro g2 cap2 w5 own2 gr2 at2; have hk5 := hk4.grown gr2 own1.lo_le; have kb5 := kb4.grown gr2 (by rcases at1 with h | h <;> rw [h] <;> simp)))
    have HR5 := Lib.hid ((kb5.block _ (Array.getElem?_eq_some_iff.1 HR3.out).1).trans HR3.out)
    have HK5 := Lib.hid hk5
    have HO5 := Lib.hid own2
    clear own0 own1 own2 gr1 gr2 at1 at2 kb kb4 kb5 hk4 hk5 hka cv
    refine (parp_ok w5 _ (28 + n) cap2 0 1 8 0 6 4 0 o a0 a1 a2 a3 a4 a5 b0 b1 b2 b3 c0 c1 c2 c3 c4 c5 d0 d1 d2 d3 l HO5.out.rd0 HO5.out.slOk (by omega)).mono ?_
    rintro e w6 ⟨hg, _⟩
    obtain ⟨hk6, rfl⟩ := hg GOOD.out
    have hr6 := (hk6.block _ (Array.getElem?_eq_some_iff.1 HR5.out).1).trans HR5.out
    have hr7 := (Below.heap_alloc w6 (.cells #[.int .i64 (o.toNat : Int), .int .u8 (a0.toNat : Int), .int .u8 (a1.toNat : Int), .int .u8 (a2.toNat : Int), .int .u8 (a3.toNat : Int), .int .u8 (a4.toNat : Int), .int .u8 (a5.toNat : Int), .int .u8 (b0.toNat : Int), .int .u8 (b1.toNat : Int), .int .u8 (b2.toNat : Int), .int .u8 (b3.toNat : Int), .int .u8 (c0.toNat : Int), .int .u8 (c1.toNat : Int), .int .u8 (c2.toNat : Int), .int .u8 (c3.toNat : Int), .int .u8 (c4.toNat : Int), .int .u8 (c5.toNat : Int), .int .u8 (d0.toNat : Int), .int .u8 (d1.toNat : Int), .int .u8 (d2.toNat : Int), .int .u8 (d3.toNat : Int)] 44) _ (Array.getElem?_eq_some_iff.1 hr6).1).trans hr6
    have HR7 := Lib.hid hr7
    have eqa := fun W => eq_arp W (o.toNat : Int) a0 a1 a2 a3 a4 a5 b0 b1 b2 b3 c0 c1 c2 c3 c4 c5 d0 d1 d2 d3 (o.toNat : Int) a0 a1 a2 a3 a4 a5 b0 b1 b2 b3 c0 c1 c2 c3 c4 c5 d0 d1 d2 d3
    rw [sameA_self] at eqa
    clear hr6 hr7
    go_wp2_with (first | (refine lst_new (by rfl) (.tmp 9) (.tmp 45) _ rfl rfl rfl szArp rfl rfl rfl ?_) | (refine lld_row (by rfl) (.tmp 9) _ _ rfl rfl (heap_alloc_new w6 _) Try.underlying44 rfl szArp ?_) | (refine lld_row (by rfl) (.tmp 2) _ _ rfl rfl HR7.out Try.underlying44 rfl szArp ?_))
    go_ret
    exact ⟨rfl, (HK5.out.trans hk6).alloc _⟩
  · have h1 : op ≠ 1 := fun h => hop (.inl h)
    have h2 : op ≠ 2 := fun h => hop (.inr h)
    clear hop
    go_enter Try.func10, Try.ntmps10
    go_wp2_with fail
    refine (lives_any _).mono ?_
    rintro e w1 ⟨rfl, hk1⟩
    have HK1 := Lib.hid (HK0.out.trans hk1)
    have HR1 := Lib.hid ((hk1.block _ (Array.getElem?_eq_some_iff.1 HR0.out).1).trans HR0.out)
    clear hk1
    go_wp2_with (refine lld_row (by rfl) (.tmp 2) _ _ rfl rfl HR1.out Try.underlying44 rfl szArp ?_)
    refine (barp_no _ _ a0 a1 a2 a3 a4 a5 b0 b1 b2 b3 c0 c1 c2 c3 c4 c5 d0 d1 d2 d3 h1 h2).mono ?_
    rintro e w2 ⟨rfl, hk2⟩
    have HK2 := Lib.hid (HK1.out.trans hk2)
    have HR2 := Lib.hid ((hk2.block _ (Array.getElem?_eq_some_iff.1 HR1.out).1).trans HR1.out)
    clear hk2
    go_wp2_with (refine lld_row (by rfl) (.tmp 2) _ _ rfl rfl HR2.out Try.underlying44 rfl szArp ?_)
    refine (rbarp_no _ _ a0 a1 a2 a3 a4 a5 b0 b1 b2 b3 c0 c1 c2 c3 c4 c5 d0 d1 d2 d3 h1 h2).mono ?_
    rintro e w3 ⟨rfl, hk3⟩
    have HK3 := Lib.hid (HK2.out.trans hk3)
    clear hk3
    have cv := conv_str (P := Try.prog) (c := 0) Try.underlying25 Try.underlying5 Try.underlying9 (Rd.none_ w3 0)
    have own0 : OwnV 5 (w3.alloc (.cells #[] 5)) w.heap.size w3.heap.size 0 0 (bvs []) := OwnV.lit (vs := []) rfl HK3.out.size rfl (by decide)
    have hka : Kp w (w3.alloc (.cells #[] 5)) := HK3.out.alloc _
    go_wp2_with (first
      | (at_builtin; refine app8 (by rfl) (.tmp 39) (.tmp 40) rfl rfl rfl own0 (Rd.none_ _ 0) 0 [] rfl rfl (by omega) hka.size ?_; intro g1 cap1 w4 own1 gr1 at1; have hk4 := hka.grown gr1 own0.lo_le)
      | (at_builtin; refine app8 (by rfl) (.tmp 41) (.tmp 42) rfl rfl rfl own1 (HA.out.keep hk4) n l (by omega) rfl (by omega) hk4.size ?_; intro g2 cap2 w5 own2 gr2 at2; have hk5 := hk4.grown gr2 own1.lo_le))
    have HK5 := Lib.hid hk5
    have HO5 := Lib.hid own2
    clear own0 own1 own2 gr1 gr2 at1 at2 hk4 hk5 hka cv
    refine (parp_any w5 _ n cap2 l HO5.out.rd0 HO5.out.slOk (by omega)).mono ?_
    rintro e w6 ⟨hk6, op2, e0, e1, e2, e3, e4, e5, f0, f1, f2, f3, g0, g1, g2, g3, g4, g5, i0, i1, i2, i3, k, _, rfl⟩
    go_wp2_with (first | (refine lst_new (by rfl) (.tmp 9) (.tmp 45) _ rfl rfl rfl szArp rfl rfl rfl ?_))
    go_ret
    exact ⟨rfl, (HK5.out.trans hk6).alloc _⟩
end Go.Proofs.Ytdibmeapflhhaaa
