/-
  The contract of dgram.Build where it builds a datagram.
-/
import Derived.Test.YtpjjanbcjkdciaaD8b
namespace Go.Proofs.Ytpjjanbcjkdciaa
open Go.RowKit

theorem cells8h (w : World) (s0 s1 s2 s3 d0 d1 d2 d3 : UInt8) (W : World) (hk : Kp ((w.alloc (.cells #[.int .u8 (s0.toNat : Int), .int .u8 (s1.toNat : Int), .int .u8 (s2.toNat : Int), .int .u8 (s3.toNat : Int)] 27)).alloc (.cells #[.int .u8 (d0.toNat : Int), .int .u8 (d1.toNat : Int), .int .u8 (d2.toNat : Int), .int .u8 (d3.toNat : Int)] 27)) W) : (W.cell? ⟨w.heap.size, 0, none⟩ = some (.int .u8 (s0.toNat : Int)) ∧ W.cell? ⟨w.heap.size, 1, none⟩ = some (.int .u8 (s1.toNat : Int)) ∧ W.cell? ⟨w.heap.size, 2, none⟩ = some (.int .u8 (s2.toNat : Int)) ∧ W.cell? ⟨w.heap.size, 3, none⟩ = some (.int .u8 (s3.toNat : Int))) ∧ (W.cell? ⟨w.heap.size + 1, 0, none⟩ = some (.int .u8 (d0.toNat : Int)) ∧ W.cell? ⟨w.heap.size + 1, 1, none⟩ = some (.int .u8 (d1.toNat : Int)) ∧ W.cell? ⟨w.heap.size + 1, 2, none⟩ = some (.int .u8 (d2.toNat : Int)) ∧ W.cell? ⟨w.heap.size + 1, 3, none⟩ = some (.int .u8 (d3.toNat : Int))) := by
  have h1 : Kp (w.alloc (.cells #[.int .u8 (s0.toNat : Int), .int .u8 (s1.toNat : Int), .int .u8 (s2.toNat : Int), .int .u8 (s3.toNat : Int)] 27)) W := ((Kp.refl _).alloc _).trans hk
  have e1 : (w.alloc (.cells #[.int .u8 (s0.toNat : Int), .int .u8 (s1.toNat : Int), .int .u8 (s2.toNat : Int), .int .u8 (s3.toNat : Int)] 27)).heap.size = w.heap.size + 1 := by simp
  refine ⟨⟨?_, ?_, ?_, ?_⟩, ⟨?_, ?_, ?_, ?_⟩⟩
  · refine h1.cell ?_; rw [cell_new]; rfl
  · refine h1.cell ?_; rw [cell_new]; rfl
  · refine h1.cell ?_; rw [cell_new]; rfl
  · refine h1.cell ?_; rw [cell_new]; rfl
  · refine hk.cell ?_; rw [← e1, cell_new]; rfl
  · refine hk.cell ?_; rw [← e1, cell_new]; rfl
  · refine hk.cell ?_; rw [← e1, cell_new]; rfl
  · refine hk.cell ?_; rw [← e1, cell_new]; rfl
theorem set_mid6 (X B : List UInt8) (a b x y : UInt8) (h : X.length = 6) : ((X ++ (a :: b :: B)).set 6 x).set 7 y = X ++ (x :: y :: B) := by
  rw [List.set_append_right _ _ (by omega), List.set_append_right _ _ (by omega), h]
  simp

set_option maxRecDepth 100000 in
set_option maxHeartbeats 4000000 in
theorem b8g_ok (w : World) (sp dp : Nat) (A : Option Addr) (n c : Nat) (l : List UInt8) (s0 s1 s2 s3 d0 d1 d2 d3 : UInt8) (h1 : sp ≤ 65535) (h2 : dp ≤ 65535) (hn : n ≤ 992) (hA : Rd w 0 A n l) :
    Calls Try.prog 11 #[.iface 43 (.agg #[.int .u16 (sp : Int), .int .u16 (dp : Int), .slice A n c]), .agg #[.int .u8 (s0.toNat : Int), .int .u8 (s1.toNat : Int), .int .u8 (s2.toNat : Int), .int .u8 (s3.toNat : Int)], .agg #[.int .u8 (d0.toNat : Int), .int .u8 (d1.toNat : Int), .int .u8 (d2.toNat : Int), .int .u8 (d3.toNat : Int)]] w (B8Post w (gbytes [s0, s1, s2, s3] [d0, d1, d2, d3] sp dp l) (8 + n)) := by
  have hll := hA.len
  have KB : Kp w (((w.alloc (.cells #[.int .u8 (s0.toNat : Int), .int .u8 (s1.toNat : Int), .int .u8 (s2.toNat : Int), .int .u8 (s3.toNat : Int)] 27)).alloc (.cells #[.int .u8 (d0.toNat : Int), .int .u8 (d1.toNat : Int), .int .u8 (d2.toNat : Int), .int .u8 (d3.toNat : Int)] 27)).alloc (.cells #[.int .u16 (sp : Int), .int .u16 (dp : Int), .slice A n c] 43)) := (((Kp.refl w).alloc _).alloc _).alloc _
  have HA := Lib.hid (hA.keep KB)
  have HKB := Lib.hid KB
  have KS : Hid (∀ W, Kp (((w.alloc (.cells #[.int .u8 (s0.toNat : Int), .int .u8 (s1.toNat : Int), .int .u8 (s2.toNat : Int), .int .u8 (s3.toNat : Int)] 27)).alloc (.cells #[.int .u8 (d0.toNat : Int), .int .u8 (d1.toNat : Int), .int .u8 (d2.toNat : Int), .int .u8 (d3.toNat : Int)] 27)).alloc (.cells #[.int .u16 (sp : Int), .int .u16 (dp : Int), .slice A n c] 43)) W → _) := Lib.hid fun W hk => cells8h w s0 s1 s2 s3 d0 d1 d2 d3 W (Kp.trans ((Kp.refl _).alloc _) hk)
  have hs0 : (((w.alloc (.cells #[.int .u8 (s0.toNat : Int), .int .u8 (s1.toNat : Int), .int .u8 (s2.toNat : Int), .int .u8 (s3.toNat : Int)] 27)).alloc (.cells #[.int .u8 (d0.toNat : Int), .int .u8 (d1.toNat : Int), .int .u8 (d2.toNat : Int), .int .u8 (d3.toNat : Int)] 27)).alloc (.cells #[.int .u16 (sp : Int), .int .u16 (dp : Int), .slice A n c] 43)).heap.size = w.heap.size + 1 + 1 + 1 := by simp
  have hs1 : w.heap.size ≤ (((w.alloc (.cells #[.int .u8 (s0.toNat : Int), .int .u8 (s1.toNat : Int), .int .u8 (s2.toNat : Int), .int .u8 (s3.toNat : Int)] 27)).alloc (.cells #[.int .u8 (d0.toNat : Int), .int .u8 (d1.toNat : Int), .int .u8 (d2.toNat : Int), .int .u8 (d3.toNat : Int)] 27)).alloc (.cells #[.int .u16 (sp : Int), .int .u16 (dp : Int), .slice A n c] 43)).heap.size := by rw [hs0]; omega
  have e1 : (((w.alloc (.cells #[.int .u8 (s0.toNat : Int), .int .u8 (s1.toNat : Int), .int .u8 (s2.toNat : Int), .int .u8 (s3.toNat : Int)] 27)).alloc (.cells #[.int .u8 (d0.toNat : Int), .int .u8 (d1.toNat : Int), .int .u8 (d2.toNat : Int), .int .u8 (d3.toNat : Int)] 27)).alloc (.cells #[.int .u16 (sp : Int), .int .u16 (dp : Int), .slice A n c] 43)).heap.size ≤ w.heap.size + 1 + 1 + 1 := by omega
  clear hA KB
  have ta := ta_ge
  have tb := ta_gg
  have hpb : ∃ X L S N, wd2 sp ++ wd2 dp ++ wd2 N = X ∧ X ++ [0, 0] ++ l = L ∧ 65535 - Ck.ck (pseudo [s0, s1, s2, s3] [d0, d1, d2, d3] 17 N ++ L) = S ∧ 8 + n = N ∧ X.length = 6 ∧ L = X ++ (0 :: 0 :: l) ∧
      gbytes [s0, s1, s2, s3] [d0, d1, d2, d3] sp dp l = X ++ (UInt8.ofNat (fixs S / 256) :: UInt8.ofNat (fixs S) :: l) := by
    refine ⟨_, _, _, _, rfl, rfl, rfl, rfl, rfl, ?_, ?_⟩
    · simp
    · unfold gbytes gsum
      rw [hll]
      simp [wd2]
  obtain ⟨X, L, S, N, hX, hL, hS, hN, hX6, hL2, hpb⟩ := hpb
  obtain ⟨Y, hY⟩ : ∃ Y, X ++ (UInt8.ofNat (fixs S / 256) :: UInt8.ofNat (fixs S) :: l) = Y := ⟨_, rfl⟩
  have hS2 : S ≤ 65535 := by omega
  have hN2 : N ≤ 1000 := by omega
  have hN3 : 8 ≤ N := by omega
  have nn : (8 : Int) + (n : Int) = (N : Int) := by omega
  have nn2 : ¬ (1000 : Int) < (N : Int) := by omega
  have hfr := d8_vals sp dp N h1 h2 (by omega)
  rw [hpb, hN, hY]
  rw [hX] at hfr
  have kb0 : Kp (((w.alloc (.cells #[.int .u8 (s0.toNat : Int), .int .u8 (s1.toNat : Int), .int .u8 (s2.toNat : Int), .int .u8 (s3.toNat : Int)] 27)).alloc (.cells #[.int .u8 (d0.toNat : Int), .int .u8 (d1.toNat : Int), .int .u8 (d2.toNat : Int), .int .u8 (d3.toNat : Int)] 27)).alloc (.cells #[.int .u16 (sp : Int), .int .u16 (dp : Int), .slice A n c] 43)) ((((w.alloc (.cells #[.int .u8 (s0.toNat : Int), .int .u8 (s1.toNat : Int), .int .u8 (s2.toNat : Int), .int .u8 (s3.toNat : Int)] 27)).alloc (.cells #[.int .u8 (d0.toNat : Int), .int .u8 (d1.toNat : Int), .int .u8 (d2.toNat : Int), .int .u8 (d3.toNat : Int)] 27)).alloc (.cells #[.int .u16 (sp : Int), .int .u16 (dp : Int), .slice A n c] 43)).alloc (.cells #[.int .u8 ((sp : Int) / 256), .int .u8 ((sp : Int) % 256), .int .u8 ((dp : Int) / 256), .int .u8 ((dp : Int) % 256), .int .u8 ((N : Int) / 256), .int .u8 ((N : Int) % 256), .int .u8 0, .int .u8 0] 5)) := (Kp.refl _).alloc _
  have own0 : OwnV 5 ((((w.alloc (.cells #[.int .u8 (s0.toNat : Int), .int .u8 (s1.toNat : Int), .int .u8 (s2.toNat : Int), .int .u8 (s3.toNat : Int)] 27)).alloc (.cells #[.int .u8 (d0.toNat : Int), .int .u8 (d1.toNat : Int), .int .u8 (d2.toNat : Int), .int .u8 (d3.toNat : Int)] 27)).alloc (.cells #[.int .u16 (sp : Int), .int .u16 (dp : Int), .slice A n c] 43)).alloc (.cells #[.int .u8 ((sp : Int) / 256), .int .u8 ((sp : Int) % 256), .int .u8 ((dp : Int) / 256), .int .u8 ((dp : Int) % 256), .int .u8 ((N : Int) / 256), .int .u8 ((N : Int) % 256), .int .u8 0, .int .u8 0] 5)) (((w.alloc (.cells #[.int .u8 (s0.toNat : Int), .int .u8 (s1.toNat : Int), .int .u8 (s2.toNat : Int), .int .u8 (s3.toNat : Int)] 27)).alloc (.cells #[.int .u8 (d0.toNat : Int), .int .u8 (d1.toNat : Int), .int .u8 (d2.toNat : Int), .int .u8 (d3.toNat : Int)] 27)).alloc (.cells #[.int .u16 (sp : Int), .int .u16 (dp : Int), .slice A n c] 43)).heap.size (w.heap.size + 1 + 1 + 1) 8 8 (bvs (X ++ [0, 0])) := by
    rw [hfr]; exact OwnV.lit (vs := bvs (X ++ [0, 0])) hs0 e1 (by simp [bvs, hX6]) (by decide)
  have HL := Lib.hid hL
  have HL2 := Lib.hid hL2
  have HS := Lib.hid hS
  have HN := Lib.hid hN
  have HY := Lib.hid hY
  clear hL hL2 hpb hS hN hX hfr hs0 e1 hY
  go_enter Try.func11, Try.ntmps11
  go_wp2_with (first
    | (at_builtin; refine app8 (by rfl) (.tmp 86) (.tmp 88) rfl rfl rfl own0 (HA.out.keep kb0) N L HN.out HL.out (by omega) kb0.size ?_; intro g2 cap2 w2 own2 gr2 at2; have kb2 := kb0.grown gr2 own0.lo_le; obtain ⟨⟨x0, x1, x2, x3⟩, ⟨y0, y1, y2, y3⟩⟩ := KS.out _ kb2))
  have HKB2 := Lib.hid kb2
  have HO2 := Lib.hid own2
  clear gr2 at2 x0 x1 x2 x3 y0 y1 y2 y3 kb0 own0 kb2 own2
  refine (pseudo_any _ s0 s1 s2 s3 d0 d1 d2 d3 17 N (by omega)).mono ?_
  rintro e w3 ⟨hk3, g3, cap3, rfl, own3⟩
  have hall : RdAll (w3.alloc (.cells #[.slice (some ⟨g3, 0, none⟩) 12 cap3, .slice (some ⟨g2, 0, none⟩) N cap2] 23)) (some ⟨w3.heap.size, 0, none⟩) 2 [pseudo [s0, s1, s2, s3] [d0, d1, d2, d3] 17 N, L] :=
    rdAll_mk (vs := [.slice (some ⟨g3, 0, none⟩) 12 cap3, .slice (some ⟨g2, 0, none⟩) N cap2]) rfl rfl (by decide) ⟨⟨_, _, _, rfl, own3.rd0, by decide⟩, ⟨_, _, _, rfl, HO2.out.rd0.keep hk3, by unfold maxLen; omega⟩, trivial⟩
  have HALL := Lib.hid hall
  have HK3 := Lib.hid ((HKB.out.trans HKB2.out).trans (hk3.alloc (.cells #[.slice (some ⟨g3, 0, none⟩) 12 cap3, .slice (some ⟨g2, 0, none⟩) N cap2] 23)))
  have HO3 := Lib.hid ((HO2.out.keep hk3).keep ((Kp.refl w3).alloc (.cells #[.slice (some ⟨g3, 0, none⟩) 12 cap3, .slice (some ⟨g2, 0, none⟩) N cap2] 23)))
  clear hk3 own3 hall
  go_wp2_with fail
  refine (sum_any _ _ 2 _ _ HALL.out).mono ?_
  rintro e W3 ⟨rfl, rfl⟩
  rw [show [pseudo [s0, s1, s2, s3] [d0, d1, d2, d3] 17 N, L].flatten = pseudo [s0, s1, s2, s3] [d0, d1, d2, d3] 17 N ++ L by simp, HS.out]
  generalize w3.alloc (.cells #[.slice (some ⟨g3, 0, none⟩) 12 cap3, .slice (some ⟨g2, 0, none⟩) N cap2] 23) = W3 at HK3 HO3 ⊢
  obtain ⟨ca, _, z6⟩ := HO3.out.cell8 (k := 6) (by omega)
  obtain ⟨cb, _, z7⟩ := HO3.out.cell8 (k := 7) (by omega)
  have fz6 := HO3.out.frozen 6
  have fz7 := HO3.out.frozen 7
  have hglo := Nat.le_trans hs1 HO3.out.lo_le
  have n6 : (6 : Int) < (N : Int) := by omega
  have n7 : (7 : Int) < (N : Int) := by omega
  by_cases hS0 : S = 0
  · have hf : fixs S = 65535 := by unfold fixs; rw [if_pos hS0]
    have hb0 : ((S : Int) == 0) = true := by rw [hS0]; rfl
    have hk5 := (HK3.out.setCell (p := ⟨g2, 6, none⟩) hglo (.int .u8 255)).setCell (p := ⟨g2, 7, none⟩) hglo (.int .u8 255)
    have own5 := (HO3.out.set8 6 255 (by omega) (by omega)).set8 7 255 (by omega) (by omega)
    have e10 : (UInt8.ofNat ((255 : Int)).toNat) = UInt8.ofNat (fixs S / 256) := by rw [hf]; rfl
    have e11 : (UInt8.ofNat ((255 : Int)).toNat) = UInt8.ofNat (fixs S) := by rw [hf]; rfl
    rw [HL2.out, set_mid6 X l 0 0 _ _ hX6] at own5
    have e12 : X ++ (UInt8.ofNat ((255 : Int)).toNat :: UInt8.ofNat ((255 : Int)).toNat :: l) = Y := by rw [← HY.out, ← e10, ← e11]
    rw [e12] at own5
    have OWN5 := Lib.hid own5
    have HK5 := Lib.hid hk5
    clear own5 hk5 e10 e11 e12 hS0 hf
    go_wp2
    go_ret2
    exact ⟨HK5.out, g2, cap2, rfl, OwnV.lower OWN5.out hs1⟩
  · have hf : fixs S = S := by unfold fixs; rw [if_neg hS0]
    have hb0 : ((S : Int) == 0) = false := by rw [beq_eq_false_iff_ne]; omega
    have hk5 := (HK3.out.setCell (p := ⟨g2, 6, none⟩) hglo (.int .u8 ((S : Int) / 256))).setCell (p := ⟨g2, 7, none⟩) hglo (.int .u8 ((S : Int) % 256))
    have own5 := (HO3.out.set8 6 ((S : Int) / 256) (by omega) (by omega)).set8 7 ((S : Int) % 256) (by omega) (by omega)
    have e10 : (UInt8.ofNat ((S : Int) / 256).toNat) = UInt8.ofNat (fixs S / 256) := by rw [hf]; congr 1
    have e11 : (UInt8.ofNat ((S : Int) % 256).toNat) = UInt8.ofNat (fixs S) := by rw [hf]; exact UInt8.toNat_inj.1 (by rw [UInt8.toNat_ofNat', UInt8.toNat_ofNat']; omega)
    rw [HL2.out, set_mid6 X l 0 0 _ _ hX6, e10, e11, HY.out] at own5
    have OWN5 := Lib.hid own5
    have HK5 := Lib.hid hk5
    clear own5 hk5 e10 e11 hS0 hf
    go_wp2
    go_ret2
    exact ⟨HK5.out, g2, cap2, rfl, OwnV.lower OWN5.out hs1⟩
end Go.Proofs.Ytpjjanbcjkdciaa
