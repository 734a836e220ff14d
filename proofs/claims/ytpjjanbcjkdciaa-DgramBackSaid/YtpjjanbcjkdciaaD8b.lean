/-
  The contract of dgram.Build: the message's bytes in own memory.
-/
import Derived.Test.YtpjjanbcjkdciaaD8a
import Derived.Test.YtpjjanbcjkdciaaSplit
namespace Go.Proofs.Ytpjjanbcjkdciaa
open Go.RowKit


theorem OwnV.lower {e : TypeId} {w : World} {lo lo' g n cap : Nat} {xs : List Value} (h : OwnV e w lo g n cap xs) (hl : lo' ≤ lo) : OwnV e w lo' g n cap xs := by
  obtain ⟨h1, _, h3, h4, cur, h5, h6, h7⟩ := h.out
  exact OwnV.mk' (Nat.le_trans hl h1) h5 h3 h4 h6 h7

def kind8 (rp : Bool) : UInt8 := if rp then 0 else 8
def esum (rp : Bool) (id sq : Nat) (D : List UInt8) : Nat := 65535 - Ck.ck ([kind8 rp, 0, 0, 0] ++ (wd2 id ++ wd2 sq) ++ D)
def ebytes (rp : Bool) (id sq : Nat) (D : List UInt8) : List UInt8 := [kind8 rp, 0] ++ wd2 (esum rp id sq D) ++ (wd2 id ++ wd2 sq) ++ D
def fixs (s : Nat) : Nat := if s = 0 then 65535 else s
def gsum (src dst : List UInt8) (sp dp : Nat) (D : List UInt8) : Nat := 65535 - Ck.ck (pseudo src dst 17 (8 + D.length) ++ (wd2 sp ++ wd2 dp ++ wd2 (8 + D.length) ++ [0, 0] ++ D))
def gbytes (src dst : List UInt8) (sp dp : Nat) (D : List UInt8) : List UInt8 := wd2 sp ++ wd2 dp ++ wd2 (8 + D.length) ++ wd2 (fixs (gsum src dst sp dp D)) ++ D

theorem wd_vals (x : Nat) (hx : x ≤ 65535) : (((UInt8.ofNat (x / 256)).toNat : Nat) : Int) = (x : Int) / 256 ∧ (((UInt8.ofNat x).toNat : Nat) : Int) = (x : Int) % 256 := by
  constructor
  · rw [UInt8.toNat_ofNat']; omega
  · rw [UInt8.toNat_ofNat']; omega
theorem c8_vals (id sq : Nat) (k : UInt8) (z : Int) (hz : (k.toNat : Int) = z) (h1 : id ≤ 65535) (h2 : sq ≤ 65535) : (#[.int .u8 z, .int .u8 0, .int .u8 0, .int .u8 0, .int .u8 ((id : Int) / 256), .int .u8 ((id : Int) % 256), .int .u8 ((sq : Int) / 256), .int .u8 ((sq : Int) % 256)] : Array Value) = (bvs ([k, 0, 0, 0] ++ (wd2 id ++ wd2 sq))).toArray := by
  rw [← (wd_vals id h1).1, ← (wd_vals id h1).2, ← (wd_vals sq h2).1, ← (wd_vals sq h2).2, ← hz]
  rfl
theorem d8_vals (sp dp N : Nat) (h1 : sp ≤ 65535) (h2 : dp ≤ 65535) (h3 : N ≤ 65535) : (#[.int .u8 ((sp : Int) / 256), .int .u8 ((sp : Int) % 256), .int .u8 ((dp : Int) / 256), .int .u8 ((dp : Int) % 256), .int .u8 ((N : Int) / 256), .int .u8 ((N : Int) % 256), .int .u8 0, .int .u8 0] : Array Value) = (bvs (wd2 sp ++ wd2 dp ++ wd2 N ++ [0, 0])).toArray := by
  rw [← (wd_vals sp h1).1, ← (wd_vals sp h1).2, ← (wd_vals dp h2).1, ← (wd_vals dp h2).2, ← (wd_vals N h3).1, ← (wd_vals N h3).2]
  rfl

def B8Post (w : World) (L : List UInt8) (N : Nat) (e : Ending) (w' : World) : Prop :=
  Kp w w' ∧ ∃ g cap, e = .returned (.tuple #[.slice (some ⟨g, 0, none⟩) N cap, .int .i64 0]) ∧ OwnV 5 w' w.heap.size g N cap (bvs L)

set_option maxRecDepth 100000 in
set_option maxHeartbeats 1000000 in
theorem b8e_long (w : World) (rp : Bool) (id sq : Nat) (A : Option Addr) (n c : Nat) (s0 s1 s2 s3 d0 d1 d2 d3 : UInt8) (hn : 992 < n) :
    Calls Try.prog 11 #[.iface 25 (.agg #[.bool rp, .int .u16 (id : Int), .int .u16 (sq : Int), .slice A n c]), .agg #[.int .u8 (s0.toNat : Int), .int .u8 (s1.toNat : Int), .int .u8 (s2.toNat : Int), .int .u8 (s3.toNat : Int)], .agg #[.int .u8 (d0.toNat : Int), .int .u8 (d1.toNat : Int), .int .u8 (d2.toNat : Int), .int .u8 (d3.toNat : Int)]] w fun e w' => e = .returned (.tuple #[.slice none 0 0, .int .i64 4]) ∧ Kp w w' := by
  have ta := ta_ee
  go_enter Try.func11, Try.ntmps11
  go_wp2
  go_ret2
  exact ⟨rfl, (((Kp.refl _).alloc _).alloc _).alloc _⟩
set_option maxRecDepth 100000 in
set_option maxHeartbeats 1000000 in
theorem b8g_long (w : World) (sp dp : Nat) (A : Option Addr) (n c : Nat) (s0 s1 s2 s3 d0 d1 d2 d3 : UInt8) (hn : 992 < n) (hn2 : n ≤ 1048576) :
    Calls Try.prog 11 #[.iface 43 (.agg #[.int .u16 (sp : Int), .int .u16 (dp : Int), .slice A n c]), .agg #[.int .u8 (s0.toNat : Int), .int .u8 (s1.toNat : Int), .int .u8 (s2.toNat : Int), .int .u8 (s3.toNat : Int)], .agg #[.int .u8 (d0.toNat : Int), .int .u8 (d1.toNat : Int), .int .u8 (d2.toNat : Int), .int .u8 (d3.toNat : Int)]] w fun e w' => e = .returned (.tuple #[.slice none 0 0, .int .i64 4]) ∧ Kp w w' := by
  have ta := ta_ge
  have tb := ta_gg
  have i1 : (1000 : Int) < 8 + (n : Int) := by omega
  go_enter Try.func11, Try.ntmps11
  go_wp2
  go_ret2
  exact ⟨rfl, (((Kp.refl _).alloc _).alloc _).alloc _⟩

theorem set_mid2 (a b x y p q : UInt8) (B : List UInt8) : (((p :: q :: a :: b :: B).set 2 x).set 3 y) = p :: q :: x :: y :: B := rfl

set_option maxRecDepth 100000 in
set_option maxHeartbeats 4000000 in
theorem b8e_ok (w : World) (rp : Bool) (id sq : Nat) (A : Option Addr) (n c : Nat) (l : List UInt8) (s0 s1 s2 s3 d0 d1 d2 d3 : UInt8) (h1 : id ≤ 65535) (h2 : sq ≤ 65535) (hn : n ≤ 992) (hA : Rd w 0 A n l) :
    Calls Try.prog 11 #[.iface 25 (.agg #[.bool rp, .int .u16 (id : Int), .int .u16 (sq : Int), .slice A n c]), .agg #[.int .u8 (s0.toNat : Int), .int .u8 (s1.toNat : Int), .int .u8 (s2.toNat : Int), .int .u8 (s3.toNat : Int)], .agg #[.int .u8 (d0.toNat : Int), .int .u8 (d1.toNat : Int), .int .u8 (d2.toNat : Int), .int .u8 (d3.toNat : Int)]] w (B8Post w (ebytes rp id sq l) (8 + n)) := by
  have hll := hA.len
  have KB : Kp w (((w.alloc (.cells #[.int .u8 (s0.toNat : Int), .int .u8 (s1.toNat : Int), .int .u8 (s2.toNat : Int), .int .u8 (s3.toNat : Int)] 27)).alloc (.cells #[.int .u8 (d0.toNat : Int), .int .u8 (d1.toNat : Int), .int .u8 (d2.toNat : Int), .int .u8 (d3.toNat : Int)] 27)).alloc (.cells #[.bool rp, .int .u16 (id : Int), .int .u16 (sq : Int), .slice A n c] 25)) := (((Kp.refl w).alloc _).alloc _).alloc _
  have HA := Lib.hid (hA.keep KB)
  have HKB := Lib.hid KB
  have hs0 : (((w.alloc (.cells #[.int .u8 (s0.toNat : Int), .int .u8 (s1.toNat : Int), .int .u8 (s2.toNat : Int), .int .u8 (s3.toNat : Int)] 27)).alloc (.cells #[.int .u8 (d0.toNat : Int), .int .u8 (d1.toNat : Int), .int .u8 (d2.toNat : Int), .int .u8 (d3.toNat : Int)] 27)).alloc (.cells #[.bool rp, .int .u16 (id : Int), .int .u16 (sq : Int), .slice A n c] 25)).heap.size = w.heap.size + 1 + 1 + 1 := by simp
  have hs1 : w.heap.size ≤ (((w.alloc (.cells #[.int .u8 (s0.toNat : Int), .int .u8 (s1.toNat : Int), .int .u8 (s2.toNat : Int), .int .u8 (s3.toNat : Int)] 27)).alloc (.cells #[.int .u8 (d0.toNat : Int), .int .u8 (d1.toNat : Int), .int .u8 (d2.toNat : Int), .int .u8 (d3.toNat : Int)] 27)).alloc (.cells #[.bool rp, .int .u16 (id : Int), .int .u16 (sq : Int), .slice A n c] 25)).heap.size := by rw [hs0]; omega
  have e1 : (((w.alloc (.cells #[.int .u8 (s0.toNat : Int), .int .u8 (s1.toNat : Int), .int .u8 (s2.toNat : Int), .int .u8 (s3.toNat : Int)] 27)).alloc (.cells #[.int .u8 (d0.toNat : Int), .int .u8 (d1.toNat : Int), .int .u8 (d2.toNat : Int), .int .u8 (d3.toNat : Int)] 27)).alloc (.cells #[.bool rp, .int .u16 (id : Int), .int .u16 (sq : Int), .slice A n c] 25)).heap.size ≤ w.heap.size + 1 + 1 + 1 := by omega
  clear hA KB
  have i1 : ¬ (992 : Int) < (n : Int) := by omega
  have ta := ta_ee
  have hpb : ∃ K H L S N, kind8 rp = K ∧ [K, 0, 0, 0] ++ (wd2 id ++ wd2 sq) = H ∧ H ++ l = L ∧ 65535 - Ck.ck L = S ∧ 8 + n = N ∧ H.length = 8 ∧ L = K :: 0 :: 0 :: 0 :: ((wd2 id ++ wd2 sq) ++ l) ∧
      ebytes rp id sq l = K :: 0 :: UInt8.ofNat (S / 256) :: UInt8.ofNat S :: ((wd2 id ++ wd2 sq) ++ l) := by
    refine ⟨_, _, _, _, _, rfl, rfl, rfl, rfl, rfl, rfl, ?_, ?_⟩
    · simp
    · unfold ebytes esum
      simp [wd2]
  obtain ⟨K, H, L, S, N, hK, hH, hL, hS, hN, hH8, hL2, hpb⟩ := hpb
  have hS2 : S ≤ 65535 := by omega
  have hN2 : N ≤ 1000 := by omega
  have hN3 : 8 ≤ N := by omega
  have hfr := c8_vals id sq K (K.toNat : Int) rfl h1 h2
  obtain ⟨Y, hY⟩ : ∃ Y, K :: 0 :: UInt8.ofNat (S / 256) :: UInt8.ofNat S :: ((wd2 id ++ wd2 sq) ++ l) = Y := ⟨_, rfl⟩
  rw [hpb, hN, hY]
  have HY := Lib.hid hY
  clear hY
  rw [hH] at hfr
  have HL := Lib.hid hL
  have HL2 := Lib.hid hL2
  have HS := Lib.hid hS
  have HN := Lib.hid hN
  clear hL hL2 hpb hS hN hH
  cases rp
  case' false =>
    have hz : (K.toNat : Int) = 8 := by rw [← hK]; rfl
    rw [hz] at hfr
    have kb0 : Kp (((w.alloc (.cells #[.int .u8 (s0.toNat : Int), .int .u8 (s1.toNat : Int), .int .u8 (s2.toNat : Int), .int .u8 (s3.toNat : Int)] 27)).alloc (.cells #[.int .u8 (d0.toNat : Int), .int .u8 (d1.toNat : Int), .int .u8 (d2.toNat : Int), .int .u8 (d3.toNat : Int)] 27)).alloc (.cells #[.bool false, .int .u16 (id : Int), .int .u16 (sq : Int), .slice A n c] 25)) ((((w.alloc (.cells #[.int .u8 (s0.toNat : Int), .int .u8 (s1.toNat : Int), .int .u8 (s2.toNat : Int), .int .u8 (s3.toNat : Int)] 27)).alloc (.cells #[.int .u8 (d0.toNat : Int), .int .u8 (d1.toNat : Int), .int .u8 (d2.toNat : Int), .int .u8 (d3.toNat : Int)] 27)).alloc (.cells #[.bool false, .int .u16 (id : Int), .int .u16 (sq : Int), .slice A n c] 25)).alloc (.cells #[.int .u8 8, .int .u8 0, .int .u8 0, .int .u8 0, .int .u8 ((id : Int) / 256), .int .u8 ((id : Int) % 256), .int .u8 ((sq : Int) / 256), .int .u8 ((sq : Int) % 256)] 5)) := (Kp.refl _).alloc _
    have own0 : OwnV 5 ((((w.alloc (.cells #[.int .u8 (s0.toNat : Int), .int .u8 (s1.toNat : Int), .int .u8 (s2.toNat : Int), .int .u8 (s3.toNat : Int)] 27)).alloc (.cells #[.int .u8 (d0.toNat : Int), .int .u8 (d1.toNat : Int), .int .u8 (d2.toNat : Int), .int .u8 (d3.toNat : Int)] 27)).alloc (.cells #[.bool false, .int .u16 (id : Int), .int .u16 (sq : Int), .slice A n c] 25)).alloc (.cells #[.int .u8 8, .int .u8 0, .int .u8 0, .int .u8 0, .int .u8 ((id : Int) / 256), .int .u8 ((id : Int) % 256), .int .u8 ((sq : Int) / 256), .int .u8 ((sq : Int) % 256)] 5)) (((w.alloc (.cells #[.int .u8 (s0.toNat : Int), .int .u8 (s1.toNat : Int), .int .u8 (s2.toNat : Int), .int .u8 (s3.toNat : Int)] 27)).alloc (.cells #[.int .u8 (d0.toNat : Int), .int .u8 (d1.toNat : Int), .int .u8 (d2.toNat : Int), .int .u8 (d3.toNat : Int)] 27)).alloc (.cells #[.bool false, .int .u16 (id : Int), .int .u16 (sq : Int), .slice A n c] 25)).heap.size (w.heap.size + 1 + 1 + 1) 8 8 (bvs H) := by
      rw [hfr]; exact OwnV.lit (vs := bvs H) hs0 e1 (by simp [bvs, hH8]) (by decide)
    clear hfr hz hK hs0 e1
    go_enter Try.func11, Try.ntmps11
    go_wp2_with (first
      | (at_builtin; refine app8 (by rfl) (.tmp 41) (.tmp 43) rfl rfl rfl own0 (HA.out.keep kb0) N L HN.out HL.out (by omega) kb0.size ?_; intro g2 cap2 w2 own2 gr2 at2; have kb2 := kb0.grown gr2 own0.lo_le))
  case' true =>
    have hz : (K.toNat : Int) = 0 := by rw [← hK]; rfl
    rw [hz] at hfr
    have kb0 : Kp (((w.alloc (.cells #[.int .u8 (s0.toNat : Int), .int .u8 (s1.toNat : Int), .int .u8 (s2.toNat : Int), .int .u8 (s3.toNat : Int)] 27)).alloc (.cells #[.int .u8 (d0.toNat : Int), .int .u8 (d1.toNat : Int), .int .u8 (d2.toNat : Int), .int .u8 (d3.toNat : Int)] 27)).alloc (.cells #[.bool true, .int .u16 (id : Int), .int .u16 (sq : Int), .slice A n c] 25)) ((((w.alloc (.cells #[.int .u8 (s0.toNat : Int), .int .u8 (s1.toNat : Int), .int .u8 (s2.toNat : Int), .int .u8 (s3.toNat : Int)] 27)).alloc (.cells #[.int .u8 (d0.toNat : Int), .int .u8 (d1.toNat : Int), .int .u8 (d2.toNat : Int), .int .u8 (d3.toNat : Int)] 27)).alloc (.cells #[.bool true, .int .u16 (id : Int), .int .u16 (sq : Int), .slice A n c] 25)).alloc (.cells #[.int .u8 0, .int .u8 0, .int .u8 0, .int .u8 0, .int .u8 ((id : Int) / 256), .int .u8 ((id : Int) % 256), .int .u8 ((sq : Int) / 256), .int .u8 ((sq : Int) % 256)] 5)) := (Kp.refl _).alloc _
    have own0 : OwnV 5 ((((w.alloc (.cells #[.int .u8 (s0.toNat : Int), .int .u8 (s1.toNat : Int), .int .u8 (s2.toNat : Int), .int .u8 (s3.toNat : Int)] 27)).alloc (.cells #[.int .u8 (d0.toNat : Int), .int .u8 (d1.toNat : Int), .int .u8 (d2.toNat : Int), .int .u8 (d3.toNat : Int)] 27)).alloc (.cells #[.bool true, .int .u16 (id : Int), .int .u16 (sq : Int), .slice A n c] 25)).alloc (.cells #[.int .u8 0, .int .u8 0, .int .u8 0, .int .u8 0, .int .u8 ((id : Int) / 256), .int .u8 ((id : Int) % 256), .int .u8 ((sq : Int) / 256), .int .u8 ((sq : Int) % 256)] 5)) (((w.alloc (.cells #[.int .u8 (s0.toNat : Int), .int .u8 (s1.toNat : Int), .int .u8 (s2.toNat : Int), .int .u8 (s3.toNat : Int)] 27)).alloc (.cells #[.int .u8 (d0.toNat : Int), .int .u8 (d1.toNat : Int), .int .u8 (d2.toNat : Int), .int .u8 (d3.toNat : Int)] 27)).alloc (.cells #[.bool true, .int .u16 (id : Int), .int .u16 (sq : Int), .slice A n c] 25)).heap.size (w.heap.size + 1 + 1 + 1) 8 8 (bvs H) := by
      rw [hfr]; exact OwnV.lit (vs := bvs H) hs0 e1 (by simp [bvs, hH8]) (by decide)
    clear hfr hz hK hs0 e1
    go_enter Try.func11, Try.ntmps11
    go_wp2_with (first
      | (at_builtin; refine app8 (by rfl) (.tmp 41) (.tmp 43) rfl rfl rfl own0 (HA.out.keep kb0) N L HN.out HL.out (by omega) kb0.size ?_; intro g2 cap2 w2 own2 gr2 at2; have kb2 := kb0.grown gr2 own0.lo_le))
  all_goals
    have hall : RdAll (w2.alloc (.cells #[.slice (some ⟨g2, 0, none⟩) N cap2] 23)) (some ⟨w2.heap.size, 0, none⟩) 1 [L] :=
      rdAll_mk (vs := [.slice (some ⟨g2, 0, none⟩) N cap2]) rfl rfl (by decide) ⟨⟨_, _, _, rfl, own2.rd0, by unfold maxLen; omega⟩, trivial⟩
    have HALL := Lib.hid hall
    have HK3 := Lib.hid ((HKB.out.trans kb2).alloc (.cells #[.slice (some ⟨g2, 0, none⟩) N cap2] 23))
    have HO3 := Lib.hid (own2.keep ((Kp.refl w2).alloc (.cells #[.slice (some ⟨g2, 0, none⟩) N cap2] 23)))
    clear gr2 at2 kb0 own0 kb2 own2 hall
    refine (sum_any _ _ 1 _ _ HALL.out).mono ?_
    rintro e W3 ⟨rfl, rfl⟩
    rw [show [L].flatten = L by simp, HS.out]
    generalize w2.alloc (.cells #[.slice (some ⟨g2, 0, none⟩) N cap2] 23) = W3 at HK3 HO3 ⊢
    obtain ⟨ca, _, z2⟩ := HO3.out.cell8 (k := 2) (by omega)
    obtain ⟨cb, _, z3⟩ := HO3.out.cell8 (k := 3) (by omega)
    have fz2 := HO3.out.frozen 2
    have fz3 := HO3.out.frozen 3
    have hglo := Nat.le_trans hs1 HO3.out.lo_le
    have n2 : (2 : Int) < (N : Int) := by omega
    have n3 : (3 : Int) < (N : Int) := by omega
    have hk5 := (HK3.out.setCell (p := ⟨g2, 2, none⟩) hglo (.int .u8 ((S : Int) / 256))).setCell (p := ⟨g2, 3, none⟩) hglo (.int .u8 ((S : Int) % 256))
    have own5 := (HO3.out.set8 2 ((S : Int) / 256) (by omega) (by omega)).set8 3 ((S : Int) % 256) (by omega) (by omega)
    have e10 : (UInt8.ofNat ((S : Int) / 256).toNat) = UInt8.ofNat (S / 256) := by congr 1
    have e11 : (UInt8.ofNat ((S : Int) % 256).toNat) = UInt8.ofNat S := UInt8.toNat_inj.1 (by rw [UInt8.toNat_ofNat', UInt8.toNat_ofNat']; omega)
    rw [HL2.out, set_mid2, e10, e11, HY.out] at own5
    have OWN5 := Lib.hid own5
    have HK5 := Lib.hid hk5
    clear own5 hk5 e10 e11
    go_wp2
    go_ret2
    exact ⟨HK5.out, g2, cap2, rfl, OwnV.lower OWN5.out hs1⟩
end Go.Proofs.Ytpjjanbcjkdciaa
