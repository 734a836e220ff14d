/-
  The contract of dgram.Open: the message of bytes that a packet bears.
-/
import Derived.Test.YtpjjanbcjkdciaaD8f
namespace Go.Proofs.Ytpjjanbcjkdciaa
open Go.RowKit

theorem EPost.up {w0 w : World} {l : List UInt8} {e : Ending} {w' : World} (hk : Kp w0 w) (h : EPost w l e w') : EPost w0 l e w' := by
  rcases h with ⟨k, h1, h2, h3, h4⟩ | ⟨rp, id, sq, data, h1, h2, h3, h4, h5, A, c, h6, h7, h8⟩
  · exact .inl ⟨k, h1, h2, hk.trans h3, h4⟩
  · exact .inr ⟨rp, id, sq, data, h1, h2, h3, h4, hk.trans h5, A, c, h6, RdV.mono_lo h7 hk.size, h8⟩
theorem GPost.up {w0 w : World} {s d l : List UInt8} {e : Ending} {w' : World} (hk : Kp w0 w) (h : GPost w s d l e w') : GPost w0 s d l e w' := by
  rcases h with ⟨k, h1, h2, h3, h4⟩ | ⟨sp, dp, data, h1, h2, h3, h4, h5, A, c, h6, h7, h8⟩
  · exact .inl ⟨k, h1, h2, hk.trans h3, h4⟩
  · exact .inr ⟨sp, dp, data, h1, h2, h3, h4, hk.trans h5, A, c, h6, RdV.mono_lo h7 hk.size, h8⟩

theorem o8_long (w : World) (p : UInt8) (s0 s1 s2 s3 d0 d1 d2 d3 : UInt8) (A : Option Addr) (n c : Nat) (h : 1000 < n) :
    Calls Try.prog 13 #[.int .u8 (p.toNat : Int), .agg #[.int .u8 (s0.toNat : Int), .int .u8 (s1.toNat : Int), .int .u8 (s2.toNat : Int), .int .u8 (s3.toNat : Int)], .agg #[.int .u8 (d0.toNat : Int), .int .u8 (d1.toNat : Int), .int .u8 (d2.toNat : Int), .int .u8 (d3.toNat : Int)], .slice A n c] w (MsgNo w 4) := by
  have i1 : (1000 : Int) < (n : Int) := by omega
  go_enter Try.func13, Try.ntmps13
  go_wp2
  go_ret2
  exact ⟨((Kp.refl _).alloc _).alloc _, rfl⟩
theorem o8_arg (w : World) (p : UInt8) (s0 s1 s2 s3 d0 d1 d2 d3 : UInt8) (A : Option Addr) (n c : Nat) (h : ¬ 1000 < n) (h1 : p ≠ 1) (h17 : p ≠ 17) :
    Calls Try.prog 13 #[.int .u8 (p.toNat : Int), .agg #[.int .u8 (s0.toNat : Int), .int .u8 (s1.toNat : Int), .int .u8 (s2.toNat : Int), .int .u8 (s3.toNat : Int)], .agg #[.int .u8 (d0.toNat : Int), .int .u8 (d1.toNat : Int), .int .u8 (d2.toNat : Int), .int .u8 (d3.toNat : Int)], .slice A n c] w (MsgNo w 1) := by
  have i1 : ¬ (1000 : Int) < (n : Int) := by omega
  have f1 : ((p.toNat : Int) == 1) = false := u8_ne (k := 1) (by decide) h1
  have f17 : ((p.toNat : Int) == 17) = false := u8_ne (k := 17) (by decide) h17
  clear h1 h17
  go_enter Try.func13, Try.ntmps13
  go_wp2
  go_ret2
  exact ⟨((Kp.refl _).alloc _).alloc _, rfl⟩
set_option maxHeartbeats 1000000 in
theorem o8_e (w : World) (s0 s1 s2 s3 d0 d1 d2 d3 : UInt8) (A : Option Addr) (n c : Nat) (l : List UInt8) (hA : Rd w 0 A n l) (hok : SlOk A n c) (h : ¬ 1000 < n) :
    Calls Try.prog 13 #[.int .u8 1, .agg #[.int .u8 (s0.toNat : Int), .int .u8 (s1.toNat : Int), .int .u8 (s2.toNat : Int), .int .u8 (s3.toNat : Int)], .agg #[.int .u8 (d0.toNat : Int), .int .u8 (d1.toNat : Int), .int .u8 (d2.toNat : Int), .int .u8 (d3.toNat : Int)], .slice A n c] w (EPost w l) := by
  have i1 : ¬ (1000 : Int) < (n : Int) := by omega
  have KB : Kp w ((w.alloc (.cells #[.int .u8 (s0.toNat : Int), .int .u8 (s1.toNat : Int), .int .u8 (s2.toNat : Int), .int .u8 (s3.toNat : Int)] 27)).alloc (.cells #[.int .u8 (d0.toNat : Int), .int .u8 (d1.toNat : Int), .int .u8 (d2.toNat : Int), .int .u8 (d3.toNat : Int)] 27)) := ((Kp.refl _).alloc _).alloc _
  have HKB := Lib.hid KB
  have HA := Lib.hid (hA.keep KB)
  have HOK := Lib.hid hok
  clear hA hok KB
  go_enter Try.func13, Try.ntmps13
  go_wp2_with fail
  refine (e8_any _ A n c l HA.out HOK.out (by omega)).mono ?_
  rintro e w1 hp
  have hq := EPost.up HKB.out hp
  have HQ := Lib.hid hq
  rcases hp with ⟨k, _, _, _, rfl⟩ | ⟨rp, id, sq, data, _, _, _, _, _, A', c', rfl, _, _⟩
  · clear hq
    go_wp2
    go_ret2
    exact HQ.out
  · clear hq
    go_wp2
    go_ret2
    exact HQ.out
set_option maxHeartbeats 1000000 in
theorem o8_g (w : World) (s0 s1 s2 s3 d0 d1 d2 d3 : UInt8) (A : Option Addr) (n c : Nat) (l : List UInt8) (hA : Rd w 0 A n l) (hok : SlOk A n c) (h : ¬ 1000 < n) :
    Calls Try.prog 13 #[.int .u8 17, .agg #[.int .u8 (s0.toNat : Int), .int .u8 (s1.toNat : Int), .int .u8 (s2.toNat : Int), .int .u8 (s3.toNat : Int)], .agg #[.int .u8 (d0.toNat : Int), .int .u8 (d1.toNat : Int), .int .u8 (d2.toNat : Int), .int .u8 (d3.toNat : Int)], .slice A n c] w (GPost w [s0, s1, s2, s3] [d0, d1, d2, d3] l) := by
  have i1 : ¬ (1000 : Int) < (n : Int) := by omega
  have KB : Kp w ((w.alloc (.cells #[.int .u8 (s0.toNat : Int), .int .u8 (s1.toNat : Int), .int .u8 (s2.toNat : Int), .int .u8 (s3.toNat : Int)] 27)).alloc (.cells #[.int .u8 (d0.toNat : Int), .int .u8 (d1.toNat : Int), .int .u8 (d2.toNat : Int), .int .u8 (d3.toNat : Int)] 27)) := ((Kp.refl _).alloc _).alloc _
  have HKB := Lib.hid KB
  have HA := Lib.hid (hA.keep KB)
  have HOK := Lib.hid hok
  clear hA hok KB
  go_enter Try.func13, Try.ntmps13
  go_wp2_with fail
  refine (g8_any _ A n c l s0 s1 s2 s3 d0 d1 d2 d3 HA.out HOK.out (by omega)).mono ?_
  rintro e w1 hp
  have hq := GPost.up HKB.out hp
  have HQ := Lib.hid hq
  rcases hp with ⟨k, _, _, _, rfl⟩ | ⟨sp, dp, data, _, _, _, _, _, A', c', rfl, _, _⟩
  · clear hq
    go_wp2
    go_ret2
    exact HQ.out
  · clear hq
    go_wp2
    go_ret2
    exact HQ.out
end Go.Proofs.Ytpjjanbcjkdciaa
