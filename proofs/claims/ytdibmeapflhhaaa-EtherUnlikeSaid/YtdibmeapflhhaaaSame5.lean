/-
  The contract of the document's Same for frames.
-/
import Derived.Test.YtdibmeapflhhaaaRef5a
import Derived.Stop.BytesEq
namespace Go.Proofs.Ytdibmeapflhhaaa
open Go.RowKit

theorem sizeU : ∀ w : World, (sizeOf 5).run Try.prog w = .ok 1 w := by
  intro w
  have h : Try.prog.info? 5 = some Try.t5 := by kernel_rfl
  simp [sizeOf, typeInfo, h]
  rfl

def sameF (d s : List UInt8) (ty : Nat) (l : List UInt8) (d' s' : List UInt8) (ty' : Nat) (l' : List UInt8) : Bool := d == d' && (s == s' && (ty == ty' && l == l'))

theorem str_beq (l l' : List UInt8) : ((str l).toList == (str l').toList) = (l == l') := by
  rw [ByteArray.toList_eq, ByteArray.toList_eq, str_list, str_list]

set_option maxRecDepth 100000 in
set_option maxHeartbeats 1000000 in
theorem same_any (w : World) (d0 d1 d2 d3 d4 d5 s0 s1 s2 s3 s4 s5 : UInt8) (ty : Nat) (A : Option Addr) (n c : Nat) (l : List UInt8) (e0 e1 e2 e3 e4 e5 t0 t1 t2 t3 t4 t5 : UInt8) (ty' : Nat) (A' : Option Addr) (n' c' : Nat) (l' : List UInt8)
    (hA : Rd w 0 A n l) (hA' : Rd w 0 A' n' l') :
    Calls Try.prog 18 #[.agg #[.int .u8 (d0.toNat : Int), .int .u8 (d1.toNat : Int), .int .u8 (d2.toNat : Int), .int .u8 (d3.toNat : Int), .int .u8 (d4.toNat : Int), .int .u8 (d5.toNat : Int), .int .u8 (s0.toNat : Int), .int .u8 (s1.toNat : Int), .int .u8 (s2.toNat : Int), .int .u8 (s3.toNat : Int), .int .u8 (s4.toNat : Int), .int .u8 (s5.toNat : Int), .int .u16 (ty : Int), .slice A n c], .agg #[.int .u8 (e0.toNat : Int), .int .u8 (e1.toNat : Int), .int .u8 (e2.toNat : Int), .int .u8 (e3.toNat : Int), .int .u8 (e4.toNat : Int), .int .u8 (e5.toNat : Int), .int .u8 (t0.toNat : Int), .int .u8 (t1.toNat : Int), .int .u8 (t2.toNat : Int), .int .u8 (t3.toNat : Int), .int .u8 (t4.toNat : Int), .int .u8 (t5.toNat : Int), .int .u16 (ty' : Int), .slice A' n' c']] w
      fun e w' => e = .returned (.bool (sameF [d0, d1, d2, d3, d4, d5] [s0, s1, s2, s3, s4, s5] ty l [e0, e1, e2, e3, e4, e5] [t0, t1, t2, t3, t4, t5] ty' l')) ∧ Kp w w' := by
  have q1 : ∀ W, (binOp .eql 23 (.agg #[.int .u8 (d0.toNat : Int), .int .u8 (d1.toNat : Int), .int .u8 (d2.toNat : Int), .int .u8 (d3.toNat : Int), .int .u8 (d4.toNat : Int), .int .u8 (d5.toNat : Int)]) (.agg #[.int .u8 (e0.toNat : Int), .int .u8 (e1.toNat : Int), .int .u8 (e2.toNat : Int), .int .u8 (e3.toNat : Int), .int .u8 (e4.toNat : Int), .int .u8 (e5.toNat : Int)])).run Try.prog W = .ok (.bool ([d0, d1, d2, d3, d4, d5] == [e0, e1, e2, e3, e4, e5])) W := fun W => run_eql_bytes W 23 5 6 Try.underlying23 Try.underlying5 sizeU [d0, d1, d2, d3, d4, d5] [e0, e1, e2, e3, e4, e5] rfl rfl
  have q2 : ∀ W, (binOp .eql 23 (.agg #[.int .u8 (s0.toNat : Int), .int .u8 (s1.toNat : Int), .int .u8 (s2.toNat : Int), .int .u8 (s3.toNat : Int), .int .u8 (s4.toNat : Int), .int .u8 (s5.toNat : Int)]) (.agg #[.int .u8 (t0.toNat : Int), .int .u8 (t1.toNat : Int), .int .u8 (t2.toNat : Int), .int .u8 (t3.toNat : Int), .int .u8 (t4.toNat : Int), .int .u8 (t5.toNat : Int)])).run Try.prog W = .ok (.bool ([s0, s1, s2, s3, s4, s5] == [t0, t1, t2, t3, t4, t5])) W := fun W => run_eql_bytes W 23 5 6 Try.underlying23 Try.underlying5 sizeU [s0, s1, s2, s3, s4, s5] [t0, t1, t2, t3, t4, t5] rfl rfl
  have q3 := str_beq l l'
  have q4 : ((ty : Int) == (ty' : Int)) = (ty == ty') := by rw [Bool.eq_iff_iff]; simp; omega
  have kp : Kp w ((w.alloc (.cells #[.int .u8 (d0.toNat : Int), .int .u8 (d1.toNat : Int), .int .u8 (d2.toNat : Int), .int .u8 (d3.toNat : Int), .int .u8 (d4.toNat : Int), .int .u8 (d5.toNat : Int), .int .u8 (s0.toNat : Int), .int .u8 (s1.toNat : Int), .int .u8 (s2.toNat : Int), .int .u8 (s3.toNat : Int), .int .u8 (s4.toNat : Int), .int .u8 (s5.toNat : Int), .int .u16 (ty : Int), .slice A n c] 27)).alloc (.cells #[.int .u8 (e0.toNat : Int), .int .u8 (e1.toNat : Int), .int .u8 (e2.toNat : Int), .int .u8 (e3.toNat : Int), .int .u8 (e4.toNat : Int), .int .u8 (e5.toNat : Int), .int .u8 (t0.toNat : Int), .int .u8 (t1.toNat : Int), .int .u8 (t2.toNat : Int), .int .u8 (t3.toNat : Int), .int .u8 (t4.toNat : Int), .int .u8 (t5.toNat : Int), .int .u16 (ty' : Int), .slice A' n' c'] 27)) := ((Kp.refl _).alloc _).alloc _
  have c1 := conv_str (P := Try.prog) (c := c) Try.underlying25 Try.underlying5 Try.underlying9 (hA.keep kp)
  have c2 := conv_str (P := Try.prog) (c := c') Try.underlying25 Try.underlying5 Try.underlying9 (hA'.keep kp)
  unfold sameF
  generalize ([d0, d1, d2, d3, d4, d5] == [e0, e1, e2, e3, e4, e5]) = b1 at q1 ⊢
  generalize ([s0, s1, s2, s3, s4, s5] == [t0, t1, t2, t3, t4, t5]) = b2 at q2 ⊢
  generalize (l == l') = b4 at q3 ⊢
  generalize (ty == ty') = b3 at q4 ⊢
  clear hA hA'
  cases b1
  · go_enter Try.func18, Try.ntmps18
    go_wp2
    go_ret
    exact ⟨rfl, kp⟩
  · cases b2
    · go_enter Try.func18, Try.ntmps18
      go_wp2
      go_ret
      exact ⟨rfl, kp⟩
    · cases b3
      · go_enter Try.func18, Try.ntmps18
        go_wp2
        go_ret
        exact ⟨rfl, kp⟩
      · go_enter Try.func18, Try.ntmps18
        go_wp2
        go_ret
        exact ⟨rfl, kp⟩
end Go.Proofs.Ytdibmeapflhhaaa
