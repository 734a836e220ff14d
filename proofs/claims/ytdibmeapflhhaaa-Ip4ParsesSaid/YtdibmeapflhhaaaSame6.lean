/-
  The contract of the document's Same for packets.
-/
import Derived.Test.YtdibmeapflhhaaaI6f
import Derived.Stop.BytesEq
namespace Go.Proofs.Ytdibmeapflhhaaa
open Go.RowKit

def sameP (id : Nat) (mo : Bool) (off : Int) (t p : UInt8) (s d l : List UInt8) (id' : Nat) (mo' : Bool) (off' : Int) (t' p' : UInt8) (s' d' l' : List UInt8) : Bool :=
  id == id' && (mo == mo' && (off == off' && (t == t' && (p == p' && (s == s' && (d == d' && l == l'))))))

set_option maxRecDepth 100000 in
set_option maxHeartbeats 4000000 in
theorem same6_any (w : World) (id : Nat) (mo : Bool) (off : Int) (t p s0 s1 s2 s3 d0 d1 d2 d3 : UInt8) (A : Option Addr) (n c : Nat) (l : List UInt8) (id' : Nat) (mo' : Bool) (off' : Int) (t' p' e0 e1 e2 e3 f0 f1 f2 f3 : UInt8) (A' : Option Addr) (n' c' : Nat) (l' : List UInt8)
    (hA : Rd w 0 A n l) (hA' : Rd w 0 A' n' l') :
    Calls Try.prog 26 #[.agg #[.int .u16 (id : Int), .bool mo, .int .i64 off, .int .u8 (t.toNat : Int), .int .u8 (p.toNat : Int), .int .u8 (s0.toNat : Int), .int .u8 (s1.toNat : Int), .int .u8 (s2.toNat : Int), .int .u8 (s3.toNat : Int), .int .u8 (d0.toNat : Int), .int .u8 (d1.toNat : Int), .int .u8 (d2.toNat : Int), .int .u8 (d3.toNat : Int), .slice A n c], .agg #[.int .u16 (id' : Int), .bool mo', .int .i64 off', .int .u8 (t'.toNat : Int), .int .u8 (p'.toNat : Int), .int .u8 (e0.toNat : Int), .int .u8 (e1.toNat : Int), .int .u8 (e2.toNat : Int), .int .u8 (e3.toNat : Int), .int .u8 (f0.toNat : Int), .int .u8 (f1.toNat : Int), .int .u8 (f2.toNat : Int), .int .u8 (f3.toNat : Int), .slice A' n' c']] w
      fun e w' => e = .returned (.bool (sameP id mo off t p [s0, s1, s2, s3] [d0, d1, d2, d3] l id' mo' off' t' p' [e0, e1, e2, e3] [f0, f1, f2, f3] l')) ∧ Kp w w' := by
  have q1 : ((id : Int) == (id' : Int)) = (id == id') := by rw [Bool.eq_iff_iff]; simp; omega
  have q4 : ((t.toNat : Int) == (t'.toNat : Int)) = (t == t') := by rw [Bool.eq_iff_iff]; simp [← UInt8.toNat_inj]; omega
  have q5 : ((p.toNat : Int) == (p'.toNat : Int)) = (p == p') := by rw [Bool.eq_iff_iff]; simp [← UInt8.toNat_inj]; omega
  have q6 : ∀ W, (binOp .eql 42 (.agg #[.int .u8 (s0.toNat : Int), .int .u8 (s1.toNat : Int), .int .u8 (s2.toNat : Int), .int .u8 (s3.toNat : Int)]) (.agg #[.int .u8 (e0.toNat : Int), .int .u8 (e1.toNat : Int), .int .u8 (e2.toNat : Int), .int .u8 (e3.toNat : Int)])).run Try.prog W = .ok (.bool ([s0, s1, s2, s3] == [e0, e1, e2, e3])) W := fun W => run_eql_bytes W 42 5 4 Try.underlying42 Try.underlying5 sizeU [s0, s1, s2, s3] [e0, e1, e2, e3] rfl rfl
  have q7 : ∀ W, (binOp .eql 42 (.agg #[.int .u8 (d0.toNat : Int), .int .u8 (d1.toNat : Int), .int .u8 (d2.toNat : Int), .int .u8 (d3.toNat : Int)]) (.agg #[.int .u8 (f0.toNat : Int), .int .u8 (f1.toNat : Int), .int .u8 (f2.toNat : Int), .int .u8 (f3.toNat : Int)])).run Try.prog W = .ok (.bool ([d0, d1, d2, d3] == [f0, f1, f2, f3])) W := fun W => run_eql_bytes W 42 5 4 Try.underlying42 Try.underlying5 sizeU [d0, d1, d2, d3] [f0, f1, f2, f3] rfl rfl
  have q8 := str_beq l l'
  have kp : Kp w ((w.alloc (.cells #[.int .u16 (id : Int), .bool mo, .int .i64 off, .int .u8 (t.toNat : Int), .int .u8 (p.toNat : Int), .int .u8 (s0.toNat : Int), .int .u8 (s1.toNat : Int), .int .u8 (s2.toNat : Int), .int .u8 (s3.toNat : Int), .int .u8 (d0.toNat : Int), .int .u8 (d1.toNat : Int), .int .u8 (d2.toNat : Int), .int .u8 (d3.toNat : Int), .slice A n c] 50)).alloc (.cells #[.int .u16 (id' : Int), .bool mo', .int .i64 off', .int .u8 (t'.toNat : Int), .int .u8 (p'.toNat : Int), .int .u8 (e0.toNat : Int), .int .u8 (e1.toNat : Int), .int .u8 (e2.toNat : Int), .int .u8 (e3.toNat : Int), .int .u8 (f0.toNat : Int), .int .u8 (f1.toNat : Int), .int .u8 (f2.toNat : Int), .int .u8 (f3.toNat : Int), .slice A' n' c'] 50)) := ((Kp.refl _).alloc _).alloc _
  have z1 := conv_str (P := Try.prog) (c := c) Try.underlying25 Try.underlying5 Try.underlying9 (hA.keep kp)
  have z2 := conv_str (P := Try.prog) (c := c') Try.underlying25 Try.underlying5 Try.underlying9 (hA'.keep kp)
  unfold sameP
  generalize (id == id') = x1 at q1 ⊢
  obtain ⟨x2, q2⟩ : ∃ x2, (mo == mo') = x2 := ⟨_, rfl⟩
  obtain ⟨x3, q3⟩ : ∃ x3, (off == off') = x3 := ⟨_, rfl⟩
  rw [q2, q3]
  generalize (t == t') = x4 at q4 ⊢
  generalize (p == p') = x5 at q5 ⊢
  generalize ([s0, s1, s2, s3] == [e0, e1, e2, e3]) = x6 at q6 ⊢
  generalize ([d0, d1, d2, d3] == [f0, f1, f2, f3]) = x7 at q7 ⊢
  generalize (l == l') = x8 at q8 ⊢
  clear hA hA'
  cases x1
  case' true => cases x2
  case' true.true => cases x3
  case' true.true.true => cases x4
  case' true.true.true.true => cases x5
  case' true.true.true.true.true => cases x6
  case' true.true.true.true.true.true => cases x7
  all_goals
    go_enter Try.func26, Try.ntmps26
    go_wp2
    go_ret
    exact ⟨rfl, kp⟩
end Go.Proofs.Ytdibmeapflhhaaa
