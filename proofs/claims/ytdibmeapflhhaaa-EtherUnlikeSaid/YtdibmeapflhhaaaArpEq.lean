/-
  Two Arps compared: '==' over their parts.
-/
import Derived.Test.YtdibmeapflhhaaaArp5h
namespace Go.Proofs.Ytdibmeapflhhaaa
open Go.RowKit

def sameA (o : Int) (a b c d : List UInt8) (o' : Int) (a' b' c' d' : List UInt8) : Bool := o == o' && (a == a' && (b == b' && (c == c' && d == d')))

set_option maxRecDepth 10000 in
theorem eq_arp (W : World) (o : Int) (a0 a1 a2 a3 a4 a5 b0 b1 b2 b3 c0 c1 c2 c3 c4 c5 d0 d1 d2 d3 : UInt8) (o' : Int) (e0 e1 e2 e3 e4 e5 f0 f1 f2 f3 g0 g1 g2 g3 g4 g5 h0 h1 h2 h3 : UInt8) :
    (binOp .eql 44 (.agg #[.int .i64 o, .int .u8 (a0.toNat : Int), .int .u8 (a1.toNat : Int), .int .u8 (a2.toNat : Int), .int .u8 (a3.toNat : Int), .int .u8 (a4.toNat : Int), .int .u8 (a5.toNat : Int), .int .u8 (b0.toNat : Int), .int .u8 (b1.toNat : Int), .int .u8 (b2.toNat : Int), .int .u8 (b3.toNat : Int), .int .u8 (c0.toNat : Int), .int .u8 (c1.toNat : Int), .int .u8 (c2.toNat : Int), .int .u8 (c3.toNat : Int), .int .u8 (c4.toNat : Int), .int .u8 (c5.toNat : Int), .int .u8 (d0.toNat : Int), .int .u8 (d1.toNat : Int), .int .u8 (d2.toNat : Int), .int .u8 (d3.toNat : Int)]) (.agg #[.int .i64 o', .int .u8 (e0.toNat : Int), .int .u8 (e1.toNat : Int), .int .u8 (e2.toNat : Int), .int .u8 (e3.toNat : Int), .int .u8 (e4.toNat : Int), .int .u8 (e5.toNat : Int), .int .u8 (f0.toNat : Int), .int .u8 (f1.toNat : Int), .int .u8 (f2.toNat : Int), .int .u8 (f3.toNat : Int), .int .u8 (g0.toNat : Int), .int .u8 (g1.toNat : Int), .int .u8 (g2.toNat : Int), .int .u8 (g3.toNat : Int), .int .u8 (g4.toNat : Int), .int .u8 (g5.toNat : Int), .int .u8 (h0.toNat : Int), .int .u8 (h1.toNat : Int), .int .u8 (h2.toNat : Int), .int .u8 (h3.toNat : Int)])).run Try.prog W = .ok (.bool (sameA o [a0, a1, a2, a3, a4, a5] [b0, b1, b2, b3] [c0, c1, c2, c3, c4, c5] [d0, d1, d2, d3] o' [e0, e1, e2, e3, e4, e5] [f0, f1, f2, f3] [g0, g1, g2, g3, g4, g5] [h0, h1, h2, h3])) W := by
  have q1 : ∀ W, (Op.equalIn 9999 23 (.agg #[.int .u8 (a0.toNat : Int), .int .u8 (a1.toNat : Int), .int .u8 (a2.toNat : Int), .int .u8 (a3.toNat : Int), .int .u8 (a4.toNat : Int), .int .u8 (a5.toNat : Int)]) (.agg #[.int .u8 (e0.toNat : Int), .int .u8 (e1.toNat : Int), .int .u8 (e2.toNat : Int), .int .u8 (e3.toNat : Int), .int .u8 (e4.toNat : Int), .int .u8 (e5.toNat : Int)])).run Try.prog W = .ok ([a0, a1, a2, a3, a4, a5] == [e0, e1, e2, e3, e4, e5]) W := fun W => run_equalIn_bytes W 9997 23 5 6 Try.underlying23 Try.underlying5 sizeU [a0, a1, a2, a3, a4, a5] [e0, e1, e2, e3, e4, e5] rfl rfl
  have q2 : ∀ W, (Op.equalIn 9999 42 (.agg #[.int .u8 (b0.toNat : Int), .int .u8 (b1.toNat : Int), .int .u8 (b2.toNat : Int), .int .u8 (b3.toNat : Int)]) (.agg #[.int .u8 (f0.toNat : Int), .int .u8 (f1.toNat : Int), .int .u8 (f2.toNat : Int), .int .u8 (f3.toNat : Int)])).run Try.prog W = .ok ([b0, b1, b2, b3] == [f0, f1, f2, f3]) W := fun W => run_equalIn_bytes W 9997 42 5 4 Try.underlying42 Try.underlying5 sizeU [b0, b1, b2, b3] [f0, f1, f2, f3] rfl rfl
  have q3 : ∀ W, (Op.equalIn 9999 23 (.agg #[.int .u8 (c0.toNat : Int), .int .u8 (c1.toNat : Int), .int .u8 (c2.toNat : Int), .int .u8 (c3.toNat : Int), .int .u8 (c4.toNat : Int), .int .u8 (c5.toNat : Int)]) (.agg #[.int .u8 (g0.toNat : Int), .int .u8 (g1.toNat : Int), .int .u8 (g2.toNat : Int), .int .u8 (g3.toNat : Int), .int .u8 (g4.toNat : Int), .int .u8 (g5.toNat : Int)])).run Try.prog W = .ok ([c0, c1, c2, c3, c4, c5] == [g0, g1, g2, g3, g4, g5]) W := fun W => run_equalIn_bytes W 9997 23 5 6 Try.underlying23 Try.underlying5 sizeU [c0, c1, c2, c3, c4, c5] [g0, g1, g2, g3, g4, g5] rfl rfl
  have q4 : ∀ W, (Op.equalIn 9999 42 (.agg #[.int .u8 (d0.toNat : Int), .int .u8 (d1.toNat : Int), .int .u8 (d2.toNat : Int), .int .u8 (d3.toNat : Int)]) (.agg #[.int .u8 (h0.toNat : Int), .int .u8 (h1.toNat : Int), .int .u8 (h2.toNat : Int), .int .u8 (h3.toNat : Int)])).run Try.prog W = .ok ([d0, d1, d2, d3] == [h0, h1, h2, h3]) W := fun W => run_equalIn_bytes W 9997 42 5 4 Try.underlying42 Try.underlying5 sizeU [d0, d1, d2, d3] [h0, h1, h2, h3] rfl rfl
  unfold sameA
  generalize ([a0, a1, a2, a3, a4, a5] == [e0, e1, e2, e3, e4, e5]) = x1 at q1 ⊢
  generalize ([b0, b1, b2, b3] == [f0, f1, f2, f3]) = x2 at q2 ⊢
  generalize ([c0, c1, c2, c3, c4, c5] == [g0, g1, g2, g3, g4, g5]) = x3 at q3 ⊢
  generalize ([d0, d1, d2, d3] == [h0, h1, h2, h3]) = x4 at q4 ⊢
  by_cases ho : o = o'
  · subst ho
    cases x1 <;> cases x2 <;> cases x3 <;> cases x4 <;> go_simp
  · have ho' : (o == o') = false := by simpa using ho
    rw [ho']
    go_simp
theorem sameA_self (o : Int) (a b c d : List UInt8) : sameA o a b c d o a b c d = true := by simp [sameA]
end Go.Proofs.Ytdibmeapflhhaaa
