/-
  The walk of EtherUnlike: it returns true and leaves what was there as it was.
-/
import Derived.Test.YtdibmeapflhhaaaU5a
import Derived.Test.YtdibmeapflhhaaaUn5
import Derived.Test.YtdibmeapflhhaaaStableG
import Derived.Test.YtdibmeapflhhaaaWParses5
namespace Go.Proofs.Ytdibmeapflhhaaa
open Go.RowKit


def unX (bx : Nat) (d0 d1 d2 d3 d4 d5 s0 s1 s2 s3 s4 s5 : UInt8) (ty : Nat) (A : Option Addr) (n c : Nat) (e0 e1 e2 e3 e4 e5 t0 t1 t2 t3 t4 t5 : UInt8) (tz : Nat) (B : Option Addr) (m k : Nat) (op : Int) (a0 a1 a2 a3 a4 a5 b0 b1 b2 b3 c0 c1 c2 c3 c4 c5 g0 g1 g2 g3 : UInt8) (oq : Int) (h0 h1 h2 h3 h4 h5 i0 i1 i2 i3 j0 j1 j2 j3 j4 j5 k0 k1 k2 k3 : UInt8) : Nat → Value
  | 0 => .pointer (some ⟨bx, 0, none⟩) | 1 => .agg #[.int .u8 (d0.toNat : Int), .int .u8 (d1.toNat : Int), .int .u8 (d2.toNat : Int), .int .u8 (d3.toNat : Int), .int .u8 (d4.toNat : Int), .int .u8 (d5.toNat : Int), .int .u8 (s0.toNat : Int), .int .u8 (s1.toNat : Int), .int .u8 (s2.toNat : Int), .int .u8 (s3.toNat : Int), .int .u8 (s4.toNat : Int), .int .u8 (s5.toNat : Int), .int .u16 (ty : Int), .slice A n c] | 2 => .pointer (some ⟨bx, 14, none⟩) | 3 => .agg #[.int .u8 (e0.toNat : Int), .int .u8 (e1.toNat : Int), .int .u8 (e2.toNat : Int), .int .u8 (e3.toNat : Int), .int .u8 (e4.toNat : Int), .int .u8 (e5.toNat : Int), .int .u8 (t0.toNat : Int), .int .u8 (t1.toNat : Int), .int .u8 (t2.toNat : Int), .int .u8 (t3.toNat : Int), .int .u8 (t4.toNat : Int), .int .u8 (t5.toNat : Int), .int .u16 (tz : Int), .slice B m k]
  | 4 => .pointer (some ⟨bx + 1, 0, none⟩) | 5 => .agg #[.int .i64 op, .int .u8 (a0.toNat : Int), .int .u8 (a1.toNat : Int), .int .u8 (a2.toNat : Int), .int .u8 (a3.toNat : Int), .int .u8 (a4.toNat : Int), .int .u8 (a5.toNat : Int), .int .u8 (b0.toNat : Int), .int .u8 (b1.toNat : Int), .int .u8 (b2.toNat : Int), .int .u8 (b3.toNat : Int), .int .u8 (c0.toNat : Int), .int .u8 (c1.toNat : Int), .int .u8 (c2.toNat : Int), .int .u8 (c3.toNat : Int), .int .u8 (c4.toNat : Int), .int .u8 (c5.toNat : Int), .int .u8 (g0.toNat : Int), .int .u8 (g1.toNat : Int), .int .u8 (g2.toNat : Int), .int .u8 (g3.toNat : Int)] | 6 => .pointer (some ⟨bx + 1, 21, none⟩) | 7 => .agg #[.int .i64 oq, .int .u8 (h0.toNat : Int), .int .u8 (h1.toNat : Int), .int .u8 (h2.toNat : Int), .int .u8 (h3.toNat : Int), .int .u8 (h4.toNat : Int), .int .u8 (h5.toNat : Int), .int .u8 (i0.toNat : Int), .int .u8 (i1.toNat : Int), .int .u8 (i2.toNat : Int), .int .u8 (i3.toNat : Int), .int .u8 (j0.toNat : Int), .int .u8 (j1.toNat : Int), .int .u8 (j2.toNat : Int), .int .u8 (j3.toNat : Int), .int .u8 (j4.toNat : Int), .int .u8 (j5.toNat : Int), .int .u8 (k0.toNat : Int), .int .u8 (k1.toNat : Int), .int .u8 (k2.toNat : Int), .int .u8 (k3.toNat : Int)] | _ => undef
def unC (d0 d1 d2 d3 d4 d5 s0 s1 s2 s3 s4 s5 : UInt8) (ty : Nat) (A : Option Addr) (n c : Nat) (e0 e1 e2 e3 e4 e5 t0 t1 t2 t3 t4 t5 : UInt8) (tz : Nat) (B : Option Addr) (m k : Nat) (op : Int) (a0 a1 a2 a3 a4 a5 b0 b1 b2 b3 c0 c1 c2 c3 c4 c5 g0 g1 g2 g3 : UInt8) (oq : Int) (h0 h1 h2 h3 h4 h5 i0 i1 i2 i3 j0 j1 j2 j3 j4 j5 k0 k1 k2 k3 : UInt8) : Nat → Array Value
  | 0 => #[.int .u8 (d0.toNat : Int), .int .u8 (d1.toNat : Int), .int .u8 (d2.toNat : Int), .int .u8 (d3.toNat : Int), .int .u8 (d4.toNat : Int), .int .u8 (d5.toNat : Int), .int .u8 (s0.toNat : Int), .int .u8 (s1.toNat : Int), .int .u8 (s2.toNat : Int), .int .u8 (s3.toNat : Int), .int .u8 (s4.toNat : Int), .int .u8 (s5.toNat : Int), .int .u16 (ty : Int), .slice A n c] | 1 => #[.int .u8 (e0.toNat : Int), .int .u8 (e1.toNat : Int), .int .u8 (e2.toNat : Int), .int .u8 (e3.toNat : Int), .int .u8 (e4.toNat : Int), .int .u8 (e5.toNat : Int), .int .u8 (t0.toNat : Int), .int .u8 (t1.toNat : Int), .int .u8 (t2.toNat : Int), .int .u8 (t3.toNat : Int), .int .u8 (t4.toNat : Int), .int .u8 (t5.toNat : Int), .int .u16 (tz : Int), .slice B m k] | 2 => #[.int .i64 op, .int .u8 (a0.toNat : Int), .int .u8 (a1.toNat : Int), .int .u8 (a2.toNat : Int), .int .u8 (a3.toNat : Int), .int .u8 (a4.toNat : Int), .int .u8 (a5.toNat : Int), .int .u8 (b0.toNat : Int), .int .u8 (b1.toNat : Int), .int .u8 (b2.toNat : Int), .int .u8 (b3.toNat : Int), .int .u8 (c0.toNat : Int), .int .u8 (c1.toNat : Int), .int .u8 (c2.toNat : Int), .int .u8 (c3.toNat : Int), .int .u8 (c4.toNat : Int), .int .u8 (c5.toNat : Int), .int .u8 (g0.toNat : Int), .int .u8 (g1.toNat : Int), .int .u8 (g2.toNat : Int), .int .u8 (g3.toNat : Int)] | _ => #[.int .i64 oq, .int .u8 (h0.toNat : Int), .int .u8 (h1.toNat : Int), .int .u8 (h2.toNat : Int), .int .u8 (h3.toNat : Int), .int .u8 (h4.toNat : Int), .int .u8 (h5.toNat : Int), .int .u8 (i0.toNat : Int), .int .u8 (i1.toNat : Int), .int .u8 (i2.toNat : Int), .int .u8 (i3.toNat : Int), .int .u8 (j0.toNat : Int), .int .u8 (j1.toNat : Int), .int .u8 (j2.toNat : Int), .int .u8 (j3.toNat : Int), .int .u8 (j4.toNat : Int), .int .u8 (j5.toNat : Int), .int .u8 (k0.toNat : Int), .int .u8 (k1.toNat : Int), .int .u8 (k2.toNat : Int), .int .u8 (k3.toNat : Int)]
def unZ : Nat → Array Value
  | 0 => #[.int .u8 0, .int .u8 0, .int .u8 0, .int .u8 0, .int .u8 0, .int .u8 0, .int .u8 0, .int .u8 0, .int .u8 0, .int .u8 0, .int .u8 0, .int .u8 0, .int .u16 0, .slice none 0 0] | 1 => #[.int .u8 0, .int .u8 0, .int .u8 0, .int .u8 0, .int .u8 0, .int .u8 0, .int .u8 0, .int .u8 0, .int .u8 0, .int .u8 0, .int .u8 0, .int .u8 0, .int .u16 0, .slice none 0 0] | _ => #[.int .i64 0, .int .u8 0, .int .u8 0, .int .u8 0, .int .u8 0, .int .u8 0, .int .u8 0, .int .u8 0, .int .u8 0, .int .u8 0, .int .u8 0, .int .u8 0, .int .u8 0, .int .u8 0, .int .u8 0, .int .u8 0, .int .u8 0, .int .u8 0, .int .u8 0, .int .u8 0, .int .u8 0]
def unT : Nat → TypeId
  | 0 => 27 | 1 => 27 | _ => 44

noncomputable def unphi (w0 : World) (f0 f1 : Nat) (d0 d1 d2 d3 d4 d5 s0 s1 s2 s3 s4 s5 : UInt8) (ty : Nat) (A : Option Addr) (n c : Nat) (e0 e1 e2 e3 e4 e5 t0 t1 t2 t3 t4 t5 : UInt8) (tz : Nat) (B : Option Addr) (m k : Nat) (op : Int) (a0 a1 a2 a3 a4 a5 b0 b1 b2 b3 c0 c1 c2 c3 c4 c5 g0 g1 g2 g3 : UInt8) (oq : Int) (h0 h1 h2 h3 h4 h5 i0 i1 i2 i3 j0 j1 j2 j3 j4 j5 k0 k1 k2 k3 : UInt8) (x1 x2 : List UInt8) (y1 y2 N1 N2 cap1 cap2 : Nat) (SM : Bool) : Nat → St := fun i => ([St.val (.int .i64 0),
  St.val (.bool false),
  St.val (.bool false),
  St.val (.int .i64 0),
  St.val (.bool false),
  St.val (.bool false),
  St.val (.bool false),
  St.val (.slice (some ⟨y1, 0, none⟩) N1 cap1),
  St.val (.string (str x1)),
  St.val (.slice (some ⟨y2, 0, none⟩) N2 cap2),
  St.val (.string (str x2)),
  St.val (.bool SM),
  St.val (.agg #[.int .u8 (d0.toNat : Int), .int .u8 (d1.toNat : Int), .int .u8 (d2.toNat : Int), .int .u8 (d3.toNat : Int), .int .u8 (d4.toNat : Int), .int .u8 (d5.toNat : Int), .int .u8 (s0.toNat : Int), .int .u8 (s1.toNat : Int), .int .u8 (s2.toNat : Int), .int .u8 (s3.toNat : Int), .int .u8 (s4.toNat : Int), .int .u8 (s5.toNat : Int), .int .u16 (ty : Int), .slice A n c]),
  St.val (.agg #[.int .u8 (e0.toNat : Int), .int .u8 (e1.toNat : Int), .int .u8 (e2.toNat : Int), .int .u8 (e3.toNat : Int), .int .u8 (e4.toNat : Int), .int .u8 (e5.toNat : Int), .int .u8 (t0.toNat : Int), .int .u8 (t1.toNat : Int), .int .u8 (t2.toNat : Int), .int .u8 (t3.toNat : Int), .int .u8 (t4.toNat : Int), .int .u8 (t5.toNat : Int), .int .u16 (tz : Int), .slice B m k]),
  St.val (.bool SM),
  St.val (.bool false),
  St.val (.bool false)] : List St).getD i St.any
noncomputable def unphj (p0 p1 : Nat) (d0 d1 d2 d3 d4 d5 s0 s1 s2 s3 s4 s5 : UInt8) (ty : Nat) (A : Option Addr) (n c : Nat) (e0 e1 e2 e3 e4 e5 t0 t1 t2 t3 t4 t5 : UInt8) (tz : Nat) (B : Option Addr) (m k : Nat) (op : Int) (a0 a1 a2 a3 a4 a5 b0 b1 b2 b3 c0 c1 c2 c3 c4 c5 g0 g1 g2 g3 : UInt8) (oq : Int) (h0 h1 h2 h3 h4 h5 i0 i1 i2 i3 j0 j1 j2 j3 j4 j5 k0 k1 k2 k3 : UInt8) (x3 x4 : List UInt8) (y3 y4 cap3 cap4 : Nat) (SA : Bool) : Nat → St := fun i => ([St.val (.slice (some ⟨y3, 0, none⟩) 28 cap3),
  St.val (.string (str x3)),
  St.val (.slice (some ⟨y4, 0, none⟩) 28 cap4),
  St.val (.string (str x4)),
  St.val (.bool SA),
  St.val (.agg #[.int .i64 op, .int .u8 (a0.toNat : Int), .int .u8 (a1.toNat : Int), .int .u8 (a2.toNat : Int), .int .u8 (a3.toNat : Int), .int .u8 (a4.toNat : Int), .int .u8 (a5.toNat : Int), .int .u8 (b0.toNat : Int), .int .u8 (b1.toNat : Int), .int .u8 (b2.toNat : Int), .int .u8 (b3.toNat : Int), .int .u8 (c0.toNat : Int), .int .u8 (c1.toNat : Int), .int .u8 (c2.toNat : Int), .int .u8 (c3.toNat : Int), .int .u8 (c4.toNat : Int), .int .u8 (c5.toNat : Int), .int .u8 (g0.toNat : Int), .int .u8 (g1.toNat : Int), .int .u8 (g2.toNat : Int), .int .u8 (g3.toNat : Int)]),
  St.val (.agg #[.int .i64 oq, .int .u8 (h0.toNat : Int), .int .u8 (h1.toNat : Int), .int .u8 (h2.toNat : Int), .int .u8 (h3.toNat : Int), .int .u8 (h4.toNat : Int), .int .u8 (h5.toNat : Int), .int .u8 (i0.toNat : Int), .int .u8 (i1.toNat : Int), .int .u8 (i2.toNat : Int), .int .u8 (i3.toNat : Int), .int .u8 (j0.toNat : Int), .int .u8 (j1.toNat : Int), .int .u8 (j2.toNat : Int), .int .u8 (j3.toNat : Int), .int .u8 (j4.toNat : Int), .int .u8 (j5.toNat : Int), .int .u8 (k0.toNat : Int), .int .u8 (k1.toNat : Int), .int .u8 (k2.toNat : Int), .int .u8 (k3.toNat : Int)]),
  St.val (.bool SA),
  St.val (.bool true),
  St.val (.bool true),
  St.val (.int .i64 6),
  St.val (.bool true),
  St.val (.bool true),
  St.val (.bool true)] : List St).getD i St.any

/-- the region that parts the two arrays: what holds behind it -/
def UnGood (w w2 : World) (f0 f1 p0 p1 : Nat) (d0 d1 d2 d3 d4 d5 s0 s1 s2 s3 s4 s5 : UInt8) (ty : Nat) (A : Option Addr) (n c : Nat) (e0 e1 e2 e3 e4 e5 t0 t1 t2 t3 t4 t5 : UInt8) (tz : Nat) (B : Option Addr) (m k : Nat) (op : Int) (a0 a1 a2 a3 a4 a5 b0 b1 b2 b3 c0 c1 c2 c3 c4 c5 g0 g1 g2 g3 : UInt8) (oq : Int) (h0 h1 h2 h3 h4 h5 i0 i1 i2 i3 j0 j1 j2 j3 j4 j5 k0 k1 k2 k3 : UInt8) : Prop :=
  Kp w w2 ∧ w2.heap[f0]? = some (.cells #[.int .u8 (d0.toNat : Int), .int .u8 (d1.toNat : Int), .int .u8 (d2.toNat : Int), .int .u8 (d3.toNat : Int), .int .u8 (d4.toNat : Int), .int .u8 (d5.toNat : Int), .int .u8 (s0.toNat : Int), .int .u8 (s1.toNat : Int), .int .u8 (s2.toNat : Int), .int .u8 (s3.toNat : Int), .int .u8 (s4.toNat : Int), .int .u8 (s5.toNat : Int), .int .u16 (ty : Int), .slice A n c] 27 (0, 0)) ∧ w2.heap[f1]? = some (.cells #[.int .u8 (e0.toNat : Int), .int .u8 (e1.toNat : Int), .int .u8 (e2.toNat : Int), .int .u8 (e3.toNat : Int), .int .u8 (e4.toNat : Int), .int .u8 (e5.toNat : Int), .int .u8 (t0.toNat : Int), .int .u8 (t1.toNat : Int), .int .u8 (t2.toNat : Int), .int .u8 (t3.toNat : Int), .int .u8 (t4.toNat : Int), .int .u8 (t5.toNat : Int), .int .u16 (tz : Int), .slice B m k] 27 (0, 0)) ∧ w2.heap[p0]? = some (.cells #[.int .i64 op, .int .u8 (a0.toNat : Int), .int .u8 (a1.toNat : Int), .int .u8 (a2.toNat : Int), .int .u8 (a3.toNat : Int), .int .u8 (a4.toNat : Int), .int .u8 (a5.toNat : Int), .int .u8 (b0.toNat : Int), .int .u8 (b1.toNat : Int), .int .u8 (b2.toNat : Int), .int .u8 (b3.toNat : Int), .int .u8 (c0.toNat : Int), .int .u8 (c1.toNat : Int), .int .u8 (c2.toNat : Int), .int .u8 (c3.toNat : Int), .int .u8 (c4.toNat : Int), .int .u8 (c5.toNat : Int), .int .u8 (g0.toNat : Int), .int .u8 (g1.toNat : Int), .int .u8 (g2.toNat : Int), .int .u8 (g3.toNat : Int)] 44 (0, 0)) ∧ w2.heap[p1]? = some (.cells #[.int .i64 oq, .int .u8 (h0.toNat : Int), .int .u8 (h1.toNat : Int), .int .u8 (h2.toNat : Int), .int .u8 (h3.toNat : Int), .int .u8 (h4.toNat : Int), .int .u8 (h5.toNat : Int), .int .u8 (i0.toNat : Int), .int .u8 (i1.toNat : Int), .int .u8 (i2.toNat : Int), .int .u8 (i3.toNat : Int), .int .u8 (j0.toNat : Int), .int .u8 (j1.toNat : Int), .int .u8 (j2.toNat : Int), .int .u8 (j3.toNat : Int), .int .u8 (j4.toNat : Int), .int .u8 (j5.toNat : Int), .int .u8 (k0.toNat : Int), .int .u8 (k1.toNat : Int), .int .u8 (k2.toNat : Int), .int .u8 (k3.toNat : Int)] 44 (0, 0))

set_option maxRecDepth 100000 in
set_option maxHeartbeats 8000000 in
theorem unlike_walk (w : World) (d0 d1 d2 d3 d4 d5 s0 s1 s2 s3 s4 s5 : UInt8) (ty : Nat) (A : Option Addr) (n c : Nat) (e0 e1 e2 e3 e4 e5 t0 t1 t2 t3 t4 t5 : UInt8) (tz : Nat) (B : Option Addr) (m k : Nat) (l lb : List UInt8) (op : Int) (a0 a1 a2 a3 a4 a5 b0 b1 b2 b3 c0 c1 c2 c3 c4 c5 g0 g1 g2 g3 : UInt8) (oq : Int) (h0 h1 h2 h3 h4 h5 i0 i1 i2 i3 j0 j1 j2 j3 j4 j5 k0 k1 k2 k3 : UInt8) (at_ : Int) (hty : ty ≤ 65535) (htz : tz ≤ 65535) (hA : Rd w 0 A n l) (hB : Rd w 0 B m lb) :
    Calls Try.prog 11 #[.agg #[.int .u8 (d0.toNat : Int), .int .u8 (d1.toNat : Int), .int .u8 (d2.toNat : Int), .int .u8 (d3.toNat : Int), .int .u8 (d4.toNat : Int), .int .u8 (d5.toNat : Int), .int .u8 (s0.toNat : Int), .int .u8 (s1.toNat : Int), .int .u8 (s2.toNat : Int), .int .u8 (s3.toNat : Int), .int .u8 (s4.toNat : Int), .int .u8 (s5.toNat : Int), .int .u16 (ty : Int), .slice A n c, .int .u8 (e0.toNat : Int), .int .u8 (e1.toNat : Int), .int .u8 (e2.toNat : Int), .int .u8 (e3.toNat : Int), .int .u8 (e4.toNat : Int), .int .u8 (e5.toNat : Int), .int .u8 (t0.toNat : Int), .int .u8 (t1.toNat : Int), .int .u8 (t2.toNat : Int), .int .u8 (t3.toNat : Int), .int .u8 (t4.toNat : Int), .int .u8 (t5.toNat : Int), .int .u16 (tz : Int), .slice B m k], .agg #[.int .i64 op, .int .u8 (a0.toNat : Int), .int .u8 (a1.toNat : Int), .int .u8 (a2.toNat : Int), .int .u8 (a3.toNat : Int), .int .u8 (a4.toNat : Int), .int .u8 (a5.toNat : Int), .int .u8 (b0.toNat : Int), .int .u8 (b1.toNat : Int), .int .u8 (b2.toNat : Int), .int .u8 (b3.toNat : Int), .int .u8 (c0.toNat : Int), .int .u8 (c1.toNat : Int), .int .u8 (c2.toNat : Int), .int .u8 (c3.toNat : Int), .int .u8 (c4.toNat : Int), .int .u8 (c5.toNat : Int), .int .u8 (g0.toNat : Int), .int .u8 (g1.toNat : Int), .int .u8 (g2.toNat : Int), .int .u8 (g3.toNat : Int), .int .i64 oq, .int .u8 (h0.toNat : Int), .int .u8 (h1.toNat : Int), .int .u8 (h2.toNat : Int), .int .u8 (h3.toNat : Int), .int .u8 (h4.toNat : Int), .int .u8 (h5.toNat : Int), .int .u8 (i0.toNat : Int), .int .u8 (i1.toNat : Int), .int .u8 (i2.toNat : Int), .int .u8 (i3.toNat : Int), .int .u8 (j0.toNat : Int), .int .u8 (j1.toNat : Int), .int .u8 (j2.toNat : Int), .int .u8 (j3.toNat : Int), .int .u8 (j4.toNat : Int), .int .u8 (j5.toNat : Int), .int .u8 (k0.toNat : Int), .int .u8 (k1.toNat : Int), .int .u8 (k2.toNat : Int), .int .u8 (k3.toNat : Int)], .int .i64 at_] w fun e w' => e = .returned (.bool true) ∧ Kp w w' := by
  have HA := Lib.hid hA
  have HB := Lib.hid hB
  have HLA := Lib.hid hA.len
  have HLB := Lib.hid hB.len
  have hk0 : Kp w ((w.alloc (.cells #[.int .u8 (d0.toNat : Int), .int .u8 (d1.toNat : Int), .int .u8 (d2.toNat : Int), .int .u8 (d3.toNat : Int), .int .u8 (d4.toNat : Int), .int .u8 (d5.toNat : Int), .int .u8 (s0.toNat : Int), .int .u8 (s1.toNat : Int), .int .u8 (s2.toNat : Int), .int .u8 (s3.toNat : Int), .int .u8 (s4.toNat : Int), .int .u8 (s5.toNat : Int), .int .u16 (ty : Int), .slice A n c, .int .u8 (e0.toNat : Int), .int .u8 (e1.toNat : Int), .int .u8 (e2.toNat : Int), .int .u8 (e3.toNat : Int), .int .u8 (e4.toNat : Int), .int .u8 (e5.toNat : Int), .int .u8 (t0.toNat : Int), .int .u8 (t1.toNat : Int), .int .u8 (t2.toNat : Int), .int .u8 (t3.toNat : Int), .int .u8 (t4.toNat : Int), .int .u8 (t5.toNat : Int), .int .u16 (tz : Int), .slice B m k] 64)).alloc (.cells #[.int .i64 op, .int .u8 (a0.toNat : Int), .int .u8 (a1.toNat : Int), .int .u8 (a2.toNat : Int), .int .u8 (a3.toNat : Int), .int .u8 (a4.toNat : Int), .int .u8 (a5.toNat : Int), .int .u8 (b0.toNat : Int), .int .u8 (b1.toNat : Int), .int .u8 (b2.toNat : Int), .int .u8 (b3.toNat : Int), .int .u8 (c0.toNat : Int), .int .u8 (c1.toNat : Int), .int .u8 (c2.toNat : Int), .int .u8 (c3.toNat : Int), .int .u8 (c4.toNat : Int), .int .u8 (c5.toNat : Int), .int .u8 (g0.toNat : Int), .int .u8 (g1.toNat : Int), .int .u8 (g2.toNat : Int), .int .u8 (g3.toNat : Int), .int .i64 oq, .int .u8 (h0.toNat : Int), .int .u8 (h1.toNat : Int), .int .u8 (h2.toNat : Int), .int .u8 (h3.toNat : Int), .int .u8 (h4.toNat : Int), .int .u8 (h5.toNat : Int), .int .u8 (i0.toNat : Int), .int .u8 (i1.toNat : Int), .int .u8 (i2.toNat : Int), .int .u8 (i3.toNat : Int), .int .u8 (j0.toNat : Int), .int .u8 (j1.toNat : Int), .int .u8 (j2.toNat : Int), .int .u8 (j3.toNat : Int), .int .u8 (j4.toNat : Int), .int .u8 (j5.toNat : Int), .int .u8 (k0.toNat : Int), .int .u8 (k1.toNat : Int), .int .u8 (k2.toNat : Int), .int .u8 (k3.toNat : Int)] 65)) := ((Kp.refl w).alloc _).alloc _
  have HK0 := Lib.hid hk0
  have hl : (((w.alloc (.cells #[.int .u8 (d0.toNat : Int), .int .u8 (d1.toNat : Int), .int .u8 (d2.toNat : Int), .int .u8 (d3.toNat : Int), .int .u8 (d4.toNat : Int), .int .u8 (d5.toNat : Int), .int .u8 (s0.toNat : Int), .int .u8 (s1.toNat : Int), .int .u8 (s2.toNat : Int), .int .u8 (s3.toNat : Int), .int .u8 (s4.toNat : Int), .int .u8 (s5.toNat : Int), .int .u16 (ty : Int), .slice A n c, .int .u8 (e0.toNat : Int), .int .u8 (e1.toNat : Int), .int .u8 (e2.toNat : Int), .int .u8 (e3.toNat : Int), .int .u8 (e4.toNat : Int), .int .u8 (e5.toNat : Int), .int .u8 (t0.toNat : Int), .int .u8 (t1.toNat : Int), .int .u8 (t2.toNat : Int), .int .u8 (t3.toNat : Int), .int .u8 (t4.toNat : Int), .int .u8 (t5.toNat : Int), .int .u16 (tz : Int), .slice B m k] 64)).alloc (.cells #[.int .i64 op, .int .u8 (a0.toNat : Int), .int .u8 (a1.toNat : Int), .int .u8 (a2.toNat : Int), .int .u8 (a3.toNat : Int), .int .u8 (a4.toNat : Int), .int .u8 (a5.toNat : Int), .int .u8 (b0.toNat : Int), .int .u8 (b1.toNat : Int), .int .u8 (b2.toNat : Int), .int .u8 (b3.toNat : Int), .int .u8 (c0.toNat : Int), .int .u8 (c1.toNat : Int), .int .u8 (c2.toNat : Int), .int .u8 (c3.toNat : Int), .int .u8 (c4.toNat : Int), .int .u8 (c5.toNat : Int), .int .u8 (g0.toNat : Int), .int .u8 (g1.toNat : Int), .int .u8 (g2.toNat : Int), .int .u8 (g3.toNat : Int), .int .i64 oq, .int .u8 (h0.toNat : Int), .int .u8 (h1.toNat : Int), .int .u8 (h2.toNat : Int), .int .u8 (h3.toNat : Int), .int .u8 (h4.toNat : Int), .int .u8 (h5.toNat : Int), .int .u8 (i0.toNat : Int), .int .u8 (i1.toNat : Int), .int .u8 (i2.toNat : Int), .int .u8 (i3.toNat : Int), .int .u8 (j0.toNat : Int), .int .u8 (j1.toNat : Int), .int .u8 (j2.toNat : Int), .int .u8 (j3.toNat : Int), .int .u8 (j4.toNat : Int), .int .u8 (j5.toNat : Int), .int .u8 (k0.toNat : Int), .int .u8 (k1.toNat : Int), .int .u8 (k2.toNat : Int), .int .u8 (k3.toNat : Int)] 65))).heap[w.heap.size]? = some (.cells #[.int .u8 (d0.toNat : Int), .int .u8 (d1.toNat : Int), .int .u8 (d2.toNat : Int), .int .u8 (d3.toNat : Int), .int .u8 (d4.toNat : Int), .int .u8 (d5.toNat : Int), .int .u8 (s0.toNat : Int), .int .u8 (s1.toNat : Int), .int .u8 (s2.toNat : Int), .int .u8 (s3.toNat : Int), .int .u8 (s4.toNat : Int), .int .u8 (s5.toNat : Int), .int .u16 (ty : Int), .slice A n c, .int .u8 (e0.toNat : Int), .int .u8 (e1.toNat : Int), .int .u8 (e2.toNat : Int), .int .u8 (e3.toNat : Int), .int .u8 (e4.toNat : Int), .int .u8 (e5.toNat : Int), .int .u8 (t0.toNat : Int), .int .u8 (t1.toNat : Int), .int .u8 (t2.toNat : Int), .int .u8 (t3.toNat : Int), .int .u8 (t4.toNat : Int), .int .u8 (t5.toNat : Int), .int .u16 (tz : Int), .slice B m k] 64 (0, 0)) := (Below.heap_alloc (w.alloc (.cells #[.int .u8 (d0.toNat : Int), .int .u8 (d1.toNat : Int), .int .u8 (d2.toNat : Int), .int .u8 (d3.toNat : Int), .int .u8 (d4.toNat : Int), .int .u8 (d5.toNat : Int), .int .u8 (s0.toNat : Int), .int .u8 (s1.toNat : Int), .int .u8 (s2.toNat : Int), .int .u8 (s3.toNat : Int), .int .u8 (s4.toNat : Int), .int .u8 (s5.toNat : Int), .int .u16 (ty : Int), .slice A n c, .int .u8 (e0.toNat : Int), .int .u8 (e1.toNat : Int), .int .u8 (e2.toNat : Int), .int .u8 (e3.toNat : Int), .int .u8 (e4.toNat : Int), .int .u8 (e5.toNat : Int), .int .u8 (t0.toNat : Int), .int .u8 (t1.toNat : Int), .int .u8 (t2.toNat : Int), .int .u8 (t3.toNat : Int), .int .u8 (t4.toNat : Int), .int .u8 (t5.toNat : Int), .int .u16 (tz : Int), .slice B m k] 64)) (.cells #[.int .i64 op, .int .u8 (a0.toNat : Int), .int .u8 (a1.toNat : Int), .int .u8 (a2.toNat : Int), .int .u8 (a3.toNat : Int), .int .u8 (a4.toNat : Int), .int .u8 (a5.toNat : Int), .int .u8 (b0.toNat : Int), .int .u8 (b1.toNat : Int), .int .u8 (b2.toNat : Int), .int .u8 (b3.toNat : Int), .int .u8 (c0.toNat : Int), .int .u8 (c1.toNat : Int), .int .u8 (c2.toNat : Int), .int .u8 (c3.toNat : Int), .int .u8 (c4.toNat : Int), .int .u8 (c5.toNat : Int), .int .u8 (g0.toNat : Int), .int .u8 (g1.toNat : Int), .int .u8 (g2.toNat : Int), .int .u8 (g3.toNat : Int), .int .i64 oq, .int .u8 (h0.toNat : Int), .int .u8 (h1.toNat : Int), .int .u8 (h2.toNat : Int), .int .u8 (h3.toNat : Int), .int .u8 (h4.toNat : Int), .int .u8 (h5.toNat : Int), .int .u8 (i0.toNat : Int), .int .u8 (i1.toNat : Int), .int .u8 (i2.toNat : Int), .int .u8 (i3.toNat : Int), .int .u8 (j0.toNat : Int), .int .u8 (j1.toNat : Int), .int .u8 (j2.toNat : Int), .int .u8 (j3.toNat : Int), .int .u8 (j4.toNat : Int), .int .u8 (j5.toNat : Int), .int .u8 (k0.toNat : Int), .int .u8 (k1.toNat : Int), .int .u8 (k2.toNat : Int), .int .u8 (k3.toNat : Int)] 65) w.heap.size (by simp)).trans (heap_alloc_new w _)
  have hm : (((w.alloc (.cells #[.int .u8 (d0.toNat : Int), .int .u8 (d1.toNat : Int), .int .u8 (d2.toNat : Int), .int .u8 (d3.toNat : Int), .int .u8 (d4.toNat : Int), .int .u8 (d5.toNat : Int), .int .u8 (s0.toNat : Int), .int .u8 (s1.toNat : Int), .int .u8 (s2.toNat : Int), .int .u8 (s3.toNat : Int), .int .u8 (s4.toNat : Int), .int .u8 (s5.toNat : Int), .int .u16 (ty : Int), .slice A n c, .int .u8 (e0.toNat : Int), .int .u8 (e1.toNat : Int), .int .u8 (e2.toNat : Int), .int .u8 (e3.toNat : Int), .int .u8 (e4.toNat : Int), .int .u8 (e5.toNat : Int), .int .u8 (t0.toNat : Int), .int .u8 (t1.toNat : Int), .int .u8 (t2.toNat : Int), .int .u8 (t3.toNat : Int), .int .u8 (t4.toNat : Int), .int .u8 (t5.toNat : Int), .int .u16 (tz : Int), .slice B m k] 64)).alloc (.cells #[.int .i64 op, .int .u8 (a0.toNat : Int), .int .u8 (a1.toNat : Int), .int .u8 (a2.toNat : Int), .int .u8 (a3.toNat : Int), .int .u8 (a4.toNat : Int), .int .u8 (a5.toNat : Int), .int .u8 (b0.toNat : Int), .int .u8 (b1.toNat : Int), .int .u8 (b2.toNat : Int), .int .u8 (b3.toNat : Int), .int .u8 (c0.toNat : Int), .int .u8 (c1.toNat : Int), .int .u8 (c2.toNat : Int), .int .u8 (c3.toNat : Int), .int .u8 (c4.toNat : Int), .int .u8 (c5.toNat : Int), .int .u8 (g0.toNat : Int), .int .u8 (g1.toNat : Int), .int .u8 (g2.toNat : Int), .int .u8 (g3.toNat : Int), .int .i64 oq, .int .u8 (h0.toNat : Int), .int .u8 (h1.toNat : Int), .int .u8 (h2.toNat : Int), .int .u8 (h3.toNat : Int), .int .u8 (h4.toNat : Int), .int .u8 (h5.toNat : Int), .int .u8 (i0.toNat : Int), .int .u8 (i1.toNat : Int), .int .u8 (i2.toNat : Int), .int .u8 (i3.toNat : Int), .int .u8 (j0.toNat : Int), .int .u8 (j1.toNat : Int), .int .u8 (j2.toNat : Int), .int .u8 (j3.toNat : Int), .int .u8 (j4.toNat : Int), .int .u8 (j5.toNat : Int), .int .u8 (k0.toNat : Int), .int .u8 (k1.toNat : Int), .int .u8 (k2.toNat : Int), .int .u8 (k3.toNat : Int)] 65))).heap[w.heap.size + 1]? = some (.cells #[.int .i64 op, .int .u8 (a0.toNat : Int), .int .u8 (a1.toNat : Int), .int .u8 (a2.toNat : Int), .int .u8 (a3.toNat : Int), .int .u8 (a4.toNat : Int), .int .u8 (a5.toNat : Int), .int .u8 (b0.toNat : Int), .int .u8 (b1.toNat : Int), .int .u8 (b2.toNat : Int), .int .u8 (b3.toNat : Int), .int .u8 (c0.toNat : Int), .int .u8 (c1.toNat : Int), .int .u8 (c2.toNat : Int), .int .u8 (c3.toNat : Int), .int .u8 (c4.toNat : Int), .int .u8 (c5.toNat : Int), .int .u8 (g0.toNat : Int), .int .u8 (g1.toNat : Int), .int .u8 (g2.toNat : Int), .int .u8 (g3.toNat : Int), .int .i64 oq, .int .u8 (h0.toNat : Int), .int .u8 (h1.toNat : Int), .int .u8 (h2.toNat : Int), .int .u8 (h3.toNat : Int), .int .u8 (h4.toNat : Int), .int .u8 (h5.toNat : Int), .int .u8 (i0.toNat : Int), .int .u8 (i1.toNat : Int), .int .u8 (i2.toNat : Int), .int .u8 (i3.toNat : Int), .int .u8 (j0.toNat : Int), .int .u8 (j1.toNat : Int), .int .u8 (j2.toNat : Int), .int .u8 (j3.toNat : Int), .int .u8 (j4.toNat : Int), .int .u8 (j5.toNat : Int), .int .u8 (k0.toNat : Int), .int .u8 (k1.toNat : Int), .int .u8 (k2.toNat : Int), .int .u8 (k3.toNat : Int)] 65 (0, 0)) := by
    have := heap_alloc_new (w.alloc (.cells #[.int .u8 (d0.toNat : Int), .int .u8 (d1.toNat : Int), .int .u8 (d2.toNat : Int), .int .u8 (d3.toNat : Int), .int .u8 (d4.toNat : Int), .int .u8 (d5.toNat : Int), .int .u8 (s0.toNat : Int), .int .u8 (s1.toNat : Int), .int .u8 (s2.toNat : Int), .int .u8 (s3.toNat : Int), .int .u8 (s4.toNat : Int), .int .u8 (s5.toNat : Int), .int .u16 (ty : Int), .slice A n c, .int .u8 (e0.toNat : Int), .int .u8 (e1.toNat : Int), .int .u8 (e2.toNat : Int), .int .u8 (e3.toNat : Int), .int .u8 (e4.toNat : Int), .int .u8 (e5.toNat : Int), .int .u8 (t0.toNat : Int), .int .u8 (t1.toNat : Int), .int .u8 (t2.toNat : Int), .int .u8 (t3.toNat : Int), .int .u8 (t4.toNat : Int), .int .u8 (t5.toNat : Int), .int .u16 (tz : Int), .slice B m k] 64)) (.cells #[.int .i64 op, .int .u8 (a0.toNat : Int), .int .u8 (a1.toNat : Int), .int .u8 (a2.toNat : Int), .int .u8 (a3.toNat : Int), .int .u8 (a4.toNat : Int), .int .u8 (a5.toNat : Int), .int .u8 (b0.toNat : Int), .int .u8 (b1.toNat : Int), .int .u8 (b2.toNat : Int), .int .u8 (b3.toNat : Int), .int .u8 (c0.toNat : Int), .int .u8 (c1.toNat : Int), .int .u8 (c2.toNat : Int), .int .u8 (c3.toNat : Int), .int .u8 (c4.toNat : Int), .int .u8 (c5.toNat : Int), .int .u8 (g0.toNat : Int), .int .u8 (g1.toNat : Int), .int .u8 (g2.toNat : Int), .int .u8 (g3.toNat : Int), .int .i64 oq, .int .u8 (h0.toNat : Int), .int .u8 (h1.toNat : Int), .int .u8 (h2.toNat : Int), .int .u8 (h3.toNat : Int), .int .u8 (h4.toNat : Int), .int .u8 (h5.toNat : Int), .int .u8 (i0.toNat : Int), .int .u8 (i1.toNat : Int), .int .u8 (i2.toNat : Int), .int .u8 (i3.toNat : Int), .int .u8 (j0.toNat : Int), .int .u8 (j1.toNat : Int), .int .u8 (j2.toNat : Int), .int .u8 (j3.toNat : Int), .int .u8 (j4.toNat : Int), .int .u8 (j5.toNat : Int), .int .u8 (k0.toNat : Int), .int .u8 (k1.toNat : Int), .int .u8 (k2.toNat : Int), .int .u8 (k3.toNat : Int)] 65)
    rw [show (w.alloc (.cells #[.int .u8 (d0.toNat : Int), .int .u8 (d1.toNat : Int), .int .u8 (d2.toNat : Int), .int .u8 (d3.toNat : Int), .int .u8 (d4.toNat : Int), .int .u8 (d5.toNat : Int), .int .u8 (s0.toNat : Int), .int .u8 (s1.toNat : Int), .int .u8 (s2.toNat : Int), .int .u8 (s3.toNat : Int), .int .u8 (s4.toNat : Int), .int .u8 (s5.toNat : Int), .int .u16 (ty : Int), .slice A n c, .int .u8 (e0.toNat : Int), .int .u8 (e1.toNat : Int), .int .u8 (e2.toNat : Int), .int .u8 (e3.toNat : Int), .int .u8 (e4.toNat : Int), .int .u8 (e5.toNat : Int), .int .u8 (t0.toNat : Int), .int .u8 (t1.toNat : Int), .int .u8 (t2.toNat : Int), .int .u8 (t3.toNat : Int), .int .u8 (t4.toNat : Int), .int .u8 (t5.toNat : Int), .int .u16 (tz : Int), .slice B m k] 64)).heap.size = w.heap.size + 1 by simp] at this
    exact this
  have HRL := Lib.hid hl
  have HRM := Lib.hid hm
  clear hA hB hk0 hl hm
  have u0 := build_arp
  go_enter Try.func11, Try.ntmps11
  go_wp2
  have hl := HRL.out
  have hm := HRM.out
  have HKK := Lib.hid HK0.out
  generalize hw1 : ((w.alloc (.cells #[.int .u8 (d0.toNat : Int), .int .u8 (d1.toNat : Int), .int .u8 (d2.toNat : Int), .int .u8 (d3.toNat : Int), .int .u8 (d4.toNat : Int), .int .u8 (d5.toNat : Int), .int .u8 (s0.toNat : Int), .int .u8 (s1.toNat : Int), .int .u8 (s2.toNat : Int), .int .u8 (s3.toNat : Int), .int .u8 (s4.toNat : Int), .int .u8 (s5.toNat : Int), .int .u16 (ty : Int), .slice A n c, .int .u8 (e0.toNat : Int), .int .u8 (e1.toNat : Int), .int .u8 (e2.toNat : Int), .int .u8 (e3.toNat : Int), .int .u8 (e4.toNat : Int), .int .u8 (e5.toNat : Int), .int .u8 (t0.toNat : Int), .int .u8 (t1.toNat : Int), .int .u8 (t2.toNat : Int), .int .u8 (t3.toNat : Int), .int .u8 (t4.toNat : Int), .int .u8 (t5.toNat : Int), .int .u16 (tz : Int), .slice B m k] 64)).alloc (.cells #[.int .i64 op, .int .u8 (a0.toNat : Int), .int .u8 (a1.toNat : Int), .int .u8 (a2.toNat : Int), .int .u8 (a3.toNat : Int), .int .u8 (a4.toNat : Int), .int .u8 (a5.toNat : Int), .int .u8 (b0.toNat : Int), .int .u8 (b1.toNat : Int), .int .u8 (b2.toNat : Int), .int .u8 (b3.toNat : Int), .int .u8 (c0.toNat : Int), .int .u8 (c1.toNat : Int), .int .u8 (c2.toNat : Int), .int .u8 (c3.toNat : Int), .int .u8 (c4.toNat : Int), .int .u8 (c5.toNat : Int), .int .u8 (g0.toNat : Int), .int .u8 (g1.toNat : Int), .int .u8 (g2.toNat : Int), .int .u8 (g3.toNat : Int), .int .i64 oq, .int .u8 (h0.toNat : Int), .int .u8 (h1.toNat : Int), .int .u8 (h2.toNat : Int), .int .u8 (h3.toNat : Int), .int .u8 (h4.toNat : Int), .int .u8 (h5.toNat : Int), .int .u8 (i0.toNat : Int), .int .u8 (i1.toNat : Int), .int .u8 (i2.toNat : Int), .int .u8 (i3.toNat : Int), .int .u8 (j0.toNat : Int), .int .u8 (j1.toNat : Int), .int .u8 (j2.toNat : Int), .int .u8 (j3.toNat : Int), .int .u8 (j4.toNat : Int), .int .u8 (j5.toNat : Int), .int .u8 (k0.toNat : Int), .int .u8 (k1.toNat : Int), .int .u8 (k2.toNat : Int), .int .u8 (k3.toNat : Int)] 65)) = w1 at hl hm HKK ⊢
  obtain ⟨bx, hb0⟩ : ∃ b, w.heap.size = b := ⟨_, rfl⟩
  rw [hb0] at hl hm ⊢
  clear HRL HRM HK0 hb0 hw1
  have hw1 := HKK
  refine wp_region_inv (by kernel_rfl) (JU w1 (unX bx d0 d1 d2 d3 d4 d5 s0 s1 s2 s3 s4 s5 ty A n c e0 e1 e2 e3 e4 e5 t0 t1 t2 t3 t4 t5 tz B m k op a0 a1 a2 a3 a4 a5 b0 b1 b2 b3 c0 c1 c2 c3 c4 c5 g0 g1 g2 g3 oq h0 h1 h2 h3 h4 h5 i0 i1 i2 i3 j0 j1 j2 j3 j4 j5 k0 k1 k2 k3) (unC d0 d1 d2 d3 d4 d5 s0 s1 s2 s3 s4 s5 ty A n c e0 e1 e2 e3 e4 e5 t0 t1 t2 t3 t4 t5 tz B m k op a0 a1 a2 a3 a4 a5 b0 b1 b2 b3 c0 c1 c2 c3 c4 c5 g0 g1 g2 g3 oq h0 h1 h2 h3 h4 h5 i0 i1 i2 i3 j0 j1 j2 j3 j4 j5 k0 k1 k2 k3) unZ unT) [18, 19, 20, 21, 22, 23, 24, 25, 7, 8, 9, 10] (by kernel_rfl) (by kernel_rfl) (JU.start w1 _ _ _ _) ⟨?_, ?_, ?_, ?_, ?_, ?_, ?_, ?_, ?_, ?_, ?_, ?_, ?_, ?_, ?_, ?_, trivial⟩ ?_
  · intro L f a W hJ hL hD hS hO KK hK
    have q3 : a.tmps.getD 3 undef = .pointer (some ⟨bx, 0, none⟩) := hO 3 (by decide)
    have r3 := q3
    rw [Array.getD_eq_getD_getElem?] at r3
    clear hD hS hO hL hl hm hw1
    go_simp
    exact hK _ _ (hJ.put 0 (by omega))
  · intro L f a W hJ hL hD hS hO KK hK
    have q18 : a.tmps.getD 18 undef = _ := (hS 0 18 rfl).trans (hJ.val 0 (by omega) (hD ⟨0, .data⟩ (by simp) rfl))
    have hrow := (hJ.kp.block _ (Array.getElem?_eq_some_iff.1 hl).1).trans hl
    refine old_part (.tmp 18) 27 _ [.int .u8 (d0.toNat : Int), .int .u8 (d1.toNat : Int), .int .u8 (d2.toNat : Int), .int .u8 (d3.toNat : Int), .int .u8 (d4.toNat : Int), .int .u8 (d5.toNat : Int), .int .u8 (s0.toNat : Int), .int .u8 (s1.toNat : Int), .int .u8 (s2.toNat : Int), .int .u8 (s3.toNat : Int), .int .u8 (s4.toNat : Int), .int .u8 (s5.toNat : Int), .int .u16 (ty : Int), .slice A n c] rfl q18 hrow rfl Try.underlying27 rfl szFrame ?_
    exact hK _ _ (hJ.put 1 (by omega))
  · intro L f a W hJ hL hD hS hO KK hK
    have q3 : a.tmps.getD 3 undef = .pointer (some ⟨bx, 0, none⟩) := hO 3 (by decide)
    have r3 := q3
    rw [Array.getD_eq_getD_getElem?] at r3
    clear hD hS hO hL hl hm hw1
    go_simp
    exact hK _ _ (hJ.put 2 (by omega))
  · intro L f a W hJ hL hD hS hO KK hK
    have q20 : a.tmps.getD 20 undef = _ := (hS 2 20 rfl).trans (hJ.val 2 (by omega) (hD ⟨2, .data⟩ (by simp) rfl))
    have hrow := (hJ.kp.block _ (Array.getElem?_eq_some_iff.1 hl).1).trans hl
    refine old_part (.tmp 20) 27 _ [.int .u8 (e0.toNat : Int), .int .u8 (e1.toNat : Int), .int .u8 (e2.toNat : Int), .int .u8 (e3.toNat : Int), .int .u8 (e4.toNat : Int), .int .u8 (e5.toNat : Int), .int .u8 (t0.toNat : Int), .int .u8 (t1.toNat : Int), .int .u8 (t2.toNat : Int), .int .u8 (t3.toNat : Int), .int .u8 (t4.toNat : Int), .int .u8 (t5.toNat : Int), .int .u16 (tz : Int), .slice B m k] rfl q20 hrow rfl Try.underlying27 rfl szFrame ?_
    exact hK _ _ (hJ.put 3 (by omega))
  · intro L f a W hJ hL hD hS hO KK hK
    have q4 : a.tmps.getD 4 undef = .pointer (some ⟨bx + 1, 0, none⟩) := hO 4 (by decide)
    have r4 := q4
    rw [Array.getD_eq_getD_getElem?] at r4
    clear hD hS hO hL hl hm hw1
    go_simp
    exact hK _ _ (hJ.put 4 (by omega))
  · intro L f a W hJ hL hD hS hO KK hK
    have q22 : a.tmps.getD 22 undef = _ := (hS 4 22 rfl).trans (hJ.val 4 (by omega) (hD ⟨4, .data⟩ (by simp) rfl))
    have hrow := (hJ.kp.block _ (Array.getElem?_eq_some_iff.1 hm).1).trans hm
    refine old_part (.tmp 22) 44 _ [.int .i64 op, .int .u8 (a0.toNat : Int), .int .u8 (a1.toNat : Int), .int .u8 (a2.toNat : Int), .int .u8 (a3.toNat : Int), .int .u8 (a4.toNat : Int), .int .u8 (a5.toNat : Int), .int .u8 (b0.toNat : Int), .int .u8 (b1.toNat : Int), .int .u8 (b2.toNat : Int), .int .u8 (b3.toNat : Int), .int .u8 (c0.toNat : Int), .int .u8 (c1.toNat : Int), .int .u8 (c2.toNat : Int), .int .u8 (c3.toNat : Int), .int .u8 (c4.toNat : Int), .int .u8 (c5.toNat : Int), .int .u8 (g0.toNat : Int), .int .u8 (g1.toNat : Int), .int .u8 (g2.toNat : Int), .int .u8 (g3.toNat : Int)] rfl q22 hrow rfl Try.underlying44 rfl szArp ?_
    exact hK _ _ (hJ.put 5 (by omega))
  · intro L f a W hJ hL hD hS hO KK hK
    have q4 : a.tmps.getD 4 undef = .pointer (some ⟨bx + 1, 0, none⟩) := hO 4 (by decide)
    have r4 := q4
    rw [Array.getD_eq_getD_getElem?] at r4
    clear hD hS hO hL hl hm hw1
    go_simp
    exact hK _ _ (hJ.put 6 (by omega))
  · intro L f a W hJ hL hD hS hO KK hK
    have q24 : a.tmps.getD 24 undef = _ := (hS 6 24 rfl).trans (hJ.val 6 (by omega) (hD ⟨6, .data⟩ (by simp) rfl))
    have hrow := (hJ.kp.block _ (Array.getElem?_eq_some_iff.1 hm).1).trans hm
    refine old_part (.tmp 24) 44 _ [.int .i64 oq, .int .u8 (h0.toNat : Int), .int .u8 (h1.toNat : Int), .int .u8 (h2.toNat : Int), .int .u8 (h3.toNat : Int), .int .u8 (h4.toNat : Int), .int .u8 (h5.toNat : Int), .int .u8 (i0.toNat : Int), .int .u8 (i1.toNat : Int), .int .u8 (i2.toNat : Int), .int .u8 (i3.toNat : Int), .int .u8 (j0.toNat : Int), .int .u8 (j1.toNat : Int), .int .u8 (j2.toNat : Int), .int .u8 (j3.toNat : Int), .int .u8 (j4.toNat : Int), .int .u8 (j5.toNat : Int), .int .u8 (k0.toNat : Int), .int .u8 (k1.toNat : Int), .int .u8 (k2.toNat : Int), .int .u8 (k3.toNat : Int)] rfl q24 hrow rfl Try.underlying44 rfl szArp ?_
    exact hK _ _ (hJ.put 7 (by omega))
  · intro L f a W hJ hL hD hS hO KK hK
    clear hD hS hO hl hm hw1
    go_simp
    exact hK _ _ (hJ.alloc 0 (by omega) hL)
  · intro L f a W hJ hL hD hS hO KK hK
    clear hD hS hO hl hm hw1
    go_simp
    exact hK _ _ (hJ.alloc 1 (by omega) hL)
  · intro L f a W hJ hL hD hS hO KK hK
    clear hD hS hO hl hm hw1
    go_simp
    exact hK _ _ (hJ.alloc 2 (by omega) hL)
  · intro L f a W hJ hL hD hS hO KK hK
    clear hD hS hO hl hm hw1
    go_simp
    exact hK _ _ (hJ.alloc 3 (by omega) hL)
  · intro L f a W hJ hL hD hS hO KK hK
    have q19 : a.tmps.getD 19 undef = _ := (hS 1 19 rfl).trans (hJ.val 1 (by omega) (hD ⟨1, .data⟩ (by simp) rfl))
    have hLa : L 8 = true := hD ⟨8, .data⟩ (by simp) rfl
    obtain ⟨b, hb, hlo, hlt, hrow⟩ := hJ.al 0 (by omega) hLa
    rw [if_neg (by rw [hL]; simp)] at hrow
    have q7 : a.tmps.getD 7 undef = .pointer (some ⟨b, 0, none⟩) := (hS 8 7 rfl).trans hb
    refine ost_row (.tmp 7) (.tmp 19) 27 rfl rfl q7 q19 hrow szFrame rfl rfl ?_
    exact hK undef _ (hJ.store 0 (by omega) hLa hb hlo hrow undef)
  · intro L f a W hJ hL hD hS hO KK hK
    have q21 : a.tmps.getD 21 undef = _ := (hS 3 21 rfl).trans (hJ.val 3 (by omega) (hD ⟨3, .data⟩ (by simp) rfl))
    have hLa : L 9 = true := hD ⟨9, .data⟩ (by simp) rfl
    obtain ⟨b, hb, hlo, hlt, hrow⟩ := hJ.al 1 (by omega) hLa
    rw [if_neg (by rw [hL]; simp)] at hrow
    have q8 : a.tmps.getD 8 undef = .pointer (some ⟨b, 0, none⟩) := (hS 9 8 rfl).trans hb
    refine ost_row (.tmp 8) (.tmp 21) 27 rfl rfl q8 q21 hrow szFrame rfl rfl ?_
    exact hK undef _ (hJ.store 1 (by omega) hLa hb hlo hrow undef)
  · intro L f a W hJ hL hD hS hO KK hK
    have q23 : a.tmps.getD 23 undef = _ := (hS 5 23 rfl).trans (hJ.val 5 (by omega) (hD ⟨5, .data⟩ (by simp) rfl))
    have hLa : L 10 = true := hD ⟨10, .data⟩ (by simp) rfl
    obtain ⟨b, hb, hlo, hlt, hrow⟩ := hJ.al 2 (by omega) hLa
    rw [if_neg (by rw [hL]; simp)] at hrow
    have q9 : a.tmps.getD 9 undef = .pointer (some ⟨b, 0, none⟩) := (hS 10 9 rfl).trans hb
    refine ost_row (.tmp 9) (.tmp 23) 44 rfl rfl q9 q23 hrow szArp rfl rfl ?_
    exact hK undef _ (hJ.store 2 (by omega) hLa hb hlo hrow undef)
  · intro L f a W hJ hL hD hS hO KK hK
    have q25 : a.tmps.getD 25 undef = _ := (hS 7 25 rfl).trans (hJ.val 7 (by omega) (hD ⟨7, .data⟩ (by simp) rfl))
    have hLa : L 11 = true := hD ⟨11, .data⟩ (by simp) rfl
    obtain ⟨b, hb, hlo, hlt, hrow⟩ := hJ.al 3 (by omega) hLa
    rw [if_neg (by rw [hL]; simp)] at hrow
    have q10 : a.tmps.getD 10 undef = .pointer (some ⟨b, 0, none⟩) := (hS 11 10 rfl).trans hb
    refine ost_row (.tmp 10) (.tmp 25) 44 rfl rfl q10 q25 hrow szArp rfl rfl ?_
    exact hK undef _ (hJ.store 3 (by omega) hLa hb hlo hrow undef)
  intro L f w2 hall hJ
  obtain ⟨f0, f1, p0, p1, hk2, ⟨x0, x1, x2, x3, x4, x5, x6, x7⟩, ⟨x8, x9, x10, x11⟩, r0, r1, r2, r3⟩ := hJ.done hall
  simp only [putAll, List.setIfInBounds_toArray, List.set_cons_succ, List.set_cons_zero, x0, x1, x2, x3, x4, x5, x6, x7, x8, x9, x10, x11, unX]
  have HK2 := Lib.hid (HKK.out.trans hk2)
  have HR0 : Hid (w2.heap[f0]? = some (.cells #[.int .u8 (d0.toNat : Int), .int .u8 (d1.toNat : Int), .int .u8 (d2.toNat : Int), .int .u8 (d3.toNat : Int), .int .u8 (d4.toNat : Int), .int .u8 (d5.toNat : Int), .int .u8 (s0.toNat : Int), .int .u8 (s1.toNat : Int), .int .u8 (s2.toNat : Int), .int .u8 (s3.toNat : Int), .int .u8 (s4.toNat : Int), .int .u8 (s5.toNat : Int), .int .u16 (ty : Int), .slice A n c] 27 (0, 0))) := Lib.hid r0
  have HR1 : Hid (w2.heap[f1]? = some (.cells #[.int .u8 (e0.toNat : Int), .int .u8 (e1.toNat : Int), .int .u8 (e2.toNat : Int), .int .u8 (e3.toNat : Int), .int .u8 (e4.toNat : Int), .int .u8 (e5.toNat : Int), .int .u8 (t0.toNat : Int), .int .u8 (t1.toNat : Int), .int .u8 (t2.toNat : Int), .int .u8 (t3.toNat : Int), .int .u8 (t4.toNat : Int), .int .u8 (t5.toNat : Int), .int .u16 (tz : Int), .slice B m k] 27 (0, 0))) := Lib.hid r1
  have HR2 : Hid (w2.heap[p0]? = some (.cells #[.int .i64 op, .int .u8 (a0.toNat : Int), .int .u8 (a1.toNat : Int), .int .u8 (a2.toNat : Int), .int .u8 (a3.toNat : Int), .int .u8 (a4.toNat : Int), .int .u8 (a5.toNat : Int), .int .u8 (b0.toNat : Int), .int .u8 (b1.toNat : Int), .int .u8 (b2.toNat : Int), .int .u8 (b3.toNat : Int), .int .u8 (c0.toNat : Int), .int .u8 (c1.toNat : Int), .int .u8 (c2.toNat : Int), .int .u8 (c3.toNat : Int), .int .u8 (c4.toNat : Int), .int .u8 (c5.toNat : Int), .int .u8 (g0.toNat : Int), .int .u8 (g1.toNat : Int), .int .u8 (g2.toNat : Int), .int .u8 (g3.toNat : Int)] 44 (0, 0))) := Lib.hid r2
  have HR3 : Hid (w2.heap[p1]? = some (.cells #[.int .i64 oq, .int .u8 (h0.toNat : Int), .int .u8 (h1.toNat : Int), .int .u8 (h2.toNat : Int), .int .u8 (h3.toNat : Int), .int .u8 (h4.toNat : Int), .int .u8 (h5.toNat : Int), .int .u8 (i0.toNat : Int), .int .u8 (i1.toNat : Int), .int .u8 (i2.toNat : Int), .int .u8 (i3.toNat : Int), .int .u8 (j0.toNat : Int), .int .u8 (j1.toNat : Int), .int .u8 (j2.toNat : Int), .int .u8 (j3.toNat : Int), .int .u8 (j4.toNat : Int), .int .u8 (j5.toNat : Int), .int .u8 (k0.toNat : Int), .int .u8 (k1.toNat : Int), .int .u8 (k2.toNat : Int), .int .u8 (k3.toNat : Int)] 44 (0, 0))) := Lib.hid r3
  clear hl hm hw1 HKK hall hJ hk2 x0 x1 x2 x3 x4 x5 x6 x7 x8 x9 x10 x11 r0 r1 r2 r3 u0
  go_wp2_with fail
  refine (lives_any _).mono ?_
  rintro e w3 ⟨rfl, hk3⟩
  have HK3 := Lib.hid (HK2.out.trans hk3)
  have HR0' : Hid (w3.heap[f0]? = some (.cells #[.int .u8 (d0.toNat : Int), .int .u8 (d1.toNat : Int), .int .u8 (d2.toNat : Int), .int .u8 (d3.toNat : Int), .int .u8 (d4.toNat : Int), .int .u8 (d5.toNat : Int), .int .u8 (s0.toNat : Int), .int .u8 (s1.toNat : Int), .int .u8 (s2.toNat : Int), .int .u8 (s3.toNat : Int), .int .u8 (s4.toNat : Int), .int .u8 (s5.toNat : Int), .int .u16 (ty : Int), .slice A n c] 27 (0, 0))) := Lib.hid ((hk3.block _ (Array.getElem?_eq_some_iff.1 HR0.out).1).trans HR0.out)
  have HR1' : Hid (w3.heap[f1]? = some (.cells #[.int .u8 (e0.toNat : Int), .int .u8 (e1.toNat : Int), .int .u8 (e2.toNat : Int), .int .u8 (e3.toNat : Int), .int .u8 (e4.toNat : Int), .int .u8 (e5.toNat : Int), .int .u8 (t0.toNat : Int), .int .u8 (t1.toNat : Int), .int .u8 (t2.toNat : Int), .int .u8 (t3.toNat : Int), .int .u8 (t4.toNat : Int), .int .u8 (t5.toNat : Int), .int .u16 (tz : Int), .slice B m k] 27 (0, 0))) := Lib.hid ((hk3.block _ (Array.getElem?_eq_some_iff.1 HR1.out).1).trans HR1.out)
  have HR2' : Hid (w3.heap[p0]? = some (.cells #[.int .i64 op, .int .u8 (a0.toNat : Int), .int .u8 (a1.toNat : Int), .int .u8 (a2.toNat : Int), .int .u8 (a3.toNat : Int), .int .u8 (a4.toNat : Int), .int .u8 (a5.toNat : Int), .int .u8 (b0.toNat : Int), .int .u8 (b1.toNat : Int), .int .u8 (b2.toNat : Int), .int .u8 (b3.toNat : Int), .int .u8 (c0.toNat : Int), .int .u8 (c1.toNat : Int), .int .u8 (c2.toNat : Int), .int .u8 (c3.toNat : Int), .int .u8 (c4.toNat : Int), .int .u8 (c5.toNat : Int), .int .u8 (g0.toNat : Int), .int .u8 (g1.toNat : Int), .int .u8 (g2.toNat : Int), .int .u8 (g3.toNat : Int)] 44 (0, 0))) := Lib.hid ((hk3.block _ (Array.getElem?_eq_some_iff.1 HR2.out).1).trans HR2.out)
  have HR3' : Hid (w3.heap[p1]? = some (.cells #[.int .i64 oq, .int .u8 (h0.toNat : Int), .int .u8 (h1.toNat : Int), .int .u8 (h2.toNat : Int), .int .u8 (h3.toNat : Int), .int .u8 (h4.toNat : Int), .int .u8 (h5.toNat : Int), .int .u8 (i0.toNat : Int), .int .u8 (i1.toNat : Int), .int .u8 (i2.toNat : Int), .int .u8 (i3.toNat : Int), .int .u8 (j0.toNat : Int), .int .u8 (j1.toNat : Int), .int .u8 (j2.toNat : Int), .int .u8 (j3.toNat : Int), .int .u8 (j4.toNat : Int), .int .u8 (j5.toNat : Int), .int .u8 (k0.toNat : Int), .int .u8 (k1.toNat : Int), .int .u8 (k2.toNat : Int), .int .u8 (k3.toNat : Int)] 44 (0, 0))) := Lib.hid ((hk3.block _ (Array.getElem?_eq_some_iff.1 HR3.out).1).trans HR3.out)
  have z0 : w3.cell? ⟨f0, 13, none⟩ = some (.slice A n c) := (cell_of_row w3 _ 13 _ _ _ HR0'.out).trans rfl
  have z1 : w3.cell? ⟨f1, 13, none⟩ = some (.slice B m k) := (cell_of_row w3 _ 13 _ _ _ HR1'.out).trans rfl
  clear hk3 HR0 HR1 HR2 HR3
  by_cases hn1 : 200 < n
  · have hi1 : (200 : Int) < (n : Int) := by omega
    go_wp2_with (first | (go_at_call 14; refine (lives_any _).mono ?_; rintro e w4 ⟨rfl, hk4⟩))
    all_goals go_ret
    all_goals exact ⟨rfl, (HK3.out.trans hk4)⟩
  have hi1 : ¬ (200 : Int) < (n : Int) := by omega
  by_cases hn2 : 200 < m
  · have hi2 : (200 : Int) < (m : Int) := by omega
    go_wp2_with (first | (go_at_call 14; refine (lives_any _).mono ?_; rintro e w4 ⟨rfl, hk4⟩))
    all_goals go_ret
    all_goals exact ⟨rfl, (HK3.out.trans hk4)⟩
  have hi2 : ¬ (200 : Int) < (m : Int) := by omega
  go_wp2_with (refine lld_row (by rfl) (.tmp 7) _ _ rfl rfl HR0'.out Try.underlying27 rfl szFrame ?_)
  clear z0 z1
  refine (build_any _ d0 d1 d2 d3 d4 d5 s0 s1 s2 s3 s4 s5 ty hty A n c l (HA.out.keep HK3.out)).mono ?_
  rintro e w4 ⟨hk4, hcase⟩
  rcases hcase with ⟨h9, _⟩ | ⟨_, y1, cap1, rfl, hown1⟩
  · exact absurd h9 (by rw [HLA.out]; omega)
  rw [HLA.out] at hown1 ⊢
  have HK4 := Lib.hid (HK3.out.trans hk4)
  have HO1 := Lib.hid hown1
  have HR0 : Hid (w4.heap[f0]? = some (.cells #[.int .u8 (d0.toNat : Int), .int .u8 (d1.toNat : Int), .int .u8 (d2.toNat : Int), .int .u8 (d3.toNat : Int), .int .u8 (d4.toNat : Int), .int .u8 (d5.toNat : Int), .int .u8 (s0.toNat : Int), .int .u8 (s1.toNat : Int), .int .u8 (s2.toNat : Int), .int .u8 (s3.toNat : Int), .int .u8 (s4.toNat : Int), .int .u8 (s5.toNat : Int), .int .u16 (ty : Int), .slice A n c] 27 (0, 0))) := Lib.hid ((hk4.block _ (Array.getElem?_eq_some_iff.1 HR0'.out).1).trans HR0'.out)
  have HR1 : Hid (w4.heap[f1]? = some (.cells #[.int .u8 (e0.toNat : Int), .int .u8 (e1.toNat : Int), .int .u8 (e2.toNat : Int), .int .u8 (e3.toNat : Int), .int .u8 (e4.toNat : Int), .int .u8 (e5.toNat : Int), .int .u8 (t0.toNat : Int), .int .u8 (t1.toNat : Int), .int .u8 (t2.toNat : Int), .int .u8 (t3.toNat : Int), .int .u8 (t4.toNat : Int), .int .u8 (t5.toNat : Int), .int .u16 (tz : Int), .slice B m k] 27 (0, 0))) := Lib.hid ((hk4.block _ (Array.getElem?_eq_some_iff.1 HR1'.out).1).trans HR1'.out)
  have HR2 : Hid (w4.heap[p0]? = some (.cells #[.int .i64 op, .int .u8 (a0.toNat : Int), .int .u8 (a1.toNat : Int), .int .u8 (a2.toNat : Int), .int .u8 (a3.toNat : Int), .int .u8 (a4.toNat : Int), .int .u8 (a5.toNat : Int), .int .u8 (b0.toNat : Int), .int .u8 (b1.toNat : Int), .int .u8 (b2.toNat : Int), .int .u8 (b3.toNat : Int), .int .u8 (c0.toNat : Int), .int .u8 (c1.toNat : Int), .int .u8 (c2.toNat : Int), .int .u8 (c3.toNat : Int), .int .u8 (c4.toNat : Int), .int .u8 (c5.toNat : Int), .int .u8 (g0.toNat : Int), .int .u8 (g1.toNat : Int), .int .u8 (g2.toNat : Int), .int .u8 (g3.toNat : Int)] 44 (0, 0))) := Lib.hid ((hk4.block _ (Array.getElem?_eq_some_iff.1 HR2'.out).1).trans HR2'.out)
  have HR3 : Hid (w4.heap[p1]? = some (.cells #[.int .i64 oq, .int .u8 (h0.toNat : Int), .int .u8 (h1.toNat : Int), .int .u8 (h2.toNat : Int), .int .u8 (h3.toNat : Int), .int .u8 (h4.toNat : Int), .int .u8 (h5.toNat : Int), .int .u8 (i0.toNat : Int), .int .u8 (i1.toNat : Int), .int .u8 (i2.toNat : Int), .int .u8 (i3.toNat : Int), .int .u8 (j0.toNat : Int), .int .u8 (j1.toNat : Int), .int .u8 (j2.toNat : Int), .int .u8 (j3.toNat : Int), .int .u8 (j4.toNat : Int), .int .u8 (j5.toNat : Int), .int .u8 (k0.toNat : Int), .int .u8 (k1.toNat : Int), .int .u8 (k2.toNat : Int), .int .u8 (k3.toNat : Int)] 44 (0, 0))) := Lib.hid ((hk4.block _ (Array.getElem?_eq_some_iff.1 HR3'.out).1).trans HR3'.out)
  clear hk4 hown1 HR0' HR1' HR2' HR3'
  go_wp2_with (refine lld_row (by rfl) (.tmp 8) _ _ rfl rfl HR1.out Try.underlying27 rfl szFrame ?_)
  refine (build_any _ e0 e1 e2 e3 e4 e5 t0 t1 t2 t3 t4 t5 tz htz B m k lb (HB.out.keep HK4.out)).mono ?_
  rintro e w5 ⟨hk5, hcase⟩
  rcases hcase with ⟨h9, _⟩ | ⟨_, y2, cap2, rfl, hown2⟩
  · exact absurd h9 (by rw [HLB.out]; omega)
  rw [HLB.out] at hown2 ⊢
  have HK5 := Lib.hid (HK4.out.trans hk5)
  have HO2 := Lib.hid hown2
  have HO1' := Lib.hid (HO1.out.keep hk5)
  have HR0' : Hid (w5.heap[f0]? = some (.cells #[.int .u8 (d0.toNat : Int), .int .u8 (d1.toNat : Int), .int .u8 (d2.toNat : Int), .int .u8 (d3.toNat : Int), .int .u8 (d4.toNat : Int), .int .u8 (d5.toNat : Int), .int .u8 (s0.toNat : Int), .int .u8 (s1.toNat : Int), .int .u8 (s2.toNat : Int), .int .u8 (s3.toNat : Int), .int .u8 (s4.toNat : Int), .int .u8 (s5.toNat : Int), .int .u16 (ty : Int), .slice A n c] 27 (0, 0))) := Lib.hid ((hk5.block _ (Array.getElem?_eq_some_iff.1 HR0.out).1).trans HR0.out)
  have HR1' : Hid (w5.heap[f1]? = some (.cells #[.int .u8 (e0.toNat : Int), .int .u8 (e1.toNat : Int), .int .u8 (e2.toNat : Int), .int .u8 (e3.toNat : Int), .int .u8 (e4.toNat : Int), .int .u8 (e5.toNat : Int), .int .u8 (t0.toNat : Int), .int .u8 (t1.toNat : Int), .int .u8 (t2.toNat : Int), .int .u8 (t3.toNat : Int), .int .u8 (t4.toNat : Int), .int .u8 (t5.toNat : Int), .int .u16 (tz : Int), .slice B m k] 27 (0, 0))) := Lib.hid ((hk5.block _ (Array.getElem?_eq_some_iff.1 HR1.out).1).trans HR1.out)
  have HR2' : Hid (w5.heap[p0]? = some (.cells #[.int .i64 op, .int .u8 (a0.toNat : Int), .int .u8 (a1.toNat : Int), .int .u8 (a2.toNat : Int), .int .u8 (a3.toNat : Int), .int .u8 (a4.toNat : Int), .int .u8 (a5.toNat : Int), .int .u8 (b0.toNat : Int), .int .u8 (b1.toNat : Int), .int .u8 (b2.toNat : Int), .int .u8 (b3.toNat : Int), .int .u8 (c0.toNat : Int), .int .u8 (c1.toNat : Int), .int .u8 (c2.toNat : Int), .int .u8 (c3.toNat : Int), .int .u8 (c4.toNat : Int), .int .u8 (c5.toNat : Int), .int .u8 (g0.toNat : Int), .int .u8 (g1.toNat : Int), .int .u8 (g2.toNat : Int), .int .u8 (g3.toNat : Int)] 44 (0, 0))) := Lib.hid ((hk5.block _ (Array.getElem?_eq_some_iff.1 HR2.out).1).trans HR2.out)
  have HR3' : Hid (w5.heap[p1]? = some (.cells #[.int .i64 oq, .int .u8 (h0.toNat : Int), .int .u8 (h1.toNat : Int), .int .u8 (h2.toNat : Int), .int .u8 (h3.toNat : Int), .int .u8 (h4.toNat : Int), .int .u8 (h5.toNat : Int), .int .u8 (i0.toNat : Int), .int .u8 (i1.toNat : Int), .int .u8 (i2.toNat : Int), .int .u8 (i3.toNat : Int), .int .u8 (j0.toNat : Int), .int .u8 (j1.toNat : Int), .int .u8 (j2.toNat : Int), .int .u8 (j3.toNat : Int), .int .u8 (j4.toNat : Int), .int .u8 (j5.toNat : Int), .int .u8 (k0.toNat : Int), .int .u8 (k1.toNat : Int), .int .u8 (k2.toNat : Int), .int .u8 (k3.toNat : Int)] 44 (0, 0))) := Lib.hid ((hk5.block _ (Array.getElem?_eq_some_iff.1 HR3.out).1).trans HR3.out)
  clear hk5 hown2 HR0 HR1 HR2 HR3 HO1
  obtain ⟨SM, hsm⟩ : ∃ b, sameF [d0, d1, d2, d3, d4, d5] [s0, s1, s2, s3, s4, s5] ty l [e0, e1, e2, e3, e4, e5] [t0, t1, t2, t3, t4, t5] tz lb = b := ⟨_, rfl⟩
  have HSM := Lib.hid hsm
  have hsb := (frame_beq d0 d1 d2 d3 d4 d5 s0 s1 s2 s3 s4 s5 ty l e0 e1 e2 e3 e4 e5 t0 t1 t2 t3 t4 t5 tz lb hty htz).trans hsm
  obtain ⟨x1, hx1⟩ : ∃ x, frameBytes [d0, d1, d2, d3, d4, d5] [s0, s1, s2, s3, s4, s5] ty l = x := ⟨_, rfl⟩
  obtain ⟨x2, hx2⟩ : ∃ x, frameBytes [e0, e1, e2, e3, e4, e5] [t0, t1, t2, t3, t4, t5] tz lb = x := ⟨_, rfl⟩
  rw [hx1, hx2] at hsb
  rw [hx1] at HO1'
  rw [hx2] at HO2
  have HSB := Lib.hid hsb
  obtain ⟨N1, hN1⟩ : ∃ x, 14 + n = x := ⟨_, rfl⟩
  obtain ⟨N2, hN2⟩ : ∃ x, 14 + m = x := ⟨_, rfl⟩
  rw [hN1] at HO1' ⊢
  rw [hN2] at HO2 ⊢
  have hN1' : 14 ≤ N1 ∧ N1 ≤ 214 := by omega
  clear hsm hsb hx1 hx2 hN1 hN2
  go_wp2_with fail
  have KC : ∀ W, Kp w5.drew W → W.heap[f0]? = some (.cells #[.int .u8 (d0.toNat : Int), .int .u8 (d1.toNat : Int), .int .u8 (d2.toNat : Int), .int .u8 (d3.toNat : Int), .int .u8 (d4.toNat : Int), .int .u8 (d5.toNat : Int), .int .u8 (s0.toNat : Int), .int .u8 (s1.toNat : Int), .int .u8 (s2.toNat : Int), .int .u8 (s3.toNat : Int), .int .u8 (s4.toNat : Int), .int .u8 (s5.toNat : Int), .int .u16 (ty : Int), .slice A n c] 27 (0, 0)) ∧ W.heap[f1]? = some (.cells #[.int .u8 (e0.toNat : Int), .int .u8 (e1.toNat : Int), .int .u8 (e2.toNat : Int), .int .u8 (e3.toNat : Int), .int .u8 (e4.toNat : Int), .int .u8 (e5.toNat : Int), .int .u8 (t0.toNat : Int), .int .u8 (t1.toNat : Int), .int .u8 (t2.toNat : Int), .int .u8 (t3.toNat : Int), .int .u8 (t4.toNat : Int), .int .u8 (t5.toNat : Int), .int .u16 (tz : Int), .slice B m k] 27 (0, 0)) ∧ Rd W 0 (some ⟨y1, 0, none⟩) N1 x1 ∧ Rd W 0 (some ⟨y2, 0, none⟩) N2 x2 ∧ Rd W 0 A n l ∧ Rd W 0 B m lb := fun W hW => by
    have hk : Kp w5 W := ((Kp.refl w5).drew).trans hW
    exact ⟨(hk.block _ (Array.getElem?_eq_some_iff.1 HR0'.out).1).trans HR0'.out, (hk.block _ (Array.getElem?_eq_some_iff.1 HR1'.out).1).trans HR1'.out, HO1'.out.rd0.keep hk, HO2.out.rd0.keep hk, HA.out.keep (HK5.out.trans hk), HB.out.keep (HK5.out.trans hk)⟩
  refine wp_region_stepsG (by kernel_rfl) 17 (unphi w5 f0 f1 d0 d1 d2 d3 d4 d5 s0 s1 s2 s3 s4 s5 ty A n c e0 e1 e2 e3 e4 e5 t0 t1 t2 t3 t4 t5 tz B m k op a0 a1 a2 a3 a4 a5 b0 b1 b2 b3 c0 c1 c2 c3 c4 c5 g0 g1 g2 g3 oq h0 h1 h2 h3 h4 h5 i0 i1 i2 i3 j0 j1 j2 j3 j4 j5 k0 k1 k2 k3 x1 x2 y1 y2 N1 N2 cap1 cap2 SM) [51, 52, 53, 54, 55, 56, 57, 58, 59, 60, 61, 62, 63, 64, 65, 66, 67] (by kernel_rfl) (by kernel_rfl) ⟨?_, ?_, ?_, ?_, ?_, ?_, ?_, ?_, ?_, ?_, ?_, ?_, ?_, ?_, ?_, ?_, ?_, trivial⟩ ?_
  · refine stepG_free rfl ?_
    intro a W hW hO hφ K hK
    have q12 : a.tmps.getD 12 undef = (.int .i64 0) := hO 12 (by kernel_rfl)
    have r12 := q12
    rw [Array.getD_eq_getD_getElem?] at r12
    clear hO hφ
    clear KC
    go_simp
    exact hK _ _ (Kp.refl _) rfl
  · refine stepG_free rfl ?_
    intro a W hW hO hφ K hK
    have q51 : a.tmps.getD 51 undef = (.int .i64 0) := hφ ⟨0, .data⟩ (by simp) rfl
    have r51 := q51
    rw [Array.getD_eq_getD_getElem?] at r51
    clear hO hφ
    clear KC
    go_simp
    exact hK _ _ (Kp.refl _) rfl
  · refine stepG_free rfl ?_
    intro a W hW hO hφ K hK
    have q52 : a.tmps.getD 52 undef = (.bool false) := hφ ⟨1, .data⟩ (by simp) rfl
    have r52 := q52
    rw [Array.getD_eq_getD_getElem?] at r52
    clear hO hφ
    clear KC
    go_simp
    exact hK _ _ (Kp.refl _) rfl
  · refine stepG_on rfl (fun x W h => h) ?_
    intro a W hW hO hφ K hK
    have q14 : a.tmps.getD 14 undef = (.int .i64 0) := hO 14 (by kernel_rfl)
    have r14 := q14
    rw [Array.getD_eq_getD_getElem?] at r14
    clear hO hφ
    clear KC
    go_simp
    exact hK _ _ (Kp.refl _) rfl
  · refine stepG_on rfl (fun x W h => h) ?_
    intro a W hW hO hφ K hK
    have q54 : a.tmps.getD 54 undef = (.int .i64 0) := hφ ⟨3, .data⟩ (by simp) rfl
    have r54 := q54
    rw [Array.getD_eq_getD_getElem?] at r54
    clear hO hφ
    clear KC
    go_simp
    exact hK _ _ (Kp.refl _) rfl
  · refine stepG_free rfl ?_
    intro a W hW hO hφ K hK
    have q53 : a.tmps.getD 53 undef = (.bool false) := hφ ⟨2, .data⟩ (by simp) rfl
    have q55 : a.tmps.getD 55 undef = (.bool false) := hφ ⟨4, .data⟩ (by simp) rfl
    have r53 := q53
    rw [Array.getD_eq_getD_getElem?] at r53
    have r55 := q55
    rw [Array.getD_eq_getD_getElem?] at r55
    clear hO hφ
    clear KC
    go_simp
    exact hK _ _ (Kp.refl _) rfl
  · refine stepG_free rfl ?_
    intro a W hW hO hφ K hK
    have q56 : a.tmps.getD 56 undef = (.bool false) := hφ ⟨5, .data⟩ (by simp) rfl
    have r56 := q56
    rw [Array.getD_eq_getD_getElem?] at r56
    clear hO hφ
    clear KC
    go_simp
    exact hK _ _ (Kp.refl _) rfl
  · refine stepG_on rfl (fun x W h => h) ?_
    intro a W hW hO hφ K hK
    have q11 : a.tmps.getD 11 undef = (.slice (some ⟨y1, 0, none⟩) N1 cap1) := hO 11 (by kernel_rfl)
    have r11 := q11
    rw [Array.getD_eq_getD_getElem?] at r11
    clear hO hφ
    clear KC
    go_simp
    exact hK _ _ (Kp.refl _) rfl
  · refine stepG_on rfl (fun x W h => h) ?_
    intro a W hW hO hφ K hK
    have q58 : a.tmps.getD 58 undef = (.slice (some ⟨y1, 0, none⟩) N1 cap1) := hφ ⟨7, .data⟩ (by simp) rfl
    have r58 := q58
    rw [Array.getD_eq_getD_getElem?] at r58
    clear hO hφ
    obtain ⟨z0, z1, z2, z3, z4, z5⟩ := KC W hW
    clear KC
    have cv := conv_str (P := Try.prog) (c := cap1) Try.underlying25 Try.underlying5 Try.underlying9 z2
    clear z0 z1 z2 z3 z4 z5
    go_simp
    exact hK _ _ (Kp.refl _) rfl
  · refine stepG_on rfl (fun x W h => h) ?_
    intro a W hW hO hφ K hK
    have q13 : a.tmps.getD 13 undef = (.slice (some ⟨y2, 0, none⟩) N2 cap2) := hO 13 (by kernel_rfl)
    have r13 := q13
    rw [Array.getD_eq_getD_getElem?] at r13
    clear hO hφ
    clear KC
    go_simp
    exact hK _ _ (Kp.refl _) rfl
  · refine stepG_on rfl (fun x W h => h) ?_
    intro a W hW hO hφ K hK
    have q60 : a.tmps.getD 60 undef = (.slice (some ⟨y2, 0, none⟩) N2 cap2) := hφ ⟨9, .data⟩ (by simp) rfl
    have r60 := q60
    rw [Array.getD_eq_getD_getElem?] at r60
    clear hO hφ
    obtain ⟨z0, z1, z2, z3, z4, z5⟩ := KC W hW
    clear KC
    have cv := conv_str (P := Try.prog) (c := cap2) Try.underlying25 Try.underlying5 Try.underlying9 z3
    clear z0 z1 z2 z3 z4 z5
    go_simp
    exact hK _ _ (Kp.refl _) rfl
  · refine stepG_on rfl (fun x W h => h) ?_
    intro a W hW hO hφ K hK
    have q59 : a.tmps.getD 59 undef = (.string (str x1)) := hφ ⟨8, .data⟩ (by simp) rfl
    have q61 : a.tmps.getD 61 undef = (.string (str x2)) := hφ ⟨10, .data⟩ (by simp) rfl
    have r59 := q59
    rw [Array.getD_eq_getD_getElem?] at r59
    have r61 := q61
    rw [Array.getD_eq_getD_getElem?] at r61
    clear hO hφ
    have es := (str_beq x1 x2).trans HSB.out
    clear KC
    go_simp
    exact hK _ _ (Kp.refl _) rfl
  · refine stepG_on rfl (fun x W h => h) ?_
    intro a W hW hO hφ K hK
    have q7 : a.tmps.getD 7 undef = (.pointer (some ⟨f0, 0, none⟩)) := hO 7 (by kernel_rfl)
    have r7 := q7
    rw [Array.getD_eq_getD_getElem?] at r7
    clear hO hφ
    obtain ⟨z0, z1, z2, z3, z4, z5⟩ := KC W hW
    clear KC
    refine old_part (.tmp 7) 27 _ [.int .u8 (d0.toNat : Int), .int .u8 (d1.toNat : Int), .int .u8 (d2.toNat : Int), .int .u8 (d3.toNat : Int), .int .u8 (d4.toNat : Int), .int .u8 (d5.toNat : Int), .int .u8 (s0.toNat : Int), .int .u8 (s1.toNat : Int), .int .u8 (s2.toNat : Int), .int .u8 (s3.toNat : Int), .int .u8 (s4.toNat : Int), .int .u8 (s5.toNat : Int), .int .u16 (ty : Int), .slice A n c] rfl q7 z0 rfl Try.underlying27 rfl szFrame ?_
    exact hK _ _ (Kp.refl _) rfl
  · refine stepG_on rfl (fun x W h => h) ?_
    intro a W hW hO hφ K hK
    have q8 : a.tmps.getD 8 undef = (.pointer (some ⟨f1, 0, none⟩)) := hO 8 (by kernel_rfl)
    have r8 := q8
    rw [Array.getD_eq_getD_getElem?] at r8
    clear hO hφ
    obtain ⟨z0, z1, z2, z3, z4, z5⟩ := KC W hW
    clear KC
    refine old_part (.tmp 8) 27 _ [.int .u8 (e0.toNat : Int), .int .u8 (e1.toNat : Int), .int .u8 (e2.toNat : Int), .int .u8 (e3.toNat : Int), .int .u8 (e4.toNat : Int), .int .u8 (e5.toNat : Int), .int .u8 (t0.toNat : Int), .int .u8 (t1.toNat : Int), .int .u8 (t2.toNat : Int), .int .u8 (t3.toNat : Int), .int .u8 (t4.toNat : Int), .int .u8 (t5.toNat : Int), .int .u16 (tz : Int), .slice B m k] rfl q8 z1 rfl Try.underlying27 rfl szFrame ?_
    exact hK _ _ (Kp.refl _) rfl
  · refine stepG_on rfl (fun x W h => h) ?_
    intro a W hW hO hφ K hK
    have q63 : a.tmps.getD 63 undef = (.agg #[.int .u8 (d0.toNat : Int), .int .u8 (d1.toNat : Int), .int .u8 (d2.toNat : Int), .int .u8 (d3.toNat : Int), .int .u8 (d4.toNat : Int), .int .u8 (d5.toNat : Int), .int .u8 (s0.toNat : Int), .int .u8 (s1.toNat : Int), .int .u8 (s2.toNat : Int), .int .u8 (s3.toNat : Int), .int .u8 (s4.toNat : Int), .int .u8 (s5.toNat : Int), .int .u16 (ty : Int), .slice A n c]) := hφ ⟨12, .data⟩ (by simp) rfl
    have q64 : a.tmps.getD 64 undef = (.agg #[.int .u8 (e0.toNat : Int), .int .u8 (e1.toNat : Int), .int .u8 (e2.toNat : Int), .int .u8 (e3.toNat : Int), .int .u8 (e4.toNat : Int), .int .u8 (e5.toNat : Int), .int .u8 (t0.toNat : Int), .int .u8 (t1.toNat : Int), .int .u8 (t2.toNat : Int), .int .u8 (t3.toNat : Int), .int .u8 (t4.toNat : Int), .int .u8 (t5.toNat : Int), .int .u16 (tz : Int), .slice B m k]) := hφ ⟨13, .data⟩ (by simp) rfl
    have r63 := q63
    rw [Array.getD_eq_getD_getElem?] at r63
    have r64 := q64
    rw [Array.getD_eq_getD_getElem?] at r64
    clear hO hφ
    obtain ⟨z0, z1, z2, z3, z4, z5⟩ := KC W hW
    clear KC
    clear z0 z1 z2 z3
    go_simp
    go_at_call 18
    refine (same_any _ d0 d1 d2 d3 d4 d5 s0 s1 s2 s3 s4 s5 ty A n c l e0 e1 e2 e3 e4 e5 t0 t1 t2 t3 t4 t5 tz B m k lb z4 z5).mono ?_
    rintro e w' ⟨rfl, hk⟩
    exact hK _ _ hk (congrArg Value.bool HSM.out)
  · refine stepG_on rfl (fun x W h => h) ?_
    intro a W hW hO hφ K hK
    have q62 : a.tmps.getD 62 undef = (.bool SM) := hφ ⟨11, .data⟩ (by simp) rfl
    have q65 : a.tmps.getD 65 undef = (.bool SM) := hφ ⟨14, .data⟩ (by simp) rfl
    have r62 := q62
    rw [Array.getD_eq_getD_getElem?] at r62
    have r65 := q65
    rw [Array.getD_eq_getD_getElem?] at r65
    clear hO hφ
    clear KC
    go_simp
    exact hK _ _ (Kp.refl _) rfl
  · refine stepG_free rfl ?_
    intro a W hW hO hφ K hK
    have q57 : a.tmps.getD 57 undef = (.bool false) := hφ ⟨6, .data⟩ (by simp) rfl
    have q66 : a.tmps.getD 66 undef = (.bool false) := hφ ⟨15, .data⟩ (by simp) rfl
    have r57 := q57
    rw [Array.getD_eq_getD_getElem?] at r57
    have r66 := q66
    rw [Array.getD_eq_getD_getElem?] at r66
    clear hO hφ
    clear KC
    go_simp
    exact hK _ _ (Kp.refl _) rfl
  intro f W hW hφ
  have v0 : f 0 = (.int .i64 0) := hφ 0 (by omega)
  have v1 : f 1 = (.bool false) := hφ 1 (by omega)
  have v2 : f 2 = (.bool false) := hφ 2 (by omega)
  have v3 : f 3 = (.int .i64 0) := hφ 3 (by omega)
  have v4 : f 4 = (.bool false) := hφ 4 (by omega)
  have v5 : f 5 = (.bool false) := hφ 5 (by omega)
  have v6 : f 6 = (.bool false) := hφ 6 (by omega)
  have v7 : f 7 = (.slice (some ⟨y1, 0, none⟩) N1 cap1) := hφ 7 (by omega)
  have v8 : f 8 = (.string (str x1)) := hφ 8 (by omega)
  have v9 : f 9 = (.slice (some ⟨y2, 0, none⟩) N2 cap2) := hφ 9 (by omega)
  have v10 : f 10 = (.string (str x2)) := hφ 10 (by omega)
  have v11 : f 11 = (.bool SM) := hφ 11 (by omega)
  have v12 : f 12 = (.agg #[.int .u8 (d0.toNat : Int), .int .u8 (d1.toNat : Int), .int .u8 (d2.toNat : Int), .int .u8 (d3.toNat : Int), .int .u8 (d4.toNat : Int), .int .u8 (d5.toNat : Int), .int .u8 (s0.toNat : Int), .int .u8 (s1.toNat : Int), .int .u8 (s2.toNat : Int), .int .u8 (s3.toNat : Int), .int .u8 (s4.toNat : Int), .int .u8 (s5.toNat : Int), .int .u16 (ty : Int), .slice A n c]) := hφ 12 (by omega)
  have v13 : f 13 = (.agg #[.int .u8 (e0.toNat : Int), .int .u8 (e1.toNat : Int), .int .u8 (e2.toNat : Int), .int .u8 (e3.toNat : Int), .int .u8 (e4.toNat : Int), .int .u8 (e5.toNat : Int), .int .u8 (t0.toNat : Int), .int .u8 (t1.toNat : Int), .int .u8 (t2.toNat : Int), .int .u8 (t3.toNat : Int), .int .u8 (t4.toNat : Int), .int .u8 (t5.toNat : Int), .int .u16 (tz : Int), .slice B m k]) := hφ 13 (by omega)
  have v14 : f 14 = (.bool SM) := hφ 14 (by omega)
  have v15 : f 15 = (.bool false) := hφ 15 (by omega)
  have v16 : f 16 = (.bool false) := hφ 16 (by omega)
  clear hφ
  simp only [putAll, List.setIfInBounds_toArray, List.set_cons_succ, List.set_cons_zero, v0, v1, v2, v3, v4, v5, v6, v7, v8, v9, v10, v11, v12, v13, v14, v15, v16]
  clear v0 v1 v2 v3 v4 v5 v6 v7 v8 v9 v10 v11 v12 v13 v14 v15 v16
  refine wpAny_done (by kernel_rfl) ?_ _
  have HK6 := Lib.hid (HK5.out.trans (((Kp.refl w5).drew).trans hW))
  have hk6 : Kp w5 W := ((Kp.refl w5).drew).trans hW
  have HO1 := Lib.hid (HO1'.out.keep hk6)
  have HR2 : Hid (W.heap[p0]? = some (.cells #[.int .i64 op, .int .u8 (a0.toNat : Int), .int .u8 (a1.toNat : Int), .int .u8 (a2.toNat : Int), .int .u8 (a3.toNat : Int), .int .u8 (a4.toNat : Int), .int .u8 (a5.toNat : Int), .int .u8 (b0.toNat : Int), .int .u8 (b1.toNat : Int), .int .u8 (b2.toNat : Int), .int .u8 (b3.toNat : Int), .int .u8 (c0.toNat : Int), .int .u8 (c1.toNat : Int), .int .u8 (c2.toNat : Int), .int .u8 (c3.toNat : Int), .int .u8 (c4.toNat : Int), .int .u8 (c5.toNat : Int), .int .u8 (g0.toNat : Int), .int .u8 (g1.toNat : Int), .int .u8 (g2.toNat : Int), .int .u8 (g3.toNat : Int)] 44 (0, 0))) := Lib.hid ((hk6.block _ (Array.getElem?_eq_some_iff.1 HR2'.out).1).trans HR2'.out)
  have HR3 : Hid (W.heap[p1]? = some (.cells #[.int .i64 oq, .int .u8 (h0.toNat : Int), .int .u8 (h1.toNat : Int), .int .u8 (h2.toNat : Int), .int .u8 (h3.toNat : Int), .int .u8 (h4.toNat : Int), .int .u8 (h5.toNat : Int), .int .u8 (i0.toNat : Int), .int .u8 (i1.toNat : Int), .int .u8 (i2.toNat : Int), .int .u8 (i3.toNat : Int), .int .u8 (j0.toNat : Int), .int .u8 (j1.toNat : Int), .int .u8 (j2.toNat : Int), .int .u8 (j3.toNat : Int), .int .u8 (j4.toNat : Int), .int .u8 (j5.toNat : Int), .int .u8 (k0.toNat : Int), .int .u8 (k1.toNat : Int), .int .u8 (k2.toNat : Int), .int .u8 (k3.toNat : Int)] 44 (0, 0))) := Lib.hid ((hk6.block _ (Array.getElem?_eq_some_iff.1 HR3'.out).1).trans HR3'.out)
  clear KC hk6 hW HR0' HR1' HR2' HR3' HO1' HO2 HK5 HK4 HK3 HSM HSB
  obtain ⟨u, hu⟩ : ∃ u : Nat, IntKind.u64.wrap at_ = (u : Int) := ⟨(IntKind.u64.wrap at_).toNat, by
    have : 0 ≤ IntKind.u64.wrap at_ := by simp only [IntKind.wrap, IntKind.bits, IntKind.signed]; simp; omega
    omega⟩
  have hu2 : (u : Int).tmod 14 = ((u % 14 : Nat) : Int) := by rw [Int.tmod_eq_emod_of_nonneg (by omega)]; omega
  have hu3 : (u : Int).tmod 28 = ((u % 28 : Nat) : Int) := by rw [Int.tmod_eq_emod_of_nonneg (by omega)]; omega
  obtain ⟨v, hv⟩ : ∃ v, u % 14 = v := ⟨_, rfl⟩
  obtain ⟨z, hz⟩ : ∃ v, u % 28 = v := ⟨_, rfl⟩
  have hv2 : v < 14 := by omega
  have hz2 : z < 28 := by omega
  rw [hv] at hu2
  rw [hz] at hu3
  clear hv hz
  obtain ⟨i8, hi8, hs8⟩ := szU8
  obtain ⟨cs1, rd1, ok1⟩ := cut_hi (P := Try.prog) (kd := .i64) (m := v) Try.underlying25 hi8 hs8 HO1.out.rd0 HO1.out.slOk (by omega)
  have RD1 := Lib.hid rd1
  have OK1 := Lib.hid ok1
  clear rd1 ok1
  go_wp2_with fail
  refine (parse_any _ _ v _ _ RD1.out OK1.out (by omega)).mono ?_
  rintro e w7 ⟨hk7, q0, q1, q2, q3, q4, q5, r0, r1, r2, r3, r4, r5, ty7, b7, kk7, A7, cc7, hp7, _, rfl, _, _⟩
  have hsh : (x1.take v).length < 14 := by rw [List.length_take]; omega
  rw [parsed_short hsh] at hp7
  simp only [Prod.mk.injEq] at hp7
  obtain ⟨-, -, -, -, rfl⟩ := hp7
  have HK7 := Lib.hid (HK6.out.trans hk7)
  have HR2' : Hid (w7.heap[p0]? = some (.cells #[.int .i64 op, .int .u8 (a0.toNat : Int), .int .u8 (a1.toNat : Int), .int .u8 (a2.toNat : Int), .int .u8 (a3.toNat : Int), .int .u8 (a4.toNat : Int), .int .u8 (a5.toNat : Int), .int .u8 (b0.toNat : Int), .int .u8 (b1.toNat : Int), .int .u8 (b2.toNat : Int), .int .u8 (b3.toNat : Int), .int .u8 (c0.toNat : Int), .int .u8 (c1.toNat : Int), .int .u8 (c2.toNat : Int), .int .u8 (c3.toNat : Int), .int .u8 (c4.toNat : Int), .int .u8 (c5.toNat : Int), .int .u8 (g0.toNat : Int), .int .u8 (g1.toNat : Int), .int .u8 (g2.toNat : Int), .int .u8 (g3.toNat : Int)] 44 (0, 0))) := Lib.hid ((hk7.block _ (Array.getElem?_eq_some_iff.1 HR2.out).1).trans HR2.out)
  have HR3' : Hid (w7.heap[p1]? = some (.cells #[.int .i64 oq, .int .u8 (h0.toNat : Int), .int .u8 (h1.toNat : Int), .int .u8 (h2.toNat : Int), .int .u8 (h3.toNat : Int), .int .u8 (h4.toNat : Int), .int .u8 (h5.toNat : Int), .int .u8 (i0.toNat : Int), .int .u8 (i1.toNat : Int), .int .u8 (i2.toNat : Int), .int .u8 (i3.toNat : Int), .int .u8 (j0.toNat : Int), .int .u8 (j1.toNat : Int), .int .u8 (j2.toNat : Int), .int .u8 (j3.toNat : Int), .int .u8 (j4.toNat : Int), .int .u8 (j5.toNat : Int), .int .u8 (k0.toNat : Int), .int .u8 (k1.toNat : Int), .int .u8 (k2.toNat : Int), .int .u8 (k3.toNat : Int)] 44 (0, 0))) := Lib.hid ((hk7.block _ (Array.getElem?_eq_some_iff.1 HR3.out).1).trans HR3.out)
  clear hk7 hsh cs1 RD1 OK1 HR2 HR3 HO1 HK6
  go_wp2_with (refine lld_row (by rfl) (.tmp 9) _ _ rfl rfl HR2'.out Try.underlying44 rfl szArp ?_)
  by_cases hop : op = 1 ∨ op = 2
  case neg =>
    refine (barp_no _ op a0 a1 a2 a3 a4 a5 b0 b1 b2 b3 c0 c1 c2 c3 c4 c5 g0 g1 g2 g3 (fun e => hop (.inl e)) (fun e => hop (.inr e))).mono ?_
    rintro e w8 ⟨rfl, hk8⟩
    have HK8 := Lib.hid (HK7.out.trans hk8)
    have HR3 : Hid (w8.heap[p1]? = some (.cells #[.int .i64 oq, .int .u8 (h0.toNat : Int), .int .u8 (h1.toNat : Int), .int .u8 (h2.toNat : Int), .int .u8 (h3.toNat : Int), .int .u8 (h4.toNat : Int), .int .u8 (h5.toNat : Int), .int .u8 (i0.toNat : Int), .int .u8 (i1.toNat : Int), .int .u8 (i2.toNat : Int), .int .u8 (i3.toNat : Int), .int .u8 (j0.toNat : Int), .int .u8 (j1.toNat : Int), .int .u8 (j2.toNat : Int), .int .u8 (j3.toNat : Int), .int .u8 (j4.toNat : Int), .int .u8 (j5.toNat : Int), .int .u8 (k0.toNat : Int), .int .u8 (k1.toNat : Int), .int .u8 (k2.toNat : Int), .int .u8 (k3.toNat : Int)] 44 (0, 0))) := Lib.hid ((hk8.block _ (Array.getElem?_eq_some_iff.1 HR3'.out).1).trans HR3'.out)
    clear hk8 HR2' HR3' HK7
    go_wp2_with (refine lld_row (by rfl) (.tmp 10) _ _ rfl rfl HR3.out Try.underlying44 rfl szArp ?_)
    by_cases hoq : oq = 1 ∨ oq = 2
    · refine (barp_ok _ oq h0 h1 h2 h3 h4 h5 i0 i1 i2 i3 j0 j1 j2 j3 j4 j5 k0 k1 k2 k3 hoq).mono ?_
      rintro e w9 ⟨hk9, hcase⟩
      rcases hcase with ⟨q1, q2, _⟩ | ⟨_, y4, cap4, rfl, hown4⟩
      · exact absurd hoq (by omega)
      have HK9 := Lib.hid (HK8.out.trans hk9)
      clear hk9 hown4 hop hoq
      go_wp2
      go_ret
      exact ⟨rfl, HK9.out⟩
    · refine (barp_no _ oq h0 h1 h2 h3 h4 h5 i0 i1 i2 i3 j0 j1 j2 j3 j4 j5 k0 k1 k2 k3 (fun e => hoq (.inl e)) (fun e => hoq (.inr e))).mono ?_
      rintro e w9 ⟨rfl, hk9⟩
      have HK9 := Lib.hid (HK8.out.trans hk9)
      clear hk9 hop hoq
      go_wp2
      go_ret
      exact ⟨rfl, HK9.out⟩
  refine (barp_ok _ op a0 a1 a2 a3 a4 a5 b0 b1 b2 b3 c0 c1 c2 c3 c4 c5 g0 g1 g2 g3 hop).mono ?_
  rintro e w8 ⟨hk8, hcase⟩
  rcases hcase with ⟨q1, q2, _⟩ | ⟨_, y3, cap3, rfl, hown3⟩
  · exact absurd hop (by omega)
  have HK8 := Lib.hid (HK7.out.trans hk8)
  have HO3 := Lib.hid hown3
  have HR2 : Hid (w8.heap[p0]? = some (.cells #[.int .i64 op, .int .u8 (a0.toNat : Int), .int .u8 (a1.toNat : Int), .int .u8 (a2.toNat : Int), .int .u8 (a3.toNat : Int), .int .u8 (a4.toNat : Int), .int .u8 (a5.toNat : Int), .int .u8 (b0.toNat : Int), .int .u8 (b1.toNat : Int), .int .u8 (b2.toNat : Int), .int .u8 (b3.toNat : Int), .int .u8 (c0.toNat : Int), .int .u8 (c1.toNat : Int), .int .u8 (c2.toNat : Int), .int .u8 (c3.toNat : Int), .int .u8 (c4.toNat : Int), .int .u8 (c5.toNat : Int), .int .u8 (g0.toNat : Int), .int .u8 (g1.toNat : Int), .int .u8 (g2.toNat : Int), .int .u8 (g3.toNat : Int)] 44 (0, 0))) := Lib.hid ((hk8.block _ (Array.getElem?_eq_some_iff.1 HR2'.out).1).trans HR2'.out)
  have HR3 : Hid (w8.heap[p1]? = some (.cells #[.int .i64 oq, .int .u8 (h0.toNat : Int), .int .u8 (h1.toNat : Int), .int .u8 (h2.toNat : Int), .int .u8 (h3.toNat : Int), .int .u8 (h4.toNat : Int), .int .u8 (h5.toNat : Int), .int .u8 (i0.toNat : Int), .int .u8 (i1.toNat : Int), .int .u8 (i2.toNat : Int), .int .u8 (i3.toNat : Int), .int .u8 (j0.toNat : Int), .int .u8 (j1.toNat : Int), .int .u8 (j2.toNat : Int), .int .u8 (j3.toNat : Int), .int .u8 (j4.toNat : Int), .int .u8 (j5.toNat : Int), .int .u8 (k0.toNat : Int), .int .u8 (k1.toNat : Int), .int .u8 (k2.toNat : Int), .int .u8 (k3.toNat : Int)] 44 (0, 0))) := Lib.hid ((hk8.block _ (Array.getElem?_eq_some_iff.1 HR3'.out).1).trans HR3'.out)
  have HOP := Lib.hid hop
  clear hk8 hown3 HR2' HR3' HK7 hop
  go_wp2_with (refine lld_row (by rfl) (.tmp 10) _ _ rfl rfl HR3.out Try.underlying44 rfl szArp ?_)
  by_cases hoq : oq = 1 ∨ oq = 2
  case neg =>
    refine (barp_no _ oq h0 h1 h2 h3 h4 h5 i0 i1 i2 i3 j0 j1 j2 j3 j4 j5 k0 k1 k2 k3 (fun e => hoq (.inl e)) (fun e => hoq (.inr e))).mono ?_
    rintro e w9 ⟨rfl, hk9⟩
    have HK9 := Lib.hid (HK8.out.trans hk9)
    clear hk9 hoq
    go_wp2
    go_ret
    exact ⟨rfl, HK9.out⟩
  refine (barp_ok _ oq h0 h1 h2 h3 h4 h5 i0 i1 i2 i3 j0 j1 j2 j3 j4 j5 k0 k1 k2 k3 hoq).mono ?_
  rintro e w9 ⟨hk9, hcase⟩
  rcases hcase with ⟨q1, q2, _⟩ | ⟨_, y4, cap4, rfl, hown4⟩
  · exact absurd hoq (by omega)
  have HK9 := Lib.hid (HK8.out.trans hk9)
  have HO3' := Lib.hid (HO3.out.keep hk9)
  have HO4 := Lib.hid hown4
  have HR2' : Hid (w9.heap[p0]? = some (.cells #[.int .i64 op, .int .u8 (a0.toNat : Int), .int .u8 (a1.toNat : Int), .int .u8 (a2.toNat : Int), .int .u8 (a3.toNat : Int), .int .u8 (a4.toNat : Int), .int .u8 (a5.toNat : Int), .int .u8 (b0.toNat : Int), .int .u8 (b1.toNat : Int), .int .u8 (b2.toNat : Int), .int .u8 (b3.toNat : Int), .int .u8 (c0.toNat : Int), .int .u8 (c1.toNat : Int), .int .u8 (c2.toNat : Int), .int .u8 (c3.toNat : Int), .int .u8 (c4.toNat : Int), .int .u8 (c5.toNat : Int), .int .u8 (g0.toNat : Int), .int .u8 (g1.toNat : Int), .int .u8 (g2.toNat : Int), .int .u8 (g3.toNat : Int)] 44 (0, 0))) := Lib.hid ((hk9.block _ (Array.getElem?_eq_some_iff.1 HR2.out).1).trans HR2.out)
  have HR3' : Hid (w9.heap[p1]? = some (.cells #[.int .i64 oq, .int .u8 (h0.toNat : Int), .int .u8 (h1.toNat : Int), .int .u8 (h2.toNat : Int), .int .u8 (h3.toNat : Int), .int .u8 (h4.toNat : Int), .int .u8 (h5.toNat : Int), .int .u8 (i0.toNat : Int), .int .u8 (i1.toNat : Int), .int .u8 (i2.toNat : Int), .int .u8 (i3.toNat : Int), .int .u8 (j0.toNat : Int), .int .u8 (j1.toNat : Int), .int .u8 (j2.toNat : Int), .int .u8 (j3.toNat : Int), .int .u8 (j4.toNat : Int), .int .u8 (j5.toNat : Int), .int .u8 (k0.toNat : Int), .int .u8 (k1.toNat : Int), .int .u8 (k2.toNat : Int), .int .u8 (k3.toNat : Int)] 44 (0, 0))) := Lib.hid ((hk9.block _ (Array.getElem?_eq_some_iff.1 HR3.out).1).trans HR3.out)
  have HOQ := Lib.hid hoq
  clear hk9 hown4 HR2 HR3 HK8 hoq HO3
  obtain ⟨SA, hsa⟩ : ∃ b, sameA op [a0, a1, a2, a3, a4, a5] [b0, b1, b2, b3] [c0, c1, c2, c3, c4, c5] [g0, g1, g2, g3] oq [h0, h1, h2, h3, h4, h5] [i0, i1, i2, i3] [j0, j1, j2, j3, j4, j5] [k0, k1, k2, k3] = b := ⟨_, rfl⟩
  have HSA := Lib.hid hsa
  have hsb := (arp_beq op a0 a1 a2 a3 a4 a5 b0 b1 b2 b3 c0 c1 c2 c3 c4 c5 g0 g1 g2 g3 oq h0 h1 h2 h3 h4 h5 i0 i1 i2 i3 j0 j1 j2 j3 j4 j5 k0 k1 k2 k3 HOP.out HOQ.out).trans hsa
  obtain ⟨x3, hx3⟩ : ∃ x, arpBytes op [a0, a1, a2, a3, a4, a5] [b0, b1, b2, b3] [c0, c1, c2, c3, c4, c5] [g0, g1, g2, g3] = x := ⟨_, rfl⟩
  obtain ⟨x4, hx4⟩ : ∃ x, arpBytes oq [h0, h1, h2, h3, h4, h5] [i0, i1, i2, i3] [j0, j1, j2, j3, j4, j5] [k0, k1, k2, k3] = x := ⟨_, rfl⟩
  rw [hx3, hx4] at hsb
  rw [hx3] at HO3'
  rw [hx4] at HO4
  have HSB := Lib.hid hsb
  clear hsa hsb hx3 hx4 HOP HOQ
  obtain ⟨cs1, rd1, ok1⟩ := cut_hi (P := Try.prog) (kd := .i64) (m := z) Try.underlying25 hi8 hs8 HO3'.out.rd0 HO3'.out.slOk (by omega)
  have RD1 := Lib.hid rd1
  have OK1 := Lib.hid ok1
  clear rd1 ok1
  go_wp2_with fail
  refine (parp_any _ _ z _ _ RD1.out OK1.out (by omega)).mono ?_
  rintro e w10 ⟨hk10, o9, _, _, _, _, _, _, _, _, _, _, _, _, _, _, _, _, _, _, _, _, kk9, hp9, rfl⟩
  have hsh : (x3.take z).length < 28 := by rw [List.length_take]; omega
  rw [arpOf_short hsh] at hp9
  simp only [Prod.mk.injEq] at hp9
  obtain ⟨-, -, rfl⟩ := hp9
  have HK10 := Lib.hid (HK9.out.trans hk10)
  have HO3 := Lib.hid (HO3'.out.keep hk10)
  have HO4' := Lib.hid (HO4.out.keep hk10)
  have HR2 : Hid (w10.heap[p0]? = some (.cells #[.int .i64 op, .int .u8 (a0.toNat : Int), .int .u8 (a1.toNat : Int), .int .u8 (a2.toNat : Int), .int .u8 (a3.toNat : Int), .int .u8 (a4.toNat : Int), .int .u8 (a5.toNat : Int), .int .u8 (b0.toNat : Int), .int .u8 (b1.toNat : Int), .int .u8 (b2.toNat : Int), .int .u8 (b3.toNat : Int), .int .u8 (c0.toNat : Int), .int .u8 (c1.toNat : Int), .int .u8 (c2.toNat : Int), .int .u8 (c3.toNat : Int), .int .u8 (c4.toNat : Int), .int .u8 (c5.toNat : Int), .int .u8 (g0.toNat : Int), .int .u8 (g1.toNat : Int), .int .u8 (g2.toNat : Int), .int .u8 (g3.toNat : Int)] 44 (0, 0))) := Lib.hid ((hk10.block _ (Array.getElem?_eq_some_iff.1 HR2'.out).1).trans HR2'.out)
  have HR3 : Hid (w10.heap[p1]? = some (.cells #[.int .i64 oq, .int .u8 (h0.toNat : Int), .int .u8 (h1.toNat : Int), .int .u8 (h2.toNat : Int), .int .u8 (h3.toNat : Int), .int .u8 (h4.toNat : Int), .int .u8 (h5.toNat : Int), .int .u8 (i0.toNat : Int), .int .u8 (i1.toNat : Int), .int .u8 (i2.toNat : Int), .int .u8 (i3.toNat : Int), .int .u8 (j0.toNat : Int), .int .u8 (j1.toNat : Int), .int .u8 (j2.toNat : Int), .int .u8 (j3.toNat : Int), .int .u8 (j4.toNat : Int), .int .u8 (j5.toNat : Int), .int .u8 (k0.toNat : Int), .int .u8 (k1.toNat : Int), .int .u8 (k2.toNat : Int), .int .u8 (k3.toNat : Int)] 44 (0, 0))) := Lib.hid ((hk10.block _ (Array.getElem?_eq_some_iff.1 HR3'.out).1).trans HR3'.out)
  clear hk10 hsh cs1 RD1 OK1 HR2' HR3' HK9 HO3' HO4
  go_wp2_with fail
  have KC : ∀ W, Kp w10.drew W → W.heap[p0]? = some (.cells #[.int .i64 op, .int .u8 (a0.toNat : Int), .int .u8 (a1.toNat : Int), .int .u8 (a2.toNat : Int), .int .u8 (a3.toNat : Int), .int .u8 (a4.toNat : Int), .int .u8 (a5.toNat : Int), .int .u8 (b0.toNat : Int), .int .u8 (b1.toNat : Int), .int .u8 (b2.toNat : Int), .int .u8 (b3.toNat : Int), .int .u8 (c0.toNat : Int), .int .u8 (c1.toNat : Int), .int .u8 (c2.toNat : Int), .int .u8 (c3.toNat : Int), .int .u8 (c4.toNat : Int), .int .u8 (c5.toNat : Int), .int .u8 (g0.toNat : Int), .int .u8 (g1.toNat : Int), .int .u8 (g2.toNat : Int), .int .u8 (g3.toNat : Int)] 44 (0, 0)) ∧ W.heap[p1]? = some (.cells #[.int .i64 oq, .int .u8 (h0.toNat : Int), .int .u8 (h1.toNat : Int), .int .u8 (h2.toNat : Int), .int .u8 (h3.toNat : Int), .int .u8 (h4.toNat : Int), .int .u8 (h5.toNat : Int), .int .u8 (i0.toNat : Int), .int .u8 (i1.toNat : Int), .int .u8 (i2.toNat : Int), .int .u8 (i3.toNat : Int), .int .u8 (j0.toNat : Int), .int .u8 (j1.toNat : Int), .int .u8 (j2.toNat : Int), .int .u8 (j3.toNat : Int), .int .u8 (j4.toNat : Int), .int .u8 (j5.toNat : Int), .int .u8 (k0.toNat : Int), .int .u8 (k1.toNat : Int), .int .u8 (k2.toNat : Int), .int .u8 (k3.toNat : Int)] 44 (0, 0)) ∧ Rd W 0 (some ⟨y3, 0, none⟩) 28 x3 ∧ Rd W 0 (some ⟨y4, 0, none⟩) 28 x4 := fun W hW => by
    have hk : Kp w10 W := ((Kp.refl w10).drew).trans hW
    exact ⟨(hk.block _ (Array.getElem?_eq_some_iff.1 HR2.out).1).trans HR2.out, (hk.block _ (Array.getElem?_eq_some_iff.1 HR3.out).1).trans HR3.out, HO3.out.rd0.keep hk, HO4'.out.rd0.keep hk⟩
  have eqa : ∀ W, (binOp .eql 44 (.agg #[.int .i64 op, .int .u8 (a0.toNat : Int), .int .u8 (a1.toNat : Int), .int .u8 (a2.toNat : Int), .int .u8 (a3.toNat : Int), .int .u8 (a4.toNat : Int), .int .u8 (a5.toNat : Int), .int .u8 (b0.toNat : Int), .int .u8 (b1.toNat : Int), .int .u8 (b2.toNat : Int), .int .u8 (b3.toNat : Int), .int .u8 (c0.toNat : Int), .int .u8 (c1.toNat : Int), .int .u8 (c2.toNat : Int), .int .u8 (c3.toNat : Int), .int .u8 (c4.toNat : Int), .int .u8 (c5.toNat : Int), .int .u8 (g0.toNat : Int), .int .u8 (g1.toNat : Int), .int .u8 (g2.toNat : Int), .int .u8 (g3.toNat : Int)]) (.agg #[.int .i64 oq, .int .u8 (h0.toNat : Int), .int .u8 (h1.toNat : Int), .int .u8 (h2.toNat : Int), .int .u8 (h3.toNat : Int), .int .u8 (h4.toNat : Int), .int .u8 (h5.toNat : Int), .int .u8 (i0.toNat : Int), .int .u8 (i1.toNat : Int), .int .u8 (i2.toNat : Int), .int .u8 (i3.toNat : Int), .int .u8 (j0.toNat : Int), .int .u8 (j1.toNat : Int), .int .u8 (j2.toNat : Int), .int .u8 (j3.toNat : Int), .int .u8 (j4.toNat : Int), .int .u8 (j5.toNat : Int), .int .u8 (k0.toNat : Int), .int .u8 (k1.toNat : Int), .int .u8 (k2.toNat : Int), .int .u8 (k3.toNat : Int)])).run Try.prog W = .ok (.bool SA) W := fun W => (eq_arp W op a0 a1 a2 a3 a4 a5 b0 b1 b2 b3 c0 c1 c2 c3 c4 c5 g0 g1 g2 g3 oq h0 h1 h2 h3 h4 h5 i0 i1 i2 i3 j0 j1 j2 j3 j4 j5 k0 k1 k2 k3).trans (by rw [HSA.out])
  refine wp_region_stepsG (by kernel_rfl) 14 (unphj p0 p1 d0 d1 d2 d3 d4 d5 s0 s1 s2 s3 s4 s5 ty A n c e0 e1 e2 e3 e4 e5 t0 t1 t2 t3 t4 t5 tz B m k op a0 a1 a2 a3 a4 a5 b0 b1 b2 b3 c0 c1 c2 c3 c4 c5 g0 g1 g2 g3 oq h0 h1 h2 h3 h4 h5 i0 i1 i2 i3 j0 j1 j2 j3 j4 j5 k0 k1 k2 k3 x3 x4 y3 y4 cap3 cap4 SA) [118, 119, 120, 121, 122, 123, 124, 125, 126, 127, 128, 129, 130, 6] (by kernel_rfl) (by kernel_rfl) ⟨?_, ?_, ?_, ?_, ?_, ?_, ?_, ?_, ?_, ?_, ?_, ?_, ?_, ?_, trivial⟩ ?_
  · refine stepG_free rfl ?_
    intro a W hW hO hφ K hK
    have q15 : a.tmps.getD 15 undef = (.slice (some ⟨y3, 0, none⟩) 28 cap3) := hO 15 (by kernel_rfl)
    have r15 := q15
    rw [Array.getD_eq_getD_getElem?] at r15
    clear hO hφ
    clear KC
    go_simp
    exact hK _ _ (Kp.refl _) rfl
  · refine stepG_free rfl ?_
    intro a W hW hO hφ K hK
    have q118 : a.tmps.getD 118 undef = (.slice (some ⟨y3, 0, none⟩) 28 cap3) := hφ ⟨0, .data⟩ (by simp) rfl
    have r118 := q118
    rw [Array.getD_eq_getD_getElem?] at r118
    clear hO hφ
    obtain ⟨z0, z1, z2, z3⟩ := KC W hW
    clear KC
    have cv := conv_str (P := Try.prog) (c := cap3) Try.underlying25 Try.underlying5 Try.underlying9 z2
    clear z0 z1 z2 z3
    go_simp
    exact hK _ _ (Kp.refl _) rfl
  · refine stepG_free rfl ?_
    intro a W hW hO hφ K hK
    have q16 : a.tmps.getD 16 undef = (.slice (some ⟨y4, 0, none⟩) 28 cap4) := hO 16 (by kernel_rfl)
    have r16 := q16
    rw [Array.getD_eq_getD_getElem?] at r16
    clear hO hφ
    clear KC
    go_simp
    exact hK _ _ (Kp.refl _) rfl
  · refine stepG_free rfl ?_
    intro a W hW hO hφ K hK
    have q120 : a.tmps.getD 120 undef = (.slice (some ⟨y4, 0, none⟩) 28 cap4) := hφ ⟨2, .data⟩ (by simp) rfl
    have r120 := q120
    rw [Array.getD_eq_getD_getElem?] at r120
    clear hO hφ
    obtain ⟨z0, z1, z2, z3⟩ := KC W hW
    clear KC
    have cv := conv_str (P := Try.prog) (c := cap4) Try.underlying25 Try.underlying5 Try.underlying9 z3
    clear z0 z1 z2 z3
    go_simp
    exact hK _ _ (Kp.refl _) rfl
  · refine stepG_free rfl ?_
    intro a W hW hO hφ K hK
    have q119 : a.tmps.getD 119 undef = (.string (str x3)) := hφ ⟨1, .data⟩ (by simp) rfl
    have q121 : a.tmps.getD 121 undef = (.string (str x4)) := hφ ⟨3, .data⟩ (by simp) rfl
    have r119 := q119
    rw [Array.getD_eq_getD_getElem?] at r119
    have r121 := q121
    rw [Array.getD_eq_getD_getElem?] at r121
    clear hO hφ
    have es := (str_beq x3 x4).trans HSB.out
    clear KC
    go_simp
    exact hK _ _ (Kp.refl _) rfl
  · refine stepG_free rfl ?_
    intro a W hW hO hφ K hK
    have q9 : a.tmps.getD 9 undef = (.pointer (some ⟨p0, 0, none⟩)) := hO 9 (by kernel_rfl)
    have r9 := q9
    rw [Array.getD_eq_getD_getElem?] at r9
    clear hO hφ
    obtain ⟨z0, z1, z2, z3⟩ := KC W hW
    clear KC
    refine old_part (.tmp 9) 44 _ [.int .i64 op, .int .u8 (a0.toNat : Int), .int .u8 (a1.toNat : Int), .int .u8 (a2.toNat : Int), .int .u8 (a3.toNat : Int), .int .u8 (a4.toNat : Int), .int .u8 (a5.toNat : Int), .int .u8 (b0.toNat : Int), .int .u8 (b1.toNat : Int), .int .u8 (b2.toNat : Int), .int .u8 (b3.toNat : Int), .int .u8 (c0.toNat : Int), .int .u8 (c1.toNat : Int), .int .u8 (c2.toNat : Int), .int .u8 (c3.toNat : Int), .int .u8 (c4.toNat : Int), .int .u8 (c5.toNat : Int), .int .u8 (g0.toNat : Int), .int .u8 (g1.toNat : Int), .int .u8 (g2.toNat : Int), .int .u8 (g3.toNat : Int)] rfl q9 z0 rfl Try.underlying44 rfl szArp ?_
    exact hK _ _ (Kp.refl _) rfl
  · refine stepG_free rfl ?_
    intro a W hW hO hφ K hK
    have q10 : a.tmps.getD 10 undef = (.pointer (some ⟨p1, 0, none⟩)) := hO 10 (by kernel_rfl)
    have r10 := q10
    rw [Array.getD_eq_getD_getElem?] at r10
    clear hO hφ
    obtain ⟨z0, z1, z2, z3⟩ := KC W hW
    clear KC
    refine old_part (.tmp 10) 44 _ [.int .i64 oq, .int .u8 (h0.toNat : Int), .int .u8 (h1.toNat : Int), .int .u8 (h2.toNat : Int), .int .u8 (h3.toNat : Int), .int .u8 (h4.toNat : Int), .int .u8 (h5.toNat : Int), .int .u8 (i0.toNat : Int), .int .u8 (i1.toNat : Int), .int .u8 (i2.toNat : Int), .int .u8 (i3.toNat : Int), .int .u8 (j0.toNat : Int), .int .u8 (j1.toNat : Int), .int .u8 (j2.toNat : Int), .int .u8 (j3.toNat : Int), .int .u8 (j4.toNat : Int), .int .u8 (j5.toNat : Int), .int .u8 (k0.toNat : Int), .int .u8 (k1.toNat : Int), .int .u8 (k2.toNat : Int), .int .u8 (k3.toNat : Int)] rfl q10 z1 rfl Try.underlying44 rfl szArp ?_
    exact hK _ _ (Kp.refl _) rfl
  · refine stepG_free rfl ?_
    intro a W hW hO hφ K hK
    have q123 : a.tmps.getD 123 undef = (.agg #[.int .i64 op, .int .u8 (a0.toNat : Int), .int .u8 (a1.toNat : Int), .int .u8 (a2.toNat : Int), .int .u8 (a3.toNat : Int), .int .u8 (a4.toNat : Int), .int .u8 (a5.toNat : Int), .int .u8 (b0.toNat : Int), .int .u8 (b1.toNat : Int), .int .u8 (b2.toNat : Int), .int .u8 (b3.toNat : Int), .int .u8 (c0.toNat : Int), .int .u8 (c1.toNat : Int), .int .u8 (c2.toNat : Int), .int .u8 (c3.toNat : Int), .int .u8 (c4.toNat : Int), .int .u8 (c5.toNat : Int), .int .u8 (g0.toNat : Int), .int .u8 (g1.toNat : Int), .int .u8 (g2.toNat : Int), .int .u8 (g3.toNat : Int)]) := hφ ⟨5, .data⟩ (by simp) rfl
    have q124 : a.tmps.getD 124 undef = (.agg #[.int .i64 oq, .int .u8 (h0.toNat : Int), .int .u8 (h1.toNat : Int), .int .u8 (h2.toNat : Int), .int .u8 (h3.toNat : Int), .int .u8 (h4.toNat : Int), .int .u8 (h5.toNat : Int), .int .u8 (i0.toNat : Int), .int .u8 (i1.toNat : Int), .int .u8 (i2.toNat : Int), .int .u8 (i3.toNat : Int), .int .u8 (j0.toNat : Int), .int .u8 (j1.toNat : Int), .int .u8 (j2.toNat : Int), .int .u8 (j3.toNat : Int), .int .u8 (j4.toNat : Int), .int .u8 (j5.toNat : Int), .int .u8 (k0.toNat : Int), .int .u8 (k1.toNat : Int), .int .u8 (k2.toNat : Int), .int .u8 (k3.toNat : Int)]) := hφ ⟨6, .data⟩ (by simp) rfl
    have r123 := q123
    rw [Array.getD_eq_getD_getElem?] at r123
    have r124 := q124
    rw [Array.getD_eq_getD_getElem?] at r124
    clear hO hφ
    clear KC
    go_simp
    exact hK _ _ (Kp.refl _) rfl
  · refine stepG_free rfl ?_
    intro a W hW hO hφ K hK
    have q122 : a.tmps.getD 122 undef = (.bool SA) := hφ ⟨4, .data⟩ (by simp) rfl
    have q125 : a.tmps.getD 125 undef = (.bool SA) := hφ ⟨7, .data⟩ (by simp) rfl
    have r122 := q122
    rw [Array.getD_eq_getD_getElem?] at r122
    have r125 := q125
    rw [Array.getD_eq_getD_getElem?] at r125
    clear hO hφ
    clear KC
    go_simp
    exact hK _ _ (Kp.refl _) rfl
  · refine stepG_free rfl ?_
    intro a W hW hO hφ K hK
    have q126 : a.tmps.getD 126 undef = (.bool true) := hφ ⟨8, .data⟩ (by simp) rfl
    have r126 := q126
    rw [Array.getD_eq_getD_getElem?] at r126
    clear hO hφ
    clear KC
    go_simp
    exact hK _ _ (Kp.refl _) rfl
  · refine stepG_on rfl (fun x W h => h) ?_
    intro a W hW hO hφ K hK
    have q12 : a.tmps.getD 12 undef = (.int .i64 6) := hO 12 (by kernel_rfl)
    have r12 := q12
    rw [Array.getD_eq_getD_getElem?] at r12
    clear hO hφ
    clear KC
    go_simp
    exact hK _ _ (Kp.refl _) rfl
  · refine stepG_on rfl (fun x W h => h) ?_
    intro a W hW hO hφ K hK
    have q128 : a.tmps.getD 128 undef = (.int .i64 6) := hφ ⟨10, .data⟩ (by simp) rfl
    have r128 := q128
    rw [Array.getD_eq_getD_getElem?] at r128
    clear hO hφ
    clear KC
    go_simp
    exact hK _ _ (Kp.refl _) rfl
  · refine stepG_free rfl ?_
    intro a W hW hO hφ K hK
    have q127 : a.tmps.getD 127 undef = (.bool true) := hφ ⟨9, .data⟩ (by simp) rfl
    have q129 : a.tmps.getD 129 undef = (.bool true) := hφ ⟨11, .data⟩ (by simp) rfl
    have r127 := q127
    rw [Array.getD_eq_getD_getElem?] at r127
    have r129 := q129
    rw [Array.getD_eq_getD_getElem?] at r129
    clear hO hφ
    clear KC
    go_simp
    exact hK _ _ (Kp.refl _) rfl
  · refine stepG_free rfl ?_
    intro a W hW hO hφ K hK
    have q130 : a.tmps.getD 130 undef = (.bool true) := hφ ⟨12, .data⟩ (by simp) rfl
    have r130 := q130
    rw [Array.getD_eq_getD_getElem?] at r130
    clear hO hφ
    clear KC
    go_simp
    exact hK _ _ (Kp.refl _) rfl
  intro f W hW hφ
  have v0 : f 0 = (.slice (some ⟨y3, 0, none⟩) 28 cap3) := hφ 0 (by omega)
  have v1 : f 1 = (.string (str x3)) := hφ 1 (by omega)
  have v2 : f 2 = (.slice (some ⟨y4, 0, none⟩) 28 cap4) := hφ 2 (by omega)
  have v3 : f 3 = (.string (str x4)) := hφ 3 (by omega)
  have v4 : f 4 = (.bool SA) := hφ 4 (by omega)
  have v5 : f 5 = (.agg #[.int .i64 op, .int .u8 (a0.toNat : Int), .int .u8 (a1.toNat : Int), .int .u8 (a2.toNat : Int), .int .u8 (a3.toNat : Int), .int .u8 (a4.toNat : Int), .int .u8 (a5.toNat : Int), .int .u8 (b0.toNat : Int), .int .u8 (b1.toNat : Int), .int .u8 (b2.toNat : Int), .int .u8 (b3.toNat : Int), .int .u8 (c0.toNat : Int), .int .u8 (c1.toNat : Int), .int .u8 (c2.toNat : Int), .int .u8 (c3.toNat : Int), .int .u8 (c4.toNat : Int), .int .u8 (c5.toNat : Int), .int .u8 (g0.toNat : Int), .int .u8 (g1.toNat : Int), .int .u8 (g2.toNat : Int), .int .u8 (g3.toNat : Int)]) := hφ 5 (by omega)
  have v6 : f 6 = (.agg #[.int .i64 oq, .int .u8 (h0.toNat : Int), .int .u8 (h1.toNat : Int), .int .u8 (h2.toNat : Int), .int .u8 (h3.toNat : Int), .int .u8 (h4.toNat : Int), .int .u8 (h5.toNat : Int), .int .u8 (i0.toNat : Int), .int .u8 (i1.toNat : Int), .int .u8 (i2.toNat : Int), .int .u8 (i3.toNat : Int), .int .u8 (j0.toNat : Int), .int .u8 (j1.toNat : Int), .int .u8 (j2.toNat : Int), .int .u8 (j3.toNat : Int), .int .u8 (j4.toNat : Int), .int .u8 (j5.toNat : Int), .int .u8 (k0.toNat : Int), .int .u8 (k1.toNat : Int), .int .u8 (k2.toNat : Int), .int .u8 (k3.toNat : Int)]) := hφ 6 (by omega)
  have v7 : f 7 = (.bool SA) := hφ 7 (by omega)
  have v8 : f 8 = (.bool true) := hφ 8 (by omega)
  have v9 : f 9 = (.bool true) := hφ 9 (by omega)
  have v10 : f 10 = (.int .i64 6) := hφ 10 (by omega)
  have v11 : f 11 = (.bool true) := hφ 11 (by omega)
  have v12 : f 12 = (.bool true) := hφ 12 (by omega)
  have v13 : f 13 = (.bool true) := hφ 13 (by omega)
  clear hφ
  simp only [putAll, List.setIfInBounds_toArray, List.set_cons_succ, List.set_cons_zero, v0, v1, v2, v3, v4, v5, v6, v7, v8, v9, v10, v11, v12, v13]
  clear v0 v1 v2 v3 v4 v5 v6 v7 v8 v9 v10 v11 v12 v13
  refine wpAny_done (by kernel_rfl) ?_ _
  have HK11 := Lib.hid (HK10.out.trans (((Kp.refl w10).drew).trans hW))
  clear KC hW
  go_wp2
  go_ret
  exact ⟨rfl, HK11.out⟩
end Go.Proofs.Ytdibmeapflhhaaa
