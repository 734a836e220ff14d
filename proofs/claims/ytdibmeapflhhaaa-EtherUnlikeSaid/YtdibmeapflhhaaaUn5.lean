/-
  Unlike frames have unlike bytes, likewise unlike Arps: the plain law.
-/
import Derived.Test.YtdibmeapflhhaaaParsed5
import Derived.Test.YtdibmeapflhhaaaArpEq
import Derived.Test.YtdibmeapflhhaaaArp5a
namespace Go.Proofs.Ytdibmeapflhhaaa
open Go.RowKit

theorem word_inj {a b : Nat} (ha : a ≤ 65535) (hb : b ≤ 65535) : (UInt8.ofNat (a / 256) = UInt8.ofNat (b / 256) ∧ UInt8.ofNat (a % 256) = UInt8.ofNat (b % 256)) ↔ a = b := by
  constructor
  · rintro ⟨h1, h2⟩
    have e1 := congrArg UInt8.toNat h1
    have e2 := congrArg UInt8.toNat h2
    rw [UInt8.toNat_ofNat', UInt8.toNat_ofNat'] at e1 e2
    omega
  · rintro rfl; exact ⟨rfl, rfl⟩

theorem frame_beq (d0 d1 d2 d3 d4 d5 s0 s1 s2 s3 s4 s5 : UInt8) (ty : Nat) (l : List UInt8) (e0 e1 e2 e3 e4 e5 t0 t1 t2 t3 t4 t5 : UInt8) (ty' : Nat) (l' : List UInt8) (h1 : ty ≤ 65535) (h2 : ty' ≤ 65535) :
    (frameBytes [d0, d1, d2, d3, d4, d5] [s0, s1, s2, s3, s4, s5] ty l == frameBytes [e0, e1, e2, e3, e4, e5] [t0, t1, t2, t3, t4, t5] ty' l') = sameF [d0, d1, d2, d3, d4, d5] [s0, s1, s2, s3, s4, s5] ty l [e0, e1, e2, e3, e4, e5] [t0, t1, t2, t3, t4, t5] ty' l' := by
  rw [Bool.eq_iff_iff]
  have hw := word_inj h1 h2
  unfold sameF frameBytes
  simp only [beq_iff_eq, Bool.and_eq_true, List.cons_append, List.nil_append, List.cons.injEq, and_true]
  constructor
  · rintro ⟨a0, a1, a2, a3, a4, a5, b0, b1, b2, b3, b4, b5, x, y, z⟩
    exact ⟨⟨a0, a1, a2, a3, a4, a5⟩, ⟨b0, b1, b2, b3, b4, b5⟩, hw.1 ⟨x, y⟩, z⟩
  · rintro ⟨⟨a0, a1, a2, a3, a4, a5⟩, ⟨b0, b1, b2, b3, b4, b5⟩, xy, z⟩
    exact ⟨a0, a1, a2, a3, a4, a5, b0, b1, b2, b3, b4, b5, (hw.2 xy).1, (hw.2 xy).2, z⟩

theorem arp_beq (o : Int) (a0 a1 a2 a3 a4 a5 b0 b1 b2 b3 c0 c1 c2 c3 c4 c5 d0 d1 d2 d3 : UInt8) (o' : Int) (e0 e1 e2 e3 e4 e5 f0 f1 f2 f3 g0 g1 g2 g3 g4 g5 h0 h1 h2 h3 : UInt8) (q1 : o = 1 ∨ o = 2) (q2 : o' = 1 ∨ o' = 2) :
    (arpBytes o [a0, a1, a2, a3, a4, a5] [b0, b1, b2, b3] [c0, c1, c2, c3, c4, c5] [d0, d1, d2, d3] == arpBytes o' [e0, e1, e2, e3, e4, e5] [f0, f1, f2, f3] [g0, g1, g2, g3, g4, g5] [h0, h1, h2, h3]) = sameA o [a0, a1, a2, a3, a4, a5] [b0, b1, b2, b3] [c0, c1, c2, c3, c4, c5] [d0, d1, d2, d3] o' [e0, e1, e2, e3, e4, e5] [f0, f1, f2, f3] [g0, g1, g2, g3, g4, g5] [h0, h1, h2, h3] := by
  rw [Bool.eq_iff_iff]
  have hw : UInt8.ofNat o.toNat = UInt8.ofNat o'.toNat ↔ o = o' := by
    rcases q1 with rfl | rfl <;> rcases q2 with rfl | rfl <;> decide
  unfold sameA arpBytes
  simp only [beq_iff_eq, Bool.and_eq_true, List.cons_append, List.nil_append, List.cons.injEq, and_true, true_and]
  constructor
  · rintro ⟨x, a0, a1, a2, a3, a4, a5, b0, b1, b2, b3, c0, c1, c2, c3, c4, c5, d0, d1, d2, d3⟩
    exact ⟨hw.1 x, ⟨a0, a1, a2, a3, a4, a5⟩, ⟨b0, b1, b2, b3⟩, ⟨c0, c1, c2, c3, c4, c5⟩, ⟨d0, d1, d2, d3⟩⟩
  · rintro ⟨x, ⟨a0, a1, a2, a3, a4, a5⟩, ⟨b0, b1, b2, b3⟩, ⟨c0, c1, c2, c3, c4, c5⟩, ⟨d0, d1, d2, d3⟩⟩
    exact ⟨hw.2 x, a0, a1, a2, a3, a4, a5, b0, b1, b2, b3, c0, c1, c2, c3, c4, c5, d0, d1, d2, d3⟩

theorem parsed_short {l : List UInt8} (h : l.length < 14) : parsed l = ([0, 0, 0, 0, 0, 0], [0, 0, 0, 0, 0, 0], 0, [], 6) := by
  unfold parsed
  rw [if_neg (by omega), if_pos h]
end Go.Proofs.Ytdibmeapflhhaaa
