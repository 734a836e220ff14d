/-
  The Arp of any bytes: ether.ParseArp and the document's answer alike, by one plain word ('arpOf').
-/
import Derived.Test.YtdibmeapflhhaaaArp5g
namespace Go.Proofs.Ytdibmeapflhhaaa
open Go.RowKit

def arpOf (l : List UInt8) : Int × List UInt8 × Int :=
  if l.length < 28 then (0, [0, 0, 0, 0, 0, 0, 0, 0, 0, 0, 0, 0, 0, 0, 0, 0, 0, 0, 0, 0], 6)
  else if arpGood (l.take 7) ((l.drop 7).headD 0) = true then ((((l.drop 7).headD 0).toNat : Int), (l.drop 8).take 20, 0)
  else (0, [0, 0, 0, 0, 0, 0, 0, 0, 0, 0, 0, 0, 0, 0, 0, 0, 0, 0, 0, 0], 7)

/-- an Arp and a number, as 'arpOf' says -/
def ArpOfPost (w : World) (l : List UInt8) (e : Ending) (w' : World) : Prop :=
  Kp w w' ∧ ∃ (op : Int) (a0 a1 a2 a3 a4 a5 b0 b1 b2 b3 c0 c1 c2 c3 c4 c5 d0 d1 d2 d3 : UInt8) (k : Int), arpOf l = (op, [a0, a1, a2, a3, a4, a5] ++ ([b0, b1, b2, b3] ++ ([c0, c1, c2, c3, c4, c5] ++ [d0, d1, d2, d3])), k) ∧
    e = .returned (.tuple #[.agg #[.int .i64 op, .int .u8 (a0.toNat : Int), .int .u8 (a1.toNat : Int), .int .u8 (a2.toNat : Int), .int .u8 (a3.toNat : Int), .int .u8 (a4.toNat : Int), .int .u8 (a5.toNat : Int), .int .u8 (b0.toNat : Int), .int .u8 (b1.toNat : Int), .int .u8 (b2.toNat : Int), .int .u8 (b3.toNat : Int), .int .u8 (c0.toNat : Int), .int .u8 (c1.toNat : Int), .int .u8 (c2.toNat : Int), .int .u8 (c3.toNat : Int), .int .u8 (c4.toNat : Int), .int .u8 (c5.toNat : Int), .int .u8 (d0.toNat : Int), .int .u8 (d1.toNat : Int), .int .u8 (d2.toNat : Int), .int .u8 (d3.toNat : Int)], .int .i64 k])

theorem len7 {α : Type} {l : List α} (h : l.length = 7) : ∃ a b c d e f g, l = [a, b, c, d, e, f, g] := by
  match l, h with
  | [a, b, c, d, e, f, g], _ => exact ⟨a, b, c, d, e, f, g, rfl⟩
theorem partOf {α : Type} {l : List α} (n : Nat) (h : n ≤ l.length) : ∃ p r : List α, l = p ++ r ∧ p.length = n ∧ r.length = l.length - n := ⟨l.take n, l.drop n, (List.take_append_drop n l).symm, by rw [List.length_take]; omega, by rw [List.length_drop]⟩
theorem len28 (l : List UInt8) (h : 28 ≤ l.length) : ∃ (h0 h1 h2 h3 h4 h5 h6 o a0 a1 a2 a3 a4 a5 b0 b1 b2 b3 c0 c1 c2 c3 c4 c5 d0 d1 d2 d3 : UInt8) (m : List UInt8), l = [h0, h1, h2, h3, h4, h5, h6] ++ ([o] ++ ([a0, a1, a2, a3, a4, a5] ++ ([b0, b1, b2, b3] ++ ([c0, c1, c2, c3, c4, c5] ++ ([d0, d1, d2, d3] ++ m))))) := by
  obtain ⟨p, r, rfl, hp, hr⟩ := partOf 7 (by omega : 7 ≤ l.length)
  rw [List.length_append] at hr h
  obtain ⟨p1, r1, rfl, hp1, hr1⟩ := partOf 1 (by omega : 1 ≤ r.length)
  rw [List.length_append] at hr hr1 h
  obtain ⟨p2, r2, rfl, hp2, hr2⟩ := partOf 6 (by omega : 6 ≤ r1.length)
  rw [List.length_append] at hr hr1 hr2 h
  obtain ⟨p3, r3, rfl, hp3, hr3⟩ := partOf 4 (by omega : 4 ≤ r2.length)
  rw [List.length_append] at hr hr1 hr2 hr3 h
  obtain ⟨p4, r4, rfl, hp4, hr4⟩ := partOf 6 (by omega : 6 ≤ r3.length)
  rw [List.length_append] at hr hr1 hr2 hr3 hr4 h
  obtain ⟨p5, r5, rfl, hp5, hr5⟩ := partOf 4 (by omega : 4 ≤ r4.length)
  obtain ⟨h0, h1, h2, h3, h4, h5, h6, rfl⟩ := len7 hp
  obtain ⟨o, rfl⟩ := List.length_eq_one_iff.1 hp1
  obtain ⟨a0, a1, a2, a3, a4, a5, rfl⟩ := len6 hp2
  obtain ⟨b0, b1, b2, b3, rfl⟩ := len4 hp3
  obtain ⟨c0, c1, c2, c3, c4, c5, rfl⟩ := len6 hp4
  obtain ⟨d0, d1, d2, d3, rfl⟩ := len4 hp5
  exact ⟨h0, h1, h2, h3, h4, h5, h6, o, a0, a1, a2, a3, a4, a5, b0, b1, b2, b3, c0, c1, c2, c3, c4, c5, d0, d1, d2, d3, r5, rfl⟩

theorem arpOf_short {l : List UInt8} (h : l.length < 28) : arpOf l = (0, [0, 0, 0, 0, 0, 0, 0, 0, 0, 0, 0, 0, 0, 0, 0, 0, 0, 0, 0, 0], 6) := by unfold arpOf; rw [if_pos h]
theorem arpOf_good (h0 h1 h2 h3 h4 h5 h6 o a0 a1 a2 a3 a4 a5 b0 b1 b2 b3 c0 c1 c2 c3 c4 c5 d0 d1 d2 d3 : UInt8) (m : List UInt8) (h : arpGood [h0, h1, h2, h3, h4, h5, h6] o = true) :
    arpOf ([h0, h1, h2, h3, h4, h5, h6] ++ ([o] ++ ([a0, a1, a2, a3, a4, a5] ++ ([b0, b1, b2, b3] ++ ([c0, c1, c2, c3, c4, c5] ++ ([d0, d1, d2, d3] ++ m)))))) = ((o.toNat : Int), [a0, a1, a2, a3, a4, a5] ++ ([b0, b1, b2, b3] ++ ([c0, c1, c2, c3, c4, c5] ++ [d0, d1, d2, d3])), 0) := by
  unfold arpOf
  rw [if_neg (by simp), if_pos (by exact h)]
  rfl
theorem arpOf_bad (h0 h1 h2 h3 h4 h5 h6 o a0 a1 a2 a3 a4 a5 b0 b1 b2 b3 c0 c1 c2 c3 c4 c5 d0 d1 d2 d3 : UInt8) (m : List UInt8) (h : arpGood [h0, h1, h2, h3, h4, h5, h6] o = false) :
    arpOf ([h0, h1, h2, h3, h4, h5, h6] ++ ([o] ++ ([a0, a1, a2, a3, a4, a5] ++ ([b0, b1, b2, b3] ++ ([c0, c1, c2, c3, c4, c5] ++ ([d0, d1, d2, d3] ++ m)))))) = (0, [0, 0, 0, 0, 0, 0, 0, 0, 0, 0, 0, 0, 0, 0, 0, 0, 0, 0, 0, 0], 7) := by
  unfold arpOf
  rw [if_neg (by simp), if_neg (by
    intro h'
    have h2 : arpGood [h0, h1, h2, h3, h4, h5, h6] o = true := h'
    rw [h] at h2
    cases h2)]

theorem arpNo_post {w : World} {l : List UInt8} {k : Int} {e : Ending} {w' : World} (hp : arpOf l = (0, [0, 0, 0, 0, 0, 0, 0, 0, 0, 0, 0, 0, 0, 0, 0, 0, 0, 0, 0, 0], k)) (h : ArpNo w k e w') : ArpOfPost w l e w' :=
  ⟨h.1, 0, 0, 0, 0, 0, 0, 0, 0, 0, 0, 0, 0, 0, 0, 0, 0, 0, 0, 0, 0, 0, k, hp, h.2⟩

theorem parp_any (w : World) (A : Option Addr) (n c : Nat) (l : List UInt8) (hA : Rd w 0 A n l) (hok : SlOk A n c) (hn : n ≤ 140737488351232) : Calls Try.prog 20 #[.slice A n c] w (ArpOfPost w l) := by
  by_cases h : n < 28
  · exact (parp_short w A n c l hA hok hn h).mono fun e w' hp => arpNo_post (arpOf_short (by rw [hA.len]; exact h)) hp
  · have hl := hA.len
    obtain ⟨h0, h1, h2, h3, h4, h5, h6, o, a0, a1, a2, a3, a4, a5, b0, b1, b2, b3, c0, c1, c2, c3, c4, c5, d0, d1, d2, d3, m, rfl⟩ := len28 l (by omega)
    refine (parp_ok w A n c h0 h1 h2 h3 h4 h5 h6 o a0 a1 a2 a3 a4 a5 b0 b1 b2 b3 c0 c1 c2 c3 c4 c5 d0 d1 d2 d3 m hA hok hn).mono fun e w' ⟨i1, i2⟩ => ?_
    cases hg : arpGood [h0, h1, h2, h3, h4, h5, h6] o
    · exact arpNo_post (arpOf_bad _ _ _ _ _ _ _ _ _ _ _ _ _ _ _ _ _ _ _ _ _ _ _ _ _ _ _ _ _ hg) (i2 hg)
    · obtain ⟨hk, he⟩ := i1 hg
      exact ⟨hk, _, a0, a1, a2, a3, a4, a5, b0, b1, b2, b3, c0, c1, c2, c3, c4, c5, d0, d1, d2, d3, 0, arpOf_good _ _ _ _ _ _ _ _ _ _ _ _ _ _ _ _ _ _ _ _ _ _ _ _ _ _ _ _ _ hg, he⟩

theorem rparp_any (w : World) (l : List UInt8) : Calls Try.prog 21 #[.string (str l)] w (ArpOfPost w l) := by
  by_cases h : l.length < 28
  · exact (rparp_short w l h).mono fun e w' hp => arpNo_post (arpOf_short h) hp
  · obtain ⟨h0, h1, h2, h3, h4, h5, h6, o, a0, a1, a2, a3, a4, a5, b0, b1, b2, b3, c0, c1, c2, c3, c4, c5, d0, d1, d2, d3, m, rfl⟩ := len28 l (by omega)
    refine (rparp_ok w h0 h1 h2 h3 h4 h5 h6 o a0 a1 a2 a3 a4 a5 b0 b1 b2 b3 c0 c1 c2 c3 c4 c5 d0 d1 d2 d3 m).mono fun e w' ⟨i1, i2⟩ => ?_
    cases hg : arpGood [h0, h1, h2, h3, h4, h5, h6] o
    · exact arpNo_post (arpOf_bad _ _ _ _ _ _ _ _ _ _ _ _ _ _ _ _ _ _ _ _ _ _ _ _ _ _ _ _ _ hg) (i2 hg)
    · obtain ⟨hk, he⟩ := i1 hg
      exact ⟨hk, _, a0, a1, a2, a3, a4, a5, b0, b1, b2, b3, c0, c1, c2, c3, c4, c5, d0, d1, d2, d3, 0, arpOf_good _ _ _ _ _ _ _ _ _ _ _ _ _ _ _ _ _ _ _ _ _ _ _ _ _ _ _ _ _ hg, he⟩
end Go.Proofs.Ytdibmeapflhhaaa
