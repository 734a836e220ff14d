/-
  The frame of any bytes: ether.Parse and the document's Parse answer alike, by one plain word ('parsed').
-/
import Derived.Test.YtnoobifdaldfiaaFParse5
namespace Go.Proofs.Ytnoobifdaldfiaa.Fr
open Go.RowKit
set_option maxRecDepth 100000


def parsed (l : List UInt8) : List UInt8 × List UInt8 × Nat × List UInt8 × Int :=
  if 214 < l.length then ([0, 0, 0, 0, 0, 0], [0, 0, 0, 0, 0, 0], 0, [], 4) else if l.length < 14 then ([0, 0, 0, 0, 0, 0], [0, 0, 0, 0, 0, 0], 0, [], 6)
  else (l.take 6, (l.drop 6).take 6, 256 * ((l.drop 12).headD 0).toNat + ((l.drop 13).headD 0).toNat, l.drop 14, 0)

/-- a frame and a number, as 'parsed' says; the body lies in new memory -/
def ParsePost (w : World) (l : List UInt8) (e : Ending) (w' : World) : Prop :=
  Kp w w' ∧ ∃ (d0 d1 d2 d3 d4 d5 s0 s1 s2 s3 s4 s5 : UInt8) (ty : Nat) (b : List UInt8) (k : Int) (A : Option Addr) (c : Nat), parsed l = ([d0, d1, d2, d3, d4, d5], [s0, s1, s2, s3, s4, s5], ty, b, k) ∧ ty ≤ 65535 ∧
    e = .returned (.tuple #[.agg #[.int .u8 (d0.toNat : Int), .int .u8 (d1.toNat : Int), .int .u8 (d2.toNat : Int), .int .u8 (d3.toNat : Int), .int .u8 (d4.toNat : Int), .int .u8 (d5.toNat : Int), .int .u8 (s0.toNat : Int), .int .u8 (s1.toNat : Int), .int .u8 (s2.toNat : Int), .int .u8 (s3.toNat : Int), .int .u8 (s4.toNat : Int), .int .u8 (s5.toNat : Int), .int .u16 (ty : Int), .slice A b.length c], .int .i64 k]) ∧ Rd w' w.heap.size A b.length b ∧ SlOk A b.length c

theorem len14 (l : List UInt8) (h : 14 ≤ l.length) : ∃ (d0 d1 d2 d3 d4 d5 s0 s1 s2 s3 s4 s5 x y : UInt8) (b : List UInt8), l = d0 :: d1 :: d2 :: d3 :: d4 :: d5 :: s0 :: s1 :: s2 :: s3 :: s4 :: s5 :: x :: y :: b := by
  match l, h with
  | d0 :: d1 :: d2 :: d3 :: d4 :: d5 :: s0 :: s1 :: s2 :: s3 :: s4 :: s5 :: x :: y :: b, _ => exact ⟨d0, d1, d2, d3, d4, d5, s0, s1, s2, s3, s4, s5, x, y, b, rfl⟩

theorem parsed_ok (d0 d1 d2 d3 d4 d5 s0 s1 s2 s3 s4 s5 x y : UInt8) (b : List UInt8) (h : b.length ≤ 200) : parsed (d0 :: d1 :: d2 :: d3 :: d4 :: d5 :: s0 :: s1 :: s2 :: s3 :: s4 :: s5 :: x :: y :: b) = ([d0, d1, d2, d3, d4, d5], [s0, s1, s2, s3, s4, s5], 256 * x.toNat + y.toNat, b, 0) := by
  unfold parsed
  rw [if_neg (by simp only [List.length_cons]; omega), if_neg (by simp only [List.length_cons]; omega)]
  rfl

theorem no_post {w : World} {l : List UInt8} {k : Int} {e : Ending} {w' : World} (hp : parsed l = ([0, 0, 0, 0, 0, 0], [0, 0, 0, 0, 0, 0], 0, [], k)) (h : FrameNo w k e w') : ParsePost w l e w' :=
  ⟨h.1, 0, 0, 0, 0, 0, 0, 0, 0, 0, 0, 0, 0, 0, [], k, none, 0, hp, by decide, h.2, Rd.none_ _ _, ⟨Nat.le_refl _, Nat.zero_le _, fun _ => rfl⟩⟩
theorem ok_post {w : World} {d0 d1 d2 d3 d4 d5 s0 s1 s2 s3 s4 s5 x y : UInt8} {b : List UInt8} {e : Ending} {w' : World} (hb : b.length ≤ 200) (h : FrameOk w d0 d1 d2 d3 d4 d5 s0 s1 s2 s3 s4 s5 x y b e w') : ParsePost w (d0 :: d1 :: d2 :: d3 :: d4 :: d5 :: s0 :: s1 :: s2 :: s3 :: s4 :: s5 :: x :: y :: b) e w' := by
  obtain ⟨hk, A, c, he, hr, hs⟩ := h
  exact ⟨hk, d0, d1, d2, d3, d4, d5, s0, s1, s2, s3, s4, s5, _, _, _, A, c, parsed_ok _ _ _ _ _ _ _ _ _ _ _ _ _ _ _ hb, by have := x.toNat_lt; have := y.toNat_lt; omega, he, hr, hs⟩

theorem parse_any (w : World) (A : Option Addr) (n c : Nat) (l : List UInt8) (hA : Rd w 0 A n l) (hok : SlOk A n c) (hn : n ≤ 140737488351232) :
    Calls Try.prog 14 #[.slice A n c] w (ParsePost w l) := by
  by_cases h : 214 < n
  · exact (parse_long w A n c h hn).mono fun e w' hp => no_post (by unfold parsed; rw [if_pos (by rw [hA.len]; exact h)]) hp
  · by_cases h2 : n < 14
    · exact (parse_short w A n c l hA hok h2).mono fun e w' hp => no_post (by unfold parsed; rw [if_neg (by rw [hA.len]; exact h), if_pos (by rw [hA.len]; exact h2)]) hp
    · have hl := hA.len
      obtain ⟨d0, d1, d2, d3, d4, d5, s0, s1, s2, s3, s4, s5, x, y, b, rfl⟩ := len14 l (by omega)
      have hb : b.length ≤ 200 := by simp only [List.length_cons] at hl; omega
      exact (parse_ok w A n c _ _ _ _ _ _ _ _ _ _ _ _ _ _ _ hb hA hok).mono fun e w' hp => ok_post hb hp

end Go.Proofs.Ytnoobifdaldfiaa.Fr
