/-
  ether.ParseArp: too few bytes.
-/
import Derived.Test.YtdibmeapflhhaaaSplit
import Derived.Test.YtdibmeapflhhaaaSplit2
import Derived.Test.YtdibmeapflhhaaaArp5b
namespace Go.Proofs.Ytdibmeapflhhaaa
open Go.RowKit

theorem splitArp (h a b c d m : List UInt8) (o : UInt8) (hh : h.length = 7) (ha : a.length = 6) (hb : b.length = 4) (hc : c.length = 6) (hd : d.length = 4) :
    Sp.split (h ++ ([o] ++ (a ++ (b ++ (c ++ (d ++ m)))))) [7, 1, 6, 4, 6, 4] = ([h, [o], a, b, c, d, m], 0) :=
  Sp.split_part h _ 7 _ (by omega) _ (Sp.split_part [o] _ 1 _ rfl _ (Sp.split_part a _ 6 _ (by omega) _ (Sp.split_part b _ 4 _ (by omega) _ (Sp.split_part c _ 6 _ (by omega) _ (Sp.split_part d _ 4 _ (by omega) _ rfl)))))

theorem splitArp_no (l : List UInt8) (h : l.length < 28) : Sp.split l [7, 1, 6, 4, 6, 4] = ([], 6) := by
  have step : ∀ (l : List UInt8) (z : Int) (zs : List Int), 0 ≤ z → ((l.length : Int) < z ∨ Sp.split (l.drop z.toNat) zs = ([], 6)) → Sp.split l (z :: zs) = ([], 6) := by
    intro l z zs h0 h
    rw [Sp.split, if_neg (by omega)]
    by_cases hz : (l.length : Int) < z
    · rw [if_pos hz]
    · rw [if_neg hz]
      rcases h with h | h
      · exact absurd h hz
      · rw [h]; rfl
  refine step _ _ _ (by decide) ?_
  by_cases h1 : (l.length : Int) < 7
  · exact .inl h1
  refine .inr (step _ _ _ (by decide) ?_)
  by_cases h2 : ((l.drop (7 : Int).toNat).length : Int) < 1
  · exact .inl h2
  refine .inr (step _ _ _ (by decide) ?_)
  by_cases h3 : (((l.drop (7 : Int).toNat).drop (1 : Int).toNat).length : Int) < 6
  · exact .inl h3
  refine .inr (step _ _ _ (by decide) ?_)
  by_cases h4 : ((((l.drop (7 : Int).toNat).drop (1 : Int).toNat).drop (6 : Int).toNat).length : Int) < 4
  · exact .inl h4
  refine .inr (step _ _ _ (by decide) ?_)
  by_cases h5 : (((((l.drop (7 : Int).toNat).drop (1 : Int).toNat).drop (6 : Int).toNat).drop (4 : Int).toNat).length : Int) < 6
  · exact .inl h5
  refine .inr (step _ _ _ (by decide) (.inl ?_))
  simp only [List.length_drop] at *
  omega
end Go.Proofs.Ytdibmeapflhhaaa
