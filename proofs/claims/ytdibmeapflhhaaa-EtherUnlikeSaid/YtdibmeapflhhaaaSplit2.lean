/-
  Bytes that begin with a part of the wanted size: the plain law of splitting, part by part.
-/
import Derived.Test.YtdibmeapflhhaaaSplitL
namespace Go.Proofs.Ytdibmeapflhhaaa
namespace Sp

theorem split_part (p r : List UInt8) (z : Int) (zs : List Int) (h : z = (p.length : Int)) (qs : List (List UInt8)) (hq : split r zs = (qs, 0)) : split (p ++ r) (z :: zs) = (p :: qs, 0) := by
  subst h
  rw [split, if_neg (by omega), if_neg (by rw [List.length_append]; omega)]
  rw [show ((p.length : Int)).toNat = p.length by omega, List.drop_left, List.take_left, hq]
  simp
end Sp
end Go.Proofs.Ytdibmeapflhhaaa
