/-
  The contracts of the document's small answers for addresses: card, host, asCard, asHost.
-/
import Derived.Test.YtdibmeapflhhaaaRows
import Derived.Test.YtdibmeapflhhaaaMem
import Derived.WalkLawsBesides
import Derived.Lib.Hide
import Derived.Deep.QuietTactic
import Derived.BigQuiet
import Derived.Deep.RegionLaw
import Derived.Deep.RegionHeld3
namespace Go.Proofs.Ytdibmeapflhhaaa
open Go.RowKit

/-- bytes as a list of values, written out -/
def mac (l : List UInt8) : Value := .agg (bvs l).toArray

set_option maxHeartbeats 400000 in
theorem card_any (w : World) (a b c d e f : UInt8) :
    Calls Try.prog 32 #[.agg #[.int .u8 (a.toNat : Int), .int .u8 (b.toNat : Int), .int .u8 (c.toNat : Int), .int .u8 (d.toNat : Int), .int .u8 (e.toNat : Int), .int .u8 (f.toNat : Int)]] w
      fun en w' => en = .returned (.string (str [a, b, c, d, e, f])) ∧ Kp w w' := by
  have hk : Kp w ((w.alloc (.cells #[.int .u8 (a.toNat : Int), .int .u8 (b.toNat : Int), .int .u8 (c.toNat : Int), .int .u8 (d.toNat : Int), .int .u8 (e.toNat : Int), .int .u8 (f.toNat : Int)] 23)).alloc (.cells #[.int .u8 (a.toNat : Int), .int .u8 (b.toNat : Int), .int .u8 (c.toNat : Int), .int .u8 (d.toNat : Int), .int .u8 (e.toNat : Int), .int .u8 (f.toNat : Int)] 5)) := ((Kp.refl _).alloc _).alloc _
  have cs := conv_str (P := Try.prog) (w := (w.alloc (.cells #[.int .u8 (a.toNat : Int), .int .u8 (b.toNat : Int), .int .u8 (c.toNat : Int), .int .u8 (d.toNat : Int), .int .u8 (e.toNat : Int), .int .u8 (f.toNat : Int)] 23)).alloc (.cells #[.int .u8 (a.toNat : Int), .int .u8 (b.toNat : Int), .int .u8 (c.toNat : Int), .int .u8 (d.toNat : Int), .int .u8 (e.toNat : Int), .int .u8 (f.toNat : Int)] 5))
    (lo := 0) (A := some ⟨w.heap.size + 1, 0, none⟩) (n := 6) (l := [a, b, c, d, e, f]) (c := 6) Try.underlying25 Try.underlying5 Try.underlying9 (rd_lit (by simp) (Nat.zero_le _) rfl rfl)
  go_enter Try.func32, Try.ntmps32
  go_wp2
  go_ret
  exact ⟨rfl, hk⟩

set_option maxHeartbeats 400000 in
theorem host_any (w : World) (a b c d : UInt8) :
    Calls Try.prog 43 #[.agg #[.int .u8 (a.toNat : Int), .int .u8 (b.toNat : Int), .int .u8 (c.toNat : Int), .int .u8 (d.toNat : Int)]] w
      fun en w' => en = .returned (.string (str [a, b, c, d])) ∧ Kp w w' := by
  have hk : Kp w ((w.alloc (.cells #[.int .u8 (a.toNat : Int), .int .u8 (b.toNat : Int), .int .u8 (c.toNat : Int), .int .u8 (d.toNat : Int)] 42)).alloc (.cells #[.int .u8 (a.toNat : Int), .int .u8 (b.toNat : Int), .int .u8 (c.toNat : Int), .int .u8 (d.toNat : Int)] 5)) := ((Kp.refl _).alloc _).alloc _
  have cs := conv_str (P := Try.prog) (w := (w.alloc (.cells #[.int .u8 (a.toNat : Int), .int .u8 (b.toNat : Int), .int .u8 (c.toNat : Int), .int .u8 (d.toNat : Int)] 42)).alloc (.cells #[.int .u8 (a.toNat : Int), .int .u8 (b.toNat : Int), .int .u8 (c.toNat : Int), .int .u8 (d.toNat : Int)] 5))
    (lo := 0) (A := some ⟨w.heap.size + 1, 0, none⟩) (n := 4) (l := [a, b, c, d]) (c := 4) Try.underlying25 Try.underlying5 Try.underlying9 (rd_lit (by simp) (Nat.zero_le _) rfl rfl)
  go_enter Try.func43, Try.ntmps43
  go_wp2
  go_ret
  exact ⟨rfl, hk⟩

set_option maxRecDepth 100000 in
set_option maxHeartbeats 400000 in
theorem asCard_any (w : World) (a b c d e f : UInt8) :
    Calls Try.prog 34 #[.string (str [a, b, c, d, e, f])] w
      fun en w' => en = .returned (.agg #[.int .u8 (a.toNat : Int), .int .u8 (b.toNat : Int), .int .u8 (c.toNat : Int), .int .u8 (d.toNat : Int), .int .u8 (e.toNat : Int), .int .u8 (f.toNat : Int)]) ∧ Kp w w' := by
  have hs : (str [a, b, c, d, e, f]).size = 6 := rfl
  have e0 : ∀ h, (str [a, b, c, d, e, f])[0]'h = a := fun _ => rfl
  have e1 : ∀ h, (str [a, b, c, d, e, f])[1]'h = b := fun _ => rfl
  have e2 : ∀ h, (str [a, b, c, d, e, f])[2]'h = c := fun _ => rfl
  have e3 : ∀ h, (str [a, b, c, d, e, f])[3]'h = d := fun _ => rfl
  have e4 : ∀ h, (str [a, b, c, d, e, f])[4]'h = e := fun _ => rfl
  have e5 : ∀ h, (str [a, b, c, d, e, f])[5]'h = f := fun _ => rfl
  go_enter Try.func34, Try.ntmps34
  go_wp2
  go_region
  go_wp2
  refine bodyPost_ret (v := .agg #[.int .u8 (a.toNat : Int), .int .u8 (b.toNat : Int), .int .u8 (c.toNat : Int), .int .u8 (d.toNat : Int), .int .u8 (e.toNat : Int), .int .u8 (f.toNat : Int)]) (by simp [results, Try.results34, go_sem]) rfl ⟨rfl, ?_⟩
  exact ((Kp.refl _).alloc _).drew

set_option maxRecDepth 100000 in
set_option maxHeartbeats 400000 in
theorem asHost_any (w : World) (a b c d : UInt8) :
    Calls Try.prog 35 #[.string (str [a, b, c, d])] w
      fun en w' => en = .returned (.agg #[.int .u8 (a.toNat : Int), .int .u8 (b.toNat : Int), .int .u8 (c.toNat : Int), .int .u8 (d.toNat : Int)]) ∧ Kp w w' := by
  have hs : (str [a, b, c, d]).size = 4 := rfl
  have e0 : ∀ h, (str [a, b, c, d])[0]'h = a := fun _ => rfl
  have e1 : ∀ h, (str [a, b, c, d])[1]'h = b := fun _ => rfl
  have e2 : ∀ h, (str [a, b, c, d])[2]'h = c := fun _ => rfl
  have e3 : ∀ h, (str [a, b, c, d])[3]'h = d := fun _ => rfl
  go_enter Try.func35, Try.ntmps35
  go_wp2
  go_region
  go_wp2
  refine bodyPost_ret (v := .agg #[.int .u8 (a.toNat : Int), .int .u8 (b.toNat : Int), .int .u8 (c.toNat : Int), .int .u8 (d.toNat : Int)]) (by simp [results, Try.results35, go_sem]) rfl ⟨rfl, ?_⟩
  exact ((Kp.refl _).alloc _).drew
end Go.Proofs.Ytdibmeapflhhaaa
