/-
  Words for pieces of packets: structs in rows of one's own; slices.Clone of bytes.
-/
import Derived.Test.YtnoobifdaldfiaaApp8
import Derived.Test.YtnoobifdaldfiaaP9b
import Derived.Laws.OwnMore
import Derived.Laws.AppendOwn
import Derived.Shelf.Abstract
import Derived.Lib.SliceRun
namespace Go.Proofs.Ytnoobifdaldfiaa.Fr
open Go.RowKit
set_option maxRecDepth 100000

theorem infoHole : (Try.prog.info? 90).map (fun i => (i.zero, i.size, i.bytes)) = some (some (.agg #[.int .u8 0, .int .u8 0, .int .u8 0, .int .u8 0, .int .u8 0, .int .u8 0, .int .u8 0, .int .u8 0, .int .u8 0, .int .u16 0, .int .u8 0, .int .u64 0, .int .i64 0, .slice none 0 0]), 14, 56) := by kernel_rfl
theorem infoPart : (Try.prog.info? 98).map (fun i => (i.zero, i.size, i.bytes)) = some (some (.agg #[.int .i64 0, .slice none 0 0]), 2, 32) := by kernel_rfl
theorem infoPkt : (Try.prog.info? 38).map (fun i => (i.zero, i.size, i.bytes)) = some (some (.agg #[.int .u16 0, .bool false, .int .i64 0, .int .u8 0, .int .u8 0, .int .u8 0, .int .u8 0, .int .u8 0, .int .u8 0, .int .u8 0, .int .u8 0, .int .u8 0, .int .u8 0, .slice none 0 0]), 14, 56) := by kernel_rfl
theorem szHole : (Try.prog.info? 90).map (·.size) = some 14 := by kernel_rfl
theorem szPart : (Try.prog.info? 98).map (·.size) = some 2 := by kernel_rfl

section
variable {w w' : World} {lo n cap g k : Nat} {e : TypeId} {v : Value} {xs : List Value}
theorem orow_keep (h : w.ownsRow lo e k v n xs) (hk : Kp w w') : w'.ownsRow lo e k v n xs := by
  obtain ⟨h1, h2⟩ := h
  refine ⟨h1, ?_⟩
  rcases h2 with h | ⟨g, cap, cur, e1, h3, h4, h5⟩
  · exact .inl h
  · exact .inr ⟨g, cap, cur, e1, h3, (hk.block g (Array.getElem?_eq_some_iff.1 h4).1).trans h4, h5⟩
theorem orow_lo {lo' : Nat} (h : w.ownsRow lo e k v n xs) (hl : lo' ≤ lo) : w.ownsRow lo' e k v n xs := by
  obtain ⟨h1, h2⟩ := h
  refine ⟨h1, ?_⟩
  rcases h2 with h | ⟨g, cap, cur, e1, h3, h5⟩
  · exact .inl h
  · exact .inr ⟨g, cap, cur, e1, Nat.le_trans hl h3, h5⟩
theorem orow_succ {n : Nat} (h : w.ownsRow lo e k v (n + 1) xs) : ∃ g cap, v = .slice (some ⟨g, 0, none⟩) (n + 1) cap ∧ lo ≤ g ∧ g < w.heap.size ∧ n + 1 ≤ cap ∧ cap ≤ maxLen := by
  rcases h.2 with ⟨_, h⟩ | ⟨g, cap, cur, e1, h3, h4, h5, h6, _⟩
  · omega
  · exact ⟨g, cap, e1, h3, (Array.getElem?_eq_some_iff.1 h4).1, h5, h6⟩
/-- nothing that was there turns where a row of one's own is laid anew -/
theorem kp_new (hg : w.grownBy w' none) : Kp w w' := (Kp.refl w).grownR hg (fun k hk => by cases hk)
end

set_option maxHeartbeats 1000000 in
theorem clone8_any (w : World) (lo : Nat) (A : Option Addr) (n c : Nat) (l : List UInt8) (hA : Rd w lo A n l) (h0 : 0 < n) (hb : n ≤ 1048576) :
    Calls Try.prog 30 #[.slice A n c] w fun e w' => Kp w w' ∧ ∃ gd cap', e = .returned (.slice (some ⟨gd, 0, none⟩) n cap') ∧ Rd w' w.heap.size (some ⟨gd, 0, none⟩) n l ∧ SlOk (some ⟨gd, 0, none⟩) n cap' := by
  obtain ⟨g, off, rfl, _, _⟩ := hA.2 h0
  have ka : Kp w (w.alloc (.cells #[] 5)) := (Kp.refl w).alloc _
  have own0 : OwnV 5 (w.alloc (.cells #[] 5)) w.heap.size w.heap.size 0 0 (bvs []) := OwnV.lit (vs := []) (by simp) (Nat.le_refl _) rfl (by decide)
  have RDA := Lib.hid (hA.keep ka)
  have q22 : ∀ w : World, (binOp .eql 24 (.slice (some ⟨g, off, none⟩) n c) (.slice none 0 0)).run Try.prog w = .ok (.bool false) w := fun w => Lib.run_eql_slice_nil w _ _ _ n c 0 0 Try.underlying24
  clear hA
  go_enter Try.func30, Try.ntmps30
  go_wp2_with (at_builtin; refine app8 (by rfl) (.tmp 5) (.tmp 6) rfl rfl rfl own0 RDA.out n l (by omega) rfl (by omega) (by simp) ?_; intro g1 cap1 w3 own1 gr1 at1)
  go_ret
  have hk := ka.grown gr1 own0.lo_le
  exact ⟨hk, g1, cap1, rfl, own1.rd, own1.slOk⟩
end Go.Proofs.Ytnoobifdaldfiaa.Fr
