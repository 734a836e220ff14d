/-
  append onto the call's own bytes, over this program's numbers.
-/
import Derived.Test.YtnoobifdaldfiaaRows
import Derived.Test.YtnoobifdaldfiaaApp
namespace Go.Proofs.Ytnoobifdaldfiaa
open Go.RowKit
set_option maxRecDepth 100000
theorem info5 : (Try.prog.info? 5).map (fun i => (i.zero, i.size, i.bytes)) = some (some (.int .u8 0), 1, 1) := by kernel_rfl

/-- append onto the call's own bytes -/
theorem app8 {w : World} {lo g n cap : Nat} {l : List UInt8} {ops : Array Oper} {rest : List Oper} {o : Oper} {a : Act} {Q : Exit → Act → World → Prop} (hw : Region.wanted o (yielded ops a.tmps) = true) (s x : Operand)
    (ho : o.op = .call { callee := .builtin .append, args := #[s, x], argTypes := #[24, 24] })
    {lo' : Nat} {A : Option Addr} {m c : Nat} {l2 : List UInt8} (hs : a.eval s = .slice (some ⟨g, 0, none⟩) n cap) (hx : a.eval x = .slice A m c)
    (hown : OwnV 5 w lo g n cap (bvs l)) (hr : Rd w lo' A m l2) (N : Nat) (L : List UInt8) (hN : n + m = N) (hL : l ++ l2 = L) (hb : N ≤ 140737488355328) (hlo : lo ≤ w.heap.size)
    (h : ∀ g' cap' w', OwnV 5 w' lo g' N cap' (bvs L) → w.grownBy w' (some g) → (g' = g ∨ g' = w.heap.size) → wpList Try.prog ops Q rest (a.put o.dst (.slice (some ⟨g', 0, none⟩) N cap')) w') : wpList Try.prog ops Q (o :: rest) a w := by
  subst hN
  subst hL
  obtain ⟨i0, hi0, hz0, hz1, hz2⟩ := info_parts info5
  exact wpList_append_rd hw s x 24 ho i0 _ 1 Try.underlying24 hi0 hz0 hz1 hz2 rfl hs hx hown hr (bvs_one _) (by unfold maxLen; omega) (by omega) hlo (by rw [← bvs_append]; exact h)
theorem stp8 {w : World} {lo g n cap : Nat} {l : List UInt8} {ops : Array Oper} {o : Oper} {a : Act} {K : Act → World → Prop} {Q : Exit → Act → World → Prop} {E : Prop} (hg : o.guard = none) (s x : Operand)
    (ho : o.op = .call { callee := .builtin .append, args := #[s, x], argTypes := #[24, 24] })
    {lo' : Nat} {A : Option Addr} {m c : Nat} {l2 : List UInt8} (hs : a.eval s = .slice (some ⟨g, 0, none⟩) n cap) (hx : a.eval x = .slice A m c)
    (hown : OwnV 5 w lo g n cap (bvs l)) (hr : Rd w lo' A m l2) (N : Nat) (L : List UInt8) (hN : n + m = N) (hL : l ++ l2 = L) (hb : N ≤ 140737488355328) (hlo : lo ≤ w.heap.size)
    (h : ∀ g' cap' w', OwnV 5 w' lo g' N cap' (bvs L) → w.grownBy w' (some g) → (g' = g ∨ g' = w.heap.size) → K (a.put o.dst (.slice (some ⟨g', 0, none⟩) N cap')) w') :
    if Region.wanted o (yielded ops a.tmps) = true then Oper.wp Try.prog o a w K Q else E := by
  subst hN
  subst hL
  obtain ⟨i0, hi0, hz0, hz1, hz2⟩ := info_parts info5
  exact step_append_rd hg s x 24 ho i0 _ 1 Try.underlying24 hi0 hz0 hz1 hz2 rfl hs hx hown hr (bvs_one _) (by unfold maxLen; omega) (by omega) hlo (by rw [← bvs_append]; exact h)
end Go.Proofs.Ytnoobifdaldfiaa
