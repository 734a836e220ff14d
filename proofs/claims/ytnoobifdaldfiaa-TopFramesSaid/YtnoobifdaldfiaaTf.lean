/-
  slices.Delete of the only hole.
-/
import Derived.Test.YtnoobifdaldfiaaTc
namespace Go.Proofs.Ytnoobifdaldfiaa.Fr
open Go.RowKit
set_option maxRecDepth 100000

theorem run_clear_hole (w : World) (ty : TypeId) (g c : Nat) (cur : Array Value) (hrow : w.heap[g]? = some (.cells cur 90 (0, 0))) (hc : 14 ≤ cur.size) :
    ∃ w', (Builtin.clear_ #[39] ty #[.slice (some ⟨g, 0, none⟩) 1 c]).run Try.prog w = .ok (.tuple #[]) w' ∧ w.grownBy w' (some g) ∧ ∃ cur', w'.heap[g]? = some (.cells cur' 90 (0, 0)) ∧ cur'.size = cur.size := by
  obtain ⟨i0, hi0, hz0, hz1, hz2⟩ := info_parts infoHole
  have hz : ∀ w, (zeroValue 90).run Try.prog w = .ok (.agg #[.int .u8 0, .int .u8 0, .int .u8 0, .int .u8 0, .int .u8 0, .int .u8 0, .int .u8 0, .int .u8 0, .int .u8 0, .int .u16 0, .int .u8 0, .int .u64 0, .int .i64 0, .slice none 0 0]) w := fun w => by simp [zeroValue, typeInfo, hi0, hz0]
  obtain ⟨Z, hZ⟩ : ∃ Z : List Value, Z = [.int .u8 0, .int .u8 0, .int .u8 0, .int .u8 0, .int .u8 0, .int .u8 0, .int .u8 0, .int .u8 0, .int .u8 0, .int .u16 0, .int .u8 0, .int .u64 0, .int .i64 0, .slice none 0 0] := ⟨_, rfl⟩
  have hzc : (Builtin.zeroCells (Value.agg #[.int .u8 0, .int .u8 0, .int .u8 0, .int .u8 0, .int .u8 0, .int .u8 0, .int .u8 0, .int .u8 0, .int .u8 0, .int .u16 0, .int .u8 0, .int .u64 0, .int .i64 0, .slice none 0 0]).cells 1).toList = Z := by rw [hZ]; kernel_rfl
  have hst := run_storeCells_at (P := Try.prog) g 0 90 Z 0 cur w hrow (by rw [hZ]; simp; omega) (by rw [hZ]; simp [Value.oneCell'])
  refine ⟨w.setRow g (cur.toList.take (0 + 0) ++ Z ++ cur.toList.drop (0 + 0 + Z.length)).toArray, ?_, ?_⟩
  · simp only [Builtin.clear_, List.getElem?_toArray, List.getElem?_cons_zero, Sem.run_bind, run_underlying Try.underlying39, Result.andThen_ok, hz]
    rw [hzc, hst]
    simp only [Result.andThen_ok, Sem.run_pure]
  · exact ⟨⟨rfl, rfl, rfl, by simp, fun j _ hj => setRow_other w g j _ (fun e => hj (by rw [e]))⟩, _, setRow_heap w g cur _ _ _ hrow, by rw [hZ]; simp; omega⟩

def St.sl0 : St := ⟨fun v _ => ∃ B c, v = .slice B 0 c, fun _ _ _ h _ => h⟩
noncomputable def delphi (g cap : Nat) : Nat → St := fun i => ([St.val (.slice (some ⟨g, 0, none⟩) 1 cap),
  St.val (.int .i64 0),
  St.val (.slice (some ⟨g, 0, none⟩) 0 cap),
  St.val (.slice (some ⟨g, 0, none⟩) 1 cap),
  St.val (.int .i64 1),
  St.sl0,
  St.val (.slice (some ⟨g, 0, none⟩) 0 cap)] : List St).getD i St.any

set_option maxHeartbeats 1000000 in
theorem del_one (w : World) (lo g cap : Nat) (cur : Array Value) (hlo : lo ≤ g) (hrow : w.heap[g]? = some (.cells cur 90 (0, 0))) (hc : cur.size = cap * 14) (h1 : 1 ≤ cap) (hm : cap ≤ maxLen) :
    Calls Try.prog 38 #[.slice (some ⟨g, 0, none⟩) 1 cap, .int .i64 0, .int .i64 1] w fun e w' => e = .returned (.slice (some ⟨g, 0, none⟩) 0 cap) ∧ w.grownBy w' (some g) ∧ ∃ cur', w'.heap[g]? = some (.cells cur' 90 (0, 0)) ∧ cur'.size = cur.size := by
  have i1 : (1 : Int) ≤ (cap : Int) := by omega
  have i2 : ¬ cap = 0 := by omega
  go_enter Try.func38, Try.ntmps38
  go_wp2
  refine wp_region_steps (by kernel_rfl) 7 (delphi g cap) [20, 21, 22, 23, 24, 25, 26] (by kernel_rfl) (by kernel_rfl) ⟨?_, ?_, ?_, ?_, ?_, ?_, ?_, trivial⟩ ?_
  · intro a W hW hO hφ K hK
    have q0 : a.tmps.getD 0 undef = (.slice (some ⟨g, 0, none⟩) 1 cap) := hO 0 (by kernel_rfl)
    have r0 := q0
    rw [Array.getD_eq_getD_getElem?] at r0
    clear hO hφ
    go_simp
    exact hK _ _ (Kp.refl _) rfl
  · intro a W hW hO hφ K hK
    have q1 : a.tmps.getD 1 undef = (.int .i64 0) := hO 1 (by kernel_rfl)
    have r1 := q1
    rw [Array.getD_eq_getD_getElem?] at r1
    clear hO hφ
    go_simp
    exact hK _ _ (Kp.refl _) rfl
  · intro a W hW hO hφ K hK
    have q20 : a.tmps.getD 20 undef = (.slice (some ⟨g, 0, none⟩) 1 cap) := hφ ⟨0, .data⟩ (by simp) rfl
    have q21 : a.tmps.getD 21 undef = (.int .i64 0) := hφ ⟨1, .data⟩ (by simp) rfl
    have r20 := q20
    rw [Array.getD_eq_getD_getElem?] at r20
    have r21 := q21
    rw [Array.getD_eq_getD_getElem?] at r21
    clear hO hφ
    go_simp
    exact hK _ _ (Kp.refl _) rfl
  · intro a W hW hO hφ K hK
    have q0 : a.tmps.getD 0 undef = (.slice (some ⟨g, 0, none⟩) 1 cap) := hO 0 (by kernel_rfl)
    have r0 := q0
    rw [Array.getD_eq_getD_getElem?] at r0
    clear hO hφ
    go_simp
    exact hK _ _ (Kp.refl _) rfl
  · intro a W hW hO hφ K hK
    have q2 : a.tmps.getD 2 undef = (.int .i64 1) := hO 2 (by kernel_rfl)
    have r2 := q2
    rw [Array.getD_eq_getD_getElem?] at r2
    clear hO hφ
    go_simp
    exact hK _ _ (Kp.refl _) rfl
  · intro a W hW hO hφ K hK
    have q23 : a.tmps.getD 23 undef = (.slice (some ⟨g, 0, none⟩) 1 cap) := hφ ⟨3, .data⟩ (by simp) rfl
    have q24 : a.tmps.getD 24 undef = (.int .i64 1) := hφ ⟨4, .data⟩ (by simp) rfl
    have r23 := q23
    rw [Array.getD_eq_getD_getElem?] at r23
    have r24 := q24
    rw [Array.getD_eq_getD_getElem?] at r24
    clear hO hφ
    go_simp
    exact hK _ _ (Kp.refl _) ⟨_, _, rfl⟩
  · intro a W hW hO hφ K hK
    have q22 : a.tmps.getD 22 undef = (.slice (some ⟨g, 0, none⟩) 0 cap) := hφ ⟨2, .data⟩ (by simp) rfl
    have q25 : (St.sl0).p (a.tmps.getD 25 undef) W := hφ ⟨5, .data⟩ (by simp) rfl
    have r22 := q22
    rw [Array.getD_eq_getD_getElem?] at r22
    clear hO hφ
    obtain ⟨B, c, q25'⟩ := q25
    have r25 := q25'
    rw [Array.getD_eq_getD_getElem?] at r25
    clear q25'
    cases B
    all_goals (go_simp; exact hK _ _ (Kp.refl _) rfl)
  intro f W hW hφ
  have v0 : f 0 = (.slice (some ⟨g, 0, none⟩) 1 cap) := hφ 0 (by omega)
  have v1 : f 1 = (.int .i64 0) := hφ 1 (by omega)
  have v2 : f 2 = (.slice (some ⟨g, 0, none⟩) 0 cap) := hφ 2 (by omega)
  have v3 : f 3 = (.slice (some ⟨g, 0, none⟩) 1 cap) := hφ 3 (by omega)
  have v4 : f 4 = (.int .i64 1) := hφ 4 (by omega)
  have v5 : (St.sl0).p (f 5) W := hφ 5 (by omega)
  have v6 : f 6 = (.slice (some ⟨g, 0, none⟩) 0 cap) := hφ 6 (by omega)
  clear hφ
  simp only [putAll, List.setIfInBounds_toArray, List.set_cons_succ, List.set_cons_zero, v0, v1, v2, v3, v4, v6]
  clear v0 v1 v2 v3 v4 v6
  refine wpAny_take (i := 7) (v := .slice (some ⟨g, 0, none⟩) 0 cap) rfl (by kernel_rfl) (by kernel_rfl) (by kernel_rfl) (fun _ _ _ h => h) (Or.inl ⟨by rfl, ?_⟩) ?_
  · intro w; go_simp
  refine wpAny_done (by kernel_rfl) ?_ _
  have hkW : Kp w W := ((Kp.refl w).drew).trans hW
  have hrowW := (hkW.block _ (Array.getElem?_eq_some_iff.1 hrow).1).trans hrow
  obtain ⟨w2, hclr, hgr, hsh⟩ := run_clear_hole W 0 g cap cur hrowW (by omega)
  go_wp2
  go_ret
  exact ⟨rfl, ⟨hgr.os.trans hkW.os, hgr.tape.trans hkW.tape, hgr.output.trans hkW.output, Nat.le_trans hkW.size hgr.size, fun j hj hne => (hgr.block j (Nat.lt_of_lt_of_le hj hkW.size) hne).trans (hkW.block j hj)⟩, hsh⟩
end Go.Proofs.Ytnoobifdaldfiaa.Fr
