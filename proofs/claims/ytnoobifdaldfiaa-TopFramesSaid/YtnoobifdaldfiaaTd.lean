/-
  frag.lay: a part to no part, and to one that lies right behind it.
-/
import Derived.Test.YtnoobifdaldfiaaTc
namespace Go.Proofs.Ytnoobifdaldfiaa.Fr
open Go.RowKit
set_option maxRecDepth 100000

set_option maxHeartbeats 2000000 in
theorem lay_nil (w : World) (lo : Nat) (off : Int) (A : Option Addr) (n c : Nat) (l : List UInt8) (hA : Rd w lo A n l) (hok : SlOk A n c) (hlo : lo ≤ w.heap.size) :
    Calls Try.prog 39 #[.slice none 0 0, .agg #[.int .i64 off, .slice A n c]] w fun e w' => Kp w w' ∧ ∃ v, e = .returned v ∧ PartV w' lo off l v := by
  have HA := Lib.hid hA
  have hl := hA.len
  have HL := Lib.hid hl
  have kp : Kp w (w.alloc (.cells #[.int .i64 off, .slice A n c] 98)) := (Kp.refl w).alloc _
  have hr := heap_alloc_new w (.cells #[.int .i64 off, .slice A n c] 98)
  clear hA hl
  go_enter Try.func39, Try.ntmps39
  go_wp2
  go_loopw [10, 5] (fun i o5 wr => o5 = .slice none 0 0 ∧ i = .int .i64 0 ∧ wr = (w.alloc (.cells #[.int .i64 off, .slice A n c] 98))) (fun _ _ _ => 0)
  case atStart => exact ⟨rfl, rfl, rfl⟩
  case round =>
    obtain ⟨rfl, rfl, rfl⟩ := hrel
    go_wp2_with (first
      | (refine lld_row (by rfl) (.tmp 3) _ _ rfl rfl hr Try.underlying98 rfl szPart ?_)
      | (at_builtin; go_loud (refine lapp_part rfl (.tmp 47) (.tmp 49) off A n c lo rfl rfl rfl (cells_lit _ _ _ _ _ (by first | rfl | simp)) (by simp <;> omega) ?_; intro gq capq wq ownq kq hgq)))
    go_ret
    have hkk : Kp w wq := (kp.alloc _).trans kq
    exact ⟨hkk, _, rfl, gq, capq, A, c, rfl, by rw [HL.out]; exact ownq, by rw [HL.out]; exact HA.out.keep hkk, by rw [HL.out]; exact hok⟩

set_option maxHeartbeats 4000000 in
theorem lay_one (w : World) (got : Value) (lo : Nat) (l2 : List UInt8) (h2 : PartV w lo 176 l2 got) (hn : 0 < l2.length ∧ l2.length ≤ 4) (A1 : Option Addr) (c1 : Nat) (l1 : List UInt8) (h1 : Rd w 0 A1 176 l1) :
    Calls Try.prog 39 #[got, .agg #[.int .i64 0, .slice A1 176 c1]] w fun e w' => Kp w w' ∧ ∃ v, e = .returned v ∧ PartV w' w.heap.size 0 (l1 ++ l2) v := by
  obtain ⟨gp, capp, A2, c2, rfl, hrow, hrd, hok⟩ := h2
  have HROW := Lib.hid hrow
  have HRD := Lib.hid hrd
  have H1 := Lib.hid h1
  have kp : Kp w (w.alloc (.cells #[.int .i64 0, .slice A1 176 c1] 98)) := (Kp.refl w).alloc _
  have HKP := Lib.hid kp
  have HR0 := Lib.hid (heap_alloc_new w (.cells #[.int .i64 0, .slice A1 176 c1] 98))
  clear hrow hrd h1 kp
  go_enter Try.func39, Try.ntmps39
  go_wp2
  go_loopw [10, 5] (fun i o5 wr => o5 = .slice none 0 0 ∧ ∃ j : Nat, j ≤ 1 ∧ i = .int .i64 j ∧ Kp w wr ∧ (j = 0 → wr.heap[w.heap.size]? = some (.cells #[.int .i64 0, .slice A1 176 c1] 98 (0, 0))) ∧
      (j = 1 → ∃ g N cap, N = (l1 ++ l2).length ∧ wr.heap[w.heap.size]? = some (.cells #[.int .i64 0, .slice (some ⟨g, 0, none⟩) N cap] 98 (0, 0)) ∧ Rd wr w.heap.size (some ⟨g, 0, none⟩) N (l1 ++ l2) ∧ SlOk (some ⟨g, 0, none⟩) N cap)) (fun i _ _ => 1 - (intOf i).toNat)
  case atStart => exact ⟨rfl, 0, by omega, rfl, HKP.out, fun _ => HR0.out, fun h => (by cases h)⟩
  case round =>
    obtain ⟨rfl, j, hj, rfl, hk, hj0, hj1⟩ := hrel
    by_cases h0 : j = 0
    · subst h0
      have hb := hj0 rfl
      have HK := Lib.hid hk
      have HROW' := Lib.hid (orow_keep HROW.out hk)
      have hkz : Kp wr (wr.alloc (.cells #[.int .i64 176, .slice A2 l2.length c2] 98)) := (Kp.refl wr).alloc _
      have hlt := (Array.getElem?_eq_some_iff.1 hb).1
      have hb2 := (hkz.block _ hlt).trans hb
      have z0 : (wr.alloc (.cells #[.int .i64 176, .slice A2 l2.length c2] 98)).cell? ⟨w.heap.size, 0, none⟩ = some (.int .i64 0) := (cell_of_row _ _ 0 _ _ _ hb2).trans rfl
      have z1 : (wr.alloc (.cells #[.int .i64 176, .slice A2 l2.length c2] 98)).cell? ⟨w.heap.size, 1, none⟩ = some (.slice A1 176 c1) := (cell_of_row _ _ 1 _ _ _ hb2).trans rfl
      have hn9 := heap_alloc_new wr (.cells #[.int .i64 176, .slice A2 l2.length c2] 98)
      have i1 : ¬ (176 + (l2.length : Int) < 0) := by omega
      clear hj0 hj1 hk hb
      go_wp2_with (first
        | (refine lld_own [.int .i64 176, .slice A2 l2.length c2] (by rfl) (.tmp 12) _ _ rfl rfl HROW'.out rfl rfl Try.underlying98 rfl szPart ?_)
        | (refine lst_new (by rfl) (.tmp 7) (.tmp 13) _ rfl rfl rfl szPart rfl rfl rfl ?_)
        | (refine lld_row (by rfl) (.tmp 7) _ _ rfl rfl hn9 Try.underlying98 rfl szPart ?_)
        | (refine lld_row (by rfl) (.tmp 3) _ _ rfl rfl hb2 Try.underlying98 rfl szPart ?_)
        | (go_at_call 57; refine (both_any _ A1 A2 l2.length c1 c2 l1 l2 (H1.out.keep (HK.out.trans hkz)) (rd_lo (HRD.out.keep (HK.out.trans hkz)) (Nat.zero_le _)) hn).mono ?_; rintro e w2 ⟨hk2, g, N, cap, hN, rfl, hrd2, hok2⟩; have hb3 := (hk2.block _ (Array.getElem?_eq_some_iff.1 hb2).1).trans hb2)
        | (refine lst_row (by rfl) (.tmp 3) (.tmp 16) _ rfl rfl rfl hb3 szPart rfl rfl rfl ?_))
      go_round
      case rel =>
        subst hN
        refine ⟨rfl, 1, by omega, rfl, ((HK.out.trans hkz).trans hk2).setRow (Nat.le_refl _), fun h => (by cases h), fun _ => ⟨g, _, cap, ?_, setRow_heap w2 _ _ _ _ _ hb3, ?_, hok2⟩⟩
        · rw [List.length_append, H1.out.len]
        · exact rd_lo (hrd2.setRow (by have := hkz.size; simp at this ⊢; omega)) (by have := HK.out.size; simp; omega)
      case measure => simp [intOf]
    · obtain rfl : j = 1 := by omega
      obtain ⟨g, N, cap, hN, hb, hrd9, hok9⟩ := hj1 rfl
      have HRD9 := Lib.hid hrd9
      have HN := Lib.hid hN
      have HK := Lib.hid hk
      have hsz := hk.size
      clear hj0 hj1 hk hrd9 hN
      go_wp2_with (first
        | (refine lld_row (by rfl) (.tmp 3) _ _ rfl rfl hb Try.underlying98 rfl szPart ?_)
        | (at_builtin; go_loud (refine lapp_part rfl (.tmp 47) (.tmp 49) 0 (some ⟨g, 0, none⟩) N cap w.heap.size rfl rfl rfl (cells_lit _ _ _ _ _ (by first | rfl | simp)) (by simp <;> omega) ?_; intro gq capq wq ownq kq hgq)))
      go_ret
      have hkk : Kp wr wq := ((Kp.refl wr).alloc _).trans kq
      exact ⟨HK.out.trans hkk, _, rfl, gq, capq, _, cap, rfl, by rw [← HN.out]; exact ownq, by rw [← HN.out]; exact HRD9.out.keep hkk, by rw [← HN.out]; exact hok9⟩
end Go.Proofs.Ytnoobifdaldfiaa.Fr
