/-
  The contract of caravellaw09.lives: it returns true and leaves what was there as it was.
-/
import Derived.Test.YtnoobifdaldfiaaPl9
import Derived.Test.YtnoobifdaldfiaaS9
import Derived.Test.YtnoobifdaldfiaaB9b
namespace Go.Proofs.Ytnoobifdaldfiaa
open Go.RowKit

set_option maxRecDepth 100000 in
set_option maxHeartbeats 1000000 in
theorem lives9_any (w : World) :
    Calls Try.prog 19 #[] w fun e w' => e = .returned (.bool true) ∧ Kp w w' := by
  have HB := Lib.hid (out9_sbytes [0, 0, 0, 0] [0, 0, 0, 0] rfl rfl ⟨0, 0, 0, 0, 2, 0, 64, []⟩ ⟨by decide, by decide, by decide, by decide, by decide, by decide, by decide, fun _ => by decide⟩ (by decide))
  have hK0 : Kp w (w.alloc (.cells #[.int .u16 0, .int .u16 0, .int .u32 0, .int .u32 0, .int .u8 2, .int .u16 0, .int .u16 64, .slice none 0 0] 26)) := (Kp.refl _).alloc _
  have HK0 := Lib.hid hK0
  have hrow := fun W (hk : Kp (w.alloc (.cells #[.int .u16 0, .int .u16 0, .int .u32 0, .int .u32 0, .int .u8 2, .int .u16 0, .int .u16 64, .slice none 0 0] 26)) W) => (hk.block w.heap.size (by simp)).trans (heap_alloc_new w (.cells #[.int .u16 0, .int .u16 0, .int .u32 0, .int .u32 0, .int .u8 2, .int .u16 0, .int .u16 64, .slice none 0 0] 26))
  have HRW := Lib.hid hrow
  have h18 : flagsOf (UInt8.toNat 18) = [83, 65] := by decide
  have hcc : str [83, 65] = { data := #[83, 65] } := rfl
  clear hK0 hrow
  go_enter Try.func19, Try.ntmps19
  go_wp2_with (first | (refine lst_new (by rfl) (.tmp 1) (.tmp 6) _ rfl rfl rfl szSeg rfl rfl rfl ?_) | (refine lld_row (by rfl) (.tmp 1) _ _ rfl rfl (HRW.out _ (Kp.refl _)) Try.underlying26 rfl szSeg ?_))
  refine (b9_ok _ 0 0 0 0 2 0 64 none 0 0 [] 0 0 0 0 0 0 0 0 (by decide) (by decide) (by decide) (by decide) (by decide) (by decide) (by decide) (fun _ => by decide) (by decide) (Rd.none_ _ 0)).mono ?_
  rintro e w1 ⟨hk1, g, cap, rfl, hown⟩
  have e24 : 20 + (opt9 64).length + 0 = 24 := by decide
  rw [e24] at hown ⊢
  have HO := Lib.hid hown
  have HK1 := Lib.hid hk1
  clear hk1 hown e24
  go_wp2_with fail
  refine (o9_any _ _ 24 _ _ 0 0 0 0 0 0 0 0 HO.out.rd0 HO.out.slOk (by decide)).mono ?_
  have hB := HB.out
  rintro e w2 (⟨k, _, hk, _⟩ | ⟨s, hs, _, _, hk2, A, c, rfl, _, _⟩)
  · exact absurd (hB.symm.trans hk) (by simp)
  · have hss := hB.symm.trans hs
    injection hss with hss
    subst hss
    have HK2 := Lib.hid ((HK1.out.trans hk2).alloc (.cells #[.int .u16 0, .int .u16 0, .int .u32 0, .int .u32 0, .int .u8 2, .int .u16 0, .int .u16 64, .slice A 0 c] 26))
    clear hB hs hk2 HB
    go_wp2_with (first | (refine lst_new (by rfl) (.tmp 4) (.tmp 19) _ rfl rfl rfl szSeg rfl rfl rfl ?_))
    refine (flags9_any _ 18).mono ?_
    rintro e w3 ⟨rfl, hk3⟩
    rw [h18, hcc]
    have HK3 := Lib.hid (HK2.out.trans hk3)
    clear hk3 h18 hcc
    go_wp2_with (first | (refine lld_row (by rfl) (.tmp 1) _ _ rfl rfl (HRW.out _ HK3.out) Try.underlying26 rfl szSeg ?_))
    refine (len9_any _ 0 0 0 0 2 0 64 none 0 0 (by decide)).mono ?_
    rintro e w4 ⟨rfl, hk4⟩
    rw [show ((0 + UInt8.toNat 2 / 2 % 2 + UInt8.toNat 2 % 2 : Nat) : Int) = 1 by decide]
    go_wp2
    go_ret
    exact ⟨rfl, HK0.out.trans (HK3.out.trans hk4)⟩
end Go.Proofs.Ytnoobifdaldfiaa
