/-
  The contract of caravellaw08.lives: it returns true and leaves what was there as it was.
-/
import Derived.Test.YtpjjanbcjkdciaaPl8
import Derived.Test.YtpjjanbcjkdciaaD8c
namespace Go.Proofs.Ytpjjanbcjkdciaa
open Go.RowKit

set_option maxRecDepth 100000 in
set_option maxHeartbeats 1000000 in
theorem lives8_any (w : World) :
    Calls Try.prog 10 #[] w fun e w' => e = .returned (.bool true) ∧ Kp w w' := by
  have HB := Lib.hid (outE_ebytes false 0 0 [] (by decide) (by decide))
  have hbb : ebytes false 0 0 [] = [8, 0, 247, 255, 0, 0, 0, 0] := by decide
  have HBB := Lib.hid hbb
  clear hbb
  go_enter Try.func10, Try.ntmps10
  go_wp2_with fail
  refine (b8e_ok _ false 0 0 none 0 0 [] 0 0 0 0 0 0 0 0 (by decide) (by decide) (by decide) (Rd.none_ _ 0)).mono ?_
  rintro e w1 ⟨hk1, g, cap, rfl, hown⟩
  have HO := Lib.hid hown
  have HK1 := Lib.hid hk1
  clear hk1 hown
  go_wp2_with fail
  refine (o8_e _ 0 0 0 0 0 0 0 0 _ 8 _ _ HO.out.rd0 HO.out.slOk (by decide)).mono ?_
  have hB := HB.out
  rintro e w2 (⟨k, _, hk, _⟩ | ⟨rp, id, sq, data, hs, _, _, _, hk2, A, c, rfl, hr, _⟩)
  · exact absurd (hB.symm.trans hk) (by simp)
  · have hss := hB.symm.trans hs
    injection hss with hss
    injection hss with h1 hss
    injection hss with h2 hss
    injection hss with h3 h4
    subst h1 h2 h3 h4
    have HK2 := Lib.hid (HK1.out.trans hk2)
    have cv := conv_str (P := Try.prog) (c := cap) Try.underlying23 Try.underlying5 Try.underlying9 (HO.out.rd0.keep (hk2.alloc (.cells #[.bool false, .int .u16 0, .int .u16 0, .slice A 0 c] 25)))
    rw [HBB.out, show str [8, 0, 247, 255, 0, 0, 0, 0] = { data := #[8, 0, 247, 255, 0, 0, 0, 0] } from rfl] at cv
    have HRA : Hid (Rd (w2.alloc (.cells #[.bool false, .int .u16 0, .int .u16 0, .slice A 0 c] 25)) 0 A 0 []) := Lib.hid (hr.lo0.keep ((Kp.refl w2).alloc (.cells #[.bool false, .int .u16 0, .int .u16 0, .slice A 0 c] 25)))
    have ta := ta_ee
    have hcell : (w2.alloc (.cells #[.bool false, .int .u16 0, .int .u16 0, .slice A 0 c] 25)).cell? ⟨w2.heap.size, 0, none⟩ = some (.bool false) := by rw [cell_new]; rfl
    clear hB hs hk2 HB hr
    go_wp2_with (first | (refine lst_new (by rfl) (.tmp 5) (.tmp 25) _ rfl rfl rfl szEcho rfl rfl rfl ?_))
    refine (s8_ee _ false 0 0 A 0 c [] false 0 0 none 0 0 [] HRA.out (Rd.none_ _ 0)).mono ?_
    rintro e w3 ⟨rfl, hk3⟩
    rw [sameE_self]
    go_wp2
    go_ret
    exact ⟨rfl, (HK2.out.alloc (.cells #[.bool false, .int .u16 0, .int .u16 0, .slice A 0 c] 25)).trans hk3⟩
end Go.Proofs.Ytpjjanbcjkdciaa
