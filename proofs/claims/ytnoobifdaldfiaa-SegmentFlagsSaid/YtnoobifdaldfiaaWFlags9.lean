/-
  The walk of SegmentFlags: it returns true and leaves what was there as it was.
-/
import Derived.Test.YtnoobifdaldfiaaFs9
import Derived.Test.YtnoobifdaldfiaaLives9
namespace Go.Proofs.Ytnoobifdaldfiaa
open Go.RowKit

set_option maxRecDepth 100000 in
set_option maxHeartbeats 2000000 in
theorem flags9_main (w : World) (f : UInt8) (l : List UInt8) (hn : ¬ 50 < l.length) :
    Calls Try.prog 9 #[.int .u8 (f.toNat : Int), .string (str l)] w fun e w' => e = .returned (.bool true) ∧ Kp w w' := by
  have hsz : (str l).size = l.length := str_size l
  have hf : f.toNat < 256 := f.toNat_lt
  have i1 : ¬ (50 : Int) < (l.length : Int) := by omega
  have hmod := flags_mod ⟨f.toNat, hf⟩
  simp only at hmod
  obtain ⟨m, hm⟩ : ∃ m, f.toNat % 32 = m := ⟨_, rfl⟩
  have hm2 : m < 32 := by omega
  have m1 : (f.toNat : Int) % 32 = (m : Int) := by omega
  have m2 : (f.toNat : Int).tmod 32 = (m : Int) := by rw [Int.tmod_eq_emod_of_nonneg (by omega)]; omega
  rw [hm] at hmod
  have HM := Lib.hid hmod
  clear hmod hm
  go_enter Try.func9, Try.ntmps9
  go_wp2_with fail
  refine (lives9_any _).mono ?_
  rintro e w1 ⟨rfl, hk1⟩
  have HK1 := Lib.hid hk1
  clear hk1
  go_wp2_with fail
  refine (sread9_any _ l (by omega)).mono ?_
  rintro e w2 ⟨hp2, hk2⟩
  have HK2 := Lib.hid (HK1.out.trans hk2)
  clear hk2
  have key : ∃ (v z : Nat), e = .returned (.tuple #[.int .u8 (v : Int), .int .i64 (z : Int)]) ∧ ∀ e', RFPost l e' → e' = .returned (.tuple #[.int .u8 (v : Int), .int .i64 (z : Int)]) := by
    rcases hp2 with ⟨g, hg, hfl, rfl⟩ | ⟨hno, rfl⟩
    · refine ⟨g, 0, rfl, ?_⟩
      rintro e' (⟨g', hg', hfl', rfl⟩ | ⟨hno', _⟩)
      · rw [flags_inj g' g hg' hg (by rw [hfl', hfl])]; rfl
      · exact absurd hfl (hno' g hg)
    · refine ⟨0, 7, rfl, ?_⟩
      rintro e' (⟨g', hg', hfl', rfl⟩ | ⟨_, rfl⟩)
      · exact absurd hfl' (hno g' hg')
      · rfl
  obtain ⟨v, z, rfl, hkey⟩ := key
  have HKEY := Lib.hid hkey
  clear hkey hp2
  go_wp2_with fail
  refine (rread9_any _ l).mono ?_
  rintro e w3 ⟨hp3, rfl⟩
  obtain rfl := HKEY.out _ hp3
  clear hp3 HKEY
  go_wp2_with fail
  refine (flags9_any _ f).mono ?_
  rintro e w4 ⟨rfl, hk4⟩
  have HK4 := Lib.hid (HK2.out.trans hk4)
  clear hk4
  go_wp2_with fail
  refine (sread9_any _ (flagsOf f.toNat) (by have := flags_len f.toNat; omega)).mono ?_
  rintro e w5 ⟨hp5, hk5⟩
  have HK5 := Lib.hid (HK4.out.trans hk5)
  have h5 : e = .returned (.tuple #[.int .u8 (m : Int), .int .i64 0]) := by
    rcases hp5 with ⟨g, hg, hfl, rfl⟩ | ⟨hno, _⟩
    · rw [flags_inj g m hg hm2 (by rw [hfl, HM.out])]
    · exact absurd HM.out.symm (hno m hm2)
  subst h5
  clear hk5 hp5
  go_wp2_with fail
  refine (flags9_any _ f).mono ?_
  rintro e w6 ⟨rfl, hk6⟩
  have HK6 := Lib.hid (HK5.out.trans hk6)
  clear hk6
  go_wp2_with fail
  refine (rflags9_any _ m (by omega)).mono ?_
  rintro e w7 ⟨rfl, rfl⟩
  rw [HM.out]
  go_wp2
  go_ret
  exact ⟨rfl, HK6.out⟩

set_option maxRecDepth 100000 in
theorem flags9_walk (w : World) (f : UInt8) (l : List UInt8) :
    Calls Try.prog 9 #[.int .u8 (f.toNat : Int), .string (str l)] w fun e w' => e = .returned (.bool true) ∧ Kp w w' := by
  by_cases h : 50 < l.length
  · have hsz : (str l).size = l.length := str_size l
    have i1 : (50 : Int) < (l.length : Int) := by omega
    go_enter Try.func9, Try.ntmps9
    go_wp2_with (first | (go_at_call 19; refine (lives9_any _).mono ?_; rintro e w1 ⟨rfl, hk⟩))
    all_goals go_ret
    all_goals exact ⟨rfl, Kp.trans (by assumption) hk⟩
  · exact flags9_main w f l h
end Go.Proofs.Ytnoobifdaldfiaa
