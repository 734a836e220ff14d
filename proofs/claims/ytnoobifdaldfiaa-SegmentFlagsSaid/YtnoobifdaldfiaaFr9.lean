/-
  The contracts of the document's Flags and ReadFlags; which texts are flags, in plain words.
-/
import Derived.Test.YtnoobifdaldfiaaS9
namespace Go.Proofs.Ytnoobifdaldfiaa
open Go.RowKit

/-- one more letter -/
def stp (f r : Nat) : Option Nat := if r = 70 then some (f ||| 1) else if r = 83 then some (f ||| 2) else if r = 82 then some (f ||| 4) else if r = 80 then some (f ||| 8) else if r = 65 then some (f ||| 16) else if r = 45 then some f else none
def acc9 : Nat → List UInt8 → Option Nat
  | f, [] => some f
  | f, c :: r => match stp f c.toNat with
    | some f' => acc9 f' r
    | none => none
theorem acc_flags : ∀ g : Fin 32, acc9 0 (flagsOf g.val) = some g.val := by decide +kernel
theorem flags_inj (f g : Nat) (hf : f < 32) (hg : g < 32) (h : flagsOf f = flagsOf g) : f = g := by
  have h1 := acc_flags ⟨f, hf⟩
  have h2 := acc_flags ⟨g, hg⟩
  simp only at h1 h2
  rw [h, h2] at h1
  injection h1 with h1
  exact h1.symm
theorem flags_mod : ∀ f : Fin 256, flagsOf f.val = flagsOf (f.val % 32) := by decide +kernel
theorem flags_len (f : Nat) : (flagsOf f).length ≤ 5 := by
  unfold flagsOf
  split
  · simp
  · exact flg_len f 5
theorem stp_lt (f r f' : Nat) (hf : f < 32) (h : stp f r = some f') : f' < 32 := by
  have h' : ∀ f : Fin 32, f.val ||| 1 < 32 ∧ f.val ||| 2 < 32 ∧ f.val ||| 4 < 32 ∧ f.val ||| 8 < 32 ∧ f.val ||| 16 < 32 := by decide +kernel
  obtain ⟨a, b, c, d, e⟩ := h' ⟨f, hf⟩
  unfold stp at h
  split at h
  · injection h with h; rw [← h]; exact a
  split at h
  · injection h with h; rw [← h]; exact b
  split at h
  · injection h with h; rw [← h]; exact c
  split at h
  · injection h with h; rw [← h]; exact d
  split at h
  · injection h with h; rw [← h]; exact e
  split at h
  · injection h with h; rw [← h]; exact hf
  · cases h

/-- what is handed back of a text -/
def RFPost (l : List UInt8) (e : Ending) : Prop :=
  (∃ f, f < 32 ∧ flagsOf f = l ∧ e = .returned (.tuple #[.int .u8 (f : Int), .int .i64 0])) ∨ ((∀ g, g < 32 → flagsOf g ≠ l) ∧ e = .returned (.tuple #[.int .u8 0, .int .i64 7]))

set_option maxRecDepth 10000 in
set_option maxHeartbeats 1000000 in
theorem rflags9_any (w : World) (f : Nat) (hf : f < 256) :
    Calls Try.prog 26 #[.int .u8 (f : Int)] w fun e w' => e = .returned (.string (str (flagsOf f))) ∧ w = w' := by
  have hsz := str_size
  have hap := str_append
  go_enter Try.func26, Try.ntmps26
  go_wp2
  go_loop [0, 3, 4] (fun x o i => ∃ p : Nat, p ≤ 5 ∧ i = .int .i64 p ∧ x = .int .u8 ((f / 2 ^ p : Nat) : Int) ∧ o = .string (str (flg f p))) (fun _ _ i => 5 - (intOf i).toNat)
  case atStart => exact ⟨0, Nat.zero_le _, rfl, by simp, rfl⟩
  case round =>
    obtain ⟨p, hp, rfl, rfl, rfl⟩ := hrel
    have hfl := flg_len f p
    rcases (by omega : p = 0 ∨ p = 1 ∨ p = 2 ∨ p = 3 ∨ p = 4 ∨ p = 5) with rfl | rfl | rfl | rfl | rfl | rfl
    · obtain ⟨y, hy⟩ : ∃ y, f / 2 ^ 0 = y := ⟨_, rfl⟩
      have hy2 : y < 256 := by rw [← hy]; exact Nat.lt_of_le_of_lt (Nat.div_le_self _ _) hf
      obtain ⟨z, hz⟩ : ∃ z, y / 2 = z := ⟨_, rfl⟩
      have hyn : f / 2 ^ 1 = z := by rw [← hz]; exact (by rw [← hy, Nat.div_div_eq_div_mul, ← Nat.pow_succ] : f / 2 ^ 1 = y / 2)
      have HYN := Lib.hid hyn
      have xe : (({ data := #[70, 83, 82, 80, 65] } : ByteArray)).extract 0 1 = str [70] := by decide +kernel
      have d1 : (y : Int).tdiv 2 = (z : Int) := by rw [Int.tdiv_eq_ediv_of_nonneg (by omega)]; omega
      have d2 : (y : Int) / 2 = (z : Int) := by omega
      by_cases hb : y % 2 = 1
      · have m1 : (y : Int) % 2 = 1 := by omega
        have m2 : (y : Int).tmod 2 = 1 := by rw [Int.tmod_eq_emod_of_nonneg (by omega)]; omega
        have hfg : flg f 0 ++ [70] = flg f 1 := by
          show _ = flg f 0 ++ (if f / 2 ^ 0 % 2 = 1 then [fl5.getD 0 0] else [])
          rw [hy, if_pos hb]; rfl
        have HFG := Lib.hid hfg
        obtain ⟨G, hG⟩ : ∃ G, flg f 0 = G := ⟨_, rfl⟩
        rw [hG] at hfl HFG ⊢
        rw [hy]
        clear hb hfg hG hy hyn hz
        go_wp2
        go_round
        case rel => exact ⟨1, by omega, rfl, by rw [HYN.out], by rw [HFG.out]⟩
        case measure => simp [intOf]
      · have m1 : (y : Int) % 2 = 0 := by omega
        have m2 : (y : Int).tmod 2 = 0 := by rw [Int.tmod_eq_emod_of_nonneg (by omega)]; omega
        have hfg : flg f 0 = flg f 1 := by
          show _ = flg f 0 ++ (if f / 2 ^ 0 % 2 = 1 then [fl5.getD 0 0] else [])
          rw [hy, if_neg hb]; simp
        have HFG := Lib.hid hfg
        obtain ⟨G, hG⟩ : ∃ G, flg f 0 = G := ⟨_, rfl⟩
        rw [hG] at hfl HFG ⊢
        rw [hy]
        clear hb hfg hG hy hyn hz
        go_wp2
        go_round
        case rel => exact ⟨1, by omega, rfl, by rw [HYN.out], by rw [HFG.out]⟩
        case measure => simp [intOf]
    · obtain ⟨y, hy⟩ : ∃ y, f / 2 ^ 1 = y := ⟨_, rfl⟩
      have hy2 : y < 256 := by rw [← hy]; exact Nat.lt_of_le_of_lt (Nat.div_le_self _ _) hf
      obtain ⟨z, hz⟩ : ∃ z, y / 2 = z := ⟨_, rfl⟩
      have hyn : f / 2 ^ 2 = z := by rw [← hz]; exact (by rw [← hy, Nat.div_div_eq_div_mul, ← Nat.pow_succ] : f / 2 ^ 2 = y / 2)
      have HYN := Lib.hid hyn
      have xe : (({ data := #[70, 83, 82, 80, 65] } : ByteArray)).extract 1 2 = str [83] := by decide +kernel
      have d1 : (y : Int).tdiv 2 = (z : Int) := by rw [Int.tdiv_eq_ediv_of_nonneg (by omega)]; omega
      have d2 : (y : Int) / 2 = (z : Int) := by omega
      by_cases hb : y % 2 = 1
      · have m1 : (y : Int) % 2 = 1 := by omega
        have m2 : (y : Int).tmod 2 = 1 := by rw [Int.tmod_eq_emod_of_nonneg (by omega)]; omega
        have hfg : flg f 1 ++ [83] = flg f 2 := by
          show _ = flg f 1 ++ (if f / 2 ^ 1 % 2 = 1 then [fl5.getD 1 0] else [])
          rw [hy, if_pos hb]; rfl
        have HFG := Lib.hid hfg
        obtain ⟨G, hG⟩ : ∃ G, flg f 1 = G := ⟨_, rfl⟩
        rw [hG] at hfl HFG ⊢
        rw [hy]
        clear hb hfg hG hy hyn hz
        go_wp2
        go_round
        case rel => exact ⟨2, by omega, rfl, by rw [HYN.out], by rw [HFG.out]⟩
        case measure => simp [intOf]
      · have m1 : (y : Int) % 2 = 0 := by omega
        have m2 : (y : Int).tmod 2 = 0 := by rw [Int.tmod_eq_emod_of_nonneg (by omega)]; omega
        have hfg : flg f 1 = flg f 2 := by
          show _ = flg f 1 ++ (if f / 2 ^ 1 % 2 = 1 then [fl5.getD 1 0] else [])
          rw [hy, if_neg hb]; simp
        have HFG := Lib.hid hfg
        obtain ⟨G, hG⟩ : ∃ G, flg f 1 = G := ⟨_, rfl⟩
        rw [hG] at hfl HFG ⊢
        rw [hy]
        clear hb hfg hG hy hyn hz
        go_wp2
        go_round
        case rel => exact ⟨2, by omega, rfl, by rw [HYN.out], by rw [HFG.out]⟩
        case measure => simp [intOf]
    · obtain ⟨y, hy⟩ : ∃ y, f / 2 ^ 2 = y := ⟨_, rfl⟩
      have hy2 : y < 256 := by rw [← hy]; exact Nat.lt_of_le_of_lt (Nat.div_le_self _ _) hf
      obtain ⟨z, hz⟩ : ∃ z, y / 2 = z := ⟨_, rfl⟩
      have hyn : f / 2 ^ 3 = z := by rw [← hz]; exact (by rw [← hy, Nat.div_div_eq_div_mul, ← Nat.pow_succ] : f / 2 ^ 3 = y / 2)
      have HYN := Lib.hid hyn
      have xe : (({ data := #[70, 83, 82, 80, 65] } : ByteArray)).extract 2 3 = str [82] := by decide +kernel
      have d1 : (y : Int).tdiv 2 = (z : Int) := by rw [Int.tdiv_eq_ediv_of_nonneg (by omega)]; omega
      have d2 : (y : Int) / 2 = (z : Int) := by omega
      by_cases hb : y % 2 = 1
      · have m1 : (y : Int) % 2 = 1 := by omega
        have m2 : (y : Int).tmod 2 = 1 := by rw [Int.tmod_eq_emod_of_nonneg (by omega)]; omega
        have hfg : flg f 2 ++ [82] = flg f 3 := by
          show _ = flg f 2 ++ (if f / 2 ^ 2 % 2 = 1 then [fl5.getD 2 0] else [])
          rw [hy, if_pos hb]; rfl
        have HFG := Lib.hid hfg
        obtain ⟨G, hG⟩ : ∃ G, flg f 2 = G := ⟨_, rfl⟩
        rw [hG] at hfl HFG ⊢
        rw [hy]
        clear hb hfg hG hy hyn hz
        go_wp2
        go_round
        case rel => exact ⟨3, by omega, rfl, by rw [HYN.out], by rw [HFG.out]⟩
        case measure => simp [intOf]
      · have m1 : (y : Int) % 2 = 0 := by omega
        have m2 : (y : Int).tmod 2 = 0 := by rw [Int.tmod_eq_emod_of_nonneg (by omega)]; omega
        have hfg : flg f 2 = flg f 3 := by
          show _ = flg f 2 ++ (if f / 2 ^ 2 % 2 = 1 then [fl5.getD 2 0] else [])
          rw [hy, if_neg hb]; simp
        have HFG := Lib.hid hfg
        obtain ⟨G, hG⟩ : ∃ G, flg f 2 = G := ⟨_, rfl⟩
        rw [hG] at hfl HFG ⊢
        rw [hy]
        clear hb hfg hG hy hyn hz
        go_wp2
        go_round
        case rel => exact ⟨3, by omega, rfl, by rw [HYN.out], by rw [HFG.out]⟩
        case measure => simp [intOf]
    · obtain ⟨y, hy⟩ : ∃ y, f / 2 ^ 3 = y := ⟨_, rfl⟩
      have hy2 : y < 256 := by rw [← hy]; exact Nat.lt_of_le_of_lt (Nat.div_le_self _ _) hf
      obtain ⟨z, hz⟩ : ∃ z, y / 2 = z := ⟨_, rfl⟩
      have hyn : f / 2 ^ 4 = z := by rw [← hz]; exact (by rw [← hy, Nat.div_div_eq_div_mul, ← Nat.pow_succ] : f / 2 ^ 4 = y / 2)
      have HYN := Lib.hid hyn
      have xe : (({ data := #[70, 83, 82, 80, 65] } : ByteArray)).extract 3 4 = str [80] := by decide +kernel
      have d1 : (y : Int).tdiv 2 = (z : Int) := by rw [Int.tdiv_eq_ediv_of_nonneg (by omega)]; omega
      have d2 : (y : Int) / 2 = (z : Int) := by omega
      by_cases hb : y % 2 = 1
      · have m1 : (y : Int) % 2 = 1 := by omega
        have m2 : (y : Int).tmod 2 = 1 := by rw [Int.tmod_eq_emod_of_nonneg (by omega)]; omega
        have hfg : flg f 3 ++ [80] = flg f 4 := by
          show _ = flg f 3 ++ (if f / 2 ^ 3 % 2 = 1 then [fl5.getD 3 0] else [])
          rw [hy, if_pos hb]; rfl
        have HFG := Lib.hid hfg
        obtain ⟨G, hG⟩ : ∃ G, flg f 3 = G := ⟨_, rfl⟩
        rw [hG] at hfl HFG ⊢
        rw [hy]
        clear hb hfg hG hy hyn hz
        go_wp2
        go_round
        case rel => exact ⟨4, by omega, rfl, by rw [HYN.out], by rw [HFG.out]⟩
        case measure => simp [intOf]
      · have m1 : (y : Int) % 2 = 0 := by omega
        have m2 : (y : Int).tmod 2 = 0 := by rw [Int.tmod_eq_emod_of_nonneg (by omega)]; omega
        have hfg : flg f 3 = flg f 4 := by
          show _ = flg f 3 ++ (if f / 2 ^ 3 % 2 = 1 then [fl5.getD 3 0] else [])
          rw [hy, if_neg hb]; simp
        have HFG := Lib.hid hfg
        obtain ⟨G, hG⟩ : ∃ G, flg f 3 = G := ⟨_, rfl⟩
        rw [hG] at hfl HFG ⊢
        rw [hy]
        clear hb hfg hG hy hyn hz
        go_wp2
        go_round
        case rel => exact ⟨4, by omega, rfl, by rw [HYN.out], by rw [HFG.out]⟩
        case measure => simp [intOf]
    · obtain ⟨y, hy⟩ : ∃ y, f / 2 ^ 4 = y := ⟨_, rfl⟩
      have hy2 : y < 256 := by rw [← hy]; exact Nat.lt_of_le_of_lt (Nat.div_le_self _ _) hf
      obtain ⟨z, hz⟩ : ∃ z, y / 2 = z := ⟨_, rfl⟩
      have hyn : f / 2 ^ 5 = z := by rw [← hz]; exact (by rw [← hy, Nat.div_div_eq_div_mul, ← Nat.pow_succ] : f / 2 ^ 5 = y / 2)
      have HYN := Lib.hid hyn
      have xe : (({ data := #[70, 83, 82, 80, 65] } : ByteArray)).extract 4 5 = str [65] := by decide +kernel
      have d1 : (y : Int).tdiv 2 = (z : Int) := by rw [Int.tdiv_eq_ediv_of_nonneg (by omega)]; omega
      have d2 : (y : Int) / 2 = (z : Int) := by omega
      by_cases hb : y % 2 = 1
      · have m1 : (y : Int) % 2 = 1 := by omega
        have m2 : (y : Int).tmod 2 = 1 := by rw [Int.tmod_eq_emod_of_nonneg (by omega)]; omega
        have hfg : flg f 4 ++ [65] = flg f 5 := by
          show _ = flg f 4 ++ (if f / 2 ^ 4 % 2 = 1 then [fl5.getD 4 0] else [])
          rw [hy, if_pos hb]; rfl
        have HFG := Lib.hid hfg
        obtain ⟨G, hG⟩ : ∃ G, flg f 4 = G := ⟨_, rfl⟩
        rw [hG] at hfl HFG ⊢
        rw [hy]
        clear hb hfg hG hy hyn hz
        go_wp2
        go_round
        case rel => exact ⟨5, by omega, rfl, by rw [HYN.out], by rw [HFG.out]⟩
        case measure => simp [intOf]
      · have m1 : (y : Int) % 2 = 0 := by omega
        have m2 : (y : Int).tmod 2 = 0 := by rw [Int.tmod_eq_emod_of_nonneg (by omega)]; omega
        have hfg : flg f 4 = flg f 5 := by
          show _ = flg f 4 ++ (if f / 2 ^ 4 % 2 = 1 then [fl5.getD 4 0] else [])
          rw [hy, if_neg hb]; simp
        have HFG := Lib.hid hfg
        obtain ⟨G, hG⟩ : ∃ G, flg f 4 = G := ⟨_, rfl⟩
        rw [hG] at hfl HFG ⊢
        rw [hy]
        clear hb hfg hG hy hyn hz
        go_wp2
        go_round
        case rel => exact ⟨5, by omega, rfl, by rw [HYN.out], by rw [HFG.out]⟩
        case measure => simp [intOf]
    · have HFO : Hid (flagsOf f = if flg f 5 = [] then [45] else flg f 5) := Lib.hid rfl
      obtain ⟨G, hG⟩ : ∃ G, flg f 5 = G := ⟨_, rfl⟩
      rw [hG] at hfl HFO ⊢
      clear hG
      rcases G with _ | ⟨g0, G⟩
      · have HF2 : Hid (flagsOf f = [45]) := Lib.hid (by rw [HFO.out, if_pos rfl])
        have hie : (str []).toList.isEmpty = true := by rw [str_toList]; rfl
        go_wp2
        go_ret
        rw [HF2.out]
        exact ⟨rfl, rfl⟩
      · have HF2 : Hid (flagsOf f = g0 :: G) := Lib.hid (by rw [HFO.out, if_neg (by simp)])
        have hie : (str (g0 :: G)).toList.isEmpty = false := by rw [str_toList]; rfl
        go_wp2
        go_ret
        rw [HF2.out]
        exact ⟨rfl, rfl⟩

set_option maxHeartbeats 1000000 in
theorem rread9_any (w : World) (l : List UInt8) :
    Calls Try.prog 24 #[.string (str l)] w fun e w' => RFPost l e ∧ w = w' := by
  go_enter Try.func24, Try.ntmps24
  go_wp2
  go_loop [4] (fun i => ∃ k : Nat, k ≤ 32 ∧ i = .int .i64 k ∧ ∀ g, g < k → flagsOf g ≠ l) (fun i => 32 - (intOf i).toNat)
  case atStart => exact ⟨0, Nat.zero_le _, rfl, fun g hg => absurd hg (by omega)⟩
  case round =>
    obtain ⟨k, hk, rfl, hpre⟩ := hrel
    have HP := Lib.hid hpre
    clear hpre
    by_cases hlt : k < 32
    · have hu : IntKind.u8.wrap (k : Int) = (k : Int) := wrap_u8 (by omega) (by omega)
      have hlt' : (k : Int) < 32 := by omega
      go_wp2_with fail
      refine (rflags9_any _ k (by omega)).mono ?_
      rintro e w1 ⟨rfl, rfl⟩
      have hq := str_beq (flagsOf k) l
      by_cases h : flagsOf k = l
      · have HH := Lib.hid h
        rw [h] at hq ⊢
        have hq' : ((str l).toList == (str l).toList) = true := by rw [hq]; simp
        clear h hq
        go_wp2
        go_ret2
        exact ⟨.inl ⟨k, hlt, HH.out, rfl⟩, rfl⟩
      · have HH := Lib.hid h
        have hq' : ((str (flagsOf k)).toList == (str l).toList) = false := by rw [hq]; simpa using h
        clear h hq
        go_wp2
        go_round
        case rel =>
          refine ⟨k + 1, by omega, by go_num, fun g hg => ?_⟩
          by_cases h : g = k
          · subst h; exact HH.out
          · exact HP.out g (by omega)
        case measure => simp [intOf]; omega
    · obtain rfl : k = 32 := by omega
      go_wp2
      go_ret2
      exact ⟨.inr ⟨HP.out, rfl⟩, rfl⟩
end Go.Proofs.Ytnoobifdaldfiaa
