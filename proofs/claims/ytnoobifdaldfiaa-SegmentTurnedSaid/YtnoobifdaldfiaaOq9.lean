/-
  The contract of the document's options.
-/
import Derived.Test.YtnoobifdaldfiaaOp9
import Derived.Test.YtnoobifdaldfiaaP9
namespace Go.Proofs.Ytnoobifdaldfiaa
open Go.RowKit

/-- what is handed back -/
def roptsVal : Option Nat → Value
  | some k => .tuple #[.int .u16 (k : Int), .bool true]
  | none => .tuple #[.int .u16 0, .bool false]

theorem str_drop_get {l : List UInt8} {j k : Nat} {x : UInt8} (h : (l.drop j)[k]? = some x) : ∀ h', (str l)[j + k]'h' = x := by
  intro h'
  rw [str_get]
  rw [List.getElem?_drop] at h
  obtain ⟨h1, h2⟩ := List.getElem?_eq_some_iff.1 h
  exact h2

theorem w64 (a : Int) (h : 0 ≤ a) (h2 : a ≤ 1000000) : wrap64 a = a := by unfold wrap64; omega

set_option maxRecDepth 100000 in
set_option maxHeartbeats 2000000 in
theorem roptions9_any (w : World) (l : List UInt8) (hn : l.length ≤ 65536) :
    Calls Try.prog 47 #[.string (str l)] w fun e w' => e = .returned (roptsVal (opts l 0)) ∧ Kp w w' := by
  have HG : Hid (∀ (j k : Nat) (x : UInt8), (l.drop j)[k]? = some x → ∀ h', (str l)[j + k]'h' = x) := Lib.hid fun j k x h => str_drop_get h
  have hsz : (str l).size = l.length := str_size l
  obtain ⟨n, hln⟩ : ∃ n, l.length = n := ⟨_, rfl⟩
  have NUM : Hid (∀ (W : World) (k : Nat) (x y : UInt8), k + 1 < n → (∀ h, (str l)[k]'h = x) → (∀ h, (str l)[k + 1]'h = y) → Calls Try.prog 48 #[.string (str l), .int .i64 (k : Int)] W fun e w' => e = .returned (.int .i64 ((256 * x.toNat + y.toNat : Nat) : Int)) ∧ Kp W w') :=
    Lib.hid fun W k x y h1 h2 h3 => num_any W (str l) k x y (by rw [hsz, hln]; exact h1) (by rw [hsz]; omega) h2 h3
  have HLN := Lib.hid hln
  rw [hln] at hn hsz
  clear hln
  obtain ⟨S, hS⟩ : ∃ S, str l = S := ⟨_, rfl⟩
  rw [hS] at HG NUM hsz ⊢
  clear hS
  go_enter Try.func47, Try.ntmps47
  go_wp2
  go_loopw [4, 5] (fun m i wr => ∃ (j k : Nat), i = .int .i64 j ∧ m = .int .u16 k ∧ j ≤ n ∧ k ≤ 65535 ∧ opts (l.drop j) k = opts l 0 ∧ Kp w wr)
    (fun _ i _ => n - (intOf i).toNat)
  case atStart => exact ⟨0, 0, rfl, rfl, by omega, by omega, by simp, Kp.refl _⟩
  case round =>
    obtain ⟨j, k, rfl, rfl, hj, hk, he, hkp⟩ := hrel
    have HE := Lib.hid he
    have HKP := Lib.hid hkp
    have hdl : (l.drop j).length = n - j := by rw [List.length_drop, HLN.out]
    clear he hkp
    obtain ⟨D, hD⟩ : ∃ D, l.drop j = D := ⟨_, rfl⟩
    have HD := Lib.hid hD
    rw [hD] at HE hdl
    clear hD
    rcases D with _ | ⟨x, r⟩
    · obtain rfl : j = n := by simp at hdl; omega
      have hres : opts l 0 = some k := by rw [← HE.out, opts_nil]
      have HRES := Lib.hid hres
      clear hdl hres
      go_wp2
      go_ret2
      exact ⟨by rw [HRES.out]; rfl, HKP.out⟩
    · rw [List.length_cons] at hdl
      have hjn : j < n := by omega
      have hjn' : (j : Int) < (n : Int) := by omega
      have g0 : ∀ h, S[j]'h = x := HG.out j 0 _ (by rw [HD.out]; rfl)
      by_cases hx0 : x = 0
      · subst hx0
        have hres : opts l 0 = some k := by rw [← HE.out, opts_zero]
        have HRES := Lib.hid hres
        clear hdl hres
        go_wp2
        go_ret2
        exact ⟨by rw [HRES.out]; rfl, HKP.out⟩
      · have f0 : ((x.toNat : Int) == 0) = false := u8_ne (k := 0) (by decide) hx0
        have f0' : ((x.toNat : Int) != 0) = true := by rw [bne, f0]; rfl
        by_cases hx1 : x = 1
        · subst hx1
          have hres : opts r k = opts l 0 := by rw [← HE.out, opts_one]
          have HRES := Lib.hid hres
          have hdr : l.drop (j + 1) = r := by rw [← List.drop_drop, HD.out]; rfl
          have HDR := Lib.hid hdr
          clear hres hdl hdr
          go_wp2
          go_round
          case rel => exact ⟨j + 1, k, by go_num, rfl, by omega, hk, by rw [HDR.out, HRES.out], HKP.out⟩
          case measure => simp [intOf]; omega
        · have f1 := u8_ne (k := 1) (by decide) hx1
          by_cases hbad : r = [] ∨ sec r < 2 ∨ r.length + 1 < sec r ∨ (x = 2 ∧ sec r ≠ 4)
          · have hres : opts l 0 = none := by rw [← HE.out, opts_bad x r k hx0 hx1 hbad]
            have HRES := Lib.hid hres
            clear hres
            rcases r with _ | ⟨y, r⟩
            · have s2 : (n : Int) ≤ (j : Int) + 1 := by simp at hdl; omega
              clear hdl hbad
              go_wp2
              go_ret2
              exact ⟨by rw [HRES.out]; rfl, HKP.out⟩
            · have g1 : ∀ h, S[j + 1]'h = y := HG.out j 1 _ (by rw [HD.out]; rfl)
              rw [List.length_cons] at hdl
              have s2 : ¬ (n : Int) ≤ (j : Int) + 1 := by omega
              have s3 : (j : Int) + 1 < (n : Int) := by omega
              have s4 : ((j : Int) + 1).toNat = j + 1 := by omega
              have s5 : j + 1 < n := by omega
              have hb : y.toNat < 2 ∨ (2 ≤ y.toNat ∧ n < j + y.toNat) ∨ (2 ≤ y.toNat ∧ ¬ n < j + y.toNat ∧ x = 2 ∧ y.toNat ≠ 4) := by
                rcases hbad with h | h | h | ⟨h, h'⟩
                · cases h
                · exact .inl h
                · simp only [sec, List.headD_cons, List.length_cons] at h; omega
                · simp only [sec, List.headD_cons] at h'
                  by_cases c1 : y.toNat < 2
                  · exact .inl c1
                  by_cases c2 : n < j + y.toNat
                  · exact .inr (.inl ⟨by omega, c2⟩)
                  · exact .inr (.inr ⟨by omega, c2, h, h'⟩)
              clear hbad hdl
              rcases hb with hb | ⟨h2, hb⟩ | ⟨h2, h3, rfl, hb⟩
              · have y1 : (y.toNat : Int) < 2 := by omega
                go_wp2
                go_ret2
                exact ⟨by rw [HRES.out]; rfl, HKP.out⟩
              · have y1 : ¬ (y.toNat : Int) < 2 := by omega
                have y2 : (n : Int) < (j : Int) + (y.toNat : Int) := by omega
                have ybd : y.toNat < 256 := y.toNat_lt
                go_wp2
                go_ret2
                exact ⟨by rw [HRES.out]; rfl, HKP.out⟩
              · have y1 : ¬ (y.toNat : Int) < 2 := by omega
                have y2 : ¬ (n : Int) < (j : Int) + (y.toNat : Int) := by omega
                have y3 : ((y.toNat : Int) != 4) = true := by simp; omega
                have ybd : y.toNat < 256 := y.toNat_lt
                go_wp2
                go_ret2
                exact ⟨by rw [HRES.out]; rfl, HKP.out⟩
          · have hgo := opts_go x r k hx0 hx1 hbad
            rw [HE.out] at hgo
            rcases r with _ | ⟨y, r⟩
            · exact absurd (.inl rfl) hbad
            · have g1 : ∀ h, S[j + 1]'h = y := HG.out j 1 _ (by rw [HD.out]; rfl)
              rw [List.length_cons] at hdl
              have s2 : ¬ (n : Int) ≤ (j : Int) + 1 := by omega
              have s3 : (j : Int) + 1 < (n : Int) := by omega
              have s4 : ((j : Int) + 1).toNat = j + 1 := by omega
              have s5 : j + 1 < n := by omega
              have hsec : sec (y :: r) = y.toNat := rfl
              rw [hsec] at hgo hbad
              obtain ⟨hb1, hb2, hb3⟩ : 2 ≤ y.toNat ∧ j + y.toNat ≤ n ∧ (x = 2 → y.toNat = 4) := by
                refine ⟨by omega, ?_, fun h => ?_⟩
                · rw [List.length_cons] at hbad; omega
                · exact Decidable.byContradiction fun h4 => hbad (.inr (.inr (.inr ⟨h, h4⟩)))
              have y1 : ¬ (y.toNat : Int) < 2 := by omega
              have y2 : ¬ (n : Int) < (j : Int) + (y.toNat : Int) := by omega
              have hdr : l.drop (j + y.toNat) = (y :: r).drop (y.toNat - 1) := by
                rw [← List.drop_drop, HD.out]
                obtain ⟨q, hq⟩ : ∃ q, y.toNat = q + 1 := ⟨y.toNat - 1, by omega⟩
                rw [hq]; rfl
              have HDR := Lib.hid hdr
              clear hdr hbad
              by_cases hx2 : x = 2
              · subst hx2
                have hy4 := hb3 rfl
                rcases r with _ | ⟨a, r⟩
                · simp at hdl; omega
                rcases r with _ | ⟨b, r⟩
                · simp at hdl; omega
                have g2 : ∀ h, S[j + 2]'h = a := HG.out j 2 _ (by rw [HD.out]; rfl)
                have g3 : ∀ h, S[j + 2 + 1]'h = b := HG.out j 3 _ (by rw [HD.out]; rfl)
                rw [if_pos rfl] at hgo
                have hv : be (((y :: a :: b :: r).drop 1).take 2) = 256 * a.toNat + b.toNat := by simp [be]
                rw [hv] at hgo
                have ba := a.toNat_lt
                have bb := b.toNat_lt
                obtain ⟨v, hv2⟩ : ∃ v, 256 * a.toNat + b.toNat = v := ⟨_, rfl⟩
                have hbe : v ≤ 65535 := by omega
                have N2 := NUM.out w (j + 2) a b
                have hnj : j + 2 + 1 < n := by simp at hdl; omega
                have N3 : Hid (∀ W, Calls Try.prog 48 #[.string S, .int .i64 ((j : Int) + 2)] W fun e w' => e = .returned (.int .i64 (v : Int)) ∧ Kp W w') := Lib.hid fun W => by
                  have := NUM.out W (j + 2) a b hnj g2 g3
                  rw [hv2, show (((j + 2 : Nat) : Nat) : Int) = (j : Int) + 2 by omega] at this
                  exact this
                rw [hv2] at hgo
                have y3 : ((y.toNat : Int) != 4) = false := by simp; omega
                have HGO := Lib.hid hgo
                have vw : IntKind.u16.wrap (v : Int) = (v : Int) := wrap_u16 (by omega) (by omega)
                have hY4 := Lib.hid hy4
                have ybd : y.toNat < 256 := y.toNat_lt
                clear hgo hv hb3 hsec hdl hv2 N2 g2 g3 ba bb hnj
                go_wp2_with fail
                refine (N3.out _).mono ?_
                rintro e w' ⟨rfl, hk'⟩
                have HKP' := Lib.hid (HKP.out.trans hk')
                clear hk'
                go_wp2
                go_round
                case rel => exact ⟨j + 4, v, by go_num, rfl, by omega, hbe, by have h1 := HDR.out; have h2 := HGO.out; rw [hY4.out] at h1 h2; rw [h1, h2], HKP'.out⟩
                case measure => simp [intOf]; omega
              · have f2 := u8_ne (k := 2) (by decide) hx2
                rw [if_neg hx2] at hgo
                have HGO := Lib.hid hgo
                have ybd : y.toNat < 256 := y.toNat_lt
                clear hgo hb3 hsec hdl
                go_wp2
                go_round
                case rel => exact ⟨j + y.toNat, k, congrArg (Value.int .i64) (by omega), rfl, by omega, hk, by rw [HDR.out, HGO.out], HKP.out⟩
                case measure => simp [intOf]; omega
end Go.Proofs.Ytnoobifdaldfiaa
