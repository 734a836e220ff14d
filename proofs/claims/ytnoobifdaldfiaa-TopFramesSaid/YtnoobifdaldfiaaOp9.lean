/-
  Options of a segment: a plain law, and the contract of segment.options.
-/
import Derived.Test.YtnoobifdaldfiaaN9
import Derived.Test.YtnoobifdaldfiaaCut
import Derived.Test.YtnoobifdaldfiaaApp8
import Derived.WalkMore
namespace Go.Proofs.Ytnoobifdaldfiaa
open Go.RowKit
set_option maxRecDepth 100000

/-- the second byte as a number -/
def sec (r : List UInt8) : Nat := (r.headD 0).toNat
/-- the greatest piece that options tell of -/
def opts (l : List UInt8) (m : Nat) : Option Nat :=
  match l with
  | [] => some m
  | x :: r =>
    if x = 0 then some m
    else if x = 1 then opts r m
    else if r = [] ∨ sec r < 2 ∨ r.length + 1 < sec r ∨ (x = 2 ∧ sec r ≠ 4) then none
    else opts (r.drop (sec r - 1)) (if x = 2 then be ((r.drop 1).take 2) else m)
termination_by l.length
decreasing_by
  · simp
  · simp; omega

theorem opts_nil (m : Nat) : opts [] m = some m := by rw [opts]
theorem opts_zero (r : List UInt8) (m : Nat) : opts (0 :: r) m = some m := by rw [opts]; simp
theorem opts_one (r : List UInt8) (m : Nat) : opts (1 :: r) m = opts r m := by rw [opts]; simp
theorem opts_bad (x : UInt8) (r : List UInt8) (m : Nat) (h0 : x ≠ 0) (h1 : x ≠ 1) (h : r = [] ∨ sec r < 2 ∨ r.length + 1 < sec r ∨ (x = 2 ∧ sec r ≠ 4)) : opts (x :: r) m = none := by
  rw [opts, if_neg h0, if_neg h1, if_pos h]
theorem opts_go (x : UInt8) (r : List UInt8) (m : Nat) (h0 : x ≠ 0) (h1 : x ≠ 1) (h : ¬ (r = [] ∨ sec r < 2 ∨ r.length + 1 < sec r ∨ (x = 2 ∧ sec r ≠ 4))) : opts (x :: r) m = opts (r.drop (sec r - 1)) (if x = 2 then be ((r.drop 1).take 2) else m) := by
  rw [opts, if_neg h0, if_neg h1, if_neg h]

theorem be2_le (l : List UInt8) (h : l.length ≤ 2) : be l ≤ 65535 := by
  have h1 := be_lt l
  have h2 : 256 ^ l.length ≤ 256 ^ 2 := Nat.pow_le_pow_right (by decide) h
  omega

theorem be4_lt (l : List UInt8) (h : l.length ≤ 4) : be l < 4294967296 := by
  have h1 := be_lt l
  have h2 : 256 ^ l.length ≤ 256 ^ 4 := Nat.pow_le_pow_right (by decide) h
  omega

/-- what is handed back -/
def optsVal : Option Nat → Value
  | some k => .tuple #[.int .u16 (k : Int), .int .i64 0]
  | none => .tuple #[.int .u16 0, .int .i64 7]

def lenOf : Value → Nat
  | .slice _ n _ => n
  | _ => 0

theorem u8_ne {x : UInt8} {k : Nat} (hk : k < 256) (h : x ≠ UInt8.ofNat k) : ((x.toNat : Int) == (k : Int)) = false := by
  rw [beq_eq_false_iff_ne]
  intro e
  exact h (UInt8.toNat_inj.1 (by rw [UInt8.toNat_ofNat', Nat.mod_eq_of_lt hk]; omega))

theorem wrapB (y : UInt8) : wrap64 (y.toNat : Int) = (y.toNat : Int) := by
  have := y.toNat_lt
  unfold wrap64
  omega

set_option maxRecDepth 100000 in
set_option maxHeartbeats 2000000 in
theorem options9_any (w : World) (A : Option Addr) (n c : Nat) (l : List UInt8) (hA : Rd w 0 A n l) (hok : SlOk A n c) (hn : n ≤ 1048576) :
    Calls Try.prog 40 #[.slice A n c] w fun e w' => e = .returned (optsVal (opts l 0)) ∧ w = w' := by
  obtain ⟨i8, hi8, hs8⟩ : ∃ i, Try.prog.info? (Try.prog.elem 24) = some i ∧ i.size = 1 := by
    obtain ⟨i0, hi0, _, hz1, _⟩ := info_parts info5
    exact ⟨i0, hi0, hz1⟩
  have HA := Lib.hid hA
  have HOK := Lib.hid hok
  have HI := Lib.hid hi8
  clear hA hok hi8
  go_enter Try.func40, Try.ntmps40
  go_wp2
  go_step3
  go_wp2
  go_step3
  go_wp2
  go_loop [0, 4] (fun s m => ∃ (A' : Option Addr) (n' c' : Nat) (l' : List UInt8) (k : Nat), s = .slice A' n' c' ∧ m = .int .u16 k ∧ Rd w 0 A' n' l' ∧ SlOk A' n' c' ∧ n' ≤ n ∧ k ≤ 65535 ∧ opts l' k = opts l 0)
    (fun s _ => lenOf s)
  case atStart => exact ⟨A, n, c, l, 0, rfl, rfl, HA.out, HOK.out, Nat.le_refl _, by omega, rfl⟩
  case round =>
    obtain ⟨A', n', c', l', k, rfl, rfl, hR, hO, hnn, hk, he⟩ := hrel
    have HR := Lib.hid hR
    have HO := Lib.hid hO
    have HE := Lib.hid he
    have hlen := hR.len
    clear hR hO he
    rcases l' with _ | ⟨x, r⟩
    · obtain rfl : n' = 0 := by simpa using hlen.symm
      have hres : opts l 0 = some k := by rw [← HE.out, opts_nil]
      have HRES := Lib.hid hres
      clear hlen hres
      go_wp2
      first | go_ret2 | (rw [Exit.noGoto_ret]; go_ret2)
      exact ⟨by rw [HRES.out]; rfl, rfl⟩
    · rw [List.length_cons] at hlen
      obtain ⟨g, off, rfl, _⟩ := HR.out.at_ (by omega)
      obtain ⟨x', hx', z0⟩ := HR.out.cell (k := 0) (by omega)
      obtain rfl : x = x' := by simpa using hx'
      rw [Nat.add_zero] at z0
      have p0 : 0 < n' := by omega
      have p0' : (0 : Int) < (n' : Int) := by omega
      clear hx'
      by_cases hx0 : x = 0
      · subst hx0
        have hres : opts l 0 = some k := by rw [← HE.out, opts_zero]
        have HRES := Lib.hid hres
        clear hlen hres
        go_wp2
        first | go_ret2 | (rw [Exit.noGoto_ret]; go_ret2)
        exact ⟨by rw [HRES.out]; rfl, rfl⟩
      · have f0 := u8_ne (k := 0) (by decide) hx0
        by_cases hx1 : x = 1
        · subst hx1
          obtain ⟨A2, sl, rd2, ok2⟩ := cut_lo (P := Try.prog) (m := 1) (kd := .i64) Try.underlying24 HI.out hs8 HR.out HO.out (by omega)
          have sl' : ∀ wx : World, (Instr.slice 24 (.slice (some ⟨g, off, none⟩) n' c') (some (.int .i64 1)) none none).run Try.prog wx = .ok (.slice A2 (n' - 1) (c' - 1)) wx := sl
          have hres : opts r k = opts l 0 := by rw [← HE.out, opts_one]
          have HRES := Lib.hid hres
          have RD2 := Lib.hid rd2
          have OK2 := Lib.hid ok2
          clear hres hlen sl rd2 ok2
          go_wp2
          go_round
          case rel => exact ⟨A2, n' - 1, c' - 1, r, k, rfl, rfl, RD2.out, OK2.out, by omega, hk, HRES.out⟩
          case measure => simp [lenOf]; omega
        · have f1 := u8_ne (k := 1) (by decide) hx1
          by_cases hbad : r = [] ∨ sec r < 2 ∨ r.length + 1 < sec r ∨ (x = 2 ∧ sec r ≠ 4)
          · have hres : opts l 0 = none := by rw [← HE.out, opts_bad x r k hx0 hx1 hbad]
            have HRES := Lib.hid hres
            clear hres
            rcases r with _ | ⟨y, r⟩
            · have s2 : (n' : Int) < 2 := by rw [← hlen]; simp
              clear hlen hbad
              go_wp2
              first | go_ret2 | (rw [Exit.noGoto_ret]; go_ret2)
              exact ⟨by rw [HRES.out]; rfl, rfl⟩
            · obtain ⟨y', hy', z1⟩ := HR.out.cell (k := 1) (by rw [← hlen]; simp)
              obtain rfl : y = y' := by simpa using hy'
              clear hy'
              have s2 : ¬ (n' : Int) < 2 := by rw [← hlen]; simp; omega
              have p1 : 1 < n' := by omega
              have p1' : (1 : Int) < (n' : Int) := by omega
              have hb : y.toNat < 2 ∨ (2 ≤ y.toNat ∧ n' < y.toNat) ∨ (2 ≤ y.toNat ∧ ¬ n' < y.toNat ∧ x = 2 ∧ y.toNat ≠ 4) := by
                rcases hbad with h | h | h | ⟨h, h'⟩
                · cases h
                · exact .inl h
                · simp only [sec, List.headD_cons] at h; omega
                · simp only [sec, List.headD_cons] at h'
                  by_cases c1 : y.toNat < 2
                  · exact .inl c1
                  by_cases c2 : n' < y.toNat
                  · exact .inr (.inl ⟨by omega, c2⟩)
                  · exact .inr (.inr ⟨by omega, c2, h, h'⟩)
              clear hbad hlen
              rcases hb with hb | ⟨h2, hb⟩ | ⟨h2, h3, rfl, hb⟩
              · have y1 : (y.toNat : Int) < 2 := by omega
                go_wp2
                first | go_ret2 | (rw [Exit.noGoto_ret]; go_ret2)
                exact ⟨by rw [HRES.out]; rfl, rfl⟩
              · have y1 : ¬ (y.toNat : Int) < 2 := by omega
                have y2 : (n' : Int) < (y.toNat : Int) := by omega
                have yw := wrapB y
                go_wp2
                first | go_ret2 | (rw [Exit.noGoto_ret]; go_ret2)
                exact ⟨by rw [HRES.out]; rfl, rfl⟩
              · have y1 : ¬ (y.toNat : Int) < 2 := by omega
                have y2 : ¬ (n' : Int) < (y.toNat : Int) := by omega
                have y3 : ((y.toNat : Int) != 4) = true := by simp; omega
                have yw := wrapB y
                go_wp2
                first | go_ret2 | (rw [Exit.noGoto_ret]; go_ret2)
                exact ⟨by rw [HRES.out]; rfl, rfl⟩
          · have hgo := opts_go x r k hx0 hx1 hbad
            rw [HE.out] at hgo
            rcases r with _ | ⟨y, r⟩
            · exact absurd (.inl rfl) hbad
            · obtain ⟨y', hy', z1⟩ := HR.out.cell (k := 1) (by rw [← hlen]; simp)
              obtain rfl : y = y' := by simpa using hy'
              clear hy'
              rw [List.length_cons] at hlen
              have s2 : ¬ (n' : Int) < 2 := by omega
              have p1 : 1 < n' := by omega
              have p1' : (1 : Int) < (n' : Int) := by omega
              have hsec : sec (y :: r) = y.toNat := rfl
              rw [hsec] at hgo hbad
              obtain ⟨hb1, hb2, hb3⟩ : 2 ≤ y.toNat ∧ y.toNat ≤ n' ∧ (x = 2 → y.toNat = 4) := by
                refine ⟨by omega, ?_, fun h => ?_⟩
                · rw [List.length_cons] at hbad; omega
                · exact Decidable.byContradiction fun h4 => hbad (.inr (.inr (.inr ⟨h, h4⟩)))
              have y1 : ¬ (y.toNat : Int) < 2 := by omega
              have y2 : ¬ (n' : Int) < (y.toNat : Int) := by omega
              obtain ⟨A2, sl, rd2, ok2⟩ := cut_lo (P := Try.prog) (m := y.toNat) (kd := .u8) Try.underlying24 HI.out hs8 HR.out HO.out hb2
              have hdr : (x :: y :: r).drop y.toNat = (y :: r).drop (y.toNat - 1) := by
                obtain ⟨q, hq⟩ : ∃ q, y.toNat = q + 1 := ⟨y.toNat - 1, by omega⟩
                rw [hq]; rfl
              rw [hdr] at rd2
              have RD2 := Lib.hid rd2
              have OK2 := Lib.hid ok2
              clear rd2 ok2 hdr hbad
              by_cases hx2 : x = 2
              · subst hx2
                have hy4 := hb3 rfl
                clear RD2 OK2 sl
                obtain ⟨B2, sl2, rd2, ok2⟩ := cut_lo (P := Try.prog) (m := 4) (kd := .u8) Try.underlying24 HI.out hs8 HR.out HO.out (by omega)
                have sl2' : ∀ wx : World, (Instr.slice 24 (.slice (some ⟨g, off, none⟩) n' c') (some (.int .u8 4)) none none).run Try.prog wx = .ok (.slice B2 (n' - 4) (c' - 4)) wx := sl2
                have hdr : ((2 : UInt8) :: y :: r).drop 4 = (y :: r).drop (y.toNat - 1) := by rw [hy4]; rfl
                rw [hdr] at rd2
                have RD2 := Lib.hid rd2
                have OK2 := Lib.hid ok2
                clear rd2 ok2 hdr sl2
                obtain ⟨A3, sl3, rd3, _⟩ := cut_mid (P := Try.prog) (k := 2) (m := 4) (kd := .i64) (kd2 := .i64) Try.underlying24 HI.out hs8 HR.out HO.out (by decide) (by omega)
                have sl3' : ∀ wx : World, (Instr.slice 24 (.slice (some ⟨g, off, none⟩) n' c') (some (.int .i64 2)) (some (.int .i64 4)) none).run Try.prog wx = .ok (.slice A3 2 (c' - 2)) wx := sl3
                have h2 : (((2 : UInt8) :: y :: r).take 4).drop 2 = ((y :: r).drop 1).take 2 := by simp
                rw [h2] at rd3
                rw [if_pos rfl] at hgo
                have hbe := be2_le (((y :: r).drop 1).take 2) (by rw [List.length_take]; omega)
                have y3 : ((y.toNat : Int) != 4) = false := by simp; omega
                have RD3 := Lib.hid rd3
                have HGO := Lib.hid hgo
                obtain ⟨v, hv⟩ : ∃ v, be (((y :: r).drop 1).take 2) = v := ⟨_, rfl⟩
                rw [hv] at hbe
                have HV := Lib.hid hv
                have vw : IntKind.u16.wrap (v : Int) = (v : Int) := wrap_u16 (by omega) (by omega)
                have yw := wrapB y
                clear rd3 h2 sl3 hgo hv hb3 hsec hlen
                go_wp2_with fail
                refine (num9_any w 0 A3 2 _ _ RD3.out (by decide)).mono ?_
                rintro e w' ⟨rfl, rfl⟩
                rw [HV.out]
                go_wp2
                go_round
                case rel => exact ⟨B2, n' - 4, c' - 4, _, v, rfl, rfl, RD2.out, OK2.out, by clear yw; omega, hbe, by rw [HGO.out, HV.out]⟩
                case measure => clear yw; simp [lenOf]; omega
              · have f2 := u8_ne (k := 2) (by decide) hx2
                rw [if_neg hx2] at hgo
                have HGO := Lib.hid hgo
                have yw := wrapB y
                clear hgo hb3 hsec hlen
                go_wp2
                go_round
                case rel => exact ⟨A2, n' - y.toNat, c' - y.toNat, _, k, rfl, rfl, RD2.out, OK2.out, by clear yw; omega, hk, HGO.out.symm⟩
                case measure => clear yw; simp [lenOf]; omega
end Go.Proofs.Ytnoobifdaldfiaa
