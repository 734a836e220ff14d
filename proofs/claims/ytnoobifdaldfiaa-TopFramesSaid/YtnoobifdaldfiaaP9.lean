/-
  The contracts of the document's small answers of layer 6: Word, Host, Num; of ip4.Pseudo and the document's Pseudo.
-/
import Derived.Test.YtnoobifdaldfiaaApp8
import Derived.WalkLawsBesides
import Derived.Lib.Hide
import Derived.Deep.QuietTactic
import Derived.BigQuiet
import Derived.Deep.RegionLaw
import Derived.Test.YtnoobifdaldfiaaStable
import Derived.Test.YtnoobifdaldfiaaRow
import Derived.Test.YtnoobifdaldfiaaCk2
namespace Go.Proofs.Ytnoobifdaldfiaa
open Go.RowKit
set_option maxRecDepth 100000

/-- a number in two bytes -/
def wd2 (n : Nat) : List UInt8 := [UInt8.ofNat (n / 256), UInt8.ofNat n]
theorem wd2_vals (n : Nat) : (#[.int .u8 ((n : Int) / 256 % 256), .int .u8 ((n : Int) % 256)] : Array Value) = (bvs (wd2 n)).toArray := by
  have e1 : (((UInt8.ofNat (n / 256)).toNat : Nat) : Int) = (n : Int) / 256 % 256 := by rw [UInt8.toNat_ofNat']; omega
  have e2 : (((UInt8.ofNat n).toNat : Nat) : Int) = (n : Int) % 256 := by rw [UInt8.toNat_ofNat']; omega
  simp only [wd2, bvs, List.map_cons, List.map_nil, e1, e2]

theorem wrap8 (a : Int) : IntKind.u8.wrap a = a % 256 := by simp [IntKind.wrap, IntKind.bits, IntKind.signed]

set_option maxHeartbeats 400000 in
theorem word_any (w : World) (n : Nat) (hn : n ≤ 1048576) :
    Calls Try.prog 42 #[.int .i64 (n : Int)] w fun e w' => e = .returned (.string (str (wd2 n))) ∧ Kp w w' := by
  have hk : Kp w (w.alloc (.cells #[.int .u8 ((n : Int) / 256 % 256), .int .u8 ((n : Int) % 256)] 5)) := (Kp.refl _).alloc _
  have cs := conv_str (P := Try.prog) (w := w.alloc (.cells #[.int .u8 ((n : Int) / 256 % 256), .int .u8 ((n : Int) % 256)] 5))
    (lo := 0) (A := some ⟨w.heap.size, 0, none⟩) (n := 2) (l := wd2 n) (c := 2) Try.underlying24 Try.underlying5 Try.underlying9 (rd_lit rfl (Nat.zero_le _) rfl (wd2_vals n))
  have u1 : IntKind.u8.wrap ((n : Int) / 256) = (n : Int) / 256 % 256 := wrap8 _
  have u2 : IntKind.u8.wrap (n : Int) = (n : Int) % 256 := wrap8 _
  go_enter Try.func42, Try.ntmps42
  go_wp2
  go_ret
  exact ⟨rfl, hk⟩

set_option maxHeartbeats 400000 in
theorem host6_any (w : World) (a b c d : UInt8) :
    Calls Try.prog 58 #[.agg #[.int .u8 (a.toNat : Int), .int .u8 (b.toNat : Int), .int .u8 (c.toNat : Int), .int .u8 (d.toNat : Int)]] w
      fun en w' => en = .returned (.string (str [a, b, c, d])) ∧ Kp w w' := by
  have hk : Kp w ((w.alloc (.cells #[.int .u8 (a.toNat : Int), .int .u8 (b.toNat : Int), .int .u8 (c.toNat : Int), .int .u8 (d.toNat : Int)] 28)).alloc (.cells #[.int .u8 (a.toNat : Int), .int .u8 (b.toNat : Int), .int .u8 (c.toNat : Int), .int .u8 (d.toNat : Int)] 5)) := ((Kp.refl _).alloc _).alloc _
  have cs := conv_str (P := Try.prog) (w := (w.alloc (.cells #[.int .u8 (a.toNat : Int), .int .u8 (b.toNat : Int), .int .u8 (c.toNat : Int), .int .u8 (d.toNat : Int)] 28)).alloc (.cells #[.int .u8 (a.toNat : Int), .int .u8 (b.toNat : Int), .int .u8 (c.toNat : Int), .int .u8 (d.toNat : Int)] 5))
    (lo := 0) (A := some ⟨w.heap.size + 1, 0, none⟩) (n := 4) (l := [a, b, c, d]) (c := 4) Try.underlying24 Try.underlying5 Try.underlying9 (rd_lit (by simp) (Nat.zero_le _) rfl rfl)
  go_enter Try.func58, Try.ntmps58
  go_wp2
  go_ret
  exact ⟨rfl, hk⟩

set_option maxHeartbeats 400000 in
theorem num_any (w : World) (S : ByteArray) (k : Nat) (x y : UInt8) (hk : k + 1 < S.size) (hs : S.size ≤ 1048576) (hx : ∀ h, S[k]'h = x) (hy : ∀ h, S[k + 1]'h = y) :
    Calls Try.prog 48 #[.string S, .int .i64 (k : Int)] w fun e w' => e = .returned (.int .i64 ((256 * x.toNat + y.toNat : Nat) : Int)) ∧ Kp w w' := by
  have bx := x.toNat_lt
  have by_ := y.toNat_lt
  have h1 : (k : Int) < (S.size : Int) := by omega
  have h2 : (k : Int) + 1 < (S.size : Int) := by omega
  have h3 : ((k : Int) + 1).toNat = k + 1 := by omega
  have u1 : IntKind.i64.wrap ((x.toNat : Int) * 256) = (x.toNat : Int) * 256 := by rw [IntKind.wrap_i64]; omega
  go_enter Try.func48, Try.ntmps48
  go_wp2
  go_quiet (fail)
  go_wp2
  go_ret
  exact ⟨ret_int (by omega), (Kp.refl w).of_drawn _⟩

def pseudo (src dst : List UInt8) (proto : UInt8) (n : Nat) : List UInt8 := src ++ dst ++ ([0, proto] ++ wd2 n)

set_option maxHeartbeats 1000000 in
theorem pseudo_any (w : World) (a0 a1 a2 a3 b0 b1 b2 b3 p : UInt8) (n : Nat) (_hn : n ≤ 1048576) :
    Calls Try.prog 28 #[.agg #[.int .u8 (a0.toNat : Int), .int .u8 (a1.toNat : Int), .int .u8 (a2.toNat : Int), .int .u8 (a3.toNat : Int)], .agg #[.int .u8 (b0.toNat : Int), .int .u8 (b1.toNat : Int), .int .u8 (b2.toNat : Int), .int .u8 (b3.toNat : Int)], .int .u8 (p.toNat : Int), .int .i64 (n : Int)] w
      fun e w' => Kp w w' ∧ ∃ g cap, e = .returned (.slice (some ⟨g, 0, none⟩) 12 cap) ∧ OwnV 5 w' w.heap.size g 12 cap (bvs (pseudo [a0, a1, a2, a3] [b0, b1, b2, b3] p n)) := by
  have hk0 : Kp w (((w.alloc (.cells #[.int .u8 (a0.toNat : Int), .int .u8 (a1.toNat : Int), .int .u8 (a2.toNat : Int), .int .u8 (a3.toNat : Int)] 28)).alloc (.cells #[.int .u8 (b0.toNat : Int), .int .u8 (b1.toNat : Int), .int .u8 (b2.toNat : Int), .int .u8 (b3.toNat : Int)] 28)).drew.alloc (.cells #[] 5)) := ((((Kp.refl w).alloc _).alloc _).drew).alloc _
  have own0 : OwnV 5 (((w.alloc (.cells #[.int .u8 (a0.toNat : Int), .int .u8 (a1.toNat : Int), .int .u8 (a2.toNat : Int), .int .u8 (a3.toNat : Int)] 28)).alloc (.cells #[.int .u8 (b0.toNat : Int), .int .u8 (b1.toNat : Int), .int .u8 (b2.toNat : Int), .int .u8 (b3.toNat : Int)] 28)).drew.alloc (.cells #[] 5)) w.heap.size (w.heap.size + 1 + 1) 0 0 (bvs []) := OwnV.lit (vs := []) (by simp) (by omega) rfl (by decide)
  have r1 : Rd (((w.alloc (.cells #[.int .u8 (a0.toNat : Int), .int .u8 (a1.toNat : Int), .int .u8 (a2.toNat : Int), .int .u8 (a3.toNat : Int)] 28)).alloc (.cells #[.int .u8 (b0.toNat : Int), .int .u8 (b1.toNat : Int), .int .u8 (b2.toNat : Int), .int .u8 (b3.toNat : Int)] 28))) 0 (some ⟨w.heap.size, 0, none⟩) 4 [a0, a1, a2, a3] := (rd_lit rfl (Nat.zero_le _) rfl rfl).keep ((Kp.refl _).alloc _)
  have r2 : Rd (((w.alloc (.cells #[.int .u8 (a0.toNat : Int), .int .u8 (a1.toNat : Int), .int .u8 (a2.toNat : Int), .int .u8 (a3.toNat : Int)] 28)).alloc (.cells #[.int .u8 (b0.toNat : Int), .int .u8 (b1.toNat : Int), .int .u8 (b2.toNat : Int), .int .u8 (b3.toNat : Int)] 28))) 0 (some ⟨w.heap.size + 1, 0, none⟩) 4 [b0, b1, b2, b3] := rd_lit (by simp) (Nat.zero_le _) rfl rfl
  have kb : Kp ((w.alloc (.cells #[.int .u8 (a0.toNat : Int), .int .u8 (a1.toNat : Int), .int .u8 (a2.toNat : Int), .int .u8 (a3.toNat : Int)] 28)).alloc (.cells #[.int .u8 (b0.toNat : Int), .int .u8 (b1.toNat : Int), .int .u8 (b2.toNat : Int), .int .u8 (b3.toNat : Int)] 28)) (((w.alloc (.cells #[.int .u8 (a0.toNat : Int), .int .u8 (a1.toNat : Int), .int .u8 (a2.toNat : Int), .int .u8 (a3.toNat : Int)] 28)).alloc (.cells #[.int .u8 (b0.toNat : Int), .int .u8 (b1.toNat : Int), .int .u8 (b2.toNat : Int), .int .u8 (b3.toNat : Int)] 28)).drew.alloc (.cells #[] 5)) := ((Kp.refl _).drew).alloc _
  have R1 := Lib.hid (r1.keep kb)
  have R2 := Lib.hid r2
  clear r1 r2
  have u1 : IntKind.u8.wrap ((n : Int) / 256) = (n : Int) / 256 % 256 := wrap8 _
  have u2 : IntKind.u8.wrap (n : Int) = (n : Int) % 256 := wrap8 _
  go_enter Try.func28, Try.ntmps28
  go_wp2
  go_region_law (first
    | (refine stp8 rfl (.tmp 10) (.tmp 11) rfl rfl rfl own0 R1.out 4 [a0, a1, a2, a3] rfl rfl (by omega) hk0.size ?_; intro g1 cap1 w1 own1 gr1 at1; have hk1 := hk0.grown gr1 own0.lo_le; have kb1 := kb.grown gr1 (by simp))
    | (refine stp8 rfl (.tmp 12) (.tmp 13) rfl rfl rfl own1 (R2.out.keep kb1) 8 ([a0, a1, a2, a3] ++ [b0, b1, b2, b3]) rfl rfl (by omega) hk1.size ?_; intro g2 cap2 w5 own2 gr2 at2; have hk2 := hk1.grown gr2 own1.lo_le))
  clear hk0 own0 kb kb1 R1 R2 own1 gr1 gr2 at1 at2 hk1
  have rb := rd_lit (w := w5) (lo := 0) (T := 5) (m := (0, 0)) (g := w5.heap.size) (l := [0, p] ++ wd2 n) (cs := #[.int .u8 0, .int .u8 (p.toNat : Int), .int .u8 ((n : Int) / 256 % 256), .int .u8 ((n : Int) % 256)]) rfl (Nat.zero_le _) rfl (by
    rw [bvs_append, ← List.append_toArray, ← wd2_vals]
    rfl)
  have own3 := own2.keep ((Kp.refl w5).alloc (.cells #[.int .u8 0, .int .u8 (p.toNat : Int), .int .u8 ((n : Int) / 256 % 256), .int .u8 ((n : Int) % 256)] 5))
  have hk3 := hk2.alloc (.cells #[.int .u8 0, .int .u8 (p.toNat : Int), .int .u8 ((n : Int) / 256 % 256), .int .u8 ((n : Int) % 256)] 5)
  go_wp2_with (first
    | (at_builtin; refine app8 (by rfl) (.tmp 15) (.tmp 22) rfl rfl rfl own3 rb 12 (pseudo [a0, a1, a2, a3] [b0, b1, b2, b3] p n) rfl rfl (by omega) hk3.size ?_; intro g3 cap3 w6 own4 gr3 at3; have hk4 := hk3.grown gr3 own3.lo_le))
  go_ret
  exact ⟨hk4, g3, cap3, rfl, own4⟩

noncomputable def rpsphi (a0 a1 a2 a3 b0 b1 b2 b3 p : UInt8) (n : Nat) : Nat → St := fun i => ([St.val (.agg #[.int .u8 (a0.toNat : Int), .int .u8 (a1.toNat : Int), .int .u8 (a2.toNat : Int), .int .u8 (a3.toNat : Int)]),
  St.val (.string (str [a0, a1, a2, a3])),
  St.val (.agg #[.int .u8 (b0.toNat : Int), .int .u8 (b1.toNat : Int), .int .u8 (b2.toNat : Int), .int .u8 (b3.toNat : Int)]),
  St.val (.string (str [b0, b1, b2, b3])),
  St.val (.string (str ([a0, a1, a2, a3] ++ [b0, b1, b2, b3]))),
  St.val (.int .u8 (p.toNat : Int)),
  St.rd 2 [0, p],
  St.val (.string (str [0, p])),
  St.val (.string (str ([a0, a1, a2, a3] ++ [b0, b1, b2, b3] ++ [0, p]))),
  St.val (.int .i64 (n : Int)),
  St.val (.string (str (wd2 n))),
  St.val (.string (str (pseudo [a0, a1, a2, a3] [b0, b1, b2, b3] p n))),
  St.val (.string (str (pseudo [a0, a1, a2, a3] [b0, b1, b2, b3] p n)))] : List St).getD i St.any

set_option maxRecDepth 100000 in
set_option maxHeartbeats 2000000 in
theorem rpseudo_any (w : World) (a0 a1 a2 a3 b0 b1 b2 b3 p : UInt8) (n : Nat) (hn : n ≤ 1048576) :
    Calls Try.prog 45 #[.agg #[.int .u8 (a0.toNat : Int), .int .u8 (a1.toNat : Int), .int .u8 (a2.toNat : Int), .int .u8 (a3.toNat : Int)], .agg #[.int .u8 (b0.toNat : Int), .int .u8 (b1.toNat : Int), .int .u8 (b2.toNat : Int), .int .u8 (b3.toNat : Int)], .int .u8 (p.toNat : Int), .int .i64 (n : Int)] w
      fun e w' => e = .returned (.string (str (pseudo [a0, a1, a2, a3] [b0, b1, b2, b3] p n))) ∧ Kp w w' := by
  have KS : ∀ w' : World, Kp ((w.alloc (.cells #[.int .u8 (a0.toNat : Int), .int .u8 (a1.toNat : Int), .int .u8 (a2.toNat : Int), .int .u8 (a3.toNat : Int)] 28)).alloc (.cells #[.int .u8 (b0.toNat : Int), .int .u8 (b1.toNat : Int), .int .u8 (b2.toNat : Int), .int .u8 (b3.toNat : Int)] 28)) w' → (w'.cell? ⟨w.heap.size, 0, none⟩ = some (.int .u8 (a0.toNat : Int)) ∧ w'.cell? ⟨w.heap.size, 1, none⟩ = some (.int .u8 (a1.toNat : Int)) ∧ w'.cell? ⟨w.heap.size, 2, none⟩ = some (.int .u8 (a2.toNat : Int)) ∧ w'.cell? ⟨w.heap.size, 3, none⟩ = some (.int .u8 (a3.toNat : Int)) ∧
      w'.cell? ⟨w.heap.size + 1, 0, none⟩ = some (.int .u8 (b0.toNat : Int)) ∧ w'.cell? ⟨w.heap.size + 1, 1, none⟩ = some (.int .u8 (b1.toNat : Int)) ∧ w'.cell? ⟨w.heap.size + 1, 2, none⟩ = some (.int .u8 (b2.toNat : Int)) ∧ w'.cell? ⟨w.heap.size + 1, 3, none⟩ = some (.int .u8 (b3.toNat : Int))) := by
    intro w' hk
    have kb : Kp (w.alloc (.cells #[.int .u8 (a0.toNat : Int), .int .u8 (a1.toNat : Int), .int .u8 (a2.toNat : Int), .int .u8 (a3.toNat : Int)] 28)) w' := ((Kp.refl _).alloc _).trans hk
    have e1 : (w.alloc (.cells #[.int .u8 (a0.toNat : Int), .int .u8 (a1.toNat : Int), .int .u8 (a2.toNat : Int), .int .u8 (a3.toNat : Int)] 28)).heap.size = w.heap.size + 1 := by simp
    refine ⟨?_, ?_, ?_, ?_, ?_, ?_, ?_, ?_⟩
    · refine kb.cell ?_; rw [cell_new]; rfl
    · refine kb.cell ?_; rw [cell_new]; rfl
    · refine kb.cell ?_; rw [cell_new]; rfl
    · refine kb.cell ?_; rw [cell_new]; rfl
    · refine hk.cell ?_; rw [← e1, cell_new]; rfl
    · refine hk.cell ?_; rw [← e1, cell_new]; rfl
    · refine hk.cell ?_; rw [← e1, cell_new]; rfl
    · refine hk.cell ?_; rw [← e1, cell_new]; rfl
  have hap := str_append
  have hsz := str_size
  have hwl : (wd2 n).length = 2 := rfl
  go_enter Try.func45, Try.ntmps45
  go_wp2
  refine wp_region_steps (by kernel_rfl) 13 (rpsphi a0 a1 a2 a3 b0 b1 b2 b3 p n) [9, 10, 11, 12, 13, 14, 15, 16, 17, 18, 19, 20, 8] (by kernel_rfl) (by kernel_rfl) ⟨?_, ?_, ?_, ?_, ?_, ?_, ?_, ?_, ?_, ?_, ?_, ?_, ?_, trivial⟩ ?_
  · intro a W hW hO hφ K hK
    have q4 : a.tmps.getD 4 undef = (.pointer (some ⟨w.heap.size, 0, none⟩)) := hO 4 (by kernel_rfl)
    have r4 := q4
    rw [Array.getD_eq_getD_getElem?] at r4
    clear hO hφ
    obtain ⟨k0, k1, k2, k3, k4, k5, k6, k7⟩ := KS W (Kp.trans ((Kp.refl _).drew) hW)
    clear KS
    go_simp
    exact hK _ _ (Kp.refl _) rfl
  · intro a W hW hO hφ K hK
    have q9 : a.tmps.getD 9 undef = (.agg #[.int .u8 (a0.toNat : Int), .int .u8 (a1.toNat : Int), .int .u8 (a2.toNat : Int), .int .u8 (a3.toNat : Int)]) := hφ ⟨0, .data⟩ (by simp) rfl
    have r9 := q9
    rw [Array.getD_eq_getD_getElem?] at r9
    clear hO hφ
    clear KS
    go_simp
    go_at_call 58
    refine (host6_any _ _ _ _ _).mono ?_
    rintro e w' ⟨rfl, hk⟩
    exact hK _ _ hk rfl
  · intro a W hW hO hφ K hK
    have q5 : a.tmps.getD 5 undef = (.pointer (some ⟨w.heap.size + 1, 0, none⟩)) := hO 5 (by kernel_rfl)
    have r5 := q5
    rw [Array.getD_eq_getD_getElem?] at r5
    clear hO hφ
    obtain ⟨k0, k1, k2, k3, k4, k5, k6, k7⟩ := KS W (Kp.trans ((Kp.refl _).drew) hW)
    clear KS
    go_simp
    exact hK _ _ (Kp.refl _) rfl
  · intro a W hW hO hφ K hK
    have q11 : a.tmps.getD 11 undef = (.agg #[.int .u8 (b0.toNat : Int), .int .u8 (b1.toNat : Int), .int .u8 (b2.toNat : Int), .int .u8 (b3.toNat : Int)]) := hφ ⟨2, .data⟩ (by simp) rfl
    have r11 := q11
    rw [Array.getD_eq_getD_getElem?] at r11
    clear hO hφ
    clear KS
    go_simp
    go_at_call 58
    refine (host6_any _ _ _ _ _).mono ?_
    rintro e w' ⟨rfl, hk⟩
    exact hK _ _ hk rfl
  · intro a W hW hO hφ K hK
    have q10 : a.tmps.getD 10 undef = (.string (str [a0, a1, a2, a3])) := hφ ⟨1, .data⟩ (by simp) rfl
    have q12 : a.tmps.getD 12 undef = (.string (str [b0, b1, b2, b3])) := hφ ⟨3, .data⟩ (by simp) rfl
    have r10 := q10
    rw [Array.getD_eq_getD_getElem?] at r10
    have r12 := q12
    rw [Array.getD_eq_getD_getElem?] at r12
    clear hO hφ
    clear KS
    go_simp
    exact hK _ _ (Kp.refl _) rfl
  · intro a W hW hO hφ K hK
    have q2 : a.tmps.getD 2 undef = (.int .u8 (p.toNat : Int)) := hO 2 (by kernel_rfl)
    have r2 := q2
    rw [Array.getD_eq_getD_getElem?] at r2
    clear hO hφ
    clear KS
    go_simp
    exact hK _ _ (Kp.refl _) rfl
  · intro a W hW hO hφ K hK
    have q14 : a.tmps.getD 14 undef = (.int .u8 (p.toNat : Int)) := hφ ⟨5, .data⟩ (by simp) rfl
    have r14 := q14
    rw [Array.getD_eq_getD_getElem?] at r14
    clear hO hφ
    clear KS
    go_simp
    exact hK _ _ ((Kp.refl _).alloc _) ⟨_, _, rfl, rd_lit rfl (Nat.zero_le _) rfl rfl⟩
  · intro a W hW hO hφ K hK
    have q15 : (St.rd 2 [0, p]).p (a.tmps.getD 15 undef) W := hφ ⟨6, .data⟩ (by simp) rfl
    clear hO hφ
    clear KS
    obtain ⟨A1, c1, q15', hr⟩ := q15
    have cv := conv_str (P := Try.prog) (c := c1) Try.underlying24 Try.underlying5 Try.underlying9 hr
    go_simp
    exact hK _ _ (Kp.refl _) rfl
  · intro a W hW hO hφ K hK
    have q13 : a.tmps.getD 13 undef = (.string (str ([a0, a1, a2, a3] ++ [b0, b1, b2, b3]))) := hφ ⟨4, .data⟩ (by simp) rfl
    have q16 : a.tmps.getD 16 undef = (.string (str [0, p])) := hφ ⟨7, .data⟩ (by simp) rfl
    have r13 := q13
    rw [Array.getD_eq_getD_getElem?] at r13
    have r16 := q16
    rw [Array.getD_eq_getD_getElem?] at r16
    clear hO hφ
    clear KS
    go_simp
    exact hK _ _ (Kp.refl _) rfl
  · intro a W hW hO hφ K hK
    have q3 : a.tmps.getD 3 undef = (.int .i64 (n : Int)) := hO 3 (by kernel_rfl)
    have r3 := q3
    rw [Array.getD_eq_getD_getElem?] at r3
    clear hO hφ
    clear KS
    go_simp
    exact hK _ _ (Kp.refl _) rfl
  · intro a W hW hO hφ K hK
    have q18 : a.tmps.getD 18 undef = (.int .i64 (n : Int)) := hφ ⟨9, .data⟩ (by simp) rfl
    have r18 := q18
    rw [Array.getD_eq_getD_getElem?] at r18
    clear hO hφ
    clear KS
    go_simp
    go_at_call 42
    refine (word_any _ n hn).mono ?_
    rintro e w' ⟨rfl, hk⟩
    exact hK _ _ hk rfl
  · intro a W hW hO hφ K hK
    have q17 : a.tmps.getD 17 undef = (.string (str ([a0, a1, a2, a3] ++ [b0, b1, b2, b3] ++ [0, p]))) := hφ ⟨8, .data⟩ (by simp) rfl
    have q19 : a.tmps.getD 19 undef = (.string (str (wd2 n))) := hφ ⟨10, .data⟩ (by simp) rfl
    have r17 := q17
    rw [Array.getD_eq_getD_getElem?] at r17
    have r19 := q19
    rw [Array.getD_eq_getD_getElem?] at r19
    clear hO hφ
    clear KS
    go_simp
    exact hK _ _ (Kp.refl _) rfl
  · intro a W hW hO hφ K hK
    have q20 : a.tmps.getD 20 undef = (.string (str (pseudo [a0, a1, a2, a3] [b0, b1, b2, b3] p n))) := hφ ⟨11, .data⟩ (by simp) rfl
    have r20 := q20
    rw [Array.getD_eq_getD_getElem?] at r20
    clear hO hφ
    clear KS
    go_simp
    exact hK _ _ (Kp.refl _) rfl
  intro f W hW hφ
  have v0 : f 0 = (.agg #[.int .u8 (a0.toNat : Int), .int .u8 (a1.toNat : Int), .int .u8 (a2.toNat : Int), .int .u8 (a3.toNat : Int)]) := hφ 0 (by omega)
  have v1 : f 1 = (.string (str [a0, a1, a2, a3])) := hφ 1 (by omega)
  have v2 : f 2 = (.agg #[.int .u8 (b0.toNat : Int), .int .u8 (b1.toNat : Int), .int .u8 (b2.toNat : Int), .int .u8 (b3.toNat : Int)]) := hφ 2 (by omega)
  have v3 : f 3 = (.string (str [b0, b1, b2, b3])) := hφ 3 (by omega)
  have v4 : f 4 = (.string (str ([a0, a1, a2, a3] ++ [b0, b1, b2, b3]))) := hφ 4 (by omega)
  have v5 : f 5 = (.int .u8 (p.toNat : Int)) := hφ 5 (by omega)
  have v6 : (St.rd 2 [0, p]).p (f 6) W := hφ 6 (by omega)
  have v7 : f 7 = (.string (str [0, p])) := hφ 7 (by omega)
  have v8 : f 8 = (.string (str ([a0, a1, a2, a3] ++ [b0, b1, b2, b3] ++ [0, p]))) := hφ 8 (by omega)
  have v9 : f 9 = (.int .i64 (n : Int)) := hφ 9 (by omega)
  have v10 : f 10 = (.string (str (wd2 n))) := hφ 10 (by omega)
  have v11 : f 11 = (.string (str (pseudo [a0, a1, a2, a3] [b0, b1, b2, b3] p n))) := hφ 11 (by omega)
  have v12 : f 12 = (.string (str (pseudo [a0, a1, a2, a3] [b0, b1, b2, b3] p n))) := hφ 12 (by omega)
  clear hφ
  simp only [putAll, List.setIfInBounds_toArray, List.set_cons_succ, List.set_cons_zero, v0, v1, v2, v3, v4, v5, v7, v8, v9, v10, v11, v12]
  clear v0 v1 v2 v3 v4 v5 v7 v8 v9 v10 v11 v12
  refine wpAny_done (by kernel_rfl) ?_ _
  go_wp2
  go_ret
  exact ⟨rfl, (((Kp.refl w).alloc _).alloc _).trans (Kp.trans ((Kp.refl _).drew) hW)⟩
end Go.Proofs.Ytnoobifdaldfiaa
