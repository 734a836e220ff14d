/-
  The walk of the law CksumAdjusts: it returns true and leaves what was there as it was.
-/
import Derived.Test.YtibbpineaekfoaaLives2
import Derived.Test.YtibbpineaekfoaaApp8
import Derived.Test.YtibbpineaekfoaaCk3
import Derived.Deep.QuietTactic
import Derived.BigQuiet
namespace Go.Proofs.Ytibbpineaekfoaa
open Go.RowKit

theorem u64_rem (a : Int) (k : Nat) (hk : 0 < k) : ∃ j : Nat, j < k ∧ (IntKind.u64.wrap a).tmod (k : Int) = (j : Int) := by
  obtain ⟨x, hx⟩ : ∃ x : Nat, IntKind.u64.wrap a = (x : Int) := ⟨(IntKind.u64.wrap a).toNat, by
    have : 0 ≤ IntKind.u64.wrap a := by simp only [IntKind.wrap, IntKind.bits, IntKind.signed]; simp; omega
    omega⟩
  exact ⟨x % k, Nat.mod_lt _ hk, by rw [hx, Int.tmod_eq_emod_of_nonneg (by omega)]; omega⟩

theorem adjust_law (T was V F : Nat) (hw : was ≤ 65535) (hV : V ≤ 65535) (hF : F = Ck.norm (T + was)) :
    Ck.norm (T + V) = 0 ∨ 65535 - Ck.add2 (Ck.add2 (65535 - ((65535 - F : Nat) : Int)) (65535 - (was : Int))) (V : Int) = ((65535 - Ck.norm (T + V) : Nat) : Int) := by
  have bF := Ck.norm_le (T + was)
  rcases Nat.eq_zero_or_pos (T + V) with h | h
  · exact .inl (by rw [h]; rfl)
  · right
    have e1 : 65535 - ((65535 - F : Nat) : Int) = (F : Int) := by omega
    have e2 : 65535 - (was : Int) = ((65535 - was : Nat) : Int) := by omega
    rw [e1, e2, Ck.add2_nat _ _ (by omega) (by omega), Ck.add2_nat _ _ (Ck.norm_le _) hV, hF, Ck.norm_add (T + was), Ck.norm_add]
    have e3 : T + was + (65535 - was) + V = T + V + 65535 := by omega
    rw [e3, Ck.norm_more _ h]
    have := Ck.norm_le (T + V)
    omega

set_option maxRecDepth 100000 in
set_option maxHeartbeats 400000 in
theorem adjusts_walk (w : World) (A : Option Addr) (n c : Nat) (la : List UInt8) (a v : Int)
    (hA : Rd w 0 A n la) (hn : n ≤ 140737488351232) (ha : (Lit.int .i64 a).wf = true) (hv : (Lit.int .u16 v).wf = true) :
    Calls Try.prog 7 #[.slice A n c, .int .i64 a, .int .u16 v] w fun e w' => e = .returned (.bool true) ∧ Kp w w' := by
  have ela := Lib.hid hA.len
  have hv' : 0 ≤ v ∧ v ≤ 65535 := by simpa [Lit.wf, IntKind.min, IntKind.max, IntKind.signed, IntKind.bits] using hv
  obtain ⟨hv0, hv1⟩ := hv'
  have HA := Lib.hid ha
  clear ha hv
  by_cases hc : n ≤ 2000 ∧ n % 2 = 0 ∧ 0 < n
  · obtain ⟨hn1, hn2, hn3⟩ := hc
    have t1 : ((n : Int) % 2 == 1) = false := by simp; omega
    have t2 : ((n : Int) == 0) = false := by simp; omega
    obtain ⟨j, hj, ej⟩ := u64_rem a (n / 2) (by omega)
    have ej' : (IntKind.u64.wrap a).tmod ((n : Int) / 2) = (j : Int) := by rw [← ej]; congr 1
    obtain ⟨i, hi⟩ : ∃ i : Nat, i = 2 * j := ⟨_, rfl⟩
    have ei : 2 * (j : Int) = (i : Int) := by omega
    have hi1 : i + 1 < n := by omega
    have hi2 := Lib.hid (show i % 2 = 0 by omega)
    have HA2 := Lib.hid hA
    obtain ⟨g, off, rfl, _⟩ := hA.at_ (by omega)
    obtain ⟨x, hx, cx⟩ := hA.cell (k := i) (by omega)
    obtain ⟨y, hy, cy⟩ := hA.cell (k := i + 1) (by omega)
    have HX := Lib.hid hx
    have HY := Lib.hid hy
    have s1 : IntKind.i64.wrap ((i : Int) + 1) = (i : Int) + 1 := IntWalk.i64_in _ (by omega)
    have s2 : 0 ≤ (i : Int) + 1 := by omega
    have s3 : ((i : Int) + 1).toNat = i + 1 := by omega
    have s4 : (i : Int) + 1 < n := by omega
    have bx : (x.toNat : Int) < 256 := by have := x.toNat_lt; omega
    have by_ : (y.toNat : Int) < 256 := by have := y.toNat_lt; omega
    have hor := or_u16 x y
    obtain ⟨T, eT, eT2⟩ := Ck.wsum_word la i x y hi2.out hx hy
    obtain ⟨was, hwas⟩ : ∃ was : Nat, 256 * x.toNat + y.toNat = was := ⟨_, rfl⟩
    rw [hwas] at hor eT
    have bwas : was ≤ 65535 := by omega
    have ET := Lib.hid eT
    have ET2 := Lib.hid eT2
    obtain ⟨F, hF⟩ : ∃ F, Ck.ck [la].flatten = F := ⟨_, rfl⟩
    have bF := Ck.ck_le [la].flatten
    rw [hF] at bF
    have EF := Lib.hid hF
    have HN : Hid (n ≤ maxLen) := Lib.hid (by unfold maxLen; omega)
    clear ej hi hx hy hA hn2 hF eT eT2 hwas
    go_enter Try.func7, Try.ntmps7
    go_wp2_with (go_at_call 13; refine (lives_any _).mono ?_; rintro e w' ⟨rfl, hk⟩; have cx1 := hk.cell cx; have cy1 := hk.cell cy)
    go_quiet (fail)
    have hk1 := hk.of_drawn nq
    generalize w'.drewN nq = W1 at hk1 ⊢
    clear cx1 cy1 cx cy hor hk
    go_wp2_with fail
    refine (sum_any _ _ _ _ [la] ?_).mono ?_
    · exact rdAll_mk (by simp) rfl (by decide) ⟨⟨_, _, _, rfl, HA2.out.keep hk1, HN.out⟩, trivial⟩
    rintro e w2 ⟨rfl, rfl⟩
    rw [EF.out]
    have hk2 : Kp w ((W1.alloc (.cells #[.slice (some ⟨g, off, none⟩) n c] 22)).alloc (.cells #[] 5)) := (hk1.alloc _).alloc _
    have own0 : OwnV 5 ((W1.alloc (.cells #[.slice (some ⟨g, off, none⟩) n c] 22)).alloc (.cells #[] 5)) w.heap.size (W1.heap.size + 1) 0 0 (bvs []) :=
      OwnV.lit (vs := []) (by simp) (by have := hk1.size; omega) rfl (by decide)
    go_wp2_with (first
      | (at_builtin; refine app8 (by rfl) (.tmp 56) (.tmp 57) rfl rfl rfl own0 (HA2.out.keep hk2) n la (by omega) rfl (by omega) hk2.size ?_; intro g1 cap1 w1 own1 gr1 at1; have hk3 := hk2.grown gr1 own0.lo_le; obtain ⟨x1, _, cx1⟩ := own1.cell8 (k := i) (by omega); obtain ⟨y1, _, cy1⟩ := own1.cell8 (k := i + 1) (by omega); have fr1 := own1.frozen i; have fr2 := own1.frozen (i + 1)))
    have own2 := (own1.set8 i (v / 256) (by omega) (by omega)).set8 (i + 1) (v % 256) (by omega) (by omega)
    have hk4 : Kp w ((w1.setCell ⟨g1, i, none⟩ (.int .u8 (v / 256))).setCell ⟨g1, i + 1, none⟩ (.int .u8 (v % 256))) := (hk3.setCell own1.lo_le _).setCell own1.lo_le _
    generalize (w1.setCell ⟨g1, i, none⟩ (.int .u8 (v / 256))).setCell ⟨g1, i + 1, none⟩ (.int .u8 (v % 256)) = W3 at own2 hk4 ⊢
    clear cx1 cy1 fr1 fr2 gr1 at1 own0 hk2
    obtain ⟨L, hL⟩ : ∃ L, (la.set i (UInt8.ofNat (v / 256).toNat)).set (i + 1) (UInt8.ofNat (v % 256).toNat) = L := ⟨_, rfl⟩
    have eL := ET2.out (UInt8.ofNat (v / 256).toNat) (UInt8.ofNat (v % 256).toNat)
    rw [hL] at eL own2
    have eV : 256 * (UInt8.ofNat (v / 256).toNat).toNat + (UInt8.ofNat (v % 256).toNat).toNat = v.toNat := by
      rw [UInt8.toNat_ofNat', UInt8.toNat_ofNat']; omega
    rw [eV] at eL
    have law := adjust_law T was v.toNat F bwas (by omega) (by rw [← EF.out, ← ET.out]; simp [Ck.ck])
    have e5 : ((v.toNat : Nat) : Int) = v := by omega
    rw [e5, ← eL] at law
    obtain ⟨G, hG⟩ : ∃ G, Ck.ck L = G := ⟨_, rfl⟩
    have bG := Ck.ck_le L
    rw [hG] at bG
    unfold Ck.ck at hG
    rw [hG] at law
    obtain ⟨R, hR⟩ : ∃ R, 65535 - Ck.add2 (Ck.add2 (65535 - ((65535 - F : Nat) : Int)) (65535 - (was : Int))) v = R := ⟨_, rfl⟩
    have ER := Lib.hid hR
    rw [hR] at law
    have E1 : Hid (Ck.ck [L].flatten = G) := Lib.hid (by simpa [Ck.ck] using hG)
    have E2 : Hid (Ck.ck (str L).data.toList = G) := Lib.hid (by rw [str_list]; exact hG)
    have cs := conv_str (P := Try.prog) (c := cap1) Try.underlying22 Try.underlying5 Try.underlying9 own2.rd0
    have hls : (str L).size ≤ 65536 := by rw [str_size, own2.rd0.len]; omega
    have HLS := Lib.hid hls
    clear hL eL eV e5 hG hR hls own1 hk3
    have LAW := Lib.hid law
    clear law
    refine (adjust_any _ _ _ (by omega) (by omega) (by omega) (by omega) hv0 hv1 _).mono ?_
    rintro e w5 ⟨rfl, rfl⟩
    rw [ER.out]
    go_wp2_with fail
    refine (radjust_any _ _ _ (by omega) (by omega) (by omega) (by omega) hv0 hv1 _).mono ?_
    rintro e w5 ⟨rfl, rfl⟩
    rw [ER.out]
    go_wp2_with fail
    refine (rfold_any _ _ HLS.out).mono ?_
    rintro e w5 ⟨rfl, rfl⟩
    rw [E2.out]
    rcases LAW.out with h | h
    · subst h
      go_wp2
      go_ret
      exact ⟨rfl, hk4⟩
    · rw [h]
      by_cases hz : G = 0
      · subst hz
        go_wp2
        go_ret
        exact ⟨rfl, hk4⟩
      · have tz : ((G : Int) == 0) = false := by simp; omega
        clear hz h
        go_wp2_with fail
        refine (sum_any _ _ _ _ [L] ?_).mono ?_
        · exact rdAll_mk (by simp) rfl (by decide) ⟨⟨_, _, _, rfl, own2.rd0, HN.out⟩, trivial⟩
        rintro e w5 ⟨rfl, rfl⟩
        rw [E1.out]
        go_wp2
        go_ret
        exact ⟨rfl, hk4.alloc _⟩
  · go_enter Try.func7, Try.ntmps7
    go_wp2_with (go_at_call 13; refine (lives_any _).mono ?_; rintro e w' ⟨rfl, hk⟩)
    all_goals first
      | (go_ret; exact ⟨rfl, Kp.trans (by assumption) hk⟩)
      | (exfalso; simp only [beq_eq_false_iff_ne, ne_eq] at *; omega)
end Go.Proofs.Ytibbpineaekfoaa
