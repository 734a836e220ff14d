/-
  The contracts of octets.Hex and of the document's Hex: bytes as they are written.
-/
import Derived.Test.YtibbpineaekfoaaOct2
import Derived.Deep.RegionLaw
namespace Go.Proofs.Ytibbpineaekfoaa
open Go.RowKit

def digs : ByteArray := ⟨#[48, 49, 50, 51, 52, 53, 54, 55, 56, 57, 97, 98, 99, 100, 101, 102]⟩
theorem digs_get (n : Nat) (h : n < 16) : ∀ h' : n < digs.size, digs[n]'h' = Oc.hd n := by
  intro h'
  match n, h with
  | 0, _ | 1, _ | 2, _ | 3, _ | 4, _ | 5, _ | 6, _ | 7, _ | 8, _ | 9, _ | 10, _ | 11, _ | 12, _ | 13, _ | 14, _ | 15, _ => rfl
  | n + 16, h => exact absurd h (by omega)
theorem digs_cut (n : Nat) (h : n < 16) : digs.extract n (n + 1) = str [Oc.hd n] := by
  match n, h with
  | 0, _ | 1, _ | 2, _ | 3, _ | 4, _ | 5, _ | 6, _ | 7, _ | 8, _ | 9, _ | 10, _ | 11, _ | 12, _ | 13, _ | 14, _ | 15, _ => decide
  | n + 16, h => exact absurd h (by omega)

/-- make([]byte, 0, k) -/
theorem make8r (w : World) (k : Nat) (hk : k ≤ 1048576) :
    ∃ w', (Instr.makeSlice 22 (.int .i64 0) (.int .i64 (k : Int))).run Try.prog w = .ok (.slice (some ⟨w.heap.size, 0, none⟩) 0 k) w' ∧
      OwnV 5 w' w.heap.size w.heap.size 0 k (bvs []) ∧ Kp w w' := by
  obtain ⟨i0, hi0, hz0, hz1, hz2⟩ := info_parts info5
  obtain ⟨w', h1, h2, h3⟩ := run_make_own (P := Try.prog) w w.heap.size 22 5 i0 _ 1 Try.underlying22 hi0 hz0 hz1 .i64 .i64 k (by rw [hz2]; omega) (by unfold maxLen; omega) (Nat.le_refl _)
  exact ⟨w', h1, h2, (Kp.refl w).grownR h3 (fun k h => by cases h)⟩

set_option maxHeartbeats 1000000 in
theorem hex_any (w : World) (A : Option Addr) (n c : Nat) (l : List UInt8) (hA : Rd w 0 A n l) (hn : n ≤ 65536) :
    Calls Try.prog 29 #[.slice A n c] w fun e w' => e = .returned (.string (str (Oc.hex l))) ∧ Kp w w' := by
  obtain ⟨w1, mk, own1, hk1⟩ := make8r w (2 * n) (by omega)
  rw [show ((2 * n : Nat) : Int) = 2 * (n : Int) by omega] at mk
  have HL := Lib.hid hA.len
  have HA := Lib.hid hA
  clear hA
  go_enter Try.func29, Try.ntmps29
  go_wp2
  go_loopw [3, 12] (fun o i wr => ∃ (k g cap : Nat), k ≤ n ∧ i = .int .i64 k ∧ o = .slice (some ⟨g, 0, none⟩) (2 * k) cap ∧ OwnV 5 wr w.heap.size g (2 * k) cap (bvs (Oc.hex (l.take k))) ∧ Kp w wr)
    (fun _ i _ => n - (intOf i).toNat)
  case atStart => exact ⟨0, _, _, Nat.zero_le _, rfl, rfl, own1, hk1⟩
  case round =>
    obtain ⟨k, g, cap, hk, rfl, rfl, hown, hkp⟩ := hrel
    by_cases hlt : k < n
    · obtain ⟨g0, off, rfl, _⟩ := HA.out.at_ (by omega)
      obtain ⟨c0, hc0, hcell⟩ := (HA.out.keep hkp).cell hlt
      have hb := c0.toNat_lt
      have HS : Hid (Oc.hex (l.take (k + 1)) = Oc.hex (l.take k) ++ [Oc.hd (c0.toNat / 16), Oc.hd (c0.toNat % 16)]) := Lib.hid (by
        rw [show l.take (k + 1) = l.take k ++ [c0] by rw [List.take_add_one, hc0]; rfl, Oc.hex_snoc])
      have d1 := digs_get (c0.toNat / 16) (by omega)
      have d2 := digs_get (c0.toNat % 16) (by omega)
      unfold digs at d1 d2
      have u1 : IntKind.u8.wrap ((c0.toNat : Int) / 16) = ((c0.toNat / 16 : Nat) : Int) := (wrap_u8 (by omega) (by omega)).trans (by omega)
      have u2 : (c0.toNat : Int).tmod 16 = ((c0.toNat % 16 : Nat) : Int) := (Int.tmod_eq_emod_of_nonneg (by omega)).trans (by omega)
      obtain ⟨n1, hn1⟩ : ∃ n1, c0.toNat / 16 = n1 := ⟨_, rfl⟩
      obtain ⟨n2, hn2⟩ : ∃ n2, c0.toNat % 16 = n2 := ⟨_, rfl⟩
      have hb1 : n1 < 16 := by omega
      have hb2 : n2 < 16 := by omega
      rw [hn1] at d1 HS u1
      rw [hn2] at d2 HS u2
      have hb3 : (n1 : Int) < 16 := by omega
      have hb4 : (n2 : Int) < 16 := by omega
      clear hc0 mk hn1 hn2
      have own' := (hown.keep ((Kp.refl wr).alloc (.cells #[.int .u8 ((Oc.hd n1).toNat : Int), .int .u8 ((Oc.hd n2).toNat : Int)] 5))).drew
      have rd' : Rd (wr.alloc (.cells #[.int .u8 ((Oc.hd n1).toNat : Int), .int .u8 ((Oc.hd n2).toNat : Int)] 5)).drew 0 (some ⟨wr.heap.size, 0, none⟩) 2 [Oc.hd n1, Oc.hd n2] := rd_lit (w := wr) (lo := 0) (T := 5) (m := (0, 0)) (g := wr.heap.size) (l := [Oc.hd n1, Oc.hd n2]) rfl (Nat.zero_le _) rfl rfl
      have hk' := (hkp.alloc (.cells #[.int .u8 ((Oc.hd n1).toNat : Int), .int .u8 ((Oc.hd n2).toNat : Int)] 5)).drew
      go_wp2
      go_region_law (first | (refine stp8 rfl (.tmp 16) (.tmp 23) rfl rfl rfl own' rd' (2 * (k + 1)) _ (by omega) HS.out.symm (by omega) hk'.size ?_; intro g2 cap2 w2 own2 gr2 at2; have hk2 := hk'.grown gr2 hown.lo_le))
      all_goals
        go_wp2
        go_roundw
        case rel => exact ⟨k + 1, g2, cap2, by omega, by go_num, rfl, own2, hk2⟩
        case measure => simp [intOf]; omega
    · obtain rfl : k = n := by omega
      have hr := hown.rd0
      rw [List.take_of_length_le (by rw [HL.out]; omega)] at hr
      have cv := conv_str (P := Try.prog) (c := cap) Try.underlying22 Try.underlying5 Try.underlying9 hr
      clear mk
      go_wp2
      go_ret
      exact ⟨rfl, hkp⟩

set_option maxHeartbeats 1000000 in
theorem rhex_any (w : World) (l : List UInt8) (hn : l.length ≤ 65536) :
    Calls Try.prog 32 #[.string (str l)] w fun e w' => e = .returned (.string (str (Oc.hex l))) ∧ Kp w w' := by
  have hsz := str_size
  have hap := str_append
  have hlen := Oc.hex_len
  go_enter Try.func32, Try.ntmps32
  go_wp2
  go_loopw [3, 4] (fun o i wr => ∃ k : Nat, k ≤ l.length ∧ i = .int .i64 k ∧ o = .string (str (Oc.hex (l.take k))) ∧ Kp w wr)
    (fun _ i _ => l.length - (intOf i).toNat)
  case atStart => exact ⟨0, Nat.zero_le _, rfl, rfl, Kp.refl _⟩
  case round =>
    obtain ⟨k, hk, rfl, rfl, hkp⟩ := hrel
    by_cases hlt : k < l.length
    · obtain ⟨c0, hc0⟩ : ∃ c0, l[k]? = some c0 := ⟨_, List.getElem?_eq_getElem hlt⟩
      have hb := c0.toNat_lt
      have HS : Hid (Oc.hex (l.take (k + 1)) = Oc.hex (l.take k) ++ [Oc.hd (c0.toNat / 16), Oc.hd (c0.toNat % 16)]) := Lib.hid (by
        rw [show l.take (k + 1) = l.take k ++ [c0] by rw [List.take_add_one, hc0]; rfl, Oc.hex_snoc])
      have hg : ∀ h, (str l)[k]'h = c0 := fun h => by rw [str_get]; rw [List.getElem?_eq_getElem hlt] at hc0; injection hc0
      have hll : (Oc.hex (l.take k)).length = 2 * k := by rw [hlen, List.length_take]; omega
      have d1 := digs_cut (c0.toNat / 16) (by omega)
      have d2 := digs_cut (c0.toNat % 16) (by omega)
      unfold digs at d1 d2
      have u1 : IntKind.u8.wrap ((c0.toNat : Int) / 16) = ((c0.toNat / 16 : Nat) : Int) := (wrap_u8 (by omega) (by omega)).trans (by omega)
      have u2 : (c0.toNat : Int).tmod 16 = ((c0.toNat % 16 : Nat) : Int) := (Int.tmod_eq_emod_of_nonneg (by omega)).trans (by omega)
      obtain ⟨n1, hn1⟩ : ∃ n1, c0.toNat / 16 = n1 := ⟨_, rfl⟩
      obtain ⟨n2, hn2⟩ : ∃ n2, c0.toNat % 16 = n2 := ⟨_, rfl⟩
      have hb1 : n1 < 16 := by omega
      have hb2 : n2 < 16 := by omega
      rw [hn1] at d1 HS u1
      rw [hn2] at d2 HS u2
      have hb3 : (n1 : Int) < 16 := by omega
      have hb4 : (n2 : Int) < 16 := by omega
      have u3 : IntKind.u8.wrap ((n1 : Int) + 1) = (n1 : Int) + 1 := wrap_u8 (by omega) (by omega)
      have u4 : IntKind.u8.wrap ((n2 : Int) + 1) = (n2 : Int) + 1 := wrap_u8 (by omega) (by omega)
      clear hc0 hn1 hn2 hlen
      obtain ⟨q, hq⟩ : ∃ q, Oc.hex (l.take k) = q := ⟨_, rfl⟩
      rw [hq] at hll HS ⊢
      clear hq
      go_wp2
      go_quiet (fail)
      go_wp2
      go_roundw
      case rel => exact ⟨k + 1, by omega, by go_num, by rw [HS.out], hkp.of_drawn _⟩
      case measure => simp [intOf]; omega
    · obtain rfl : k = l.length := by omega
      rw [List.take_length]
      go_wp2
      go_ret
      exact ⟨rfl, hkp⟩
end Go.Proofs.Ytibbpineaekfoaa
