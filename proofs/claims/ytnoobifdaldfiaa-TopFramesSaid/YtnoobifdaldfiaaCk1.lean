/-
  The contracts of cksum.add and cksum.Fold: a sum of two; the sum of parts as they stand one behind the other.
-/
import Derived.Test.YtnoobifdaldfiaaRows
import Derived.Test.YtnoobifdaldfiaaMath
import Derived.Test.YtnoobifdaldfiaaMem
import Derived.WalkKit
import Derived.WalkLawsBesides
import Derived.Lib.Hide
namespace Go.Proofs.Ytnoobifdaldfiaa
open Go.RowKit
set_option maxRecDepth 100000

theorem add_any (a b : Int) (ha : 0 ≤ a) (ha' : a ≤ 65535) (hb : 0 ≤ b) (hb' : b ≤ 65535) (w : World) :
    Calls Try.prog 59 #[.int .u16 a, .int .u16 b] w fun e w' => e = .returned (.int .u16 (Ck.add2 a b)) ∧ w = w' := by
  go_enter Try.func59, Try.ntmps59
  go_wp2
  go_ret
  refine ⟨ret_int ?_, rfl⟩
  simp only [IntKind.wrap, IntKind.bits, IntKind.signed, Ck.add2]
  simp
  split <;> omega


theorem flat_take_succ {ls : List (List UInt8)} {i : Nat} {l : List UInt8} (h : ls[i]? = some l) : (ls.take (i + 1)).flatten = (ls.take i).flatten ++ l := by
  rw [List.take_add_one, h]; simp

set_option maxHeartbeats 400000 in
theorem fold_any (w : World) (A : Option Addr) (n c : Nat) (ls : List (List UInt8)) (hall : RdAll w A n ls) :
    Calls Try.prog 50 #[.slice A n c] w fun e w' => e = .returned (.int .u16 (Ck.ck ls.flatten : Nat)) ∧ w = w' := by
  obtain ⟨h, hn, hls⟩ := hall
  unfold maxLen at hn hls
  go_enter Try.func50, Try.ntmps50
  go_wp2
  go_loop [3, 4, 11] (fun s hi i => ∃ k : Nat, k ≤ n ∧ i = .int .i64 k ∧ s = .int .u16 (Ck.ck (ls.take k).flatten : Nat) ∧ hi = .bool (Ck.high (ls.take k).flatten.length))
    (fun _ _ i => n - (intOf i).toNat)
  case atStart => exact ⟨0, Nat.zero_le _, rfl, rfl, rfl⟩
  case round =>
    obtain ⟨k, hk, rfl, rfl, rfl⟩ := hrel
    by_cases hlt : k < n
    · obtain ⟨g, off, rfl, _⟩ := h.at_ (by omega)
      obtain ⟨l, A', n', c', hl, hcell, hr⟩ := h.cell hlt
      have hl' := hls l (List.mem_of_getElem? hl)
      rw [hr.len] at hl'
      have HF := Lib.hid (flat_take_succ hl)
      have HL := Lib.hid hl
      clear hl
      have H := Lib.hid h
      clear h
      obtain ⟨p, hp⟩ : ∃ p, (ls.take k).flatten = p := ⟨_, rfl⟩
      have HP := Lib.hid hp
      rw [hp]
      clear hp
      go_wp2
      go_loop [3, 4, 17] (fun s hi i => ∃ j : Nat, j ≤ n' ∧ i = .int .i64 j ∧ s = .int .u16 (Ck.ck (p ++ l.take j) : Nat) ∧ hi = .bool (Ck.high (p ++ l.take j).length))
        (fun _ _ i => n' - (intOf i).toNat)
      case atStart => exact ⟨0, Nat.zero_le _, rfl, by simp, by simp⟩
      case round =>
        obtain ⟨j, hj, rfl, rfl, rfl⟩ := hrel
        by_cases hjn : j < n'
        · obtain ⟨g', off', rfl, _⟩ := hr.at_ (by omega)
          obtain ⟨c0, hc0, hcell0⟩ := hr.cell hjn
          have hsn : l.take (j + 1) = l.take j ++ [c0] := by rw [List.take_add_one, hc0]; rfl
          have HS := Lib.hid hsn
          have hb := c0.toNat_lt
          clear hsn hc0
          have HR := Lib.hid hr
          clear hr
          obtain ⟨q, hq⟩ : ∃ q, p ++ l.take j = q := ⟨_, rfl⟩
          have HQ := Lib.hid hq
          rw [hq]
          clear hq
          have hck := Ck.ck_le q
          obtain ⟨b, hb1⟩ : ∃ b, Ck.high q.length = b := ⟨_, rfl⟩
          have HB := Lib.hid hb1
          rw [hb1]
          clear hb1
          cases b
          all_goals
            go_wp2_with (first | (go_at_call 59; refine (add_any _ _ (by omega) (by omega) (by omega) (by omega) _).mono ?_; rintro e w' ⟨rfl, rfl⟩))
            go_round
            case measure => simp [intOf]; omega
          ·
            refine ⟨j + 1, by omega, by go_num, ?_, ?_⟩
            · rw [HS.out, ← List.append_assoc, HQ.out, ← Ck.ck_snoc_low q c0 HB.out]
            · rw [HS.out, ← List.append_assoc, HQ.out, List.length_append, List.length_singleton, Ck.high_snoc, HB.out]; rfl
          ·
            refine ⟨j + 1, by omega, by go_num, ?_, ?_⟩
            · rw [HS.out, ← List.append_assoc, HQ.out, ← Ck.ck_snoc_high q c0 HB.out, Int.natCast_mul, Int.mul_comm]; rfl
            · rw [HS.out, ← List.append_assoc, HQ.out, List.length_append, List.length_singleton, Ck.high_snoc, HB.out]; rfl
        · obtain rfl : j = n' := by omega
          go_wp2
          go_round
          case rel => 
            refine ⟨k + 1, by omega, by go_num, ?_, ?_⟩
            · rw [HF.out, HP.out, List.take_of_length_le (by rw [hr.len]; omega)]
            · rw [HF.out, HP.out, List.take_of_length_le (by rw [hr.len]; omega)]
          case measure => simp [intOf]; omega
    · obtain rfl : k = n := by omega
      go_wp2
      go_ret
      rw [List.take_of_length_le (by rw [h.len]; omega)]
      exact ⟨rfl, rfl⟩
end Go.Proofs.Ytnoobifdaldfiaa
