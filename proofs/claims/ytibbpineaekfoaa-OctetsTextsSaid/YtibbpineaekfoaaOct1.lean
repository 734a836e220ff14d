/-
  The contracts of octets.Get and of the document's Get: the number of bytes.
-/
import Derived.Test.YtibbpineaekfoaaRows
import Derived.Test.YtibbpineaekfoaaMem
import Derived.Test.YtibbpineaekfoaaCut
import Derived.Test.YtibbpineaekfoaaOctL
import Derived.WalkKit
import Derived.WalkLawsBesides
import Derived.Lib.Hide
namespace Go.Proofs.Ytibbpineaekfoaa
open Go.RowKit

theorem wrap_u64 {a : Int} (h0 : 0 ≤ a) (h1 : a < 18446744073709551616) : IntKind.u64.wrap a = a := by
  simp only [IntKind.wrap, IntKind.bits, IntKind.signed]; simp; omega
theorem or_u64 (n : Nat) (c : UInt8) (h : n < 72057594037927936) : bits BinOp.or IntKind.u64 ((n : Int) * 256) (c.toNat : Int) = ((n * 256 + c.toNat : Nat) : Int) := by
  have hc := c.toNat_lt
  show IntKind.u64.wrap ((BitVec.ofInt 64 ((n : Int) * 256) ||| BitVec.ofInt 64 (c.toNat : Int)).toNat : Int) = _
  have e1 : ((n : Int) * 256) = ((n * 256 : Nat) : Int) := by omega
  rw [e1, BitVec.ofInt_natCast, BitVec.ofInt_natCast, BitVec.toNat_or, BitVec.toNat_ofNat, BitVec.toNat_ofNat, Nat.mod_eq_of_lt (by omega), Nat.mod_eq_of_lt (by omega)]
  have e2 : n * 256 ||| c.toNat = n * 256 + c.toNat := by
    have := Nat.shiftLeft_add_eq_or_of_lt (a := n) (b := c.toNat) (i := 8) (by omega)
    rw [Nat.shiftLeft_eq] at this
    exact this.symm
  rw [e2, wrap_u64 (by omega) (by omega)]

def getL (l : List UInt8) : Nat × Int := if 8 < l.length then (0, 4) else (Oc.num l, 0)

theorem num_take {l : List UInt8} {k : Nat} (hl : l.length ≤ 8) : Oc.num (l.take k) < 18446744073709551616 ∧ (k < l.length → Oc.num (l.take k) < 72057594037927936) := by
  have h := Oc.num_lt (l.take k)
  have hp : ∀ a b : Nat, a ≤ b → 256 ^ a ≤ 256 ^ b := fun a b h => Nat.pow_le_pow_right (by omega) h
  refine ⟨Nat.lt_of_lt_of_le h (hp _ 8 (by rw [List.length_take]; omega)), fun hk => Nat.lt_of_lt_of_le h (hp _ 7 (by rw [List.length_take]; omega))⟩

set_option maxHeartbeats 400000 in
theorem get_any (w : World) (A : Option Addr) (n c : Nat) (l : List UInt8) (hA : Rd w 0 A n l) (hn : n ≤ 140737488351232) :
    Calls Try.prog 27 #[.slice A n c] w fun e w' => e = .returned (.tuple #[.int .u64 ((getL l).1 : Nat), .int .i64 (getL l).2]) ∧ w = w' := by
  by_cases h : 8 < n
  · have e : getL l = (0, 4) := by unfold getL; rw [if_pos (by rw [hA.len]; exact h)]
    rw [e]
    go_enter Try.func27, Try.ntmps27
    go_wp2
    go_ret2
    exact ⟨rfl, rfl⟩
  · have e : getL l = (Oc.num l, 0) := by unfold getL; rw [if_neg (by rw [hA.len]; exact h)]
    rw [e]
    have hl : l.length ≤ 8 := by rw [hA.len]; omega
    have HL := Lib.hid hl
    have HN := Lib.hid hA.len
    clear e hl
    go_enter Try.func27, Try.ntmps27
    go_wp2
    go_loop [4, 12] (fun s i => ∃ k : Nat, k ≤ n ∧ i = .int .i64 k ∧ s = .int .u64 (Oc.num (l.take k) : Nat)) (fun _ i => n - (intOf i).toNat)
    case atStart => exact ⟨0, Nat.zero_le _, rfl, rfl⟩
    case round =>
      obtain ⟨k, hk, rfl, rfl⟩ := hrel
      by_cases hlt : k < n
      · obtain ⟨g, off, rfl, _⟩ := hA.at_ (by omega)
        obtain ⟨c0, hc0, hcell⟩ := hA.cell hlt
        have hb := c0.toNat_lt
        have hsn : l.take (k + 1) = l.take k ++ [c0] := by rw [List.take_add_one, hc0]; rfl
        have HS := Lib.hid hsn
        have hx := (num_take (k := k) HL.out).2 (by rw [HN.out]; exact hlt)
        have hor := or_u64 _ c0 hx
        have HA := Lib.hid hA
        clear hA hsn hc0
        obtain ⟨q, hq⟩ : ∃ q, Oc.num (l.take k) = q := ⟨_, rfl⟩
        have HQ := Lib.hid hq
        rw [hq] at hx hor ⊢
        clear hq
        have u1 : IntKind.u64.wrap ((q : Int) * 256) = (q : Int) * 256 := wrap_u64 (by omega) (by omega)
        go_wp2
        go_round
        case rel => exact ⟨k + 1, by omega, by go_num, by rw [HS.out, Oc.num_snoc, HQ.out]; go_num⟩
        case measure => simp [intOf]; omega
      · obtain rfl : k = n := by omega
        go_wp2
        go_ret2
        rw [List.take_of_length_le (by rw [hA.len]; omega)]
        exact ⟨rfl, rfl⟩

set_option maxHeartbeats 400000 in
theorem rget_any (w : World) (l : List UInt8) (hl : l.length ≤ 1048576) :
    Calls Try.prog 28 #[.string (str l)] w fun e w' => e = .returned (.tuple #[.int .u64 ((getL l).1 : Nat), .int .i64 (getL l).2]) ∧ w = w' := by
  have hsz := str_size l
  by_cases h : 8 < l.length
  · have e : getL l = (0, 4) := by unfold getL; rw [if_pos h]
    rw [e]
    go_enter Try.func28, Try.ntmps28
    go_wp2
    go_ret2
    exact ⟨rfl, rfl⟩
  · have e : getL l = (Oc.num l, 0) := by unfold getL; rw [if_neg h]
    rw [e]
    clear e
    go_enter Try.func28, Try.ntmps28
    go_wp2
    go_loop [4, 5] (fun s i => ∃ k : Nat, k ≤ l.length ∧ i = .int .i64 k ∧ s = .int .u64 (Oc.num (l.take k) : Nat)) (fun _ i => l.length - (intOf i).toNat)
    case atStart => exact ⟨0, Nat.zero_le _, rfl, rfl⟩
    case round =>
      obtain ⟨k, hk, rfl, rfl⟩ := hrel
      by_cases hlt : k < l.length
      · obtain ⟨c0, hc0⟩ : ∃ c0, l[k]? = some c0 := ⟨_, List.getElem?_eq_getElem hlt⟩
        have hb := c0.toNat_lt
        have hsn : l.take (k + 1) = l.take k ++ [c0] := by rw [List.take_add_one, hc0]; rfl
        have HS := Lib.hid hsn
        have hg : ∀ h, (str l)[k]'h = c0 := fun h => by rw [str_get]; rw [List.getElem?_eq_getElem hlt] at hc0; injection hc0
        have hx := (num_take (k := k) (l := l) (by omega)).2 hlt
        clear hsn hc0
        obtain ⟨q, hq⟩ : ∃ q, Oc.num (l.take k) = q := ⟨_, rfl⟩
        have HQ := Lib.hid hq
        rw [hq] at hx ⊢
        clear hq
        have u1 : IntKind.u64.wrap ((q : Int) * 256) = (q : Int) * 256 := wrap_u64 (by omega) (by omega)
        have u2 : IntKind.u64.wrap ((q : Int) * 256 + c0.toNat) = (q : Int) * 256 + c0.toNat := wrap_u64 (by omega) (by omega)
        go_wp2
        go_round
        case rel => exact ⟨k + 1, by omega, by go_num, by rw [HS.out, Oc.num_snoc, HQ.out]; go_num⟩
        case measure => simp [intOf]; omega
      · obtain rfl : k = l.length := by omega
        go_wp2
        go_ret2
        exact ⟨rfl, rfl⟩
end Go.Proofs.Ytibbpineaekfoaa
