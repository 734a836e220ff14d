/-
  The contract of segment.num: the number that bytes tell.
-/
import Derived.Test.YtnoobifdaldfiaaRows
import Derived.Test.YtnoobifdaldfiaaMath
import Derived.Test.YtnoobifdaldfiaaMem
import Derived.WalkKit
import Derived.WalkLawsBesides
import Derived.Lib.Hide
namespace Go.Proofs.Ytnoobifdaldfiaa
open Go.RowKit
set_option maxRecDepth 100000

/-- the number of bytes, the highest one first -/
def be (l : List UInt8) : Nat := l.foldl (fun a c => 256 * a + c.toNat) 0
theorem be_snoc (p : List UInt8) (c : UInt8) : be (p ++ [c]) = 256 * be p + c.toNat := by simp [be, List.foldl_append]
theorem be_lt (l : List UInt8) : be l < 256 ^ l.length := by
  obtain ⟨r, hr⟩ : ∃ r, l.reverse = r := ⟨_, rfl⟩
  obtain rfl : l = r.reverse := by rw [← hr]; simp
  clear hr
  induction r with
  | nil => simp [be]
  | cons c r ih =>
    rw [List.reverse_cons, be_snoc, List.length_append, List.length_singleton, Nat.pow_succ]
    have := c.toNat_lt
    omega

theorem or_u32 (x : Nat) (c : UInt8) (h : x < 16777216) : bits BinOp.or IntKind.u32 ((x : Int) * 256) (c.toNat : Int) = ((256 * x + c.toNat : Nat) : Int) := by
  have hc := c.toNat_lt
  show IntKind.u32.wrap ((BitVec.ofInt 32 ((x : Int) * 256) ||| BitVec.ofInt 32 (c.toNat : Int)).toNat : Int) = _
  rw [show (x : Int) * 256 = ((256 * x : Nat) : Int) by omega, BitVec.ofInt_natCast, BitVec.ofInt_natCast, BitVec.toNat_or, BitVec.toNat_ofNat, BitVec.toNat_ofNat, Nat.mod_eq_of_lt (by omega), Nat.mod_eq_of_lt (by omega)]
  have e2 : (256 * x) ||| c.toNat = 256 * x + c.toNat := by
    have := Nat.shiftLeft_add_eq_or_of_lt (a := x) (b := c.toNat) (i := 8) (by omega)
    rw [Nat.shiftLeft_eq, show (2 : Nat) ^ 8 = 256 from rfl, Nat.mul_comm] at this
    exact this.symm
  rw [e2]
  simp only [IntKind.wrap, IntKind.bits, IntKind.signed]
  simp
  omega

theorem wrap_u32 {a : Int} (h0 : 0 ≤ a) (h1 : a < 4294967296) : IntKind.u32.wrap a = a := by
  simp only [IntKind.wrap, IntKind.bits, IntKind.signed]
  simp
  omega

set_option maxHeartbeats 400000 in
theorem num9_any (w : World) (lo : Nat) (A : Option Addr) (n c : Nat) (l : List UInt8) (h : Rd w lo A n l) (hn : n ≤ 4) :
    Calls Try.prog 41 #[.slice A n c] w fun e w' => e = .returned (.int .u32 (be l : Nat)) ∧ w = w' := by
  go_enter Try.func41, Try.ntmps41
  go_wp2
  go_loop [3, 8] (fun s i => ∃ k : Nat, k ≤ n ∧ i = .int .i64 k ∧ s = .int .u32 (be (l.take k) : Nat))
    (fun _ i => n - (intOf i).toNat)
  case atStart => exact ⟨0, Nat.zero_le _, rfl, rfl⟩
  case round =>
    obtain ⟨k, hk, rfl, rfl⟩ := hrel
    by_cases hlt : k < n
    · obtain ⟨g, off, rfl, _⟩ := h.at_ (by omega)
      obtain ⟨c0, hc0, hcell0⟩ := h.cell hlt
      have hsn : l.take (k + 1) = l.take k ++ [c0] := by rw [List.take_add_one, hc0]; rfl
      have HS := Lib.hid hsn
      have hb := c0.toNat_lt
      have hlen : (l.take k).length ≤ 3 := by rw [List.length_take]; omega
      have hbe : be (l.take k) < 16777216 := by
        have h1 := be_lt (l.take k)
        have h2 : 256 ^ (l.take k).length ≤ 256 ^ 3 := Nat.pow_le_pow_right (by decide) hlen
        omega
      clear hsn hc0 hlen
      have H := Lib.hid h
      clear h
      obtain ⟨x, hx⟩ : ∃ x, be (l.take k) = x := ⟨_, rfl⟩
      have HX := Lib.hid hx
      rw [hx] at hbe ⊢
      clear hx
      have o1 := or_u32 x c0 hbe
      have w1 : IntKind.u32.wrap ((x : Int) * 256) = (x : Int) * 256 := wrap_u32 (by omega) (by omega)
      have w2 : IntKind.u32.wrap (c0.toNat : Int) = (c0.toNat : Int) := wrap_u32 (by omega) (by omega)
      go_wp2
      go_round
      case rel => exact ⟨k + 1, by omega, by go_num, by rw [HS.out, be_snoc, HX.out]; simp⟩
      case measure => simp [intOf]; omega
    · obtain rfl : k = n := by omega
      go_wp2
      go_ret
      rw [List.take_of_length_le (by rw [h.len]; omega)]
      exact ⟨rfl, rfl⟩
end Go.Proofs.Ytnoobifdaldfiaa
