/-
  The contract of ip4.Build: the packet's bytes in own memory.
-/
import Derived.Test.YtnoobifdaldfiaaP9
import Derived.Test.YtnoobifdaldfiaaE5c
namespace Go.Proofs.Ytnoobifdaldfiaa.Fr
open Go.RowKit
set_option maxRecDepth 100000


def pfront (n id place : Nat) (ttl proto : UInt8) : List UInt8 := [69, 0] ++ wd2 n ++ wd2 id ++ wd2 place ++ [ttl, proto]
def psum (n id place : Nat) (ttl proto : UInt8) (src dst : List UInt8) : Nat := 65535 - Ck.ck (pfront n id place ttl proto ++ [0, 0] ++ (src ++ dst))
def pbytes (id place : Nat) (ttl proto : UInt8) (src dst data : List UInt8) : List UInt8 :=
  pfront (20 + data.length) id place ttl proto ++ wd2 (psum (20 + data.length) id place ttl proto src dst) ++ (src ++ dst) ++ data
def placeOf (pl : Nat) (more : Bool) : Nat := if more then pl + 8192 else pl

theorem wd2_word (S : Nat) (h : S ≤ 65535) : (#[.int .u8 ((S : Int) / 256), .int .u8 ((S : Int) % 256)] : Array Value) = (bvs (wd2 S)).toArray := by
  have e1 : (((UInt8.ofNat (S / 256)).toNat : Nat) : Int) = (S : Int) / 256 := by rw [UInt8.toNat_ofNat']; omega
  have e2 : (((UInt8.ofNat S).toNat : Nat) : Int) = (S : Int) % 256 := by rw [UInt8.toNat_ofNat']; omega
  simp only [wd2, bvs, List.map_cons, List.map_nil, e1, e2]

theorem or_8192 (pl : Nat) (h : pl < 8192) : bits BinOp.or IntKind.u16 (pl : Int) 8192 = ((pl + 8192 : Nat) : Int) := by
  show IntKind.u16.wrap ((BitVec.ofInt 16 (pl : Int) ||| BitVec.ofInt 16 8192).toNat : Int) = _
  rw [BitVec.ofInt_natCast, show (8192 : Int) = ((8192 : Nat) : Int) from rfl, BitVec.ofInt_natCast, BitVec.toNat_or, BitVec.toNat_ofNat, BitVec.toNat_ofNat, Nat.mod_eq_of_lt (by omega), Nat.mod_eq_of_lt (by omega)]
  have e2 : pl ||| 8192 = pl + 8192 := by
    have := Nat.shiftLeft_add_eq_or_of_lt (a := 1) (b := pl) (i := 13) (by omega)
    rw [Nat.shiftLeft_eq, Nat.or_comm, show (1 : Nat) * 2 ^ 13 = 8192 from rfl] at this
    omega
  rw [e2, wrap_u16 (by omega) (by omega)]

def pktBad (off : Int) (more : Bool) (n : Nat) : Prop := off < 0 ∨ 65528 < off ∨ off % 8 ≠ 0 ∨ (more = true ∧ n % 8 ≠ 0)

set_option maxRecDepth 100000 in
set_option maxHeartbeats 1000000 in
theorem i6build_bad (w : World) (id : Nat) (more : Bool) (off : Int) (ttl proto s0 s1 s2 s3 d0 d1 d2 d3 : UInt8) (A : Option Addr) (n c : Nat) (hbad : pktBad off more n) (ho : -9223372036854775808 ≤ off ∧ off ≤ 9223372036854775807) :
    Calls Try.prog 12 #[.agg #[.int .u16 (id : Int), .bool more, .int .i64 off, .int .u8 (ttl.toNat : Int), .int .u8 (proto.toNat : Int), .int .u8 (s0.toNat : Int), .int .u8 (s1.toNat : Int), .int .u8 (s2.toNat : Int), .int .u8 (s3.toNat : Int), .int .u8 (d0.toNat : Int), .int .u8 (d1.toNat : Int), .int .u8 (d2.toNat : Int), .int .u8 (d3.toNat : Int), .slice A n c]] w
      fun e w' => e = .returned (.tuple #[.slice none 0 0, .int .i64 1]) ∧ Kp w w' := by
  have cases4 : off < 0 ∨ (0 ≤ off ∧ off % 8 ≠ 0) ∨ (0 ≤ off ∧ off % 8 = 0 ∧ 65528 < off) ∨ (0 ≤ off ∧ off % 8 = 0 ∧ off ≤ 65528 ∧ more = true ∧ n % 8 ≠ 0) := by
    by_cases g1 : off < 0
    · exact .inl g1
    by_cases g2 : off % 8 = 0
    · by_cases g3 : 65528 < off
      · exact .inr (.inr (.inl ⟨by omega, g2, g3⟩))
      · rcases hbad with h | h | h | ⟨h, h'⟩
        · exact absurd h g1
        · exact absurd h g3
        · exact absurd g2 h
        · exact .inr (.inr (.inr ⟨by omega, g2, by omega, h, h'⟩))
    · exact .inr (.inl ⟨by omega, g2⟩)
  clear hbad
  rcases cases4 with h | ⟨h, h2⟩ | ⟨h, h2, h3⟩ | ⟨h, h2, h3, rfl, h4⟩
  · go_enter Try.func12, Try.ntmps12
    go_wp2
    go_ret2
    exact ⟨rfl, (Kp.refl _).alloc _⟩
  · have e : (off.tmod 8 != 0) = true := by rw [Int.tmod_eq_emod_of_nonneg h]; simpa using h2
    go_enter Try.func12, Try.ntmps12
    go_wp2
    go_ret2
    exact ⟨rfl, (Kp.refl _).alloc _⟩
  · have e : (off.tmod 8 != 0) = false := by rw [Int.tmod_eq_emod_of_nonneg h]; simpa using h2
    go_enter Try.func12, Try.ntmps12
    go_wp2
    go_ret2
    exact ⟨rfl, (Kp.refl _).alloc _⟩
  · have e : (off.tmod 8 != 0) = false := by rw [Int.tmod_eq_emod_of_nonneg h]; simpa using h2
    have e2 : ((n : Int) % 8 != 0) = true := by simp; omega
    go_enter Try.func12, Try.ntmps12
    go_wp2
    go_ret2
    exact ⟨rfl, (Kp.refl _).alloc _⟩

set_option maxRecDepth 100000 in
set_option maxHeartbeats 1000000 in
theorem i6build_long (w : World) (id : Nat) (more : Bool) (pl : Nat) (ttl proto s0 s1 s2 s3 d0 d1 d2 d3 : UInt8) (A : Option Addr) (n c : Nat) (hpl : pl < 8192) (hm : more = true → n % 8 = 0) (hn : 180 < n) :
    Calls Try.prog 12 #[.agg #[.int .u16 (id : Int), .bool more, .int .i64 (8 * (pl : Int)), .int .u8 (ttl.toNat : Int), .int .u8 (proto.toNat : Int), .int .u8 (s0.toNat : Int), .int .u8 (s1.toNat : Int), .int .u8 (s2.toNat : Int), .int .u8 (s3.toNat : Int), .int .u8 (d0.toNat : Int), .int .u8 (d1.toNat : Int), .int .u8 (d2.toNat : Int), .int .u8 (d3.toNat : Int), .slice A n c]] w
      fun e w' => e = .returned (.tuple #[.slice none 0 0, .int .i64 4]) ∧ Kp w w' := by
  have e : ((8 * (pl : Int)).tmod 8 != 0) = false := by rw [Int.tmod_eq_emod_of_nonneg (by omega)]; simp
  have e1 : ¬ 8 * (pl : Int) < 0 := by omega
  have e3 : ¬ 65528 < 8 * (pl : Int) := by omega
  cases more
  · go_enter Try.func12, Try.ntmps12
    go_wp2
    go_ret2
    exact ⟨rfl, (Kp.refl _).alloc _⟩
  · have e2 : ((n : Int) % 8 != 0) = false := by have := hm rfl; simp; omega
    go_enter Try.func12, Try.ntmps12
    go_wp2
    go_ret2
    exact ⟨rfl, (Kp.refl _).alloc _⟩
end Go.Proofs.Ytnoobifdaldfiaa.Fr
