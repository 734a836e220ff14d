/-
  The contract of dgram.Same: are two messages one?
-/
import Derived.Test.YtpjjanbcjkdciaaD8a
import Derived.Stop.BytesEq
namespace Go.Proofs.Ytpjjanbcjkdciaa
open Go.RowKit

theorem str_beq (l l' : List UInt8) : ((str l).toList == (str l').toList) = (l == l') := by
  rw [ByteArray.toList_eq, ByteArray.toList_eq, str_list, str_list]
def sameE (rp : Bool) (id sq : Nat) (l : List UInt8) (rp' : Bool) (id' sq' : Nat) (l' : List UInt8) : Bool := rp == rp' && (id == id' && (sq == sq' && l == l'))
def sameG (sp dp : Nat) (l : List UInt8) (sp' dp' : Nat) (l' : List UInt8) : Bool := sp == sp' && (dp == dp' && l == l')
theorem sameE_self (rp : Bool) (id sq : Nat) (l : List UInt8) : sameE rp id sq l rp id sq l = true := by simp [sameE]
theorem sameG_self (sp dp : Nat) (l : List UInt8) : sameG sp dp l sp dp l = true := by simp [sameG]

set_option maxRecDepth 100000 in
set_option maxHeartbeats 2000000 in
theorem s8_ee (w : World) (rp : Bool) (id sq : Nat) (A : Option Addr) (n c : Nat) (l : List UInt8) (rp' : Bool) (id' sq' : Nat) (B : Option Addr) (m k : Nat) (l' : List UInt8) (hA : Rd w 0 A n l) (hB : Rd w 0 B m l') :
    Calls Try.prog 14 #[(.iface 25 (.agg #[.bool rp, .int .u16 (id : Int), .int .u16 (sq : Int), .slice A n c])), (.iface 25 (.agg #[.bool rp', .int .u16 (id' : Int), .int .u16 (sq' : Int), .slice B m k]))] w fun e w' => e = .returned (.bool (sameE rp id sq l rp' id' sq' l')) ∧ Kp w w' := by
  have qn : ∀ x y : Nat, ((x : Int) == (y : Int)) = (x == y) := fun x y => by rw [Bool.eq_iff_iff]; simp; omega
  have q2 := qn id id'
  have q3 := qn sq sq'
  have q4 := str_beq l l'
  have kp : Kp w ((w.alloc (.cells #[.bool rp, .int .u16 (id : Int), .int .u16 (sq : Int), .slice A n c] 25)).alloc (.cells #[.bool rp', .int .u16 (id' : Int), .int .u16 (sq' : Int), .slice B m k] 25)) := ((Kp.refl _).alloc _).alloc _
  have z1 := conv_str (P := Try.prog) (c := c) Try.underlying23 Try.underlying5 Try.underlying9 (hA.keep kp)
  have z2 := conv_str (P := Try.prog) (c := k) Try.underlying23 Try.underlying5 Try.underlying9 (hB.keep kp)
  have ta := ta_ee
  unfold sameE
  obtain ⟨x1, q1⟩ : ∃ x1, (rp == rp') = x1 := ⟨_, rfl⟩
  rw [q1]
  generalize (id == id') = x2 at q2 ⊢
  generalize (sq == sq') = x3 at q3 ⊢
  generalize (l == l') = x4 at q4 ⊢
  clear hA hB qn
  cases x1
  case' true => cases x2
  case' true.true => cases x3
  all_goals
    go_enter Try.func14, Try.ntmps14
    go_wp2
    go_ret
    exact ⟨rfl, kp⟩
set_option maxRecDepth 100000 in
set_option maxHeartbeats 2000000 in
theorem s8_gg (w : World) (sp dp : Nat) (A : Option Addr) (n c : Nat) (l : List UInt8) (sp' dp' : Nat) (B : Option Addr) (m k : Nat) (l' : List UInt8) (hA : Rd w 0 A n l) (hB : Rd w 0 B m l') :
    Calls Try.prog 14 #[(.iface 43 (.agg #[.int .u16 (sp : Int), .int .u16 (dp : Int), .slice A n c])), (.iface 43 (.agg #[.int .u16 (sp' : Int), .int .u16 (dp' : Int), .slice B m k]))] w fun e w' => e = .returned (.bool (sameG sp dp l sp' dp' l')) ∧ Kp w w' := by
  have qn : ∀ x y : Nat, ((x : Int) == (y : Int)) = (x == y) := fun x y => by rw [Bool.eq_iff_iff]; simp; omega
  have q1 := qn sp sp'
  have q2 := qn dp dp'
  have q4 := str_beq l l'
  have kp : Kp w ((w.alloc (.cells #[.int .u16 (sp : Int), .int .u16 (dp : Int), .slice A n c] 43)).alloc (.cells #[.int .u16 (sp' : Int), .int .u16 (dp' : Int), .slice B m k] 43)) := ((Kp.refl _).alloc _).alloc _
  have z1 := conv_str (P := Try.prog) (c := c) Try.underlying23 Try.underlying5 Try.underlying9 (hA.keep kp)
  have z2 := conv_str (P := Try.prog) (c := k) Try.underlying23 Try.underlying5 Try.underlying9 (hB.keep kp)
  have ta := ta_ge
  have tb := ta_gg
  unfold sameG
  generalize (sp == sp') = x1 at q1 ⊢
  generalize (dp == dp') = x2 at q2 ⊢
  generalize (l == l') = x4 at q4 ⊢
  clear hA hB qn
  cases x1
  case' true => cases x2
  all_goals
    go_enter Try.func14, Try.ntmps14
    go_wp2
    go_ret
    exact ⟨rfl, kp⟩
set_option maxRecDepth 100000 in
/-- an Echo and a Datagram are never one -/
theorem s8_eg (w : World) (rp : Bool) (id sq : Nat) (A : Option Addr) (n c : Nat) (sp' dp' : Nat) (B : Option Addr) (m k : Nat) :
    Calls Try.prog 14 #[(.iface 25 (.agg #[.bool rp, .int .u16 (id : Int), .int .u16 (sq : Int), .slice A n c])), (.iface 43 (.agg #[.int .u16 (sp' : Int), .int .u16 (dp' : Int), .slice B m k]))] w fun e w' => e = .returned (.bool false) ∧ Kp w w' := by
  have ta := ta_ee
  have tb := ta_ge
  go_enter Try.func14, Try.ntmps14
  go_wp2
  go_ret
  exact ⟨rfl, ((Kp.refl _).alloc _).alloc _⟩
set_option maxRecDepth 100000 in
theorem s8_ge (w : World) (sp dp : Nat) (A : Option Addr) (n c : Nat) (rp' : Bool) (id' sq' : Nat) (B : Option Addr) (m k : Nat) :
    Calls Try.prog 14 #[(.iface 43 (.agg #[.int .u16 (sp : Int), .int .u16 (dp : Int), .slice A n c])), (.iface 25 (.agg #[.bool rp', .int .u16 (id' : Int), .int .u16 (sq' : Int), .slice B m k]))] w fun e w' => e = .returned (.bool false) ∧ Kp w w' := by
  have ta := ta_ge
  have tb := ta_gg
  have tc := ta_eg
  go_enter Try.func14, Try.ntmps14
  go_wp2
  go_ret
  exact ⟨rfl, ((Kp.refl _).alloc _).alloc _⟩
set_option maxRecDepth 100000 in
theorem s8_nn (w : World) : Calls Try.prog 14 #[.nilIface, .nilIface] w fun e w' => e = .returned (.bool true) ∧ Kp w w' := by
  go_enter Try.func14, Try.ntmps14
  go_wp2
  go_ret
  exact ⟨rfl, Kp.refl _⟩
set_option maxRecDepth 100000 in
theorem s8_ng (w : World) (v : Value) : Calls Try.prog 14 #[.nilIface, .iface 43 v] w fun e w' => e = .returned (.bool false) ∧ Kp w w' := by
  go_enter Try.func14, Try.ntmps14
  go_wp2
  go_ret
  exact ⟨rfl, Kp.refl _⟩
set_option maxRecDepth 100000 in
theorem s8_gn (w : World) (sp dp : Nat) (A : Option Addr) (n c : Nat) :
    Calls Try.prog 14 #[(.iface 43 (.agg #[.int .u16 (sp : Int), .int .u16 (dp : Int), .slice A n c])), .nilIface] w fun e w' => e = .returned (.bool false) ∧ Kp w w' := by
  have ta := ta_ge
  have tb := ta_gg
  have tc := ta_ng
  go_enter Try.func14, Try.ntmps14
  go_wp2
  go_ret
  exact ⟨rfl, ((Kp.refl _).alloc _).alloc _⟩
set_option maxRecDepth 100000 in
theorem s8_pp (w : World) (v v' : Value) :
    Calls Try.prog 14 #[.iface 53 v, .iface 53 v'] w fun e w' => e = .returned (.bool false) ∧ Kp w w' := by
  have ta := ta_pe
  have tb := ta_pg
  have tc := ta_ps
  go_enter Try.func14, Try.ntmps14
  go_wp2
  go_ret
  exact ⟨rfl, Kp.refl _⟩
end Go.Proofs.Ytpjjanbcjkdciaa
