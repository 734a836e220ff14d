/-
  The contracts of segment.Len and of the document's Same for segments.
-/
import Derived.Test.YtnoobifdaldfiaaP9b
import Derived.Test.YtnoobifdaldfiaaFl9
import Derived.Stop.BytesEq
namespace Go.Proofs.Ytnoobifdaldfiaa
open Go.RowKit
set_option maxRecDepth 100000

set_option maxRecDepth 100000 in
set_option maxHeartbeats 1000000 in
theorem len9_any (w : World) (sp dp sq ak : Nat) (fl : UInt8) (wn ms : Nat) (A : Option Addr) (n c : Nat) (hn : n ≤ 1048576) :
    Calls Try.prog 21 #[.agg #[.int .u16 (sp : Int), .int .u16 (dp : Int), .int .u32 (sq : Int), .int .u32 (ak : Int), .int .u8 (fl.toNat : Int), .int .u16 (wn : Int), .int .u16 (ms : Int), .slice A n c]] w fun e w' => e = .returned (.int .i64 ((n + fl.toNat / 2 % 2 + fl.toNat % 2 : Nat) : Int)) ∧ Kp w w' := by
  have hf : fl.toNat < 256 := fl.toNat_lt
  have a2 := and_2 fl
  have a1 := and_1 fl.toNat hf
  rcases (by omega : fl.toNat / 2 % 2 = 0 ∨ fl.toNat / 2 % 2 = 1) with h2 | h2
  all_goals rcases (by omega : fl.toNat % 2 = 0 ∨ fl.toNat % 2 = 1) with h1 | h1
  all_goals
    rw [h2] at a2
    rw [h1] at a1
    rw [h2, h1]
    clear h2 h1
    go_enter Try.func21, Try.ntmps21
    go_wp2
    go_ret
    exact ⟨ret_int (by omega), (Kp.refl _).alloc _⟩

def sameS (a b : Sg) : Bool := a.sp == b.sp && (a.dp == b.dp && (a.sq == b.sq && (a.ak == b.ak && (a.fl == b.fl && (a.wn == b.wn && (a.ms == b.ms && a.data == b.data))))))
theorem sameS_self (a : Sg) : sameS a a = true := by simp [sameS]

theorem sizeU' : ∀ w : World, (sizeOf 5).run Try.prog w = .ok 1 w := by
  intro w
  have h : Try.prog.info? 5 = some Try.t5 := by kernel_rfl
  simp [sizeOf, typeInfo, h]
  rfl
theorem str_beq (l l' : List UInt8) : ((str l).toList == (str l').toList) = (l == l') := by
  rw [str_toList, str_toList]

set_option maxRecDepth 100000 in
set_option maxHeartbeats 4000000 in
theorem same9_any (w : World) (a b : Sg) (A : Option Addr) (n c : Nat) (B : Option Addr) (n' c' : Nat) (hA : Rd w 0 A n a.data) (hB : Rd w 0 B n' b.data) :
    Calls Try.prog 18 #[.agg #[.int .u16 (a.sp : Int), .int .u16 (a.dp : Int), .int .u32 (a.sq : Int), .int .u32 (a.ak : Int), .int .u8 (a.fl.toNat : Int), .int .u16 (a.wn : Int), .int .u16 (a.ms : Int), .slice A n c], .agg #[.int .u16 (b.sp : Int), .int .u16 (b.dp : Int), .int .u32 (b.sq : Int), .int .u32 (b.ak : Int), .int .u8 (b.fl.toNat : Int), .int .u16 (b.wn : Int), .int .u16 (b.ms : Int), .slice B n' c']] w
      fun e w' => e = .returned (.bool (sameS a b)) ∧ Kp w w' := by
  obtain ⟨sp, dp, sq, ak, fl, wn, ms, l⟩ := a
  obtain ⟨sp', dp', sq', ak', fl', wn', ms', l'⟩ := b
  have qn : ∀ x y : Nat, ((x : Int) == (y : Int)) = (x == y) := fun x y => by rw [Bool.eq_iff_iff]; simp; omega
  have q1 := qn sp sp'
  have q2 := qn dp dp'
  have q3 := qn sq sq'
  have q4 := qn ak ak'
  have q5 : ((fl.toNat : Int) == (fl'.toNat : Int)) = (fl == fl') := by rw [Bool.eq_iff_iff]; simp [← UInt8.toNat_inj]; omega
  have q6 := qn wn wn'
  have q7 := qn ms ms'
  have q8 := str_beq l l'
  have kp : Kp w ((w.alloc (.cells #[.int .u16 (sp : Int), .int .u16 (dp : Int), .int .u32 (sq : Int), .int .u32 (ak : Int), .int .u8 (fl.toNat : Int), .int .u16 (wn : Int), .int .u16 (ms : Int), .slice A n c] 26)).alloc (.cells #[.int .u16 (sp' : Int), .int .u16 (dp' : Int), .int .u32 (sq' : Int), .int .u32 (ak' : Int), .int .u8 (fl'.toNat : Int), .int .u16 (wn' : Int), .int .u16 (ms' : Int), .slice B n' c'] 26)) := ((Kp.refl _).alloc _).alloc _
  have z1 := conv_str (P := Try.prog) (c := c) Try.underlying24 Try.underlying5 Try.underlying9 (hA.keep kp)
  have z2 := conv_str (P := Try.prog) (c := c') Try.underlying24 Try.underlying5 Try.underlying9 (hB.keep kp)
  unfold sameS
  simp only at hA hB z1 z2 ⊢
  generalize (sp == sp') = x1 at q1 ⊢
  generalize (dp == dp') = x2 at q2 ⊢
  generalize (sq == sq') = x3 at q3 ⊢
  generalize (ak == ak') = x4 at q4 ⊢
  generalize (fl == fl') = x5 at q5 ⊢
  generalize (wn == wn') = x6 at q6 ⊢
  generalize (ms == ms') = x7 at q7 ⊢
  generalize (l == l') = x8 at q8 ⊢
  clear hA hB qn
  cases x1
  case' true => cases x2
  case' true.true => cases x3
  case' true.true.true => cases x4
  case' true.true.true.true => cases x5
  case' true.true.true.true.true => cases x6
  case' true.true.true.true.true.true => cases x7
  all_goals
    go_enter Try.func18, Try.ntmps18
    go_wp2
    go_ret
    exact ⟨rfl, kp⟩
end Go.Proofs.Ytnoobifdaldfiaa
