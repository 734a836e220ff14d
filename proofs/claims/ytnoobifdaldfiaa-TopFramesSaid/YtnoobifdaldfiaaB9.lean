/-
  The contract of segment.Build: the segment's bytes in own memory.
-/
import Derived.Test.YtnoobifdaldfiaaP9
import Derived.Test.YtnoobifdaldfiaaN9
namespace Go.Proofs.Ytnoobifdaldfiaa
open Go.RowKit
set_option maxRecDepth 100000

theorem OwnV.lower {e : TypeId} {w : World} {lo lo' g n cap : Nat} {xs : List Value} (h : OwnV e w lo g n cap xs) (hl : lo' ≤ lo) : OwnV e w lo' g n cap xs := by
  obtain ⟨h1, _, h3, h4, cur, h5, h6, h7⟩ := h.out
  exact OwnV.mk' (Nat.le_trans hl h1) h5 h3 h4 h6 h7
def wd4 (n : Nat) : List UInt8 := [UInt8.ofNat (n / 16777216), UInt8.ofNat (n / 65536), UInt8.ofNat (n / 256), UInt8.ofNat n]
def hdr9 (sp dp sq ak : Nat) (wd fl : UInt8) (wn : Nat) : List UInt8 := wd2 sp ++ wd2 dp ++ wd4 sq ++ wd4 ak ++ [wd, fl] ++ wd2 wn
def opt9 (ms : Nat) : List UInt8 := if ms = 0 then [] else [2, 4] ++ wd2 ms
def words9 (ms : Nat) : UInt8 := if ms = 0 then 80 else 96
def sum9 (src dst F O D : List UInt8) : Nat := 65535 - Ck.ck (pseudo src dst 6 (20 + O.length + D.length) ++ (F ++ [0, 0, 0, 0] ++ O ++ D))
def bytes9 (src dst F O D : List UInt8) : List UInt8 := F ++ (wd2 (sum9 src dst F O D) ++ [0, 0] ++ O ++ D)
def sbytes9 (src dst : List UInt8) (sp dp sq ak : Nat) (fl : UInt8) (wn ms : Nat) (D : List UInt8) : List UInt8 := bytes9 src dst (hdr9 sp dp sq ak (words9 ms) fl wn) (opt9 ms) D

theorem and_2 (x : UInt8) : bits BinOp.and IntKind.u8 (x.toNat : Int) 2 = ((2 * (x.toNat / 2 % 2) : Nat) : Int) := by
  have h : ∀ n : Fin 256, bits BinOp.and IntKind.u8 ((n.val : Nat) : Int) 2 = ((2 * (n.val / 2 % 2) : Nat) : Int) := by decide +kernel
  exact h ⟨x.toNat, x.toNat_lt⟩

theorem hdr_vals (sp dp sq ak : Nat) (wd fl : UInt8) (wn : Nat) (z : Int) (hz : (wd.toNat : Int) = z) (hsp : sp ≤ 65535) (hdp : dp ≤ 65535) (hsq : sq < 4294967296) (hak : ak < 4294967296) (hwn : wn ≤ 65535) :
    (#[.int .u8 ((sp : Int) / 256), .int .u8 ((sp : Int) % 256), .int .u8 ((dp : Int) / 256), .int .u8 ((dp : Int) % 256), .int .u8 ((sq : Int) / 16777216), .int .u8 ((sq : Int) / 65536 % 256), .int .u8 ((sq : Int) / 256 % 256), .int .u8 ((sq : Int) % 256), .int .u8 ((ak : Int) / 16777216), .int .u8 ((ak : Int) / 65536 % 256), .int .u8 ((ak : Int) / 256 % 256), .int .u8 ((ak : Int) % 256), .int .u8 z, .int .u8 (fl.toNat : Int), .int .u8 ((wn : Int) / 256), .int .u8 ((wn : Int) % 256), .int .u8 0, .int .u8 0, .int .u8 0, .int .u8 0] : Array Value) = (bvs (hdr9 sp dp sq ak wd fl wn ++ [0, 0, 0, 0])).toArray := by
  have e1 : ∀ x : Nat, x ≤ 65535 → (((UInt8.ofNat (x / 256)).toNat : Nat) : Int) = (x : Int) / 256 := fun x hx => by rw [UInt8.toNat_ofNat']; omega
  have e2 : ∀ x : Nat, (((UInt8.ofNat x).toNat : Nat) : Int) = (x : Int) % 256 := fun x => by rw [UInt8.toNat_ofNat']; omega
  have e3 : ∀ x : Nat, x < 4294967296 → (((UInt8.ofNat (x / 16777216)).toNat : Nat) : Int) = (x : Int) / 16777216 := fun x hx => by rw [UInt8.toNat_ofNat']; omega
  have e4 : ∀ x : Nat, (((UInt8.ofNat (x / 65536)).toNat : Nat) : Int) = (x : Int) / 65536 % 256 := fun x => by rw [UInt8.toNat_ofNat']; omega
  have e5 : ∀ x : Nat, (((UInt8.ofNat (x / 256)).toNat : Nat) : Int) = (x : Int) / 256 % 256 := fun x => by rw [UInt8.toNat_ofNat']; omega
  rw [← e1 sp hsp, ← e1 dp hdp, ← e1 wn hwn, ← e2 sp, ← e2 dp, ← e2 sq, ← e2 ak, ← e2 wn, ← e3 sq hsq, ← e3 ak hak, ← e4 sq, ← e4 ak, ← e5 sq, ← e5 ak, ← hz]
  rfl

theorem opt_vals (ms : Nat) (hms : ms ≤ 65535) : (#[.int .u8 2, .int .u8 4, .int .u8 ((ms : Int) / 256), .int .u8 ((ms : Int) % 256)] : Array Value) = (bvs ([2, 4] ++ wd2 ms)).toArray := by
  have e1 : (((UInt8.ofNat (ms / 256)).toNat : Nat) : Int) = (ms : Int) / 256 := by rw [UInt8.toNat_ofNat']; omega
  have e2 : (((UInt8.ofNat ms).toNat : Nat) : Int) = (ms : Int) % 256 := by rw [UInt8.toNat_ofNat']; omega
  rw [← e1, ← e2]
  rfl

/-- what is refused -/
def Bad9 (fl : UInt8) (ms : Nat) : Prop := 31 < fl.toNat ∨ (ms ≠ 0 ∧ fl.toNat / 2 % 2 = 0)

set_option maxRecDepth 100000 in
set_option maxHeartbeats 1000000 in
theorem b9_long (w : World) (sp dp sq ak : Nat) (fl : UInt8) (wn ms : Nat) (A : Option Addr) (n c : Nat) (s0 s1 s2 s3 d0 d1 d2 d3 : UInt8) (hn : 156 < n) :
    Calls Try.prog 10 #[.agg #[.int .u16 (sp : Int), .int .u16 (dp : Int), .int .u32 (sq : Int), .int .u32 (ak : Int), .int .u8 (fl.toNat : Int), .int .u16 (wn : Int), .int .u16 (ms : Int), .slice A n c], .agg #[.int .u8 (s0.toNat : Int), .int .u8 (s1.toNat : Int), .int .u8 (s2.toNat : Int), .int .u8 (s3.toNat : Int)], .agg #[.int .u8 (d0.toNat : Int), .int .u8 (d1.toNat : Int), .int .u8 (d2.toNat : Int), .int .u8 (d3.toNat : Int)]] w fun e w' => e = .returned (.tuple #[.slice none 0 0, .int .i64 4]) ∧ Kp w w' := by
  go_enter Try.func10, Try.ntmps10
  go_wp2
  go_ret2
  exact ⟨rfl, (((Kp.refl _).alloc _).alloc _).alloc _⟩

set_option maxRecDepth 100000 in
set_option maxHeartbeats 1000000 in
theorem b9_bad (w : World) (sp dp sq ak : Nat) (fl : UInt8) (wn ms : Nat) (A : Option Addr) (n c : Nat) (s0 s1 s2 s3 d0 d1 d2 d3 : UInt8) (hn : n ≤ 156) (hb : Bad9 fl ms) :
    Calls Try.prog 10 #[.agg #[.int .u16 (sp : Int), .int .u16 (dp : Int), .int .u32 (sq : Int), .int .u32 (ak : Int), .int .u8 (fl.toNat : Int), .int .u16 (wn : Int), .int .u16 (ms : Int), .slice A n c], .agg #[.int .u8 (s0.toNat : Int), .int .u8 (s1.toNat : Int), .int .u8 (s2.toNat : Int), .int .u8 (s3.toNat : Int)], .agg #[.int .u8 (d0.toNat : Int), .int .u8 (d1.toNat : Int), .int .u8 (d2.toNat : Int), .int .u8 (d3.toNat : Int)]] w fun e w' => e = .returned (.tuple #[.slice none 0 0, .int .i64 1]) ∧ Kp w w' := by
  have i1 : ¬ (156 : Int) < (n : Int) := by omega
  rcases (by unfold Bad9 at hb; omega : 31 < fl.toNat ∨ (fl.toNat ≤ 31 ∧ ms ≠ 0 ∧ fl.toNat / 2 % 2 = 0)) with h | ⟨h, h2, h3⟩
  · have h' : (31 : Int) < (fl.toNat : Int) := by omega
    clear hb
    go_enter Try.func10, Try.ntmps10
    go_wp2
    go_ret2
    exact ⟨rfl, (((Kp.refl _).alloc _).alloc _).alloc _⟩
  · have h' : ¬ (31 : Int) < (fl.toNat : Int) := by omega
    have hm : ((ms : Int) != 0) = true := by simp; omega
    have ha : bits BinOp.and IntKind.u8 (fl.toNat : Int) 2 = 0 := by rw [and_2]; omega
    clear hb
    go_enter Try.func10, Try.ntmps10
    go_wp2
    go_ret2
    exact ⟨rfl, (((Kp.refl _).alloc _).alloc _).alloc _⟩

def B9Post (w : World) (L : List UInt8) (N : Nat) (e : Ending) (w' : World) : Prop :=
  Kp w w' ∧ ∃ g cap, e = .returned (.tuple #[.slice (some ⟨g, 0, none⟩) N cap, .int .i64 0]) ∧ OwnV 5 w' w.heap.size g N cap (bvs L)

theorem set_mid16 (X B : List UInt8) (a b x y : UInt8) (h : X.length = 16) : ((X ++ (a :: b :: B)).set 16 x).set 17 y = X ++ (x :: y :: B) := by
  rw [List.set_append_right _ _ (by omega), List.set_append_right _ _ (by omega), h]
  simp

theorem cells9 (w : World) (sp dp sq ak : Nat) (fl : UInt8) (wn ms : Nat) (A : Option Addr) (n c : Nat) (s0 s1 s2 s3 d0 d1 d2 d3 : UInt8) (W : World) (hk : Kp (((w.alloc (.cells #[.int .u16 (sp : Int), .int .u16 (dp : Int), .int .u32 (sq : Int), .int .u32 (ak : Int), .int .u8 (fl.toNat : Int), .int .u16 (wn : Int), .int .u16 (ms : Int), .slice A n c] 26)).alloc (.cells #[.int .u8 (s0.toNat : Int), .int .u8 (s1.toNat : Int), .int .u8 (s2.toNat : Int), .int .u8 (s3.toNat : Int)] 28)).alloc (.cells #[.int .u8 (d0.toNat : Int), .int .u8 (d1.toNat : Int), .int .u8 (d2.toNat : Int), .int .u8 (d3.toNat : Int)] 28)) W) : (W.cell? ⟨w.heap.size, 7, none⟩ = some (.slice A n c) ∧ W.cell? ⟨w.heap.size, 6, none⟩ = some (.int .u16 (ms : Int))) ∧ (W.cell? ⟨w.heap.size + 1, 0, none⟩ = some (.int .u8 (s0.toNat : Int)) ∧ W.cell? ⟨w.heap.size + 1, 1, none⟩ = some (.int .u8 (s1.toNat : Int)) ∧ W.cell? ⟨w.heap.size + 1, 2, none⟩ = some (.int .u8 (s2.toNat : Int)) ∧ W.cell? ⟨w.heap.size + 1, 3, none⟩ = some (.int .u8 (s3.toNat : Int))) ∧ (W.cell? ⟨w.heap.size + 1 + 1, 0, none⟩ = some (.int .u8 (d0.toNat : Int)) ∧ W.cell? ⟨w.heap.size + 1 + 1, 1, none⟩ = some (.int .u8 (d1.toNat : Int)) ∧ W.cell? ⟨w.heap.size + 1 + 1, 2, none⟩ = some (.int .u8 (d2.toNat : Int)) ∧ W.cell? ⟨w.heap.size + 1 + 1, 3, none⟩ = some (.int .u8 (d3.toNat : Int))) := by
  have h2 : Kp ((w.alloc (.cells #[.int .u16 (sp : Int), .int .u16 (dp : Int), .int .u32 (sq : Int), .int .u32 (ak : Int), .int .u8 (fl.toNat : Int), .int .u16 (wn : Int), .int .u16 (ms : Int), .slice A n c] 26)).alloc (.cells #[.int .u8 (s0.toNat : Int), .int .u8 (s1.toNat : Int), .int .u8 (s2.toNat : Int), .int .u8 (s3.toNat : Int)] 28)) W := ((Kp.refl _).alloc _).trans hk
  have h1 : Kp (w.alloc (.cells #[.int .u16 (sp : Int), .int .u16 (dp : Int), .int .u32 (sq : Int), .int .u32 (ak : Int), .int .u8 (fl.toNat : Int), .int .u16 (wn : Int), .int .u16 (ms : Int), .slice A n c] 26)) W := ((Kp.refl _).alloc _).trans h2
  have e1 : (w.alloc (.cells #[.int .u16 (sp : Int), .int .u16 (dp : Int), .int .u32 (sq : Int), .int .u32 (ak : Int), .int .u8 (fl.toNat : Int), .int .u16 (wn : Int), .int .u16 (ms : Int), .slice A n c] 26)).heap.size = w.heap.size + 1 := by simp
  have e2 : ((w.alloc (.cells #[.int .u16 (sp : Int), .int .u16 (dp : Int), .int .u32 (sq : Int), .int .u32 (ak : Int), .int .u8 (fl.toNat : Int), .int .u16 (wn : Int), .int .u16 (ms : Int), .slice A n c] 26)).alloc (.cells #[.int .u8 (s0.toNat : Int), .int .u8 (s1.toNat : Int), .int .u8 (s2.toNat : Int), .int .u8 (s3.toNat : Int)] 28)).heap.size = w.heap.size + 1 + 1 := by simp
  refine ⟨⟨?_, ?_⟩, ⟨?_, ?_, ?_, ?_⟩, ⟨?_, ?_, ?_, ?_⟩⟩
  · refine h1.cell ?_; rw [cell_new]; rfl
  · refine h1.cell ?_; rw [cell_new]; rfl
  · refine h2.cell ?_; rw [← e1, cell_new]; rfl
  · refine h2.cell ?_; rw [← e1, cell_new]; rfl
  · refine h2.cell ?_; rw [← e1, cell_new]; rfl
  · refine h2.cell ?_; rw [← e1, cell_new]; rfl
  · refine hk.cell ?_; rw [← e2, cell_new]; rfl
  · refine hk.cell ?_; rw [← e2, cell_new]; rfl
  · refine hk.cell ?_; rw [← e2, cell_new]; rfl
  · refine hk.cell ?_; rw [← e2, cell_new]; rfl
end Go.Proofs.Ytnoobifdaldfiaa
