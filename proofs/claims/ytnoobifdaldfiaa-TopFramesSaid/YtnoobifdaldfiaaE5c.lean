/-
  Words for frames: their bytes; what is no frame.
-/
import Derived.Test.YtnoobifdaldfiaaRows
import Derived.Test.YtnoobifdaldfiaaMem
import Derived.Test.YtnoobifdaldfiaaCut
import Derived.Test.YtnoobifdaldfiaaStable
import Derived.Test.YtnoobifdaldfiaaRow
import Derived.WalkLawsBesides
import Derived.Lib.Hide
import Derived.Deep.QuietTactic
import Derived.BigQuiet
import Derived.Deep.RegionLaw
import Derived.Deep.RegionHeld3
import Derived.Stop.BytesEq
namespace Go.Proofs.Ytnoobifdaldfiaa.Fr
open Go.RowKit
set_option maxRecDepth 100000

theorem sizeU : ∀ w : World, (sizeOf 5).run Try.prog w = .ok 1 w := by
  intro w
  have h : Try.prog.info? 5 = some Try.t5 := by kernel_rfl
  simp [sizeOf, typeInfo, h]
  rfl

theorem str_beq (l l' : List UInt8) : ((str l).toList == (str l').toList) = (l == l') := by
  rw [ByteArray.toList_eq, ByteArray.toList_eq, str_list, str_list]

def frameBytes (d s : List UInt8) (ty : Nat) (b : List UInt8) : List UInt8 := d ++ s ++ [UInt8.ofNat (ty / 256), UInt8.ofNat (ty % 256)] ++ b

def frame0 : Value := .agg #[.int .u8 0, .int .u8 0, .int .u8 0, .int .u8 0, .int .u8 0, .int .u8 0, .int .u8 0, .int .u8 0, .int .u8 0, .int .u8 0, .int .u8 0, .int .u8 0, .int .u16 0, .slice none 0 0]

def FrameOk (w : World) (d0 d1 d2 d3 d4 d5 s0 s1 s2 s3 s4 s5 x y : UInt8) (b : List UInt8) (e : Ending) (w' : World) : Prop :=
  Kp w w' ∧ ∃ A c, e = .returned (.tuple #[.agg #[.int .u8 (d0.toNat : Int), .int .u8 (d1.toNat : Int), .int .u8 (d2.toNat : Int), .int .u8 (d3.toNat : Int), .int .u8 (d4.toNat : Int), .int .u8 (d5.toNat : Int), .int .u8 (s0.toNat : Int), .int .u8 (s1.toNat : Int), .int .u8 (s2.toNat : Int), .int .u8 (s3.toNat : Int), .int .u8 (s4.toNat : Int), .int .u8 (s5.toNat : Int), .int .u16 ((256 * x.toNat + y.toNat : Nat) : Int), .slice A b.length c], .int .i64 0]) ∧ Rd w' w.heap.size A b.length b ∧ SlOk A b.length c
def FrameNo (w : World) (k : Int) (e : Ending) (w' : World) : Prop := Kp w w' ∧ e = .returned (.tuple #[frame0, .int .i64 k])

theorem results_cell2 {fn : Func} {a e b : Nat} {k : Nat} {ty : TypeId} {w : World} {cs : Array Value} {T : TypeId} {m : Nat × Nat} {tmps : Array Value} {v : Value} (hi : (Try.prog.info? ty).map (·.size) = some k) (hu : ∃ fs, Try.prog.underlying ty = some (.struct fs))
    (hrow : w.heap[b]? = some (.cells cs T m)) (hk : cs.size = k) (hr : fn.results = #[.cell a ty, .tmp e]) (ha : tmps.getD a undef = .pointer (some ⟨b, 0, none⟩)) (he : tmps.getD e undef = v) :
    (results fn tmps).run Try.prog w = .ok (.tuple #[.agg cs, v]) w := by
  subst hk
  obtain ⟨fs, hu⟩ := hu
  have := run_loadVar_row (P := Try.prog) w b T ty cs m _ hrow hu rfl hi
  rw [Array.getD_eq_getD_getElem?] at ha he
  simp [results, hr, ha, he, asAddr, this]

theorem partOf {α : Type} {l : List α} (n : Nat) (h : n ≤ l.length) : ∃ p r : List α, l = p ++ r ∧ p.length = n ∧ r.length = l.length - n := ⟨l.take n, l.drop n, (List.take_append_drop n l).symm, by rw [List.length_take]; omega, by rw [List.length_drop]⟩
end Go.Proofs.Ytnoobifdaldfiaa.Fr
