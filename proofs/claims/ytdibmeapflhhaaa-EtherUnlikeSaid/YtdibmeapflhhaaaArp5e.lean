/-
  The contract of ether.ParseArp: too few bytes.
-/
import Derived.Test.YtdibmeapflhhaaaArp5c
import Derived.Test.YtdibmeapflhhaaaRow
import Derived.Test.YtdibmeapflhhaaaSplit2
import Derived.Test.YtdibmeapflhhaaaParse5
namespace Go.Proofs.Ytdibmeapflhhaaa
open Go.RowKit

def ArpNo (w : World) (k : Int) (e : Ending) (w' : World) : Prop := Kp w w' ∧ e = .returned (.tuple #[.agg #[.int .i64 0, .int .u8 0, .int .u8 0, .int .u8 0, .int .u8 0, .int .u8 0, .int .u8 0, .int .u8 0, .int .u8 0, .int .u8 0, .int .u8 0, .int .u8 0, .int .u8 0, .int .u8 0, .int .u8 0, .int .u8 0, .int .u8 0, .int .u8 0, .int .u8 0, .int .u8 0, .int .u8 0], .int .i64 k])

theorem szArp : (Try.prog.info? 44).map (·.size) = some 21 := by kernel_rfl
theorem uArp : ∃ fs, Try.prog.underlying 44 = some (.struct fs) := ⟨_, Try.underlying44⟩

theorem results_cell2 {fn : Func} {a e b : Nat} {k : Nat} {ty : TypeId} {w : World} {cs : Array Value} {T : TypeId} {m : Nat × Nat} {tmps : Array Value} {v : Value} (hi : (Try.prog.info? ty).map (·.size) = some k) (hu : ∃ fs, Try.prog.underlying ty = some (.struct fs))
    (hrow : w.heap[b]? = some (.cells cs T m)) (hk : cs.size = k) (hr : fn.results = #[.cell a ty, .tmp e]) (ha : tmps.getD a undef = .pointer (some ⟨b, 0, none⟩)) (he : tmps.getD e undef = v) :
    (results fn tmps).run Try.prog w = .ok (.tuple #[.agg cs, v]) w := by
  subst hk
  obtain ⟨fs, hu⟩ := hu
  have := run_loadVar_row (P := Try.prog) w b T ty cs m _ hrow hu rfl hi
  rw [Array.getD_eq_getD_getElem?] at ha he
  simp [results, hr, ha, he, asAddr, this]

set_option maxRecDepth 10000 in
theorem build_arp (w : World) : (Instr.build 44 #[]).run Try.prog w = .ok (.agg #[.int .i64 0, .int .u8 0, .int .u8 0, .int .u8 0, .int .u8 0, .int .u8 0, .int .u8 0, .int .u8 0, .int .u8 0, .int .u8 0, .int .u8 0, .int .u8 0, .int .u8 0, .int .u8 0, .int .u8 0, .int .u8 0, .int .u8 0, .int .u8 0, .int .u8 0, .int .u8 0, .int .u8 0]) w := by
  go_simp

set_option maxRecDepth 10000 in
theorem build_arp1 (w : World) (op : Int) : (Instr.build 44 #[(0, .int .i64 op)]).run Try.prog w = .ok (.agg #[.int .i64 op, .int .u8 0, .int .u8 0, .int .u8 0, .int .u8 0, .int .u8 0, .int .u8 0, .int .u8 0, .int .u8 0, .int .u8 0, .int .u8 0, .int .u8 0, .int .u8 0, .int .u8 0, .int .u8 0, .int .u8 0, .int .u8 0, .int .u8 0, .int .u8 0, .int .u8 0, .int .u8 0]) w := by
  go_simp
set_option maxRecDepth 10000 in
theorem alloc_arp (w : World) : (Instr.alloc 44 true (.tuple #[])).run Try.prog w = .ok (.pointer (some ⟨w.heap.size, 0, none⟩)) (w.alloc (.cells #[.int .i64 0, .int .u8 0, .int .u8 0, .int .u8 0, .int .u8 0, .int .u8 0, .int .u8 0, .int .u8 0, .int .u8 0, .int .u8 0, .int .u8 0, .int .u8 0, .int .u8 0, .int .u8 0, .int .u8 0, .int .u8 0, .int .u8 0, .int .u8 0, .int .u8 0, .int .u8 0, .int .u8 0] 44)) := by
  go_simp

set_option maxHeartbeats 1000000 in
theorem parp_short (w : World) (A : Option Addr) (n c : Nat) (l : List UInt8) (hA : Rd w 0 A n l) (hok : SlOk A n c) (hn : n ≤ 140737488351232) (h : n < 28) : Calls Try.prog 20 #[.slice A n c] w (ArpNo w 6) := by
  have es := splitArp_no l (by rw [hA.len]; exact h)
  have ES := Lib.hid es
  clear es
  have HOK := Lib.hid hok
  clear hok
  go_enter Try.func20, Try.ntmps20
  go_wp2_with fail
  refine (split_any _ A n c l _ 6 6 [7, 1, 6, 4, 6, 4] ?_ HOK.out (by omega) ?_ (by omega)).mono ?_
  · exact hA.keep (((Kp.refl _).alloc _).alloc _)
  · refine ⟨rfl, fun _ => ⟨_, 0, rfl, Nat.zero_le _, fun j u hu => ?_⟩⟩
    rw [show w.heap.size + 1 = (w.alloc (.cells #[.int .i64 0, .int .u8 0, .int .u8 0, .int .u8 0, .int .u8 0, .int .u8 0, .int .u8 0, .int .u8 0, .int .u8 0, .int .u8 0, .int .u8 0, .int .u8 0, .int .u8 0, .int .u8 0, .int .u8 0, .int .u8 0, .int .u8 0, .int .u8 0, .int .u8 0, .int .u8 0, .int .u8 0] 44)).heap.size by simp, cell_new]
    simpa using hu
  rintro e w1 ⟨hk1, v, he, hcase⟩
  rw [ES.out] at he hcase
  rcases hcase with ⟨_, hv⟩ | ⟨h0, _⟩
  · subst hv
    subst he
    have hkw : Kp w w1 := (((Kp.refl w).alloc _).alloc _).trans hk1
    have hbk : w1.heap[w.heap.size]? = some (.cells #[.int .i64 0, .int .u8 0, .int .u8 0, .int .u8 0, .int .u8 0, .int .u8 0, .int .u8 0, .int .u8 0, .int .u8 0, .int .u8 0, .int .u8 0, .int .u8 0, .int .u8 0, .int .u8 0, .int .u8 0, .int .u8 0, .int .u8 0, .int .u8 0, .int .u8 0, .int .u8 0, .int .u8 0] 44 (0, 0)) := by
      rw [hk1.block _ (by simp; omega)]
      rw [Below.heap_alloc _ _ _ (by simp)]
      exact heap_alloc_new w _
    have hkf : Kp w (w1.setRow w.heap.size #[.int .i64 0, .int .u8 0, .int .u8 0, .int .u8 0, .int .u8 0, .int .u8 0, .int .u8 0, .int .u8 0, .int .u8 0, .int .u8 0, .int .u8 0, .int .u8 0, .int .u8 0, .int .u8 0, .int .u8 0, .int .u8 0, .int .u8 0, .int .u8 0, .int .u8 0, .int .u8 0, .int .u8 0]) := hkw.setRow (Nat.le_refl _)
    have hrow := setRow_heap w1 w.heap.size _ #[.int .i64 0, .int .u8 0, .int .u8 0, .int .u8 0, .int .u8 0, .int .u8 0, .int .u8 0, .int .u8 0, .int .u8 0, .int .u8 0, .int .u8 0, .int .u8 0, .int .u8 0, .int .u8 0, .int .u8 0, .int .u8 0, .int .u8 0, .int .u8 0, .int .u8 0, .int .u8 0, .int .u8 0] _ _ hbk
    go_wp2_with (first | (refine lst_row (by rfl) (.tmp 2) (.tmp 15) _ rfl rfl rfl hbk szArp rfl rfl rfl ?_))
    refine bodyPost_ret (v := .tuple #[.agg #[.int .i64 0, .int .u8 0, .int .u8 0, .int .u8 0, .int .u8 0, .int .u8 0, .int .u8 0, .int .u8 0, .int .u8 0, .int .u8 0, .int .u8 0, .int .u8 0, .int .u8 0, .int .u8 0, .int .u8 0, .int .u8 0, .int .u8 0, .int .u8 0, .int .u8 0, .int .u8 0, .int .u8 0], .int .i64 6]) (results_cell2 (fn := Try.f20) szArp uArp hrow rfl Try.results20 rfl rfl) rfl ⟨hkf, rfl⟩
  · exact absurd h0 (by decide)
end Go.Proofs.Ytdibmeapflhhaaa
