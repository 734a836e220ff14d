/-
  Messages: what an assertion on one gives.
-/
import Derived.Test.YtpjjanbcjkdciaaP9
import Derived.Test.YtpjjanbcjkdciaaStableG
namespace Go.Proofs.Ytpjjanbcjkdciaa
open Go.RowKit

set_option maxRecDepth 10000 in
theorem zero_e (w : World) : (zeroValue 25).run Try.prog w = .ok (.agg #[.bool false, .int .u16 0, .int .u16 0, .slice none 0 0]) w := by
  go_simp
set_option maxRecDepth 10000 in
theorem zero_g (w : World) : (zeroValue 43).run Try.prog w = .ok (.agg #[.int .u16 0, .int .u16 0, .slice none 0 0]) w := by
  go_simp
set_option maxRecDepth 10000 in
theorem zero_s (w : World) : (zeroValue 56).run Try.prog w = .ok (.agg #[.int .u16 0, .int .u16 0, .int .u32 0, .int .u32 0, .int .u8 0, .int .u16 0, .int .u16 0, .slice none 0 0]) w := by
  go_simp
theorem ta_ee (w : World) (v : Value) : (Instr.typeAssert (.iface 25 v) 37 25 true).run Try.prog w = .ok (.tuple #[v, .bool true]) w := by
  simp [Instr.typeAssert, run_underlying Try.underlying25]
theorem ta_ge (w : World) (v : Value) : (Instr.typeAssert (.iface 43 v) 37 25 true).run Try.prog w = .ok (.tuple #[.agg #[.bool false, .int .u16 0, .int .u16 0, .slice none 0 0], .bool false]) w := by
  simp [Instr.typeAssert, run_underlying Try.underlying25]
theorem ta_se (w : World) (v : Value) : (Instr.typeAssert (.iface 56 v) 37 25 true).run Try.prog w = .ok (.tuple #[.agg #[.bool false, .int .u16 0, .int .u16 0, .slice none 0 0], .bool false]) w := by
  simp [Instr.typeAssert, run_underlying Try.underlying25]
theorem ta_pe (w : World) (v : Value) : (Instr.typeAssert (.iface 53 v) 37 25 true).run Try.prog w = .ok (.tuple #[.agg #[.bool false, .int .u16 0, .int .u16 0, .slice none 0 0], .bool false]) w := by
  simp [Instr.typeAssert, run_underlying Try.underlying25]
theorem ta_ne (w : World) : (Instr.typeAssert .nilIface 37 25 true).run Try.prog w = .ok (.tuple #[.agg #[.bool false, .int .u16 0, .int .u16 0, .slice none 0 0], .bool false]) w := by
  simp [Instr.typeAssert, run_underlying Try.underlying25]
theorem ta_gg (w : World) (v : Value) : (Instr.typeAssert (.iface 43 v) 37 43 true).run Try.prog w = .ok (.tuple #[v, .bool true]) w := by
  simp [Instr.typeAssert, run_underlying Try.underlying43]
theorem ta_eg (w : World) (v : Value) : (Instr.typeAssert (.iface 25 v) 37 43 true).run Try.prog w = .ok (.tuple #[.agg #[.int .u16 0, .int .u16 0, .slice none 0 0], .bool false]) w := by
  simp [Instr.typeAssert, run_underlying Try.underlying43]
theorem ta_sg (w : World) (v : Value) : (Instr.typeAssert (.iface 56 v) 37 43 true).run Try.prog w = .ok (.tuple #[.agg #[.int .u16 0, .int .u16 0, .slice none 0 0], .bool false]) w := by
  simp [Instr.typeAssert, run_underlying Try.underlying43]
theorem ta_pg (w : World) (v : Value) : (Instr.typeAssert (.iface 53 v) 37 43 true).run Try.prog w = .ok (.tuple #[.agg #[.int .u16 0, .int .u16 0, .slice none 0 0], .bool false]) w := by
  simp [Instr.typeAssert, run_underlying Try.underlying43]
theorem ta_ng (w : World) : (Instr.typeAssert .nilIface 37 43 true).run Try.prog w = .ok (.tuple #[.agg #[.int .u16 0, .int .u16 0, .slice none 0 0], .bool false]) w := by
  simp [Instr.typeAssert, run_underlying Try.underlying43]
theorem ta_ps (w : World) (v : Value) : (Instr.typeAssert (.iface 53 v) 37 56 true).run Try.prog w = .ok (.tuple #[.agg #[.int .u16 0, .int .u16 0, .int .u32 0, .int .u32 0, .int .u8 0, .int .u16 0, .int .u16 0, .slice none 0 0], .bool false]) w := by
  simp [Instr.typeAssert, run_underlying Try.underlying56]
theorem szEcho : (Try.prog.info? 25).map (·.size) = some 4 := by kernel_rfl
theorem uEcho : ∃ fs, Try.prog.underlying 25 = some (.struct fs) := ⟨_, Try.underlying25⟩
theorem szGram : (Try.prog.info? 43).map (·.size) = some 3 := by kernel_rfl
theorem uGram : ∃ fs, Try.prog.underlying 43 = some (.struct fs) := ⟨_, Try.underlying43⟩
end Go.Proofs.Ytpjjanbcjkdciaa
