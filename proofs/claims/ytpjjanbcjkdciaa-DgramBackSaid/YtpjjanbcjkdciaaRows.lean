/-
  No cell of these rows narrows 'for every input' (looked for: loops, veiled, ifaces, maps, wideKeys, modest, calm, conditions, laid).
  DERIVED. THE GIVEN ROWS OF THIS SEAT. 7 by the template 'for every input the law returns true; each argument reads behind the call as it read before'; 0 by the template 'total and deterministic' (their statements: YtpjjanbcjkdciaaTotals.lean).
  GIVEN WITH THE SEED: the statements are not yours to turn. If you find one false, say at which input.
  Laid BY PROGRAM, IN A SANDBOX (cutbox-rows.mjs): the forced cells as the released guide's own fill.sh prints them over the translation d40bb0501692dae4… (all of the seat's roots in one cut). By AI agents, Wed Nov 11 2026. No macro, syntax, notation, axiom, sorry.
-/
import Derived.Test.YtpjjanbcjkdciaaChecked
import GoSem.Claim
import GoSem.ClaimJoined
import GoSem.ClaimMapViews
import Derived.JoinedTies
import Derived.KernelRfl
namespace Go.Proofs.Ytpjjanbcjkdciaa
/- THE CELL 'sum', in the pinned program and in every row, IS THE sha256 OF THE DUMP (.gsa) THAT YtpjjanbcjkdciaaProg.lean LOADS. Nothing in Lean hashes anything: it is a label: what it is worth is what the hold of that sum in a sandbox is worth. -/
noncomputable def Try.pinned : Pinned := { name := "ytpjjanbcjkdciaa", sum := "d40bb0501692dae4915aee0dda66af67fd0e5dcdb55b584109793822a51bfb61", checked := Try.checked }
namespace Rows
def none {H : Type} : Left H := { results := [], args := [] }

/-- 'caravellaw08.DgramEchoes': WHATEVER THE INPUT: true; the input reads as it did. -/
def dgramEchoesSpec : ChangeSpec := { name := "dgramEchoes", fn := fun _ => fun
  | [d1, d2] => { results := [.lit (.bool true)], args := [d1, d2] }
  | _ => none }
def dgramEchoesRow : OpenClaim := { program := "ytpjjanbcjkdciaa", sum := "d40bb0501692dae4915aee0dda66af67fd0e5dcdb55b584109793822a51bfb61", func := "caravel/caravellaw08.DgramEchoes", spec := "dgramEchoes", apart := false }
def DgramEchoesSaid : Prop := dgramEchoesRow.holds Try.pinned (OpenSpec.ofChange dgramEchoesSpec)

/-- ITS FALSE NEIGHBOUR: 'it returns false'. Refute it at one input. -/
def dgramEchoesWrong : ChangeSpec := { name := "dgramEchoes", fn := fun _ => fun
  | [d1, d2] => { results := [.lit (.bool false)], args := [d1, d2] }
  | _ => none }
def DgramEchoesWrongFalsely : Prop := dgramEchoesRow.holds Try.pinned (OpenSpec.ofChange dgramEchoesWrong)

/-- 'caravellaw08.DgramDatagrams': WHATEVER THE INPUT: true; the input reads as it did. -/
def dgramDatagramsSpec : ChangeSpec := { name := "dgramDatagrams", fn := fun _ => fun
  | [d1, d2, d3] => { results := [.lit (.bool true)], args := [d1, d2, d3] }
  | _ => none }
def dgramDatagramsRow : OpenClaim := { program := "ytpjjanbcjkdciaa", sum := "d40bb0501692dae4915aee0dda66af67fd0e5dcdb55b584109793822a51bfb61", func := "caravel/caravellaw08.DgramDatagrams", spec := "dgramDatagrams", apart := false }
def DgramDatagramsSaid : Prop := dgramDatagramsRow.holds Try.pinned (OpenSpec.ofChange dgramDatagramsSpec)

/-- ITS FALSE NEIGHBOUR: 'it returns false'. Refute it at one input. -/
def dgramDatagramsWrong : ChangeSpec := { name := "dgramDatagrams", fn := fun _ => fun
  | [d1, d2, d3] => { results := [.lit (.bool false)], args := [d1, d2, d3] }
  | _ => none }
def DgramDatagramsWrongFalsely : Prop := dgramDatagramsRow.holds Try.pinned (OpenSpec.ofChange dgramDatagramsWrong)

/-- 'caravellaw08.DgramOpens': WHATEVER THE INPUT: true; the input reads as it did. -/
def dgramOpensSpec : ChangeSpec := { name := "dgramOpens", fn := fun _ => fun
  | [d1, d2, d3] => { results := [.lit (.bool true)], args := [d1, d2, d3] }
  | _ => none }
def dgramOpensRow : OpenClaim := { program := "ytpjjanbcjkdciaa", sum := "d40bb0501692dae4915aee0dda66af67fd0e5dcdb55b584109793822a51bfb61", func := "caravel/caravellaw08.DgramOpens", spec := "dgramOpens", apart := false }
def DgramOpensSaid : Prop := dgramOpensRow.holds Try.pinned (OpenSpec.ofChange dgramOpensSpec)

/-- ITS FALSE NEIGHBOUR: 'it returns false'. Refute it at one input. -/
def dgramOpensWrong : ChangeSpec := { name := "dgramOpens", fn := fun _ => fun
  | [d1, d2, d3] => { results := [.lit (.bool false)], args := [d1, d2, d3] }
  | _ => none }
def DgramOpensWrongFalsely : Prop := dgramOpensRow.holds Try.pinned (OpenSpec.ofChange dgramOpensWrong)

/-- 'caravellaw08.DgramTurned': WHATEVER THE INPUT: true; the input reads as it did. -/
def dgramTurnedSpec : ChangeSpec := { name := "dgramTurned", fn := fun _ => fun
  | [d1, d2, d3] => { results := [.lit (.bool true)], args := [d1, d2, d3] }
  | _ => none }
def dgramTurnedRow : OpenClaim := { program := "ytpjjanbcjkdciaa", sum := "d40bb0501692dae4915aee0dda66af67fd0e5dcdb55b584109793822a51bfb61", func := "caravel/caravellaw08.DgramTurned", spec := "dgramTurned", apart := false }
def DgramTurnedSaid : Prop := dgramTurnedRow.holds Try.pinned (OpenSpec.ofChange dgramTurnedSpec)

/-- ITS FALSE NEIGHBOUR: 'it returns false'. Refute it at one input. -/
def dgramTurnedWrong : ChangeSpec := { name := "dgramTurned", fn := fun _ => fun
  | [d1, d2, d3] => { results := [.lit (.bool false)], args := [d1, d2, d3] }
  | _ => none }
def DgramTurnedWrongFalsely : Prop := dgramTurnedRow.holds Try.pinned (OpenSpec.ofChange dgramTurnedWrong)

/-- 'caravellaw08.DgramSame': WHATEVER THE INPUT: true; the input reads as it did. -/
def dgramSameSpec : ChangeSpec := { name := "dgramSame", fn := fun _ => fun
  | [d1, d2, d3] => { results := [.lit (.bool true)], args := [d1, d2, d3] }
  | _ => none }
def dgramSameRow : OpenClaim := { program := "ytpjjanbcjkdciaa", sum := "d40bb0501692dae4915aee0dda66af67fd0e5dcdb55b584109793822a51bfb61", func := "caravel/caravellaw08.DgramSame", spec := "dgramSame", apart := false }
def DgramSameSaid : Prop := dgramSameRow.holds Try.pinned (OpenSpec.ofChange dgramSameSpec)

/-- ITS FALSE NEIGHBOUR: 'it returns false'. Refute it at one input. -/
def dgramSameWrong : ChangeSpec := { name := "dgramSame", fn := fun _ => fun
  | [d1, d2, d3] => { results := [.lit (.bool false)], args := [d1, d2, d3] }
  | _ => none }
def DgramSameWrongFalsely : Prop := dgramSameRow.holds Try.pinned (OpenSpec.ofChange dgramSameWrong)

/-- 'caravellaw08.DgramCut': WHATEVER THE INPUT: true; the input reads as it did. -/
def dgramCutSpec : ChangeSpec := { name := "dgramCut", fn := fun _ => fun
  | [d1, d2, d3] => { results := [.lit (.bool true)], args := [d1, d2, d3] }
  | _ => none }
def dgramCutRow : OpenClaim := { program := "ytpjjanbcjkdciaa", sum := "d40bb0501692dae4915aee0dda66af67fd0e5dcdb55b584109793822a51bfb61", func := "caravel/caravellaw08.DgramCut", spec := "dgramCut", apart := false }
def DgramCutSaid : Prop := dgramCutRow.holds Try.pinned (OpenSpec.ofChange dgramCutSpec)

/-- ITS FALSE NEIGHBOUR: 'it returns false'. Refute it at one input. -/
def dgramCutWrong : ChangeSpec := { name := "dgramCut", fn := fun _ => fun
  | [d1, d2, d3] => { results := [.lit (.bool false)], args := [d1, d2, d3] }
  | _ => none }
def DgramCutWrongFalsely : Prop := dgramCutRow.holds Try.pinned (OpenSpec.ofChange dgramCutWrong)

/-- 'caravellaw08.DgramBack': WHATEVER THE INPUT: true; the input reads as it did. -/
def dgramBackSpec : ChangeSpec := { name := "dgramBack", fn := fun _ => fun
  | [d1, d2, d3] => { results := [.lit (.bool true)], args := [d1, d2, d3] }
  | _ => none }
def dgramBackRow : OpenClaim := { program := "ytpjjanbcjkdciaa", sum := "d40bb0501692dae4915aee0dda66af67fd0e5dcdb55b584109793822a51bfb61", func := "caravel/caravellaw08.DgramBack", spec := "dgramBack", unfollowed := true, recurses := true, apart := false }
def DgramBackSaid : Prop := dgramBackRow.holds Try.pinned (OpenSpec.ofChange dgramBackSpec)

/-- ITS FALSE NEIGHBOUR: 'it returns false'. Refute it at one input. -/
def dgramBackWrong : ChangeSpec := { name := "dgramBack", fn := fun _ => fun
  | [d1, d2, d3] => { results := [.lit (.bool false)], args := [d1, d2, d3] }
  | _ => none }
def DgramBackWrongFalsely : Prop := dgramBackRow.holds Try.pinned (OpenSpec.ofChange dgramBackWrong)

/- THE SECOND FORM. 'bulk': how many values and letters a reading holds, each counted each time it is reached (what is shared counts as often as it is met; a slice's spare places count too). A statement '..UptoSaid' is the law's where the arguments, and the package variables that the reading takes, are together of bulk at most 1048576: NARROWER than '..Said'. Prove '..Said' where nothing that the law and all that it calls make is longer than what came in: it says more and counts as full. Else prove '..UptoSaid'. A law counts once. -/
mutual
def uptoBulk {H : Type} : DataW H → Nat
  | .lit (.string bytes) => bytes.length + 1
  | .lit _ => 1
  | .nil => 1
  | .ptr d => uptoBulk d + 1
  | .slice elems spare => uptoBulkAll elems + uptoBulkAll spare + 1
  | .agg parts => uptoBulkAll parts + 1
  | .iface _ d => uptoBulk d + 1
  | .map entries => uptoBulkEntries entries + 1
  | .held _ => 1
def uptoBulkAll {H : Type} : List (DataW H) → Nat
  | [] => 0
  | d :: r => uptoBulk d + uptoBulkAll r
def uptoBulkEntries {H : Type} : List (Lit × DataW H) → Nat
  | [] => 0
  | x :: r => uptoBulkEntry x + uptoBulkEntries r
def uptoBulkEntry {H : Type} : Lit × DataW H → Nat
  | (.string bytes, d) => bytes.length + uptoBulk d + 1
  | (_, d) => uptoBulk d + 1
 end
def uptoSmall : (H : Type) → List (DataW H) → Bool := fun _ ds => decide (uptoBulkAll ds ≤ 1048576)
def OpenSpec.upto (s : _root_.Go.ChangeSpec) : _root_.Go.OpenSpec := { _root_.Go.OpenSpec.ofChange s with cond := some uptoSmall }

/-- 'caravellaw08.DgramEchoes', WHERE WHAT IT READS IS OF BULK AT MOST 1048576: true; the input reads as it did. -/
def dgramEchoesUptoRow : OpenClaim := { program := "ytpjjanbcjkdciaa", sum := "d40bb0501692dae4915aee0dda66af67fd0e5dcdb55b584109793822a51bfb61", func := "caravel/caravellaw08.DgramEchoes", spec := "dgramEchoes", apart := false, narrowed := true }
def DgramEchoesUptoSaid : Prop := dgramEchoesUptoRow.holds Try.pinned (OpenSpec.upto dgramEchoesSpec)

/-- 'caravellaw08.DgramDatagrams', WHERE WHAT IT READS IS OF BULK AT MOST 1048576: true; the input reads as it did. -/
def dgramDatagramsUptoRow : OpenClaim := { program := "ytpjjanbcjkdciaa", sum := "d40bb0501692dae4915aee0dda66af67fd0e5dcdb55b584109793822a51bfb61", func := "caravel/caravellaw08.DgramDatagrams", spec := "dgramDatagrams", apart := false, narrowed := true }
def DgramDatagramsUptoSaid : Prop := dgramDatagramsUptoRow.holds Try.pinned (OpenSpec.upto dgramDatagramsSpec)

/-- 'caravellaw08.DgramOpens', WHERE WHAT IT READS IS OF BULK AT MOST 1048576: true; the input reads as it did. -/
def dgramOpensUptoRow : OpenClaim := { program := "ytpjjanbcjkdciaa", sum := "d40bb0501692dae4915aee0dda66af67fd0e5dcdb55b584109793822a51bfb61", func := "caravel/caravellaw08.DgramOpens", spec := "dgramOpens", apart := false, narrowed := true }
def DgramOpensUptoSaid : Prop := dgramOpensUptoRow.holds Try.pinned (OpenSpec.upto dgramOpensSpec)

/-- 'caravellaw08.DgramTurned', WHERE WHAT IT READS IS OF BULK AT MOST 1048576: true; the input reads as it did. -/
def dgramTurnedUptoRow : OpenClaim := { program := "ytpjjanbcjkdciaa", sum := "d40bb0501692dae4915aee0dda66af67fd0e5dcdb55b584109793822a51bfb61", func := "caravel/caravellaw08.DgramTurned", spec := "dgramTurned", apart := false, narrowed := true }
def DgramTurnedUptoSaid : Prop := dgramTurnedUptoRow.holds Try.pinned (OpenSpec.upto dgramTurnedSpec)

/-- 'caravellaw08.DgramSame', WHERE WHAT IT READS IS OF BULK AT MOST 1048576: true; the input reads as it did. -/
def dgramSameUptoRow : OpenClaim := { program := "ytpjjanbcjkdciaa", sum := "d40bb0501692dae4915aee0dda66af67fd0e5dcdb55b584109793822a51bfb61", func := "caravel/caravellaw08.DgramSame", spec := "dgramSame", apart := false, narrowed := true }
def DgramSameUptoSaid : Prop := dgramSameUptoRow.holds Try.pinned (OpenSpec.upto dgramSameSpec)

/-- 'caravellaw08.DgramCut', WHERE WHAT IT READS IS OF BULK AT MOST 1048576: true; the input reads as it did. -/
def dgramCutUptoRow : OpenClaim := { program := "ytpjjanbcjkdciaa", sum := "d40bb0501692dae4915aee0dda66af67fd0e5dcdb55b584109793822a51bfb61", func := "caravel/caravellaw08.DgramCut", spec := "dgramCut", apart := false, narrowed := true }
def DgramCutUptoSaid : Prop := dgramCutUptoRow.holds Try.pinned (OpenSpec.upto dgramCutSpec)

/-- 'caravellaw08.DgramBack', WHERE WHAT IT READS IS OF BULK AT MOST 1048576: true; the input reads as it did. -/
def dgramBackUptoRow : OpenClaim := { program := "ytpjjanbcjkdciaa", sum := "d40bb0501692dae4915aee0dda66af67fd0e5dcdb55b584109793822a51bfb61", func := "caravel/caravellaw08.DgramBack", spec := "dgramBack", unfollowed := true, recurses := true, apart := false, narrowed := true }
def DgramBackUptoSaid : Prop := dgramBackUptoRow.holds Try.pinned (OpenSpec.upto dgramBackSpec)

end Rows
end Go.Proofs.Ytpjjanbcjkdciaa
