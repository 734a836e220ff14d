/-
  No cell of these rows narrows 'for every input' (looked for: loops, veiled, ifaces, maps, wideKeys, modest, calm, conditions, laid).
  DERIVED. THE GIVEN ROWS OF THIS SEAT. 7 by the template 'for every input the law returns true; each argument reads behind the call as it read before'; 0 by the template 'total and deterministic' (their statements: YtnoobifdaldfiaaTotals.lean).
  GIVEN WITH THE SEED: the statements are not yours to turn. If you find one false, say at which input.
  Laid BY PROGRAM, IN A SANDBOX (cutbox-rows.mjs): the forced cells as the released guide's own fill.sh prints them over the translation 037f56310014982d… (all of the seat's roots in one cut). By AI agents, Wed Nov 11 2026. No macro, syntax, notation, axiom, sorry.
-/
import Derived.Test.YtnoobifdaldfiaaChecked
import GoSem.Claim
import GoSem.ClaimJoined
import GoSem.ClaimMapViews
import Derived.JoinedTies
import Derived.KernelRfl
namespace Go.Proofs.Ytnoobifdaldfiaa
/- THE CELL 'sum', in the pinned program and in every row, IS THE sha256 OF THE DUMP (.gsa) THAT YtnoobifdaldfiaaProg.lean LOADS. Nothing in Lean hashes anything: it is a label: what it is worth is what the hold of that sum in a sandbox is worth. -/
noncomputable def Try.pinned : Pinned := { name := "ytnoobifdaldfiaa", sum := "037f56310014982d2b8a2d735e407ebc0cb8f381c189e347aeeaf9987e3f8505", checked := Try.checked }
namespace Rows
def none {H : Type} : Left H := { results := [], args := [] }

/-- 'caraveltop.TopFrames': WHATEVER THE INPUT: true; the input reads as it did. -/
def topFramesSpec : ChangeSpec := { name := "topFrames", fn := fun _ => fun
  | [d1, d2, d3] => { results := [.lit (.bool true)], args := [d1, d2, d3] }
  | _ => none }
def topFramesRow : OpenClaim := { program := "ytnoobifdaldfiaa", sum := "037f56310014982d2b8a2d735e407ebc0cb8f381c189e347aeeaf9987e3f8505", func := "caravel/caraveltop.TopFrames", spec := "topFrames", unfollowed := true, recurses := true, apart := false }
def TopFramesSaid : Prop := topFramesRow.holds Try.pinned (OpenSpec.ofChange topFramesSpec)

/-- ITS FALSE NEIGHBOUR: 'it returns false'. Refute it at one input. -/
def topFramesWrong : ChangeSpec := { name := "topFrames", fn := fun _ => fun
  | [d1, d2, d3] => { results := [.lit (.bool false)], args := [d1, d2, d3] }
  | _ => none }
def TopFramesWrongFalsely : Prop := topFramesRow.holds Try.pinned (OpenSpec.ofChange topFramesWrong)

/-- 'caravellaw09.SegmentBuilds': WHATEVER THE INPUT: true; the input reads as it did. -/
def segmentBuildsSpec : ChangeSpec := { name := "segmentBuilds", fn := fun _ => fun
  | [d1, d2] => { results := [.lit (.bool true)], args := [d1, d2] }
  | _ => none }
def segmentBuildsRow : OpenClaim := { program := "ytnoobifdaldfiaa", sum := "037f56310014982d2b8a2d735e407ebc0cb8f381c189e347aeeaf9987e3f8505", func := "caravel/caravellaw09.SegmentBuilds", spec := "segmentBuilds", apart := false }
def SegmentBuildsSaid : Prop := segmentBuildsRow.holds Try.pinned (OpenSpec.ofChange segmentBuildsSpec)

/-- ITS FALSE NEIGHBOUR: 'it returns false'. Refute it at one input. -/
def segmentBuildsWrong : ChangeSpec := { name := "segmentBuilds", fn := fun _ => fun
  | [d1, d2] => { results := [.lit (.bool false)], args := [d1, d2] }
  | _ => none }
def SegmentBuildsWrongFalsely : Prop := segmentBuildsRow.holds Try.pinned (OpenSpec.ofChange segmentBuildsWrong)

/-- 'caravellaw09.SegmentOpens': WHATEVER THE INPUT: true; the input reads as it did. -/
def segmentOpensSpec : ChangeSpec := { name := "segmentOpens", fn := fun _ => fun
  | [d1, d2] => { results := [.lit (.bool true)], args := [d1, d2] }
  | _ => none }
def segmentOpensRow : OpenClaim := { program := "ytnoobifdaldfiaa", sum := "037f56310014982d2b8a2d735e407ebc0cb8f381c189e347aeeaf9987e3f8505", func := "caravel/caravellaw09.SegmentOpens", spec := "segmentOpens", apart := false }
def SegmentOpensSaid : Prop := segmentOpensRow.holds Try.pinned (OpenSpec.ofChange segmentOpensSpec)

/-- ITS FALSE NEIGHBOUR: 'it returns false'. Refute it at one input. -/
def segmentOpensWrong : ChangeSpec := { name := "segmentOpens", fn := fun _ => fun
  | [d1, d2] => { results := [.lit (.bool false)], args := [d1, d2] }
  | _ => none }
def SegmentOpensWrongFalsely : Prop := segmentOpensRow.holds Try.pinned (OpenSpec.ofChange segmentOpensWrong)

/-- 'caravellaw09.SegmentTurned': WHATEVER THE INPUT: true; the input reads as it did. -/
def segmentTurnedSpec : ChangeSpec := { name := "segmentTurned", fn := fun _ => fun
  | [d1, d2, d3] => { results := [.lit (.bool true)], args := [d1, d2, d3] }
  | _ => none }
def segmentTurnedRow : OpenClaim := { program := "ytnoobifdaldfiaa", sum := "037f56310014982d2b8a2d735e407ebc0cb8f381c189e347aeeaf9987e3f8505", func := "caravel/caravellaw09.SegmentTurned", spec := "segmentTurned", apart := false }
def SegmentTurnedSaid : Prop := segmentTurnedRow.holds Try.pinned (OpenSpec.ofChange segmentTurnedSpec)

/-- ITS FALSE NEIGHBOUR: 'it returns false'. Refute it at one input. -/
def segmentTurnedWrong : ChangeSpec := { name := "segmentTurned", fn := fun _ => fun
  | [d1, d2, d3] => { results := [.lit (.bool false)], args := [d1, d2, d3] }
  | _ => none }
def SegmentTurnedWrongFalsely : Prop := segmentTurnedRow.holds Try.pinned (OpenSpec.ofChange segmentTurnedWrong)

/-- 'caravellaw09.SegmentBack': WHATEVER THE INPUT: true; the input reads as it did. -/
def segmentBackSpec : ChangeSpec := { name := "segmentBack", fn := fun _ => fun
  | [d1, d2] => { results := [.lit (.bool true)], args := [d1, d2] }
  | _ => none }
def segmentBackRow : OpenClaim := { program := "ytnoobifdaldfiaa", sum := "037f56310014982d2b8a2d735e407ebc0cb8f381c189e347aeeaf9987e3f8505", func := "caravel/caravellaw09.SegmentBack", spec := "segmentBack", apart := false }
def SegmentBackSaid : Prop := segmentBackRow.holds Try.pinned (OpenSpec.ofChange segmentBackSpec)

/-- ITS FALSE NEIGHBOUR: 'it returns false'. Refute it at one input. -/
def segmentBackWrong : ChangeSpec := { name := "segmentBack", fn := fun _ => fun
  | [d1, d2] => { results := [.lit (.bool false)], args := [d1, d2] }
  | _ => none }
def SegmentBackWrongFalsely : Prop := segmentBackRow.holds Try.pinned (OpenSpec.ofChange segmentBackWrong)

/-- 'caravellaw09.SegmentLens': WHATEVER THE INPUT: true; the input reads as it did. -/
def segmentLensSpec : ChangeSpec := { name := "segmentLens", fn := fun _ => fun
  | [d] => { results := [.lit (.bool true)], args := [d] }
  | _ => none }
def segmentLensRow : OpenClaim := { program := "ytnoobifdaldfiaa", sum := "037f56310014982d2b8a2d735e407ebc0cb8f381c189e347aeeaf9987e3f8505", func := "caravel/caravellaw09.SegmentLens", spec := "segmentLens", apart := false }
def SegmentLensSaid : Prop := segmentLensRow.holds Try.pinned (OpenSpec.ofChange segmentLensSpec)

/-- ITS FALSE NEIGHBOUR: 'it returns false'. Refute it at one input. -/
def segmentLensWrong : ChangeSpec := { name := "segmentLens", fn := fun _ => fun
  | [d] => { results := [.lit (.bool false)], args := [d] }
  | _ => none }
def SegmentLensWrongFalsely : Prop := segmentLensRow.holds Try.pinned (OpenSpec.ofChange segmentLensWrong)

/-- 'caravellaw09.SegmentFlags': WHATEVER THE INPUT: true; the input reads as it did. -/
def segmentFlagsSpec : ChangeSpec := { name := "segmentFlags", fn := fun _ => fun
  | [d1, d2] => { results := [.lit (.bool true)], args := [d1, d2] }
  | _ => none }
def segmentFlagsRow : OpenClaim := { program := "ytnoobifdaldfiaa", sum := "037f56310014982d2b8a2d735e407ebc0cb8f381c189e347aeeaf9987e3f8505", func := "caravel/caravellaw09.SegmentFlags", spec := "segmentFlags", apart := false }
def SegmentFlagsSaid : Prop := segmentFlagsRow.holds Try.pinned (OpenSpec.ofChange segmentFlagsSpec)

/-- ITS FALSE NEIGHBOUR: 'it returns false'. Refute it at one input. -/
def segmentFlagsWrong : ChangeSpec := { name := "segmentFlags", fn := fun _ => fun
  | [d1, d2] => { results := [.lit (.bool false)], args := [d1, d2] }
  | _ => none }
def SegmentFlagsWrongFalsely : Prop := segmentFlagsRow.holds Try.pinned (OpenSpec.ofChange segmentFlagsWrong)

/- THE SECOND FORM. 'bulk': how many values and letters a reading holds, each counted each time it is reached (what is shared counts as often as it is met; a slice's spare places count too). A statement '..UptoSaid' is the law's where the arguments, and the package variables that the reading takes, are together of bulk at most 1048576: NARROWER than '..Said'. Prove '..Said' where nothing that the law and all that it calls make is longer than what came in: it says more and counts as full. Else prove '..UptoSaid'. A law counts once. -/
mutual
def uptoBulk {H : Type} : DataW H → Nat
  | .lit (.string bytes) => bytes.length + 1
  | .lit _ => 1
  | .nil => 1
  | .ptr d => uptoBulk d + 1
  | .slice elems spare => uptoBulkAll elems + uptoBulkAll spare + 1
  | .agg parts => uptoBulkAll parts + 1
  | .iface _ d => uptoBulk d + 1
  | .map entries => uptoBulkEntries entries + 1
  | .held _ => 1
def uptoBulkAll {H : Type} : List (DataW H) → Nat
  | [] => 0
  | d :: r => uptoBulk d + uptoBulkAll r
def uptoBulkEntries {H : Type} : List (Lit × DataW H) → Nat
  | [] => 0
  | x :: r => uptoBulkEntry x + uptoBulkEntries r
def uptoBulkEntry {H : Type} : Lit × DataW H → Nat
  | (.string bytes, d) => bytes.length + uptoBulk d + 1
  | (_, d) => uptoBulk d + 1
 end
def uptoSmall : (H : Type) → List (DataW H) → Bool := fun _ ds => decide (uptoBulkAll ds ≤ 1048576)
def OpenSpec.upto (s : _root_.Go.ChangeSpec) : _root_.Go.OpenSpec := { _root_.Go.OpenSpec.ofChange s with cond := some uptoSmall }

/-- 'caraveltop.TopFrames', WHERE WHAT IT READS IS OF BULK AT MOST 1048576: true; the input reads as it did. -/
def topFramesUptoRow : OpenClaim := { program := "ytnoobifdaldfiaa", sum := "037f56310014982d2b8a2d735e407ebc0cb8f381c189e347aeeaf9987e3f8505", func := "caravel/caraveltop.TopFrames", spec := "topFrames", unfollowed := true, recurses := true, apart := false, narrowed := true }
def TopFramesUptoSaid : Prop := topFramesUptoRow.holds Try.pinned (OpenSpec.upto topFramesSpec)

/-- 'caravellaw09.SegmentBuilds', WHERE WHAT IT READS IS OF BULK AT MOST 1048576: true; the input reads as it did. -/
def segmentBuildsUptoRow : OpenClaim := { program := "ytnoobifdaldfiaa", sum := "037f56310014982d2b8a2d735e407ebc0cb8f381c189e347aeeaf9987e3f8505", func := "caravel/caravellaw09.SegmentBuilds", spec := "segmentBuilds", apart := false, narrowed := true }
def SegmentBuildsUptoSaid : Prop := segmentBuildsUptoRow.holds Try.pinned (OpenSpec.upto segmentBuildsSpec)

/-- 'caravellaw09.SegmentOpens', WHERE WHAT IT READS IS OF BULK AT MOST 1048576: true; the input reads as it did. -/
def segmentOpensUptoRow : OpenClaim := { program := "ytnoobifdaldfiaa", sum := "037f56310014982d2b8a2d735e407ebc0cb8f381c189e347aeeaf9987e3f8505", func := "caravel/caravellaw09.SegmentOpens", spec := "segmentOpens", apart := false, narrowed := true }
def SegmentOpensUptoSaid : Prop := segmentOpensUptoRow.holds Try.pinned (OpenSpec.upto segmentOpensSpec)

/-- 'caravellaw09.SegmentTurned', WHERE WHAT IT READS IS OF BULK AT MOST 1048576: true; the input reads as it did. -/
def segmentTurnedUptoRow : OpenClaim := { program := "ytnoobifdaldfiaa", sum := "037f56310014982d2b8a2d735e407ebc0cb8f381c189e347aeeaf9987e3f8505", func := "caravel/caravellaw09.SegmentTurned", spec := "segmentTurned", apart := false, narrowed := true }
def SegmentTurnedUptoSaid : Prop := segmentTurnedUptoRow.holds Try.pinned (OpenSpec.upto segmentTurnedSpec)

/-- 'caravellaw09.SegmentBack', WHERE WHAT IT READS IS OF BULK AT MOST 1048576: true; the input reads as it did. -/
def segmentBackUptoRow : OpenClaim := { program := "ytnoobifdaldfiaa", sum := "037f56310014982d2b8a2d735e407ebc0cb8f381c189e347aeeaf9987e3f8505", func := "caravel/caravellaw09.SegmentBack", spec := "segmentBack", apart := false, narrowed := true }
def SegmentBackUptoSaid : Prop := segmentBackUptoRow.holds Try.pinned (OpenSpec.upto segmentBackSpec)

/-- 'caravellaw09.SegmentLens', WHERE WHAT IT READS IS OF BULK AT MOST 1048576: true; the input reads as it did. -/
def segmentLensUptoRow : OpenClaim := { program := "ytnoobifdaldfiaa", sum := "037f56310014982d2b8a2d735e407ebc0cb8f381c189e347aeeaf9987e3f8505", func := "caravel/caravellaw09.SegmentLens", spec := "segmentLens", apart := false, narrowed := true }
def SegmentLensUptoSaid : Prop := segmentLensUptoRow.holds Try.pinned (OpenSpec.upto segmentLensSpec)

/-- 'caravellaw09.SegmentFlags', WHERE WHAT IT READS IS OF BULK AT MOST 1048576: true; the input reads as it did. -/
def segmentFlagsUptoRow : OpenClaim := { program := "ytnoobifdaldfiaa", sum := "037f56310014982d2b8a2d735e407ebc0cb8f381c189e347aeeaf9987e3f8505", func := "caravel/caravellaw09.SegmentFlags", spec := "segmentFlags", apart := false, narrowed := true }
def SegmentFlagsUptoSaid : Prop := segmentFlagsUptoRow.holds Try.pinned (OpenSpec.upto segmentFlagsSpec)

end Rows
end Go.Proofs.Ytnoobifdaldfiaa
