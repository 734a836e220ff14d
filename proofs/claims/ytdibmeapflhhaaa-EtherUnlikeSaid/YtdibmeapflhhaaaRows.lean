/-
  No cell of these rows narrows 'for every input' (looked for: loops, veiled, ifaces, maps, wideKeys, modest, calm, conditions, laid).
  DERIVED. THE GIVEN ROWS OF THIS SEAT. 11 by the template 'for every input the law returns true; each argument reads behind the call as it read before'; 0 by the template 'total and deterministic' (their statements: YtdibmeapflhhaaaTotals.lean).
  GIVEN WITH THE SEED: the statements are not yours to turn. If you find one false, say at which input.
  Laid BY PROGRAM, IN A SANDBOX (cutbox-rows.mjs): the forced cells as the released guide's own fill.sh prints them over the translation dd25a08e530ad958… (all of the seat's roots in one cut). By AI agents, Wed Nov 11 2026. No macro, syntax, notation, axiom, sorry.
-/
import Derived.Test.YtdibmeapflhhaaaChecked
import GoSem.Claim
import GoSem.ClaimJoined
import GoSem.ClaimMapViews
import Derived.JoinedTies
import Derived.KernelRfl
namespace Go.Proofs.Ytdibmeapflhhaaa
/- THE CELL 'sum', in the pinned program and in every row, IS THE sha256 OF THE DUMP (.gsa) THAT YtdibmeapflhhaaaProg.lean LOADS. Nothing in Lean hashes anything: it is a label: what it is worth is what the hold of that sum in a sandbox is worth. -/
noncomputable def Try.pinned : Pinned := { name := "ytdibmeapflhhaaa", sum := "dd25a08e530ad9582aab2d104ce8d88bdbcacc5c79dede0173da952e07c63454", checked := Try.checked }
namespace Rows
def none {H : Type} : Left H := { results := [], args := [] }

/-- 'caravellaw05.EtherBuilds': WHATEVER THE INPUT: true; the input reads as it did. -/
def etherBuildsSpec : ChangeSpec := { name := "etherBuilds", fn := fun _ => fun
  | [d] => { results := [.lit (.bool true)], args := [d] }
  | _ => none }
def etherBuildsRow : OpenClaim := { program := "ytdibmeapflhhaaa", sum := "dd25a08e530ad9582aab2d104ce8d88bdbcacc5c79dede0173da952e07c63454", func := "caravel/caravellaw05.EtherBuilds", spec := "etherBuilds", apart := false }
def EtherBuildsSaid : Prop := etherBuildsRow.holds Try.pinned (OpenSpec.ofChange etherBuildsSpec)

/-- ITS FALSE NEIGHBOUR: 'it returns false'. Refute it at one input. -/
def etherBuildsWrong : ChangeSpec := { name := "etherBuilds", fn := fun _ => fun
  | [d] => { results := [.lit (.bool false)], args := [d] }
  | _ => none }
def EtherBuildsWrongFalsely : Prop := etherBuildsRow.holds Try.pinned (OpenSpec.ofChange etherBuildsWrong)

/-- 'caravellaw05.EtherParses': WHATEVER THE INPUT: true; the input reads as it did. -/
def etherParsesSpec : ChangeSpec := { name := "etherParses", fn := fun _ => fun
  | [d] => { results := [.lit (.bool true)], args := [d] }
  | _ => none }
def etherParsesRow : OpenClaim := { program := "ytdibmeapflhhaaa", sum := "dd25a08e530ad9582aab2d104ce8d88bdbcacc5c79dede0173da952e07c63454", func := "caravel/caravellaw05.EtherParses", spec := "etherParses", apart := false }
def EtherParsesSaid : Prop := etherParsesRow.holds Try.pinned (OpenSpec.ofChange etherParsesSpec)

/-- ITS FALSE NEIGHBOUR: 'it returns false'. Refute it at one input. -/
def etherParsesWrong : ChangeSpec := { name := "etherParses", fn := fun _ => fun
  | [d] => { results := [.lit (.bool false)], args := [d] }
  | _ => none }
def EtherParsesWrongFalsely : Prop := etherParsesRow.holds Try.pinned (OpenSpec.ofChange etherParsesWrong)

/-- 'caravellaw05.EtherReads': WHATEVER THE INPUT: true; the input reads as it did. -/
def etherReadsSpec : ChangeSpec := { name := "etherReads", fn := fun _ => fun
  | [d] => { results := [.lit (.bool true)], args := [d] }
  | _ => none }
def etherReadsRow : OpenClaim := { program := "ytdibmeapflhhaaa", sum := "dd25a08e530ad9582aab2d104ce8d88bdbcacc5c79dede0173da952e07c63454", func := "caravel/caravellaw05.EtherReads", spec := "etherReads", apart := false }
def EtherReadsSaid : Prop := etherReadsRow.holds Try.pinned (OpenSpec.ofChange etherReadsSpec)

/-- ITS FALSE NEIGHBOUR: 'it returns false'. Refute it at one input. -/
def etherReadsWrong : ChangeSpec := { name := "etherReads", fn := fun _ => fun
  | [d] => { results := [.lit (.bool false)], args := [d] }
  | _ => none }
def EtherReadsWrongFalsely : Prop := etherReadsRow.holds Try.pinned (OpenSpec.ofChange etherReadsWrong)

/-- 'caravellaw06.Ip4Builds': WHATEVER THE INPUT: true; the input reads as it did. -/
def ip4BuildsSpec : ChangeSpec := { name := "ip4Builds", fn := fun _ => fun
  | [d1, d2] => { results := [.lit (.bool true)], args := [d1, d2] }
  | _ => none }
def ip4BuildsRow : OpenClaim := { program := "ytdibmeapflhhaaa", sum := "dd25a08e530ad9582aab2d104ce8d88bdbcacc5c79dede0173da952e07c63454", func := "caravel/caravellaw06.Ip4Builds", spec := "ip4Builds", apart := false }
def Ip4BuildsSaid : Prop := ip4BuildsRow.holds Try.pinned (OpenSpec.ofChange ip4BuildsSpec)

/-- ITS FALSE NEIGHBOUR: 'it returns false'. Refute it at one input. -/
def ip4BuildsWrong : ChangeSpec := { name := "ip4Builds", fn := fun _ => fun
  | [d1, d2] => { results := [.lit (.bool false)], args := [d1, d2] }
  | _ => none }
def Ip4BuildsWrongFalsely : Prop := ip4BuildsRow.holds Try.pinned (OpenSpec.ofChange ip4BuildsWrong)

/-- 'caravellaw06.Ip4Parses': WHATEVER THE INPUT: true; the input reads as it did. -/
def ip4ParsesSpec : ChangeSpec := { name := "ip4Parses", fn := fun _ => fun
  | [d] => { results := [.lit (.bool true)], args := [d] }
  | _ => none }
def ip4ParsesRow : OpenClaim := { program := "ytdibmeapflhhaaa", sum := "dd25a08e530ad9582aab2d104ce8d88bdbcacc5c79dede0173da952e07c63454", func := "caravel/caravellaw06.Ip4Parses", spec := "ip4Parses", apart := false }
def Ip4ParsesSaid : Prop := ip4ParsesRow.holds Try.pinned (OpenSpec.ofChange ip4ParsesSpec)

/-- ITS FALSE NEIGHBOUR: 'it returns false'. Refute it at one input. -/
def ip4ParsesWrong : ChangeSpec := { name := "ip4Parses", fn := fun _ => fun
  | [d] => { results := [.lit (.bool false)], args := [d] }
  | _ => none }
def Ip4ParsesWrongFalsely : Prop := ip4ParsesRow.holds Try.pinned (OpenSpec.ofChange ip4ParsesWrong)

/-- 'caravellaw06.Ip4Turned': WHATEVER THE INPUT: true; the input reads as it did. -/
def ip4TurnedSpec : ChangeSpec := { name := "ip4Turned", fn := fun _ => fun
  | [d1, d2, d3] => { results := [.lit (.bool true)], args := [d1, d2, d3] }
  | _ => none }
def ip4TurnedRow : OpenClaim := { program := "ytdibmeapflhhaaa", sum := "dd25a08e530ad9582aab2d104ce8d88bdbcacc5c79dede0173da952e07c63454", func := "caravel/caravellaw06.Ip4Turned", spec := "ip4Turned", apart := false }
def Ip4TurnedSaid : Prop := ip4TurnedRow.holds Try.pinned (OpenSpec.ofChange ip4TurnedSpec)

/-- ITS FALSE NEIGHBOUR: 'it returns false'. Refute it at one input. -/
def ip4TurnedWrong : ChangeSpec := { name := "ip4Turned", fn := fun _ => fun
  | [d1, d2, d3] => { results := [.lit (.bool false)], args := [d1, d2, d3] }
  | _ => none }
def Ip4TurnedWrongFalsely : Prop := ip4TurnedRow.holds Try.pinned (OpenSpec.ofChange ip4TurnedWrong)

/-- 'caravellaw06.Ip4Back': WHATEVER THE INPUT: true; the input reads as it did. -/
def ip4BackSpec : ChangeSpec := { name := "ip4Back", fn := fun _ => fun
  | [d] => { results := [.lit (.bool true)], args := [d] }
  | _ => none }
def ip4BackRow : OpenClaim := { program := "ytdibmeapflhhaaa", sum := "dd25a08e530ad9582aab2d104ce8d88bdbcacc5c79dede0173da952e07c63454", func := "caravel/caravellaw06.Ip4Back", spec := "ip4Back", apart := false }
def Ip4BackSaid : Prop := ip4BackRow.holds Try.pinned (OpenSpec.ofChange ip4BackSpec)

/-- ITS FALSE NEIGHBOUR: 'it returns false'. Refute it at one input. -/
def ip4BackWrong : ChangeSpec := { name := "ip4Back", fn := fun _ => fun
  | [d] => { results := [.lit (.bool false)], args := [d] }
  | _ => none }
def Ip4BackWrongFalsely : Prop := ip4BackRow.holds Try.pinned (OpenSpec.ofChange ip4BackWrong)

/-- 'caravellaw05.EtherArps': WHATEVER THE INPUT: true; the input reads as it did. -/
def etherArpsSpec : ChangeSpec := { name := "etherArps", fn := fun _ => fun
  | [d1, d2] => { results := [.lit (.bool true)], args := [d1, d2] }
  | _ => none }
def etherArpsRow : OpenClaim := { program := "ytdibmeapflhhaaa", sum := "dd25a08e530ad9582aab2d104ce8d88bdbcacc5c79dede0173da952e07c63454", func := "caravel/caravellaw05.EtherArps", spec := "etherArps", apart := false }
def EtherArpsSaid : Prop := etherArpsRow.holds Try.pinned (OpenSpec.ofChange etherArpsSpec)

/-- ITS FALSE NEIGHBOUR: 'it returns false'. Refute it at one input. -/
def etherArpsWrong : ChangeSpec := { name := "etherArps", fn := fun _ => fun
  | [d1, d2] => { results := [.lit (.bool false)], args := [d1, d2] }
  | _ => none }
def EtherArpsWrongFalsely : Prop := etherArpsRow.holds Try.pinned (OpenSpec.ofChange etherArpsWrong)

/-- 'caravellaw05.EtherUnlike': WHATEVER THE INPUT: true; the input reads as it did. -/
def etherUnlikeSpec : ChangeSpec := { name := "etherUnlike", fn := fun _ => fun
  | [d1, d2, d3] => { results := [.lit (.bool true)], args := [d1, d2, d3] }
  | _ => none }
def etherUnlikeRow : OpenClaim := { program := "ytdibmeapflhhaaa", sum := "dd25a08e530ad9582aab2d104ce8d88bdbcacc5c79dede0173da952e07c63454", func := "caravel/caravellaw05.EtherUnlike", spec := "etherUnlike", apart := false }
def EtherUnlikeSaid : Prop := etherUnlikeRow.holds Try.pinned (OpenSpec.ofChange etherUnlikeSpec)

/-- ITS FALSE NEIGHBOUR: 'it returns false'. Refute it at one input. -/
def etherUnlikeWrong : ChangeSpec := { name := "etherUnlike", fn := fun _ => fun
  | [d1, d2, d3] => { results := [.lit (.bool false)], args := [d1, d2, d3] }
  | _ => none }
def EtherUnlikeWrongFalsely : Prop := etherUnlikeRow.holds Try.pinned (OpenSpec.ofChange etherUnlikeWrong)

/-- 'caravellaw05.EtherBack': WHATEVER THE INPUT: true; the input reads as it did. -/
def etherBackSpec : ChangeSpec := { name := "etherBack", fn := fun _ => fun
  | [d] => { results := [.lit (.bool true)], args := [d] }
  | _ => none }
def etherBackRow : OpenClaim := { program := "ytdibmeapflhhaaa", sum := "dd25a08e530ad9582aab2d104ce8d88bdbcacc5c79dede0173da952e07c63454", func := "caravel/caravellaw05.EtherBack", spec := "etherBack", apart := false }
def EtherBackSaid : Prop := etherBackRow.holds Try.pinned (OpenSpec.ofChange etherBackSpec)

/-- ITS FALSE NEIGHBOUR: 'it returns false'. Refute it at one input. -/
def etherBackWrong : ChangeSpec := { name := "etherBack", fn := fun _ => fun
  | [d] => { results := [.lit (.bool false)], args := [d] }
  | _ => none }
def EtherBackWrongFalsely : Prop := etherBackRow.holds Try.pinned (OpenSpec.ofChange etherBackWrong)

/-- 'caravellaw06.Ip4Pseudo': WHATEVER THE INPUT: true; the input reads as it did. -/
def ip4PseudoSpec : ChangeSpec := { name := "ip4Pseudo", fn := fun _ => fun
  | [d1, d2, d3] => { results := [.lit (.bool true)], args := [d1, d2, d3] }
  | _ => none }
def ip4PseudoRow : OpenClaim := { program := "ytdibmeapflhhaaa", sum := "dd25a08e530ad9582aab2d104ce8d88bdbcacc5c79dede0173da952e07c63454", func := "caravel/caravellaw06.Ip4Pseudo", spec := "ip4Pseudo", apart := false }
def Ip4PseudoSaid : Prop := ip4PseudoRow.holds Try.pinned (OpenSpec.ofChange ip4PseudoSpec)

/-- ITS FALSE NEIGHBOUR: 'it returns false'. Refute it at one input. -/
def ip4PseudoWrong : ChangeSpec := { name := "ip4Pseudo", fn := fun _ => fun
  | [d1, d2, d3] => { results := [.lit (.bool false)], args := [d1, d2, d3] }
  | _ => none }
def Ip4PseudoWrongFalsely : Prop := ip4PseudoRow.holds Try.pinned (OpenSpec.ofChange ip4PseudoWrong)

/- THE SECOND FORM. 'bulk': how many values and letters a reading holds, each counted each time it is reached (what is shared counts as often as it is met; a slice's spare places count too). A statement '..UptoSaid' is the law's where the arguments, and the package variables that the reading takes, are together of bulk at most 1048576: NARROWER than '..Said'. Prove '..Said' where nothing that the law and all that it calls make is longer than what came in: it says more and counts as full. Else prove '..UptoSaid'. A law counts once. -/
mutual
def uptoBulk {H : Type} : DataW H → Nat
  | .lit (.string bytes) => bytes.length + 1
  | .lit _ => 1
  | .nil => 1
  | .ptr d => uptoBulk d + 1
  | .slice elems spare => uptoBulkAll elems + uptoBulkAll spare + 1
  | .agg parts => uptoBulkAll parts + 1
  | .iface _ d => uptoBulk d + 1
  | .map entries => uptoBulkEntries entries + 1
  | .held _ => 1
def uptoBulkAll {H : Type} : List (DataW H) → Nat
  | [] => 0
  | d :: r => uptoBulk d + uptoBulkAll r
def uptoBulkEntries {H : Type} : List (Lit × DataW H) → Nat
  | [] => 0
  | x :: r => uptoBulkEntry x + uptoBulkEntries r
def uptoBulkEntry {H : Type} : Lit × DataW H → Nat
  | (.string bytes, d) => bytes.length + uptoBulk d + 1
  | (_, d) => uptoBulk d + 1
 end
def uptoSmall : (H : Type) → List (DataW H) → Bool := fun _ ds => decide (uptoBulkAll ds ≤ 1048576)
def OpenSpec.upto (s : _root_.Go.ChangeSpec) : _root_.Go.OpenSpec := { _root_.Go.OpenSpec.ofChange s with cond := some uptoSmall }

/-- 'caravellaw05.EtherBuilds', WHERE WHAT IT READS IS OF BULK AT MOST 1048576: true; the input reads as it did. -/
def etherBuildsUptoRow : OpenClaim := { program := "ytdibmeapflhhaaa", sum := "dd25a08e530ad9582aab2d104ce8d88bdbcacc5c79dede0173da952e07c63454", func := "caravel/caravellaw05.EtherBuilds", spec := "etherBuilds", apart := false, narrowed := true }
def EtherBuildsUptoSaid : Prop := etherBuildsUptoRow.holds Try.pinned (OpenSpec.upto etherBuildsSpec)

/-- 'caravellaw05.EtherParses', WHERE WHAT IT READS IS OF BULK AT MOST 1048576: true; the input reads as it did. -/
def etherParsesUptoRow : OpenClaim := { program := "ytdibmeapflhhaaa", sum := "dd25a08e530ad9582aab2d104ce8d88bdbcacc5c79dede0173da952e07c63454", func := "caravel/caravellaw05.EtherParses", spec := "etherParses", apart := false, narrowed := true }
def EtherParsesUptoSaid : Prop := etherParsesUptoRow.holds Try.pinned (OpenSpec.upto etherParsesSpec)

/-- 'caravellaw05.EtherReads', WHERE WHAT IT READS IS OF BULK AT MOST 1048576: true; the input reads as it did. -/
def etherReadsUptoRow : OpenClaim := { program := "ytdibmeapflhhaaa", sum := "dd25a08e530ad9582aab2d104ce8d88bdbcacc5c79dede0173da952e07c63454", func := "caravel/caravellaw05.EtherReads", spec := "etherReads", apart := false, narrowed := true }
def EtherReadsUptoSaid : Prop := etherReadsUptoRow.holds Try.pinned (OpenSpec.upto etherReadsSpec)

/-- 'caravellaw06.Ip4Builds', WHERE WHAT IT READS IS OF BULK AT MOST 1048576: true; the input reads as it did. -/
def ip4BuildsUptoRow : OpenClaim := { program := "ytdibmeapflhhaaa", sum := "dd25a08e530ad9582aab2d104ce8d88bdbcacc5c79dede0173da952e07c63454", func := "caravel/caravellaw06.Ip4Builds", spec := "ip4Builds", apart := false, narrowed := true }
def Ip4BuildsUptoSaid : Prop := ip4BuildsUptoRow.holds Try.pinned (OpenSpec.upto ip4BuildsSpec)

/-- 'caravellaw06.Ip4Parses', WHERE WHAT IT READS IS OF BULK AT MOST 1048576: true; the input reads as it did. -/
def ip4ParsesUptoRow : OpenClaim := { program := "ytdibmeapflhhaaa", sum := "dd25a08e530ad9582aab2d104ce8d88bdbcacc5c79dede0173da952e07c63454", func := "caravel/caravellaw06.Ip4Parses", spec := "ip4Parses", apart := false, narrowed := true }
def Ip4ParsesUptoSaid : Prop := ip4ParsesUptoRow.holds Try.pinned (OpenSpec.upto ip4ParsesSpec)

/-- 'caravellaw06.Ip4Turned', WHERE WHAT IT READS IS OF BULK AT MOST 1048576: true; the input reads as it did. -/
def ip4TurnedUptoRow : OpenClaim := { program := "ytdibmeapflhhaaa", sum := "dd25a08e530ad9582aab2d104ce8d88bdbcacc5c79dede0173da952e07c63454", func := "caravel/caravellaw06.Ip4Turned", spec := "ip4Turned", apart := false, narrowed := true }
def Ip4TurnedUptoSaid : Prop := ip4TurnedUptoRow.holds Try.pinned (OpenSpec.upto ip4TurnedSpec)

/-- 'caravellaw06.Ip4Back', WHERE WHAT IT READS IS OF BULK AT MOST 1048576: true; the input reads as it did. -/
def ip4BackUptoRow : OpenClaim := { program := "ytdibmeapflhhaaa", sum := "dd25a08e530ad9582aab2d104ce8d88bdbcacc5c79dede0173da952e07c63454", func := "caravel/caravellaw06.Ip4Back", spec := "ip4Back", apart := false, narrowed := true }
def Ip4BackUptoSaid : Prop := ip4BackUptoRow.holds Try.pinned (OpenSpec.upto ip4BackSpec)

/-- 'caravellaw05.EtherArps', WHERE WHAT IT READS IS OF BULK AT MOST 1048576: true; the input reads as it did. -/
def etherArpsUptoRow : OpenClaim := { program := "ytdibmeapflhhaaa", sum := "dd25a08e530ad9582aab2d104ce8d88bdbcacc5c79dede0173da952e07c63454", func := "caravel/caravellaw05.EtherArps", spec := "etherArps", apart := false, narrowed := true }
def EtherArpsUptoSaid : Prop := etherArpsUptoRow.holds Try.pinned (OpenSpec.upto etherArpsSpec)

/-- 'caravellaw05.EtherUnlike', WHERE WHAT IT READS IS OF BULK AT MOST 1048576: true; the input reads as it did. -/
def etherUnlikeUptoRow : OpenClaim := { program := "ytdibmeapflhhaaa", sum := "dd25a08e530ad9582aab2d104ce8d88bdbcacc5c79dede0173da952e07c63454", func := "caravel/caravellaw05.EtherUnlike", spec := "etherUnlike", apart := false, narrowed := true }
def EtherUnlikeUptoSaid : Prop := etherUnlikeUptoRow.holds Try.pinned (OpenSpec.upto etherUnlikeSpec)

/-- 'caravellaw05.EtherBack', WHERE WHAT IT READS IS OF BULK AT MOST 1048576: true; the input reads as it did. -/
def etherBackUptoRow : OpenClaim := { program := "ytdibmeapflhhaaa", sum := "dd25a08e530ad9582aab2d104ce8d88bdbcacc5c79dede0173da952e07c63454", func := "caravel/caravellaw05.EtherBack", spec := "etherBack", apart := false, narrowed := true }
def EtherBackUptoSaid : Prop := etherBackUptoRow.holds Try.pinned (OpenSpec.upto etherBackSpec)

/-- 'caravellaw06.Ip4Pseudo', WHERE WHAT IT READS IS OF BULK AT MOST 1048576: true; the input reads as it did. -/
def ip4PseudoUptoRow : OpenClaim := { program := "ytdibmeapflhhaaa", sum := "dd25a08e530ad9582aab2d104ce8d88bdbcacc5c79dede0173da952e07c63454", func := "caravel/caravellaw06.Ip4Pseudo", spec := "ip4Pseudo", apart := false, narrowed := true }
def Ip4PseudoUptoSaid : Prop := ip4PseudoUptoRow.holds Try.pinned (OpenSpec.upto ip4PseudoSpec)

end Rows
end Go.Proofs.Ytdibmeapflhhaaa
