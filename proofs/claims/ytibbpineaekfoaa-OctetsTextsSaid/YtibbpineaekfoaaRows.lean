/-
  No cell of these rows narrows 'for every input' (looked for: loops, veiled, ifaces, maps, wideKeys, modest, calm, conditions, laid).
  DERIVED. THE GIVEN ROWS OF THIS SEAT. 10 by the template 'for every input the law returns true; each argument reads behind the call as it read before'; 0 by the template 'total and deterministic' (their statements: YtibbpineaekfoaaTotals.lean).
  GIVEN WITH THE SEED: the statements are not yours to turn. If you find one false, say at which input.
  Laid BY PROGRAM, IN A SANDBOX (cutbox-rows.mjs): the forced cells as the released guide's own fill.sh prints them over the translation 980bf6c489cd34be… (all of the seat's roots in one cut). By AI agents, Wed Nov 11 2026. No macro, syntax, notation, axiom, sorry.
-/
import Derived.Test.YtibbpineaekfoaaChecked
import GoSem.Claim
import GoSem.ClaimJoined
import GoSem.ClaimMapViews
import Derived.JoinedTies
import Derived.KernelRfl
namespace Go.Proofs.Ytibbpineaekfoaa
/- THE CELL 'sum', in the pinned program and in every row, IS THE sha256 OF THE DUMP (.gsa) THAT YtibbpineaekfoaaProg.lean LOADS. Nothing in Lean hashes anything: it is a label: what it is worth is what the hold of that sum in a sandbox is worth. -/
noncomputable def Try.pinned : Pinned := { name := "ytibbpineaekfoaa", sum := "980bf6c489cd34be3d146659b510b3e6bb12dbbb9638a04af285dde91199e2e8", checked := Try.checked }
namespace Rows
def none {H : Type} : Left H := { results := [], args := [] }

/-- 'caravellaw02.CksumParts': WHATEVER THE INPUT: true; the input reads as it did. -/
def cksumPartsSpec : ChangeSpec := { name := "cksumParts", fn := fun _ => fun
  | [d1, d2] => { results := [.lit (.bool true)], args := [d1, d2] }
  | _ => none }
def cksumPartsRow : OpenClaim := { program := "ytibbpineaekfoaa", sum := "980bf6c489cd34be3d146659b510b3e6bb12dbbb9638a04af285dde91199e2e8", func := "caravel/caravellaw02.CksumParts", spec := "cksumParts", apart := false }
def CksumPartsSaid : Prop := cksumPartsRow.holds Try.pinned (OpenSpec.ofChange cksumPartsSpec)

/-- ITS FALSE NEIGHBOUR: 'it returns false'. Refute it at one input. -/
def cksumPartsWrong : ChangeSpec := { name := "cksumParts", fn := fun _ => fun
  | [d1, d2] => { results := [.lit (.bool false)], args := [d1, d2] }
  | _ => none }
def CksumPartsWrongFalsely : Prop := cksumPartsRow.holds Try.pinned (OpenSpec.ofChange cksumPartsWrong)

/-- 'caravellaw02.CksumJoins': WHATEVER THE INPUT: true; the input reads as it did. -/
def cksumJoinsSpec : ChangeSpec := { name := "cksumJoins", fn := fun _ => fun
  | [d1, d2] => { results := [.lit (.bool true)], args := [d1, d2] }
  | _ => none }
def cksumJoinsRow : OpenClaim := { program := "ytibbpineaekfoaa", sum := "980bf6c489cd34be3d146659b510b3e6bb12dbbb9638a04af285dde91199e2e8", func := "caravel/caravellaw02.CksumJoins", spec := "cksumJoins", apart := false }
def CksumJoinsSaid : Prop := cksumJoinsRow.holds Try.pinned (OpenSpec.ofChange cksumJoinsSpec)

/-- ITS FALSE NEIGHBOUR: 'it returns false'. Refute it at one input. -/
def cksumJoinsWrong : ChangeSpec := { name := "cksumJoins", fn := fun _ => fun
  | [d1, d2] => { results := [.lit (.bool false)], args := [d1, d2] }
  | _ => none }
def CksumJoinsWrongFalsely : Prop := cksumJoinsRow.holds Try.pinned (OpenSpec.ofChange cksumJoinsWrong)

/-- 'caravellaw02.CksumSums': WHATEVER THE INPUT: true; the input reads as it did. -/
def cksumSumsSpec : ChangeSpec := { name := "cksumSums", fn := fun _ => fun
  | [d1, d2, d3] => { results := [.lit (.bool true)], args := [d1, d2, d3] }
  | _ => none }
def cksumSumsRow : OpenClaim := { program := "ytibbpineaekfoaa", sum := "980bf6c489cd34be3d146659b510b3e6bb12dbbb9638a04af285dde91199e2e8", func := "caravel/caravellaw02.CksumSums", spec := "cksumSums", apart := false }
def CksumSumsSaid : Prop := cksumSumsRow.holds Try.pinned (OpenSpec.ofChange cksumSumsSpec)

/-- ITS FALSE NEIGHBOUR: 'it returns false'. Refute it at one input. -/
def cksumSumsWrong : ChangeSpec := { name := "cksumSums", fn := fun _ => fun
  | [d1, d2, d3] => { results := [.lit (.bool false)], args := [d1, d2, d3] }
  | _ => none }
def CksumSumsWrongFalsely : Prop := cksumSumsRow.holds Try.pinned (OpenSpec.ofChange cksumSumsWrong)

/-- 'caravellaw02.CksumWord': WHATEVER THE INPUT: true; the input reads as it did. -/
def cksumWordSpec : ChangeSpec := { name := "cksumWord", fn := fun _ => fun
  | [d1, d2, d3] => { results := [.lit (.bool true)], args := [d1, d2, d3] }
  | _ => none }
def cksumWordRow : OpenClaim := { program := "ytibbpineaekfoaa", sum := "980bf6c489cd34be3d146659b510b3e6bb12dbbb9638a04af285dde91199e2e8", func := "caravel/caravellaw02.CksumWord", spec := "cksumWord", apart := false }
def CksumWordSaid : Prop := cksumWordRow.holds Try.pinned (OpenSpec.ofChange cksumWordSpec)

/-- ITS FALSE NEIGHBOUR: 'it returns false'. Refute it at one input. -/
def cksumWordWrong : ChangeSpec := { name := "cksumWord", fn := fun _ => fun
  | [d1, d2, d3] => { results := [.lit (.bool false)], args := [d1, d2, d3] }
  | _ => none }
def CksumWordWrongFalsely : Prop := cksumWordRow.holds Try.pinned (OpenSpec.ofChange cksumWordWrong)

/-- 'caravellaw02.CksumAdjusts': WHATEVER THE INPUT: true; the input reads as it did. -/
def cksumAdjustsSpec : ChangeSpec := { name := "cksumAdjusts", fn := fun _ => fun
  | [d1, d2, d3] => { results := [.lit (.bool true)], args := [d1, d2, d3] }
  | _ => none }
def cksumAdjustsRow : OpenClaim := { program := "ytibbpineaekfoaa", sum := "980bf6c489cd34be3d146659b510b3e6bb12dbbb9638a04af285dde91199e2e8", func := "caravel/caravellaw02.CksumAdjusts", spec := "cksumAdjusts", apart := false }
def CksumAdjustsSaid : Prop := cksumAdjustsRow.holds Try.pinned (OpenSpec.ofChange cksumAdjustsSpec)

/-- ITS FALSE NEIGHBOUR: 'it returns false'. Refute it at one input. -/
def cksumAdjustsWrong : ChangeSpec := { name := "cksumAdjusts", fn := fun _ => fun
  | [d1, d2, d3] => { results := [.lit (.bool false)], args := [d1, d2, d3] }
  | _ => none }
def CksumAdjustsWrongFalsely : Prop := cksumAdjustsRow.holds Try.pinned (OpenSpec.ofChange cksumAdjustsWrong)

/-- 'caravellaw01.OctetsSplits': WHATEVER THE INPUT: true; the input reads as it did. -/
def octetsSplitsSpec : ChangeSpec := { name := "octetsSplits", fn := fun _ => fun
  | [d1, d2] => { results := [.lit (.bool true)], args := [d1, d2] }
  | _ => none }
def octetsSplitsRow : OpenClaim := { program := "ytibbpineaekfoaa", sum := "980bf6c489cd34be3d146659b510b3e6bb12dbbb9638a04af285dde91199e2e8", func := "caravel/caravellaw01.OctetsSplits", spec := "octetsSplits", apart := false }
def OctetsSplitsSaid : Prop := octetsSplitsRow.holds Try.pinned (OpenSpec.ofChange octetsSplitsSpec)

/-- ITS FALSE NEIGHBOUR: 'it returns false'. Refute it at one input. -/
def octetsSplitsWrong : ChangeSpec := { name := "octetsSplits", fn := fun _ => fun
  | [d1, d2] => { results := [.lit (.bool false)], args := [d1, d2] }
  | _ => none }
def OctetsSplitsWrongFalsely : Prop := octetsSplitsRow.holds Try.pinned (OpenSpec.ofChange octetsSplitsWrong)

/-- 'caravellaw01.OctetsNumbers': WHATEVER THE INPUT: true; the input reads as it did. -/
def octetsNumbersSpec : ChangeSpec := { name := "octetsNumbers", fn := fun _ => fun
  | [d1, d2, d3] => { results := [.lit (.bool true)], args := [d1, d2, d3] }
  | _ => none }
def octetsNumbersRow : OpenClaim := { program := "ytibbpineaekfoaa", sum := "980bf6c489cd34be3d146659b510b3e6bb12dbbb9638a04af285dde91199e2e8", func := "caravel/caravellaw01.OctetsNumbers", spec := "octetsNumbers", apart := false }
def OctetsNumbersSaid : Prop := octetsNumbersRow.holds Try.pinned (OpenSpec.ofChange octetsNumbersSpec)

/-- ITS FALSE NEIGHBOUR: 'it returns false'. Refute it at one input. -/
def octetsNumbersWrong : ChangeSpec := { name := "octetsNumbers", fn := fun _ => fun
  | [d1, d2, d3] => { results := [.lit (.bool false)], args := [d1, d2, d3] }
  | _ => none }
def OctetsNumbersWrongFalsely : Prop := octetsNumbersRow.holds Try.pinned (OpenSpec.ofChange octetsNumbersWrong)

/-- 'caravellaw01.OctetsAgain': WHATEVER THE INPUT: true; the input reads as it did. -/
def octetsAgainSpec : ChangeSpec := { name := "octetsAgain", fn := fun _ => fun
  | [d1, d2] => { results := [.lit (.bool true)], args := [d1, d2] }
  | _ => none }
def octetsAgainRow : OpenClaim := { program := "ytibbpineaekfoaa", sum := "980bf6c489cd34be3d146659b510b3e6bb12dbbb9638a04af285dde91199e2e8", func := "caravel/caravellaw01.OctetsAgain", spec := "octetsAgain", apart := false }
def OctetsAgainSaid : Prop := octetsAgainRow.holds Try.pinned (OpenSpec.ofChange octetsAgainSpec)

/-- ITS FALSE NEIGHBOUR: 'it returns false'. Refute it at one input. -/
def octetsAgainWrong : ChangeSpec := { name := "octetsAgain", fn := fun _ => fun
  | [d1, d2] => { results := [.lit (.bool false)], args := [d1, d2] }
  | _ => none }
def OctetsAgainWrongFalsely : Prop := octetsAgainRow.holds Try.pinned (OpenSpec.ofChange octetsAgainWrong)

/-- 'caravellaw01.OctetsJoins': WHATEVER THE INPUT: true; the input reads as it did. -/
def octetsJoinsSpec : ChangeSpec := { name := "octetsJoins", fn := fun _ => fun
  | [d1, d2] => { results := [.lit (.bool true)], args := [d1, d2] }
  | _ => none }
def octetsJoinsRow : OpenClaim := { program := "ytibbpineaekfoaa", sum := "980bf6c489cd34be3d146659b510b3e6bb12dbbb9638a04af285dde91199e2e8", func := "caravel/caravellaw01.OctetsJoins", spec := "octetsJoins", apart := false }
def OctetsJoinsSaid : Prop := octetsJoinsRow.holds Try.pinned (OpenSpec.ofChange octetsJoinsSpec)

/-- ITS FALSE NEIGHBOUR: 'it returns false'. Refute it at one input. -/
def octetsJoinsWrong : ChangeSpec := { name := "octetsJoins", fn := fun _ => fun
  | [d1, d2] => { results := [.lit (.bool false)], args := [d1, d2] }
  | _ => none }
def OctetsJoinsWrongFalsely : Prop := octetsJoinsRow.holds Try.pinned (OpenSpec.ofChange octetsJoinsWrong)

/-- 'caravellaw01.OctetsTexts': WHATEVER THE INPUT: true; the input reads as it did. -/
def octetsTextsSpec : ChangeSpec := { name := "octetsTexts", fn := fun _ => fun
  | [d1, d2] => { results := [.lit (.bool true)], args := [d1, d2] }
  | _ => none }
def octetsTextsRow : OpenClaim := { program := "ytibbpineaekfoaa", sum := "980bf6c489cd34be3d146659b510b3e6bb12dbbb9638a04af285dde91199e2e8", func := "caravel/caravellaw01.OctetsTexts", spec := "octetsTexts", apart := false }
def OctetsTextsSaid : Prop := octetsTextsRow.holds Try.pinned (OpenSpec.ofChange octetsTextsSpec)

/-- ITS FALSE NEIGHBOUR: 'it returns false'. Refute it at one input. -/
def octetsTextsWrong : ChangeSpec := { name := "octetsTexts", fn := fun _ => fun
  | [d1, d2] => { results := [.lit (.bool false)], args := [d1, d2] }
  | _ => none }
def OctetsTextsWrongFalsely : Prop := octetsTextsRow.holds Try.pinned (OpenSpec.ofChange octetsTextsWrong)

/- THE SECOND FORM. 'bulk': how many values and letters a reading holds, each counted each time it is reached (what is shared counts as often as it is met; a slice's spare places count too). A statement '..UptoSaid' is the law's where the arguments, and the package variables that the reading takes, are together of bulk at most 1048576: NARROWER than '..Said'. Prove '..Said' where nothing that the law and all that it calls make is longer than what came in: it says more and counts as full. Else prove '..UptoSaid'. A law counts once. -/
mutual
def uptoBulk {H : Type} : DataW H → Nat
  | .lit (.string bytes) => bytes.length + 1
  | .lit _ => 1
  | .nil => 1
  | .ptr d => uptoBulk d + 1
  | .slice elems spare => uptoBulkAll elems + uptoBulkAll spare + 1
  | .agg parts => uptoBulkAll parts + 1
  | .iface _ d => uptoBulk d + 1
  | .map entries => uptoBulkEntries entries + 1
  | .held _ => 1
def uptoBulkAll {H : Type} : List (DataW H) → Nat
  | [] => 0
  | d :: r => uptoBulk d + uptoBulkAll r
def uptoBulkEntries {H : Type} : List (Lit × DataW H) → Nat
  | [] => 0
  | x :: r => uptoBulkEntry x + uptoBulkEntries r
def uptoBulkEntry {H : Type} : Lit × DataW H → Nat
  | (.string bytes, d) => bytes.length + uptoBulk d + 1
  | (_, d) => uptoBulk d + 1
 end
def uptoSmall : (H : Type) → List (DataW H) → Bool := fun _ ds => decide (uptoBulkAll ds ≤ 1048576)
def OpenSpec.upto (s : _root_.Go.ChangeSpec) : _root_.Go.OpenSpec := { _root_.Go.OpenSpec.ofChange s with cond := some uptoSmall }

/-- 'caravellaw02.CksumParts', WHERE WHAT IT READS IS OF BULK AT MOST 1048576: true; the input reads as it did. -/
def cksumPartsUptoRow : OpenClaim := { program := "ytibbpineaekfoaa", sum := "980bf6c489cd34be3d146659b510b3e6bb12dbbb9638a04af285dde91199e2e8", func := "caravel/caravellaw02.CksumParts", spec := "cksumParts", apart := false, narrowed := true }
def CksumPartsUptoSaid : Prop := cksumPartsUptoRow.holds Try.pinned (OpenSpec.upto cksumPartsSpec)

/-- 'caravellaw02.CksumJoins', WHERE WHAT IT READS IS OF BULK AT MOST 1048576: true; the input reads as it did. -/
def cksumJoinsUptoRow : OpenClaim := { program := "ytibbpineaekfoaa", sum := "980bf6c489cd34be3d146659b510b3e6bb12dbbb9638a04af285dde91199e2e8", func := "caravel/caravellaw02.CksumJoins", spec := "cksumJoins", apart := false, narrowed := true }
def CksumJoinsUptoSaid : Prop := cksumJoinsUptoRow.holds Try.pinned (OpenSpec.upto cksumJoinsSpec)

/-- 'caravellaw02.CksumSums', WHERE WHAT IT READS IS OF BULK AT MOST 1048576: true; the input reads as it did. -/
def cksumSumsUptoRow : OpenClaim := { program := "ytibbpineaekfoaa", sum := "980bf6c489cd34be3d146659b510b3e6bb12dbbb9638a04af285dde91199e2e8", func := "caravel/caravellaw02.CksumSums", spec := "cksumSums", apart := false, narrowed := true }
def CksumSumsUptoSaid : Prop := cksumSumsUptoRow.holds Try.pinned (OpenSpec.upto cksumSumsSpec)

/-- 'caravellaw02.CksumWord', WHERE WHAT IT READS IS OF BULK AT MOST 1048576: true; the input reads as it did. -/
def cksumWordUptoRow : OpenClaim := { program := "ytibbpineaekfoaa", sum := "980bf6c489cd34be3d146659b510b3e6bb12dbbb9638a04af285dde91199e2e8", func := "caravel/caravellaw02.CksumWord", spec := "cksumWord", apart := false, narrowed := true }
def CksumWordUptoSaid : Prop := cksumWordUptoRow.holds Try.pinned (OpenSpec.upto cksumWordSpec)

/-- 'caravellaw02.CksumAdjusts', WHERE WHAT IT READS IS OF BULK AT MOST 1048576: true; the input reads as it did. -/
def cksumAdjustsUptoRow : OpenClaim := { program := "ytibbpineaekfoaa", sum := "980bf6c489cd34be3d146659b510b3e6bb12dbbb9638a04af285dde91199e2e8", func := "caravel/caravellaw02.CksumAdjusts", spec := "cksumAdjusts", apart := false, narrowed := true }
def CksumAdjustsUptoSaid : Prop := cksumAdjustsUptoRow.holds Try.pinned (OpenSpec.upto cksumAdjustsSpec)

/-- 'caravellaw01.OctetsSplits', WHERE WHAT IT READS IS OF BULK AT MOST 1048576: true; the input reads as it did. -/
def octetsSplitsUptoRow : OpenClaim := { program := "ytibbpineaekfoaa", sum := "980bf6c489cd34be3d146659b510b3e6bb12dbbb9638a04af285dde91199e2e8", func := "caravel/caravellaw01.OctetsSplits", spec := "octetsSplits", apart := false, narrowed := true }
def OctetsSplitsUptoSaid : Prop := octetsSplitsUptoRow.holds Try.pinned (OpenSpec.upto octetsSplitsSpec)

/-- 'caravellaw01.OctetsNumbers', WHERE WHAT IT READS IS OF BULK AT MOST 1048576: true; the input reads as it did. -/
def octetsNumbersUptoRow : OpenClaim := { program := "ytibbpineaekfoaa", sum := "980bf6c489cd34be3d146659b510b3e6bb12dbbb9638a04af285dde91199e2e8", func := "caravel/caravellaw01.OctetsNumbers", spec := "octetsNumbers", apart := false, narrowed := true }
def OctetsNumbersUptoSaid : Prop := octetsNumbersUptoRow.holds Try.pinned (OpenSpec.upto octetsNumbersSpec)

/-- 'caravellaw01.OctetsAgain', WHERE WHAT IT READS IS OF BULK AT MOST 1048576: true; the input reads as it did. -/
def octetsAgainUptoRow : OpenClaim := { program := "ytibbpineaekfoaa", sum := "980bf6c489cd34be3d146659b510b3e6bb12dbbb9638a04af285dde91199e2e8", func := "caravel/caravellaw01.OctetsAgain", spec := "octetsAgain", apart := false, narrowed := true }
def OctetsAgainUptoSaid : Prop := octetsAgainUptoRow.holds Try.pinned (OpenSpec.upto octetsAgainSpec)

/-- 'caravellaw01.OctetsJoins', WHERE WHAT IT READS IS OF BULK AT MOST 1048576: true; the input reads as it did. -/
def octetsJoinsUptoRow : OpenClaim := { program := "ytibbpineaekfoaa", sum := "980bf6c489cd34be3d146659b510b3e6bb12dbbb9638a04af285dde91199e2e8", func := "caravel/caravellaw01.OctetsJoins", spec := "octetsJoins", apart := false, narrowed := true }
def OctetsJoinsUptoSaid : Prop := octetsJoinsUptoRow.holds Try.pinned (OpenSpec.upto octetsJoinsSpec)

/-- 'caravellaw01.OctetsTexts', WHERE WHAT IT READS IS OF BULK AT MOST 1048576: true; the input reads as it did. -/
def octetsTextsUptoRow : OpenClaim := { program := "ytibbpineaekfoaa", sum := "980bf6c489cd34be3d146659b510b3e6bb12dbbb9638a04af285dde91199e2e8", func := "caravel/caravellaw01.OctetsTexts", spec := "octetsTexts", apart := false, narrowed := true }
def OctetsTextsUptoSaid : Prop := octetsTextsUptoRow.holds Try.pinned (OpenSpec.upto octetsTextsSpec)

end Rows
end Go.Proofs.Ytibbpineaekfoaa
