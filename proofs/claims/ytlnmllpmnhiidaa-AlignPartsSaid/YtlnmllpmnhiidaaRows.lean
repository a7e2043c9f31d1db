/-
  No cell of these rows narrows 'for every input' (looked for: loops, veiled, ifaces, maps, wideKeys, modest, calm, conditions, laid).
  DERIVED. THE GIVEN ROWS OF THIS SEAT. 5 by the template 'for every input the law returns true; each argument reads behind the call as it read before'; 0 by the template 'total and deterministic' (their statements: YtlnmllpmnhiidaaTotals.lean).
  GIVEN WITH THE SEED: the statements are not yours to turn. If you find one false, say at which input.
  Laid BY PROGRAM, IN A SANDBOX (cutbox-rows.mjs): the forced cells as the released guide's own fill.sh prints them over the translation 750d2bf946d8245f… (all of the seat's roots in one cut). By AI agents, Wed Nov 11 2026. No macro, syntax, notation, axiom, sorry.
-/
import Derived.Test.YtlnmllpmnhiidaaChecked
import GoSem.Claim
import GoSem.ClaimJoined
import GoSem.ClaimMapViews
import Derived.JoinedTies
import Derived.KernelRfl
namespace Go.Proofs.Ytlnmllpmnhiidaa
/- THE CELL 'sum', in the pinned program and in every row, IS THE sha256 OF THE DUMP (.gsa) THAT YtlnmllpmnhiidaaProg.lean LOADS. Nothing in Lean hashes anything: it is a label: what it is worth is what the hold of that sum in a sandbox is worth. -/
noncomputable def Try.pinned : Pinned := { name := "ytlnmllpmnhiidaa", sum := "750d2bf946d8245ff443ea3a4d3099514190b6279350ee49595a183f5335aab8", checked := Try.checked }
namespace Rows
def none {H : Type} : Left H := { results := [], args := [] }

/-- 'footbridgelaw24.AlignSpans': WHATEVER THE INPUT: true; the input reads as it did. -/
def alignSpansSpec : ChangeSpec := { name := "alignSpans", fn := fun _ => fun
  | [d1, d2, d3] => { results := [.lit (.bool true)], args := [d1, d2, d3] }
  | _ => none }
def alignSpansRow : OpenClaim := { program := "ytlnmllpmnhiidaa", sum := "750d2bf946d8245ff443ea3a4d3099514190b6279350ee49595a183f5335aab8", func := "footbridge/footbridgelaw24.AlignSpans", spec := "alignSpans", unfollowed := true, recurses := true, apart := false }
def AlignSpansSaid : Prop := alignSpansRow.holds Try.pinned (OpenSpec.ofChange alignSpansSpec)

/-- ITS FALSE NEIGHBOUR: 'it returns false'. Refute it at one input. -/
def alignSpansWrong : ChangeSpec := { name := "alignSpans", fn := fun _ => fun
  | [d1, d2, d3] => { results := [.lit (.bool false)], args := [d1, d2, d3] }
  | _ => none }
def AlignSpansWrongFalsely : Prop := alignSpansRow.holds Try.pinned (OpenSpec.ofChange alignSpansWrong)

/-- 'footbridgelaw24.AlignMaps': WHATEVER THE INPUT: true; the input reads as it did. -/
def alignMapsSpec : ChangeSpec := { name := "alignMaps", fn := fun _ => fun
  | [d1, d2, d3] => { results := [.lit (.bool true)], args := [d1, d2, d3] }
  | _ => none }
def alignMapsRow : OpenClaim := { program := "ytlnmllpmnhiidaa", sum := "750d2bf946d8245ff443ea3a4d3099514190b6279350ee49595a183f5335aab8", func := "footbridge/footbridgelaw24.AlignMaps", spec := "alignMaps", unfollowed := true, recurses := true, apart := false }
def AlignMapsSaid : Prop := alignMapsRow.holds Try.pinned (OpenSpec.ofChange alignMapsSpec)

/-- ITS FALSE NEIGHBOUR: 'it returns false'. Refute it at one input. -/
def alignMapsWrong : ChangeSpec := { name := "alignMaps", fn := fun _ => fun
  | [d1, d2, d3] => { results := [.lit (.bool false)], args := [d1, d2, d3] }
  | _ => none }
def AlignMapsWrongFalsely : Prop := alignMapsRow.holds Try.pinned (OpenSpec.ofChange alignMapsWrong)

/-- 'footbridgelaw24.AlignBack': WHATEVER THE INPUT: true; the input reads as it did. -/
def alignBackSpec : ChangeSpec := { name := "alignBack", fn := fun _ => fun
  | [d1, d2] => { results := [.lit (.bool true)], args := [d1, d2] }
  | _ => none }
def alignBackRow : OpenClaim := { program := "ytlnmllpmnhiidaa", sum := "750d2bf946d8245ff443ea3a4d3099514190b6279350ee49595a183f5335aab8", func := "footbridge/footbridgelaw24.AlignBack", spec := "alignBack", unfollowed := true, recurses := true, apart := false }
def AlignBackSaid : Prop := alignBackRow.holds Try.pinned (OpenSpec.ofChange alignBackSpec)

/-- ITS FALSE NEIGHBOUR: 'it returns false'. Refute it at one input. -/
def alignBackWrong : ChangeSpec := { name := "alignBack", fn := fun _ => fun
  | [d1, d2] => { results := [.lit (.bool false)], args := [d1, d2] }
  | _ => none }
def AlignBackWrongFalsely : Prop := alignBackRow.holds Try.pinned (OpenSpec.ofChange alignBackWrong)

/-- 'footbridgelaw24.AlignParts': WHATEVER THE INPUT: true; the input reads as it did. -/
def alignPartsSpec : ChangeSpec := { name := "alignParts", fn := fun _ => fun
  | [d1, d2] => { results := [.lit (.bool true)], args := [d1, d2] }
  | _ => none }
def alignPartsRow : OpenClaim := { program := "ytlnmllpmnhiidaa", sum := "750d2bf946d8245ff443ea3a4d3099514190b6279350ee49595a183f5335aab8", func := "footbridge/footbridgelaw24.AlignParts", spec := "alignParts", unfollowed := true, recurses := true, apart := false }
def AlignPartsSaid : Prop := alignPartsRow.holds Try.pinned (OpenSpec.ofChange alignPartsSpec)

/-- ITS FALSE NEIGHBOUR: 'it returns false'. Refute it at one input. -/
def alignPartsWrong : ChangeSpec := { name := "alignParts", fn := fun _ => fun
  | [d1, d2] => { results := [.lit (.bool false)], args := [d1, d2] }
  | _ => none }
def AlignPartsWrongFalsely : Prop := alignPartsRow.holds Try.pinned (OpenSpec.ofChange alignPartsWrong)

/-- 'footbridgelaw24.AlignCommon': WHATEVER THE INPUT: true; the input reads as it did. -/
def alignCommonSpec : ChangeSpec := { name := "alignCommon", fn := fun _ => fun
  | [d1, d2, d3] => { results := [.lit (.bool true)], args := [d1, d2, d3] }
  | _ => none }
def alignCommonRow : OpenClaim := { program := "ytlnmllpmnhiidaa", sum := "750d2bf946d8245ff443ea3a4d3099514190b6279350ee49595a183f5335aab8", func := "footbridge/footbridgelaw24.AlignCommon", spec := "alignCommon", unfollowed := true, recurses := true, apart := false }
def AlignCommonSaid : Prop := alignCommonRow.holds Try.pinned (OpenSpec.ofChange alignCommonSpec)

/-- ITS FALSE NEIGHBOUR: 'it returns false'. Refute it at one input. -/
def alignCommonWrong : ChangeSpec := { name := "alignCommon", fn := fun _ => fun
  | [d1, d2, d3] => { results := [.lit (.bool false)], args := [d1, d2, d3] }
  | _ => none }
def AlignCommonWrongFalsely : Prop := alignCommonRow.holds Try.pinned (OpenSpec.ofChange alignCommonWrong)

/- THE SECOND FORM. 'bulk': how many values and letters a reading holds, each counted each time it is reached (what is shared counts as often as it is met; a slice's spare places count too). A statement '..UptoSaid' is the law's where the arguments, and the package variables that the reading takes, are together of bulk at most 1048576: NARROWER than '..Said'. Prove '..Said' where nothing that the law and all that it calls make is longer than what came in: it says more and counts as full. Else prove '..UptoSaid'. A law counts once. -/
mutual
def uptoBulk {H : Type} : DataW H → Nat
  | .lit (.string bytes) => bytes.length + 1
  | .lit _ => 1
  | .nil => 1
  | .ptr d => uptoBulk d + 1
  | .slice elems spare => uptoBulkAll elems + uptoBulkAll spare + 1
  | .agg parts => uptoBulkAll parts + 1
  | .iface _ d => uptoBulk d + 1
  | .map entries => uptoBulkEntries entries + 1
  | .held _ => 1
def uptoBulkAll {H : Type} : List (DataW H) → Nat
  | [] => 0
  | d :: r => uptoBulk d + uptoBulkAll r
def uptoBulkEntries {H : Type} : List (Lit × DataW H) → Nat
  | [] => 0
  | x :: r => uptoBulkEntry x + uptoBulkEntries r
def uptoBulkEntry {H : Type} : Lit × DataW H → Nat
  | (.string bytes, d) => bytes.length + uptoBulk d + 1
  | (_, d) => uptoBulk d + 1
 end
def uptoSmall : (H : Type) → List (DataW H) → Bool := fun _ ds => decide (uptoBulkAll ds ≤ 1048576)
def OpenSpec.upto (s : _root_.Go.ChangeSpec) : _root_.Go.OpenSpec := { _root_.Go.OpenSpec.ofChange s with cond := some uptoSmall }

/-- 'footbridgelaw24.AlignSpans', WHERE WHAT IT READS IS OF BULK AT MOST 1048576: true; the input reads as it did. -/
def alignSpansUptoRow : OpenClaim := { program := "ytlnmllpmnhiidaa", sum := "750d2bf946d8245ff443ea3a4d3099514190b6279350ee49595a183f5335aab8", func := "footbridge/footbridgelaw24.AlignSpans", spec := "alignSpans", unfollowed := true, recurses := true, apart := false, narrowed := true }
def AlignSpansUptoSaid : Prop := alignSpansUptoRow.holds Try.pinned (OpenSpec.upto alignSpansSpec)

/-- 'footbridgelaw24.AlignMaps', WHERE WHAT IT READS IS OF BULK AT MOST 1048576: true; the input reads as it did. -/
def alignMapsUptoRow : OpenClaim := { program := "ytlnmllpmnhiidaa", sum := "750d2bf946d8245ff443ea3a4d3099514190b6279350ee49595a183f5335aab8", func := "footbridge/footbridgelaw24.AlignMaps", spec := "alignMaps", unfollowed := true, recurses := true, apart := false, narrowed := true }
def AlignMapsUptoSaid : Prop := alignMapsUptoRow.holds Try.pinned (OpenSpec.upto alignMapsSpec)

/-- 'footbridgelaw24.AlignBack', WHERE WHAT IT READS IS OF BULK AT MOST 1048576: true; the input reads as it did. -/
def alignBackUptoRow : OpenClaim := { program := "ytlnmllpmnhiidaa", sum := "750d2bf946d8245ff443ea3a4d3099514190b6279350ee49595a183f5335aab8", func := "footbridge/footbridgelaw24.AlignBack", spec := "alignBack", unfollowed := true, recurses := true, apart := false, narrowed := true }
def AlignBackUptoSaid : Prop := alignBackUptoRow.holds Try.pinned (OpenSpec.upto alignBackSpec)

/-- 'footbridgelaw24.AlignParts', WHERE WHAT IT READS IS OF BULK AT MOST 1048576: true; the input reads as it did. -/
def alignPartsUptoRow : OpenClaim := { program := "ytlnmllpmnhiidaa", sum := "750d2bf946d8245ff443ea3a4d3099514190b6279350ee49595a183f5335aab8", func := "footbridge/footbridgelaw24.AlignParts", spec := "alignParts", unfollowed := true, recurses := true, apart := false, narrowed := true }
def AlignPartsUptoSaid : Prop := alignPartsUptoRow.holds Try.pinned (OpenSpec.upto alignPartsSpec)

/-- 'footbridgelaw24.AlignCommon', WHERE WHAT IT READS IS OF BULK AT MOST 1048576: true; the input reads as it did. -/
def alignCommonUptoRow : OpenClaim := { program := "ytlnmllpmnhiidaa", sum := "750d2bf946d8245ff443ea3a4d3099514190b6279350ee49595a183f5335aab8", func := "footbridge/footbridgelaw24.AlignCommon", spec := "alignCommon", unfollowed := true, recurses := true, apart := false, narrowed := true }
def AlignCommonUptoSaid : Prop := alignCommonUptoRow.holds Try.pinned (OpenSpec.upto alignCommonSpec)

end Rows
end Go.Proofs.Ytlnmllpmnhiidaa
