/-
  No cell of these rows narrows 'for every input' (looked for: loops, veiled, ifaces, maps, wideKeys, modest, calm, conditions, laid).
  DERIVED. THE GIVEN ROWS OF THIS SEAT. 7 by the template 'for every input the law returns true; each argument reads behind the call as it read before'; 0 by the template 'total and deterministic' (their statements: YtalkcjehehljcaaTotals.lean).
  GIVEN WITH THE SEED: the statements are not yours to turn. If you find one false, say at which input.
  Laid BY PROGRAM, IN A SANDBOX (cutbox-rows.mjs): the forced cells as the released guide's own fill.sh prints them over the translation 84d215b7a4a9e1e5… (all of the seat's roots in one cut). By AI agents, Wed Nov 11 2026. No macro, syntax, notation, axiom, sorry.
-/
import Derived.Test.YtalkcjehehljcaaChecked
import GoSem.Claim
import GoSem.ClaimJoined
import GoSem.ClaimMapViews
import Derived.JoinedTies
import Derived.KernelRfl
namespace Go.Proofs.Ytalkcjehehljcaa
/- THE CELL 'sum', in the pinned program and in every row, IS THE sha256 OF THE DUMP (.gsa) THAT YtalkcjehehljcaaProg.lean LOADS. Nothing in Lean hashes anything: it is a label: what it is worth is what the hold of that sum in a sandbox is worth. -/
noncomputable def Try.pinned : Pinned := { name := "ytalkcjehehljcaa", sum := "84d215b7a4a9e1e537a39d1d37527de575aaf6e87aa7ed8074940a95cf0dc72d", checked := Try.checked }
namespace Rows
def none {H : Type} : Left H := { results := [], args := [] }

/-- 'footbridgelaw27.CodecNumbers': WHATEVER THE INPUT: true; the input reads as it did. -/
def codecNumbersSpec : ChangeSpec := { name := "codecNumbers", fn := fun _ => fun
  | [d1, d2] => { results := [.lit (.bool true)], args := [d1, d2] }
  | _ => none }
def codecNumbersRow : OpenClaim := { program := "ytalkcjehehljcaa", sum := "84d215b7a4a9e1e537a39d1d37527de575aaf6e87aa7ed8074940a95cf0dc72d", func := "footbridge/footbridgelaw27.CodecNumbers", spec := "codecNumbers", unfollowed := true, recurses := true, apart := false }
def CodecNumbersSaid : Prop := codecNumbersRow.holds Try.pinned (OpenSpec.ofChange codecNumbersSpec)

/-- ITS FALSE NEIGHBOUR: 'it returns false'. Refute it at one input. -/
def codecNumbersWrong : ChangeSpec := { name := "codecNumbers", fn := fun _ => fun
  | [d1, d2] => { results := [.lit (.bool false)], args := [d1, d2] }
  | _ => none }
def CodecNumbersWrongFalsely : Prop := codecNumbersRow.holds Try.pinned (OpenSpec.ofChange codecNumbersWrong)

/-- 'footbridgelaw27.CodecEvents': WHATEVER THE INPUT: true; the input reads as it did. -/
def codecEventsSpec : ChangeSpec := { name := "codecEvents", fn := fun _ => fun
  | [d] => { results := [.lit (.bool true)], args := [d] }
  | _ => none }
def codecEventsRow : OpenClaim := { program := "ytalkcjehehljcaa", sum := "84d215b7a4a9e1e537a39d1d37527de575aaf6e87aa7ed8074940a95cf0dc72d", func := "footbridge/footbridgelaw27.CodecEvents", spec := "codecEvents", unfollowed := true, recurses := true, apart := false }
def CodecEventsSaid : Prop := codecEventsRow.holds Try.pinned (OpenSpec.ofChange codecEventsSpec)

/-- ITS FALSE NEIGHBOUR: 'it returns false'. Refute it at one input. -/
def codecEventsWrong : ChangeSpec := { name := "codecEvents", fn := fun _ => fun
  | [d] => { results := [.lit (.bool false)], args := [d] }
  | _ => none }
def CodecEventsWrongFalsely : Prop := codecEventsRow.holds Try.pinned (OpenSpec.ofChange codecEventsWrong)

/-- 'footbridgelaw27.CodecApart': WHATEVER THE INPUT: true; the input reads as it did. -/
def codecApartSpec : ChangeSpec := { name := "codecApart", fn := fun _ => fun
  | [d1, d2, d3, d4] => { results := [.lit (.bool true)], args := [d1, d2, d3, d4] }
  | _ => none }
def codecApartRow : OpenClaim := { program := "ytalkcjehehljcaa", sum := "84d215b7a4a9e1e537a39d1d37527de575aaf6e87aa7ed8074940a95cf0dc72d", func := "footbridge/footbridgelaw27.CodecApart", spec := "codecApart", unfollowed := true, recurses := true, apart := false }
def CodecApartSaid : Prop := codecApartRow.holds Try.pinned (OpenSpec.ofChange codecApartSpec)

/-- ITS FALSE NEIGHBOUR: 'it returns false'. Refute it at one input. -/
def codecApartWrong : ChangeSpec := { name := "codecApart", fn := fun _ => fun
  | [d1, d2, d3, d4] => { results := [.lit (.bool false)], args := [d1, d2, d3, d4] }
  | _ => none }
def CodecApartWrongFalsely : Prop := codecApartRow.holds Try.pinned (OpenSpec.ofChange codecApartWrong)

/-- 'footbridgelaw27.CodecLong': WHATEVER THE INPUT: true; the input reads as it did. -/
def codecLongSpec : ChangeSpec := { name := "codecLong", fn := fun _ => fun
  | [d] => { results := [.lit (.bool true)], args := [d] }
  | _ => none }
def codecLongRow : OpenClaim := { program := "ytalkcjehehljcaa", sum := "84d215b7a4a9e1e537a39d1d37527de575aaf6e87aa7ed8074940a95cf0dc72d", func := "footbridge/footbridgelaw27.CodecLong", spec := "codecLong", unfollowed := true, recurses := true, apart := false }
def CodecLongSaid : Prop := codecLongRow.holds Try.pinned (OpenSpec.ofChange codecLongSpec)

/-- ITS FALSE NEIGHBOUR: 'it returns false'. Refute it at one input. -/
def codecLongWrong : ChangeSpec := { name := "codecLong", fn := fun _ => fun
  | [d] => { results := [.lit (.bool false)], args := [d] }
  | _ => none }
def CodecLongWrongFalsely : Prop := codecLongRow.holds Try.pinned (OpenSpec.ofChange codecLongWrong)

/-- 'footbridgelaw27.CodecReplies': WHATEVER THE INPUT: true; the input reads as it did. -/
def codecRepliesSpec : ChangeSpec := { name := "codecReplies", fn := fun _ => fun
  | [d] => { results := [.lit (.bool true)], args := [d] }
  | _ => none }
def codecRepliesRow : OpenClaim := { program := "ytalkcjehehljcaa", sum := "84d215b7a4a9e1e537a39d1d37527de575aaf6e87aa7ed8074940a95cf0dc72d", func := "footbridge/footbridgelaw27.CodecReplies", spec := "codecReplies", unfollowed := true, recurses := true, apart := false }
def CodecRepliesSaid : Prop := codecRepliesRow.holds Try.pinned (OpenSpec.ofChange codecRepliesSpec)

/-- ITS FALSE NEIGHBOUR: 'it returns false'. Refute it at one input. -/
def codecRepliesWrong : ChangeSpec := { name := "codecReplies", fn := fun _ => fun
  | [d] => { results := [.lit (.bool false)], args := [d] }
  | _ => none }
def CodecRepliesWrongFalsely : Prop := codecRepliesRow.holds Try.pinned (OpenSpec.ofChange codecRepliesWrong)

/-- 'footbridgelaw27.CodecReads': WHATEVER THE INPUT: true; the input reads as it did. -/
def codecReadsSpec : ChangeSpec := { name := "codecReads", fn := fun _ => fun
  | [d] => { results := [.lit (.bool true)], args := [d] }
  | _ => none }
def codecReadsRow : OpenClaim := { program := "ytalkcjehehljcaa", sum := "84d215b7a4a9e1e537a39d1d37527de575aaf6e87aa7ed8074940a95cf0dc72d", func := "footbridge/footbridgelaw27.CodecReads", spec := "codecReads", unfollowed := true, recurses := true, apart := false }
def CodecReadsSaid : Prop := codecReadsRow.holds Try.pinned (OpenSpec.ofChange codecReadsSpec)

/-- ITS FALSE NEIGHBOUR: 'it returns false'. Refute it at one input. -/
def codecReadsWrong : ChangeSpec := { name := "codecReads", fn := fun _ => fun
  | [d] => { results := [.lit (.bool false)], args := [d] }
  | _ => none }
def CodecReadsWrongFalsely : Prop := codecReadsRow.holds Try.pinned (OpenSpec.ofChange codecReadsWrong)

/-- 'footbridgelaw27.CodecParts': WHATEVER THE INPUT: true; the input reads as it did. -/
def codecPartsSpec : ChangeSpec := { name := "codecParts", fn := fun _ => fun
  | [d1, d2, d3, d4] => { results := [.lit (.bool true)], args := [d1, d2, d3, d4] }
  | _ => none }
def codecPartsRow : OpenClaim := { program := "ytalkcjehehljcaa", sum := "84d215b7a4a9e1e537a39d1d37527de575aaf6e87aa7ed8074940a95cf0dc72d", func := "footbridge/footbridgelaw27.CodecParts", spec := "codecParts", unfollowed := true, recurses := true, apart := false }
def CodecPartsSaid : Prop := codecPartsRow.holds Try.pinned (OpenSpec.ofChange codecPartsSpec)

/-- ITS FALSE NEIGHBOUR: 'it returns false'. Refute it at one input. -/
def codecPartsWrong : ChangeSpec := { name := "codecParts", fn := fun _ => fun
  | [d1, d2, d3, d4] => { results := [.lit (.bool false)], args := [d1, d2, d3, d4] }
  | _ => none }
def CodecPartsWrongFalsely : Prop := codecPartsRow.holds Try.pinned (OpenSpec.ofChange codecPartsWrong)

/- THE SECOND FORM. 'bulk': how many values and letters a reading holds, each counted each time it is reached (what is shared counts as often as it is met; a slice's spare places count too). A statement '..UptoSaid' is the law's where the arguments, and the package variables that the reading takes, are together of bulk at most 1048576: NARROWER than '..Said'. Prove '..Said' where nothing that the law and all that it calls make is longer than what came in: it says more and counts as full. Else prove '..UptoSaid'. A law counts once. -/
mutual
def uptoBulk {H : Type} : DataW H → Nat
  | .lit (.string bytes) => bytes.length + 1
  | .lit _ => 1
  | .nil => 1
  | .ptr d => uptoBulk d + 1
  | .slice elems spare => uptoBulkAll elems + uptoBulkAll spare + 1
  | .agg parts => uptoBulkAll parts + 1
  | .iface _ d => uptoBulk d + 1
  | .map entries => uptoBulkEntries entries + 1
  | .held _ => 1
def uptoBulkAll {H : Type} : List (DataW H) → Nat
  | [] => 0
  | d :: r => uptoBulk d + uptoBulkAll r
def uptoBulkEntries {H : Type} : List (Lit × DataW H) → Nat
  | [] => 0
  | x :: r => uptoBulkEntry x + uptoBulkEntries r
def uptoBulkEntry {H : Type} : Lit × DataW H → Nat
  | (.string bytes, d) => bytes.length + uptoBulk d + 1
  | (_, d) => uptoBulk d + 1
 end
def uptoSmall : (H : Type) → List (DataW H) → Bool := fun _ ds => decide (uptoBulkAll ds ≤ 1048576)
def OpenSpec.upto (s : _root_.Go.ChangeSpec) : _root_.Go.OpenSpec := { _root_.Go.OpenSpec.ofChange s with cond := some uptoSmall }

/-- 'footbridgelaw27.CodecNumbers', WHERE WHAT IT READS IS OF BULK AT MOST 1048576: true; the input reads as it did. -/
def codecNumbersUptoRow : OpenClaim := { program := "ytalkcjehehljcaa", sum := "84d215b7a4a9e1e537a39d1d37527de575aaf6e87aa7ed8074940a95cf0dc72d", func := "footbridge/footbridgelaw27.CodecNumbers", spec := "codecNumbers", unfollowed := true, recurses := true, apart := false, narrowed := true }
def CodecNumbersUptoSaid : Prop := codecNumbersUptoRow.holds Try.pinned (OpenSpec.upto codecNumbersSpec)

/-- 'footbridgelaw27.CodecEvents', WHERE WHAT IT READS IS OF BULK AT MOST 1048576: true; the input reads as it did. -/
def codecEventsUptoRow : OpenClaim := { program := "ytalkcjehehljcaa", sum := "84d215b7a4a9e1e537a39d1d37527de575aaf6e87aa7ed8074940a95cf0dc72d", func := "footbridge/footbridgelaw27.CodecEvents", spec := "codecEvents", unfollowed := true, recurses := true, apart := false, narrowed := true }
def CodecEventsUptoSaid : Prop := codecEventsUptoRow.holds Try.pinned (OpenSpec.upto codecEventsSpec)

/-- 'footbridgelaw27.CodecApart', WHERE WHAT IT READS IS OF BULK AT MOST 1048576: true; the input reads as it did. -/
def codecApartUptoRow : OpenClaim := { program := "ytalkcjehehljcaa", sum := "84d215b7a4a9e1e537a39d1d37527de575aaf6e87aa7ed8074940a95cf0dc72d", func := "footbridge/footbridgelaw27.CodecApart", spec := "codecApart", unfollowed := true, recurses := true, apart := false, narrowed := true }
def CodecApartUptoSaid : Prop := codecApartUptoRow.holds Try.pinned (OpenSpec.upto codecApartSpec)

/-- 'footbridgelaw27.CodecLong', WHERE WHAT IT READS IS OF BULK AT MOST 1048576: true; the input reads as it did. -/
def codecLongUptoRow : OpenClaim := { program := "ytalkcjehehljcaa", sum := "84d215b7a4a9e1e537a39d1d37527de575aaf6e87aa7ed8074940a95cf0dc72d", func := "footbridge/footbridgelaw27.CodecLong", spec := "codecLong", unfollowed := true, recurses := true, apart := false, narrowed := true }
def CodecLongUptoSaid : Prop := codecLongUptoRow.holds Try.pinned (OpenSpec.upto codecLongSpec)

/-- 'footbridgelaw27.CodecReplies', WHERE WHAT IT READS IS OF BULK AT MOST 1048576: true; the input reads as it did. -/
def codecRepliesUptoRow : OpenClaim := { program := "ytalkcjehehljcaa", sum := "84d215b7a4a9e1e537a39d1d37527de575aaf6e87aa7ed8074940a95cf0dc72d", func := "footbridge/footbridgelaw27.CodecReplies", spec := "codecReplies", unfollowed := true, recurses := true, apart := false, narrowed := true }
def CodecRepliesUptoSaid : Prop := codecRepliesUptoRow.holds Try.pinned (OpenSpec.upto codecRepliesSpec)

/-- 'footbridgelaw27.CodecReads', WHERE WHAT IT READS IS OF BULK AT MOST 1048576: true; the input reads as it did. -/
def codecReadsUptoRow : OpenClaim := { program := "ytalkcjehehljcaa", sum := "84d215b7a4a9e1e537a39d1d37527de575aaf6e87aa7ed8074940a95cf0dc72d", func := "footbridge/footbridgelaw27.CodecReads", spec := "codecReads", unfollowed := true, recurses := true, apart := false, narrowed := true }
def CodecReadsUptoSaid : Prop := codecReadsUptoRow.holds Try.pinned (OpenSpec.upto codecReadsSpec)

/-- 'footbridgelaw27.CodecParts', WHERE WHAT IT READS IS OF BULK AT MOST 1048576: true; the input reads as it did. -/
def codecPartsUptoRow : OpenClaim := { program := "ytalkcjehehljcaa", sum := "84d215b7a4a9e1e537a39d1d37527de575aaf6e87aa7ed8074940a95cf0dc72d", func := "footbridge/footbridgelaw27.CodecParts", spec := "codecParts", unfollowed := true, recurses := true, apart := false, narrowed := true }
def CodecPartsUptoSaid : Prop := codecPartsUptoRow.holds Try.pinned (OpenSpec.upto codecPartsSpec)

end Rows
end Go.Proofs.Ytalkcjehehljcaa
