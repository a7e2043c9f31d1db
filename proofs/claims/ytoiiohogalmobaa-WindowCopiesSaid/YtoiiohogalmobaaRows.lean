/-
  No cell of these rows narrows 'for every input' (looked for: loops, veiled, ifaces, maps, wideKeys, modest, calm, conditions, laid).
  DERIVED. THE GIVEN ROWS OF THIS SEAT. 10 by the template 'for every input the law returns true; each argument reads behind the call as it read before'; 0 by the template 'total and deterministic' (their statements: YtoiiohogalmobaaTotals.lean).
  GIVEN WITH THE SEED: the statements are not yours to turn. If you find one false, say at which input.
  Laid BY PROGRAM, IN A SANDBOX (cutbox-rows.mjs): the forced cells as the released guide's own fill.sh prints them over the translation 7cc0bf9e3917d298… (all of the seat's roots in one cut). By AI agents, Wed Nov 11 2026. No macro, syntax, notation, axiom, sorry.
-/
import Derived.Test.YtoiiohogalmobaaChecked
import GoSem.Claim
import GoSem.ClaimJoined
import GoSem.ClaimMapViews
import Derived.JoinedTies
import Derived.KernelRfl
namespace Go.Proofs.Ytoiiohogalmobaa
/- THE CELL 'sum', in the pinned program and in every row, IS THE sha256 OF THE DUMP (.gsa) THAT YtoiiohogalmobaaProg.lean LOADS. Nothing in Lean hashes anything: it is a label: what it is worth is what the hold of that sum in a sandbox is worth. -/
noncomputable def Try.pinned : Pinned := { name := "ytoiiohogalmobaa", sum := "7cc0bf9e3917d298ee48463fd0e89826e898e45c745151d31aa8a791e6e6e3af", checked := Try.checked }
namespace Rows
def none {H : Type} : Left H := { results := [], args := [] }

/-- 'footbridgelaw05.RingQueue': WHATEVER THE INPUT: true; the input reads as it did. -/
def ringQueueSpec : ChangeSpec := { name := "ringQueue", fn := fun _ => fun
  | [d1, d2, d3] => { results := [.lit (.bool true)], args := [d1, d2, d3] }
  | _ => none }
def ringQueueRow : OpenClaim := { program := "ytoiiohogalmobaa", sum := "7cc0bf9e3917d298ee48463fd0e89826e898e45c745151d31aa8a791e6e6e3af", func := "footbridge/footbridgelaw05.RingQueue", spec := "ringQueue", apart := false }
def RingQueueSaid : Prop := ringQueueRow.holds Try.pinned (OpenSpec.ofChange ringQueueSpec)

/-- ITS FALSE NEIGHBOUR: 'it returns false'. Refute it at one input. -/
def ringQueueWrong : ChangeSpec := { name := "ringQueue", fn := fun _ => fun
  | [d1, d2, d3] => { results := [.lit (.bool false)], args := [d1, d2, d3] }
  | _ => none }
def RingQueueWrongFalsely : Prop := ringQueueRow.holds Try.pinned (OpenSpec.ofChange ringQueueWrong)

/-- 'footbridgelaw05.RingOwn': WHATEVER THE INPUT: true; the input reads as it did. -/
def ringOwnSpec : ChangeSpec := { name := "ringOwn", fn := fun _ => fun
  | [d1, d2, d3] => { results := [.lit (.bool true)], args := [d1, d2, d3] }
  | _ => none }
def ringOwnRow : OpenClaim := { program := "ytoiiohogalmobaa", sum := "7cc0bf9e3917d298ee48463fd0e89826e898e45c745151d31aa8a791e6e6e3af", func := "footbridge/footbridgelaw05.RingOwn", spec := "ringOwn", apart := false }
def RingOwnSaid : Prop := ringOwnRow.holds Try.pinned (OpenSpec.ofChange ringOwnSpec)

/-- ITS FALSE NEIGHBOUR: 'it returns false'. Refute it at one input. -/
def ringOwnWrong : ChangeSpec := { name := "ringOwn", fn := fun _ => fun
  | [d1, d2, d3] => { results := [.lit (.bool false)], args := [d1, d2, d3] }
  | _ => none }
def RingOwnWrongFalsely : Prop := ringOwnRow.holds Try.pinned (OpenSpec.ofChange ringOwnWrong)

/-- 'footbridgelaw05.RingPlays': WHATEVER THE INPUT: true; the input reads as it did. -/
def ringPlaysSpec : ChangeSpec := { name := "ringPlays", fn := fun _ => fun
  | [d1, d2] => { results := [.lit (.bool true)], args := [d1, d2] }
  | _ => none }
def ringPlaysRow : OpenClaim := { program := "ytoiiohogalmobaa", sum := "7cc0bf9e3917d298ee48463fd0e89826e898e45c745151d31aa8a791e6e6e3af", func := "footbridge/footbridgelaw05.RingPlays", spec := "ringPlays", apart := false }
def RingPlaysSaid : Prop := ringPlaysRow.holds Try.pinned (OpenSpec.ofChange ringPlaysSpec)

/-- ITS FALSE NEIGHBOUR: 'it returns false'. Refute it at one input. -/
def ringPlaysWrong : ChangeSpec := { name := "ringPlays", fn := fun _ => fun
  | [d1, d2] => { results := [.lit (.bool false)], args := [d1, d2] }
  | _ => none }
def RingPlaysWrongFalsely : Prop := ringPlaysRow.holds Try.pinned (OpenSpec.ofChange ringPlaysWrong)

/-- 'footbridgelaw05.RingCopies': WHATEVER THE INPUT: true; the input reads as it did. -/
def ringCopiesSpec : ChangeSpec := { name := "ringCopies", fn := fun _ => fun
  | [d1, d2, d3, d4] => { results := [.lit (.bool true)], args := [d1, d2, d3, d4] }
  | _ => none }
def ringCopiesRow : OpenClaim := { program := "ytoiiohogalmobaa", sum := "7cc0bf9e3917d298ee48463fd0e89826e898e45c745151d31aa8a791e6e6e3af", func := "footbridge/footbridgelaw05.RingCopies", spec := "ringCopies", apart := false }
def RingCopiesSaid : Prop := ringCopiesRow.holds Try.pinned (OpenSpec.ofChange ringCopiesSpec)

/-- ITS FALSE NEIGHBOUR: 'it returns false'. Refute it at one input. -/
def ringCopiesWrong : ChangeSpec := { name := "ringCopies", fn := fun _ => fun
  | [d1, d2, d3, d4] => { results := [.lit (.bool false)], args := [d1, d2, d3, d4] }
  | _ => none }
def RingCopiesWrongFalsely : Prop := ringCopiesRow.holds Try.pinned (OpenSpec.ofChange ringCopiesWrong)

/-- 'footbridgelaw05.RingNil': WHATEVER THE INPUT: true; the input reads as it did. -/
def ringNilSpec : ChangeSpec := { name := "ringNil", fn := fun _ => fun
  | [d1, d2] => { results := [.lit (.bool true)], args := [d1, d2] }
  | _ => none }
def ringNilRow : OpenClaim := { program := "ytoiiohogalmobaa", sum := "7cc0bf9e3917d298ee48463fd0e89826e898e45c745151d31aa8a791e6e6e3af", func := "footbridge/footbridgelaw05.RingNil", spec := "ringNil", apart := false }
def RingNilSaid : Prop := ringNilRow.holds Try.pinned (OpenSpec.ofChange ringNilSpec)

/-- ITS FALSE NEIGHBOUR: 'it returns false'. Refute it at one input. -/
def ringNilWrong : ChangeSpec := { name := "ringNil", fn := fun _ => fun
  | [d1, d2] => { results := [.lit (.bool false)], args := [d1, d2] }
  | _ => none }
def RingNilWrongFalsely : Prop := ringNilRow.holds Try.pinned (OpenSpec.ofChange ringNilWrong)

/-- 'footbridgelaw21.WindowAsks': WHATEVER THE INPUT: true; the input reads as it did. -/
def windowAsksSpec : ChangeSpec := { name := "windowAsks", fn := fun _ => fun
  | [d1, d2, d3] => { results := [.lit (.bool true)], args := [d1, d2, d3] }
  | _ => none }
def windowAsksRow : OpenClaim := { program := "ytoiiohogalmobaa", sum := "7cc0bf9e3917d298ee48463fd0e89826e898e45c745151d31aa8a791e6e6e3af", func := "footbridge/footbridgelaw21.WindowAsks", spec := "windowAsks", unfollowed := true, recurses := true, apart := false }
def WindowAsksSaid : Prop := windowAsksRow.holds Try.pinned (OpenSpec.ofChange windowAsksSpec)

/-- ITS FALSE NEIGHBOUR: 'it returns false'. Refute it at one input. -/
def windowAsksWrong : ChangeSpec := { name := "windowAsks", fn := fun _ => fun
  | [d1, d2, d3] => { results := [.lit (.bool false)], args := [d1, d2, d3] }
  | _ => none }
def WindowAsksWrongFalsely : Prop := windowAsksRow.holds Try.pinned (OpenSpec.ofChange windowAsksWrong)

/-- 'footbridgelaw21.WindowWhole': WHATEVER THE INPUT: true; the input reads as it did. -/
def windowWholeSpec : ChangeSpec := { name := "windowWhole", fn := fun _ => fun
  | [d1, d2] => { results := [.lit (.bool true)], args := [d1, d2] }
  | _ => none }
def windowWholeRow : OpenClaim := { program := "ytoiiohogalmobaa", sum := "7cc0bf9e3917d298ee48463fd0e89826e898e45c745151d31aa8a791e6e6e3af", func := "footbridge/footbridgelaw21.WindowWhole", spec := "windowWhole", unfollowed := true, recurses := true, apart := false }
def WindowWholeSaid : Prop := windowWholeRow.holds Try.pinned (OpenSpec.ofChange windowWholeSpec)

/-- ITS FALSE NEIGHBOUR: 'it returns false'. Refute it at one input. -/
def windowWholeWrong : ChangeSpec := { name := "windowWhole", fn := fun _ => fun
  | [d1, d2] => { results := [.lit (.bool false)], args := [d1, d2] }
  | _ => none }
def WindowWholeWrongFalsely : Prop := windowWholeRow.holds Try.pinned (OpenSpec.ofChange windowWholeWrong)

/-- 'footbridgelaw21.WindowPlays': WHATEVER THE INPUT: true; the input reads as it did. -/
def windowPlaysSpec : ChangeSpec := { name := "windowPlays", fn := fun _ => fun
  | [d1, d2] => { results := [.lit (.bool true)], args := [d1, d2] }
  | _ => none }
def windowPlaysRow : OpenClaim := { program := "ytoiiohogalmobaa", sum := "7cc0bf9e3917d298ee48463fd0e89826e898e45c745151d31aa8a791e6e6e3af", func := "footbridge/footbridgelaw21.WindowPlays", spec := "windowPlays", apart := false }
def WindowPlaysSaid : Prop := windowPlaysRow.holds Try.pinned (OpenSpec.ofChange windowPlaysSpec)

/-- ITS FALSE NEIGHBOUR: 'it returns false'. Refute it at one input. -/
def windowPlaysWrong : ChangeSpec := { name := "windowPlays", fn := fun _ => fun
  | [d1, d2] => { results := [.lit (.bool false)], args := [d1, d2] }
  | _ => none }
def WindowPlaysWrongFalsely : Prop := windowPlaysRow.holds Try.pinned (OpenSpec.ofChange windowPlaysWrong)

/-- 'footbridgelaw21.WindowCopies': WHATEVER THE INPUT: true; the input reads as it did. -/
def windowCopiesSpec : ChangeSpec := { name := "windowCopies", fn := fun _ => fun
  | [d1, d2, d3, d4] => { results := [.lit (.bool true)], args := [d1, d2, d3, d4] }
  | _ => none }
def windowCopiesRow : OpenClaim := { program := "ytoiiohogalmobaa", sum := "7cc0bf9e3917d298ee48463fd0e89826e898e45c745151d31aa8a791e6e6e3af", func := "footbridge/footbridgelaw21.WindowCopies", spec := "windowCopies", apart := false }
def WindowCopiesSaid : Prop := windowCopiesRow.holds Try.pinned (OpenSpec.ofChange windowCopiesSpec)

/-- ITS FALSE NEIGHBOUR: 'it returns false'. Refute it at one input. -/
def windowCopiesWrong : ChangeSpec := { name := "windowCopies", fn := fun _ => fun
  | [d1, d2, d3, d4] => { results := [.lit (.bool false)], args := [d1, d2, d3, d4] }
  | _ => none }
def WindowCopiesWrongFalsely : Prop := windowCopiesRow.holds Try.pinned (OpenSpec.ofChange windowCopiesWrong)

/-- 'footbridgelaw21.WindowNil': WHATEVER THE INPUT: true; the input reads as it did. -/
def windowNilSpec : ChangeSpec := { name := "windowNil", fn := fun _ => fun
  | [d1, d2] => { results := [.lit (.bool true)], args := [d1, d2] }
  | _ => none }
def windowNilRow : OpenClaim := { program := "ytoiiohogalmobaa", sum := "7cc0bf9e3917d298ee48463fd0e89826e898e45c745151d31aa8a791e6e6e3af", func := "footbridge/footbridgelaw21.WindowNil", spec := "windowNil", unfollowed := true, recurses := true, apart := false }
def WindowNilSaid : Prop := windowNilRow.holds Try.pinned (OpenSpec.ofChange windowNilSpec)

/-- ITS FALSE NEIGHBOUR: 'it returns false'. Refute it at one input. -/
def windowNilWrong : ChangeSpec := { name := "windowNil", fn := fun _ => fun
  | [d1, d2] => { results := [.lit (.bool false)], args := [d1, d2] }
  | _ => none }
def WindowNilWrongFalsely : Prop := windowNilRow.holds Try.pinned (OpenSpec.ofChange windowNilWrong)

/- THE SECOND FORM. 'bulk': how many values and letters a reading holds, each counted each time it is reached (what is shared counts as often as it is met; a slice's spare places count too). A statement '..UptoSaid' is the law's where the arguments, and the package variables that the reading takes, are together of bulk at most 1048576: NARROWER than '..Said'. Prove '..Said' where nothing that the law and all that it calls make is longer than what came in: it says more and counts as full. Else prove '..UptoSaid'. A law counts once. -/
mutual
def uptoBulk {H : Type} : DataW H → Nat
  | .lit (.string bytes) => bytes.length + 1
  | .lit _ => 1
  | .nil => 1
  | .ptr d => uptoBulk d + 1
  | .slice elems spare => uptoBulkAll elems + uptoBulkAll spare + 1
  | .agg parts => uptoBulkAll parts + 1
  | .iface _ d => uptoBulk d + 1
  | .map entries => uptoBulkEntries entries + 1
  | .held _ => 1
def uptoBulkAll {H : Type} : List (DataW H) → Nat
  | [] => 0
  | d :: r => uptoBulk d + uptoBulkAll r
def uptoBulkEntries {H : Type} : List (Lit × DataW H) → Nat
  | [] => 0
  | x :: r => uptoBulkEntry x + uptoBulkEntries r
def uptoBulkEntry {H : Type} : Lit × DataW H → Nat
  | (.string bytes, d) => bytes.length + uptoBulk d + 1
  | (_, d) => uptoBulk d + 1
 end
def uptoSmall : (H : Type) → List (DataW H) → Bool := fun _ ds => decide (uptoBulkAll ds ≤ 1048576)
def OpenSpec.upto (s : _root_.Go.ChangeSpec) : _root_.Go.OpenSpec := { _root_.Go.OpenSpec.ofChange s with cond := some uptoSmall }

/-- 'footbridgelaw05.RingQueue', WHERE WHAT IT READS IS OF BULK AT MOST 1048576: true; the input reads as it did. -/
def ringQueueUptoRow : OpenClaim := { program := "ytoiiohogalmobaa", sum := "7cc0bf9e3917d298ee48463fd0e89826e898e45c745151d31aa8a791e6e6e3af", func := "footbridge/footbridgelaw05.RingQueue", spec := "ringQueue", apart := false, narrowed := true }
def RingQueueUptoSaid : Prop := ringQueueUptoRow.holds Try.pinned (OpenSpec.upto ringQueueSpec)

/-- 'footbridgelaw05.RingOwn', WHERE WHAT IT READS IS OF BULK AT MOST 1048576: true; the input reads as it did. -/
def ringOwnUptoRow : OpenClaim := { program := "ytoiiohogalmobaa", sum := "7cc0bf9e3917d298ee48463fd0e89826e898e45c745151d31aa8a791e6e6e3af", func := "footbridge/footbridgelaw05.RingOwn", spec := "ringOwn", apart := false, narrowed := true }
def RingOwnUptoSaid : Prop := ringOwnUptoRow.holds Try.pinned (OpenSpec.upto ringOwnSpec)

/-- 'footbridgelaw05.RingPlays', WHERE WHAT IT READS IS OF BULK AT MOST 1048576: true; the input reads as it did. -/
def ringPlaysUptoRow : OpenClaim := { program := "ytoiiohogalmobaa", sum := "7cc0bf9e3917d298ee48463fd0e89826e898e45c745151d31aa8a791e6e6e3af", func := "footbridge/footbridgelaw05.RingPlays", spec := "ringPlays", apart := false, narrowed := true }
def RingPlaysUptoSaid : Prop := ringPlaysUptoRow.holds Try.pinned (OpenSpec.upto ringPlaysSpec)

/-- 'footbridgelaw05.RingCopies', WHERE WHAT IT READS IS OF BULK AT MOST 1048576: true; the input reads as it did. -/
def ringCopiesUptoRow : OpenClaim := { program := "ytoiiohogalmobaa", sum := "7cc0bf9e3917d298ee48463fd0e89826e898e45c745151d31aa8a791e6e6e3af", func := "footbridge/footbridgelaw05.RingCopies", spec := "ringCopies", apart := false, narrowed := true }
def RingCopiesUptoSaid : Prop := ringCopiesUptoRow.holds Try.pinned (OpenSpec.upto ringCopiesSpec)

/-- 'footbridgelaw05.RingNil', WHERE WHAT IT READS IS OF BULK AT MOST 1048576: true; the input reads as it did. -/
def ringNilUptoRow : OpenClaim := { program := "ytoiiohogalmobaa", sum := "7cc0bf9e3917d298ee48463fd0e89826e898e45c745151d31aa8a791e6e6e3af", func := "footbridge/footbridgelaw05.RingNil", spec := "ringNil", apart := false, narrowed := true }
def RingNilUptoSaid : Prop := ringNilUptoRow.holds Try.pinned (OpenSpec.upto ringNilSpec)

/-- 'footbridgelaw21.WindowAsks', WHERE WHAT IT READS IS OF BULK AT MOST 1048576: true; the input reads as it did. -/
def windowAsksUptoRow : OpenClaim := { program := "ytoiiohogalmobaa", sum := "7cc0bf9e3917d298ee48463fd0e89826e898e45c745151d31aa8a791e6e6e3af", func := "footbridge/footbridgelaw21.WindowAsks", spec := "windowAsks", unfollowed := true, recurses := true, apart := false, narrowed := true }
def WindowAsksUptoSaid : Prop := windowAsksUptoRow.holds Try.pinned (OpenSpec.upto windowAsksSpec)

/-- 'footbridgelaw21.WindowWhole', WHERE WHAT IT READS IS OF BULK AT MOST 1048576: true; the input reads as it did. -/
def windowWholeUptoRow : OpenClaim := { program := "ytoiiohogalmobaa", sum := "7cc0bf9e3917d298ee48463fd0e89826e898e45c745151d31aa8a791e6e6e3af", func := "footbridge/footbridgelaw21.WindowWhole", spec := "windowWhole", unfollowed := true, recurses := true, apart := false, narrowed := true }
def WindowWholeUptoSaid : Prop := windowWholeUptoRow.holds Try.pinned (OpenSpec.upto windowWholeSpec)

/-- 'footbridgelaw21.WindowPlays', WHERE WHAT IT READS IS OF BULK AT MOST 1048576: true; the input reads as it did. -/
def windowPlaysUptoRow : OpenClaim := { program := "ytoiiohogalmobaa", sum := "7cc0bf9e3917d298ee48463fd0e89826e898e45c745151d31aa8a791e6e6e3af", func := "footbridge/footbridgelaw21.WindowPlays", spec := "windowPlays", apart := false, narrowed := true }
def WindowPlaysUptoSaid : Prop := windowPlaysUptoRow.holds Try.pinned (OpenSpec.upto windowPlaysSpec)

/-- 'footbridgelaw21.WindowCopies', WHERE WHAT IT READS IS OF BULK AT MOST 1048576: true; the input reads as it did. -/
def windowCopiesUptoRow : OpenClaim := { program := "ytoiiohogalmobaa", sum := "7cc0bf9e3917d298ee48463fd0e89826e898e45c745151d31aa8a791e6e6e3af", func := "footbridge/footbridgelaw21.WindowCopies", spec := "windowCopies", apart := false, narrowed := true }
def WindowCopiesUptoSaid : Prop := windowCopiesUptoRow.holds Try.pinned (OpenSpec.upto windowCopiesSpec)

/-- 'footbridgelaw21.WindowNil', WHERE WHAT IT READS IS OF BULK AT MOST 1048576: true; the input reads as it did. -/
def windowNilUptoRow : OpenClaim := { program := "ytoiiohogalmobaa", sum := "7cc0bf9e3917d298ee48463fd0e89826e898e45c745151d31aa8a791e6e6e3af", func := "footbridge/footbridgelaw21.WindowNil", spec := "windowNil", unfollowed := true, recurses := true, apart := false, narrowed := true }
def WindowNilUptoSaid : Prop := windowNilUptoRow.holds Try.pinned (OpenSpec.upto windowNilSpec)

end Rows
end Go.Proofs.Ytoiiohogalmobaa
