/-
  No cell of these rows narrows 'for every input' (looked for: loops, veiled, ifaces, maps, wideKeys, modest, calm, conditions, laid).
  DERIVED. THE GIVEN ROWS OF THIS SEAT. 8 by the template 'for every input the law returns true; each argument reads behind the call as it read before'; 0 by the template 'total and deterministic' (their statements: YtlcnldimfgbjeaaTotals.lean).
  GIVEN WITH THE SEED: the statements are not yours to turn. If you find one false, say at which input.
  Laid BY PROGRAM, IN A SANDBOX (cutbox-rows.mjs): the forced cells as the released guide's own fill.sh prints them over the translation b2c1d673d7a41233… (all of the seat's roots in one cut). By AI agents, Wed Nov 11 2026. No macro, syntax, notation, axiom, sorry.
-/
import Derived.Test.YtlcnldimfgbjeaaChecked
import GoSem.Claim
import GoSem.ClaimJoined
import GoSem.ClaimMapViews
import Derived.JoinedTies
import Derived.KernelRfl
namespace Go.Proofs.Ytlcnldimfgbjeaa
/- THE CELL 'sum', in the pinned program and in every row, IS THE sha256 OF THE DUMP (.gsa) THAT YtlcnldimfgbjeaaProg.lean LOADS. Nothing in Lean hashes anything: it is a label: what it is worth is what the hold of that sum in a sandbox is worth. -/
noncomputable def Try.pinned : Pinned := { name := "ytlcnldimfgbjeaa", sum := "b2c1d673d7a4123314692343151859c18a8696dc56ca411ee41a18a5333103a1", checked := Try.checked }
namespace Rows
def none {H : Type} : Left H := { results := [], args := [] }

/-- 'footbridgelaw11.QueuePlays': WHATEVER THE INPUT: true; the input reads as it did. -/
def queuePlaysSpec : ChangeSpec := { name := "queuePlays", fn := fun _ => fun
  | [d] => { results := [.lit (.bool true)], args := [d] }
  | _ => none }
def queuePlaysRow : OpenClaim := { program := "ytlcnldimfgbjeaa", sum := "b2c1d673d7a4123314692343151859c18a8696dc56ca411ee41a18a5333103a1", func := "footbridge/footbridgelaw11.QueuePlays", spec := "queuePlays", unfollowed := true, recurses := true, plainKeys := false, apart := false }
def QueuePlaysSaid : Prop := queuePlaysRow.holds Try.pinned (OpenSpec.ofChange queuePlaysSpec)

/-- ITS FALSE NEIGHBOUR: 'it returns false'. Refute it at one input. -/
def queuePlaysWrong : ChangeSpec := { name := "queuePlays", fn := fun _ => fun
  | [d] => { results := [.lit (.bool false)], args := [d] }
  | _ => none }
def QueuePlaysWrongFalsely : Prop := queuePlaysRow.holds Try.pinned (OpenSpec.ofChange queuePlaysWrong)

/-- 'footbridgelaw10.PairSteps': WHATEVER THE INPUT: true; the input reads as it did. -/
def pairStepsSpec : ChangeSpec := { name := "pairSteps", fn := fun _ => fun
  | [d1, d2] => { results := [.lit (.bool true)], args := [d1, d2] }
  | _ => none }
def pairStepsRow : OpenClaim := { program := "ytlcnldimfgbjeaa", sum := "b2c1d673d7a4123314692343151859c18a8696dc56ca411ee41a18a5333103a1", func := "footbridge/footbridgelaw10.PairSteps", spec := "pairSteps", inPlace := ["internal/bytealg.IndexByteString"], unfollowed := true, recurses := true, plainKeys := false, apart := false }
def PairStepsSaid : Prop := pairStepsRow.holds Try.pinned (OpenSpec.ofChange pairStepsSpec)

/-- ITS FALSE NEIGHBOUR: 'it returns false'. Refute it at one input. -/
def pairStepsWrong : ChangeSpec := { name := "pairSteps", fn := fun _ => fun
  | [d1, d2] => { results := [.lit (.bool false)], args := [d1, d2] }
  | _ => none }
def PairStepsWrongFalsely : Prop := pairStepsRow.holds Try.pinned (OpenSpec.ofChange pairStepsWrong)

/-- 'footbridgelaw14.EncodeRows': WHATEVER THE INPUT: true; the input reads as it did. -/
def encodeRowsSpec : ChangeSpec := { name := "encodeRows", fn := fun _ => fun
  | [d1, d2] => { results := [.lit (.bool true)], args := [d1, d2] }
  | _ => none }
def encodeRowsRow : OpenClaim := { program := "ytlcnldimfgbjeaa", sum := "b2c1d673d7a4123314692343151859c18a8696dc56ca411ee41a18a5333103a1", func := "footbridge/footbridgelaw14.EncodeRows", spec := "encodeRows", inPlace := ["internal/bytealg.IndexByteString"], unfollowed := true, recurses := true, plainKeys := false, apart := false }
def EncodeRowsSaid : Prop := encodeRowsRow.holds Try.pinned (OpenSpec.ofChange encodeRowsSpec)

/-- ITS FALSE NEIGHBOUR: 'it returns false'. Refute it at one input. -/
def encodeRowsWrong : ChangeSpec := { name := "encodeRows", fn := fun _ => fun
  | [d1, d2] => { results := [.lit (.bool false)], args := [d1, d2] }
  | _ => none }
def EncodeRowsWrongFalsely : Prop := encodeRowsRow.holds Try.pinned (OpenSpec.ofChange encodeRowsWrong)

/-- 'footbridgelaw14.EncodeBytes': WHATEVER THE INPUT: true; the input reads as it did. -/
def encodeBytesSpec : ChangeSpec := { name := "encodeBytes", fn := fun _ => fun
  | [d1, d2] => { results := [.lit (.bool true)], args := [d1, d2] }
  | _ => none }
def encodeBytesRow : OpenClaim := { program := "ytlcnldimfgbjeaa", sum := "b2c1d673d7a4123314692343151859c18a8696dc56ca411ee41a18a5333103a1", func := "footbridge/footbridgelaw14.EncodeBytes", spec := "encodeBytes", inPlace := ["internal/bytealg.IndexByteString"], unfollowed := true, recurses := true, plainKeys := false, apart := false }
def EncodeBytesSaid : Prop := encodeBytesRow.holds Try.pinned (OpenSpec.ofChange encodeBytesSpec)

/-- ITS FALSE NEIGHBOUR: 'it returns false'. Refute it at one input. -/
def encodeBytesWrong : ChangeSpec := { name := "encodeBytes", fn := fun _ => fun
  | [d1, d2] => { results := [.lit (.bool false)], args := [d1, d2] }
  | _ => none }
def EncodeBytesWrongFalsely : Prop := encodeBytesRow.holds Try.pinned (OpenSpec.ofChange encodeBytesWrong)

/-- 'footbridgelaw14.EncodeCuts': WHATEVER THE INPUT: true; the input reads as it did. -/
def encodeCutsSpec : ChangeSpec := { name := "encodeCuts", fn := fun _ => fun
  | [d1, d2, d3] => { results := [.lit (.bool true)], args := [d1, d2, d3] }
  | _ => none }
def encodeCutsRow : OpenClaim := { program := "ytlcnldimfgbjeaa", sum := "b2c1d673d7a4123314692343151859c18a8696dc56ca411ee41a18a5333103a1", func := "footbridge/footbridgelaw14.EncodeCuts", spec := "encodeCuts", inPlace := ["internal/bytealg.IndexByteString"], unfollowed := true, recurses := true, plainKeys := false, apart := false }
def EncodeCutsSaid : Prop := encodeCutsRow.holds Try.pinned (OpenSpec.ofChange encodeCutsSpec)

/-- ITS FALSE NEIGHBOUR: 'it returns false'. Refute it at one input. -/
def encodeCutsWrong : ChangeSpec := { name := "encodeCuts", fn := fun _ => fun
  | [d1, d2, d3] => { results := [.lit (.bool false)], args := [d1, d2, d3] }
  | _ => none }
def EncodeCutsWrongFalsely : Prop := encodeCutsRow.holds Try.pinned (OpenSpec.ofChange encodeCutsWrong)

/-- 'footbridgelaw14.EncodeDead': WHATEVER THE INPUT: true; the input reads as it did. -/
def encodeDeadSpec : ChangeSpec := { name := "encodeDead", fn := fun _ => fun
  | [d1, d2] => { results := [.lit (.bool true)], args := [d1, d2] }
  | _ => none }
def encodeDeadRow : OpenClaim := { program := "ytlcnldimfgbjeaa", sum := "b2c1d673d7a4123314692343151859c18a8696dc56ca411ee41a18a5333103a1", func := "footbridge/footbridgelaw14.EncodeDead", spec := "encodeDead", inPlace := ["internal/bytealg.IndexByteString"], unfollowed := true, recurses := true, plainKeys := false, apart := false }
def EncodeDeadSaid : Prop := encodeDeadRow.holds Try.pinned (OpenSpec.ofChange encodeDeadSpec)

/-- ITS FALSE NEIGHBOUR: 'it returns false'. Refute it at one input. -/
def encodeDeadWrong : ChangeSpec := { name := "encodeDead", fn := fun _ => fun
  | [d1, d2] => { results := [.lit (.bool false)], args := [d1, d2] }
  | _ => none }
def EncodeDeadWrongFalsely : Prop := encodeDeadRow.holds Try.pinned (OpenSpec.ofChange encodeDeadWrong)

/-- 'footbridgelaw14.EncodeSame': WHATEVER THE INPUT: true; the input reads as it did. -/
def encodeSameSpec : ChangeSpec := { name := "encodeSame", fn := fun _ => fun
  | [d1, d2, d3] => { results := [.lit (.bool true)], args := [d1, d2, d3] }
  | _ => none }
def encodeSameRow : OpenClaim := { program := "ytlcnldimfgbjeaa", sum := "b2c1d673d7a4123314692343151859c18a8696dc56ca411ee41a18a5333103a1", func := "footbridge/footbridgelaw14.EncodeSame", spec := "encodeSame", inPlace := ["internal/bytealg.IndexByteString"], unfollowed := true, recurses := true, plainKeys := false, apart := false }
def EncodeSameSaid : Prop := encodeSameRow.holds Try.pinned (OpenSpec.ofChange encodeSameSpec)

/-- ITS FALSE NEIGHBOUR: 'it returns false'. Refute it at one input. -/
def encodeSameWrong : ChangeSpec := { name := "encodeSame", fn := fun _ => fun
  | [d1, d2, d3] => { results := [.lit (.bool false)], args := [d1, d2, d3] }
  | _ => none }
def EncodeSameWrongFalsely : Prop := encodeSameRow.holds Try.pinned (OpenSpec.ofChange encodeSameWrong)

/-- 'footbridgelaw14.EncodePairs': WHATEVER THE INPUT: true; the input reads as it did. -/
def encodePairsSpec : ChangeSpec := { name := "encodePairs", fn := fun _ => fun
  | [d1, d2] => { results := [.lit (.bool true)], args := [d1, d2] }
  | _ => none }
def encodePairsRow : OpenClaim := { program := "ytlcnldimfgbjeaa", sum := "b2c1d673d7a4123314692343151859c18a8696dc56ca411ee41a18a5333103a1", func := "footbridge/footbridgelaw14.EncodePairs", spec := "encodePairs", inPlace := ["internal/bytealg.IndexByteString"], unfollowed := true, recurses := true, plainKeys := false, apart := false }
def EncodePairsSaid : Prop := encodePairsRow.holds Try.pinned (OpenSpec.ofChange encodePairsSpec)

/-- ITS FALSE NEIGHBOUR: 'it returns false'. Refute it at one input. -/
def encodePairsWrong : ChangeSpec := { name := "encodePairs", fn := fun _ => fun
  | [d1, d2] => { results := [.lit (.bool false)], args := [d1, d2] }
  | _ => none }
def EncodePairsWrongFalsely : Prop := encodePairsRow.holds Try.pinned (OpenSpec.ofChange encodePairsWrong)

/- THE SECOND FORM. 'bulk': how many values and letters a reading holds, each counted each time it is reached (what is shared counts as often as it is met; a slice's spare places count too). A statement '..UptoSaid' is the law's where the arguments, and the package variables that the reading takes, are together of bulk at most 1048576: NARROWER than '..Said'. Prove '..Said' where nothing that the law and all that it calls make is longer than what came in: it says more and counts as full. Else prove '..UptoSaid'. A law counts once. -/
mutual
def uptoBulk {H : Type} : DataW H → Nat
  | .lit (.string bytes) => bytes.length + 1
  | .lit _ => 1
  | .nil => 1
  | .ptr d => uptoBulk d + 1
  | .slice elems spare => uptoBulkAll elems + uptoBulkAll spare + 1
  | .agg parts => uptoBulkAll parts + 1
  | .iface _ d => uptoBulk d + 1
  | .map entries => uptoBulkEntries entries + 1
  | .held _ => 1
def uptoBulkAll {H : Type} : List (DataW H) → Nat
  | [] => 0
  | d :: r => uptoBulk d + uptoBulkAll r
def uptoBulkEntries {H : Type} : List (Lit × DataW H) → Nat
  | [] => 0
  | x :: r => uptoBulkEntry x + uptoBulkEntries r
def uptoBulkEntry {H : Type} : Lit × DataW H → Nat
  | (.string bytes, d) => bytes.length + uptoBulk d + 1
  | (_, d) => uptoBulk d + 1
 end
def uptoSmall : (H : Type) → List (DataW H) → Bool := fun _ ds => decide (uptoBulkAll ds ≤ 1048576)
def OpenSpec.upto (s : _root_.Go.ChangeSpec) : _root_.Go.OpenSpec := { _root_.Go.OpenSpec.ofChange s with cond := some uptoSmall }

/-- 'footbridgelaw11.QueuePlays', WHERE WHAT IT READS IS OF BULK AT MOST 1048576: true; the input reads as it did. -/
def queuePlaysUptoRow : OpenClaim := { program := "ytlcnldimfgbjeaa", sum := "b2c1d673d7a4123314692343151859c18a8696dc56ca411ee41a18a5333103a1", func := "footbridge/footbridgelaw11.QueuePlays", spec := "queuePlays", unfollowed := true, recurses := true, plainKeys := false, apart := false, narrowed := true }
def QueuePlaysUptoSaid : Prop := queuePlaysUptoRow.holds Try.pinned (OpenSpec.upto queuePlaysSpec)

/-- 'footbridgelaw10.PairSteps', WHERE WHAT IT READS IS OF BULK AT MOST 1048576: true; the input reads as it did. -/
def pairStepsUptoRow : OpenClaim := { program := "ytlcnldimfgbjeaa", sum := "b2c1d673d7a4123314692343151859c18a8696dc56ca411ee41a18a5333103a1", func := "footbridge/footbridgelaw10.PairSteps", spec := "pairSteps", inPlace := ["internal/bytealg.IndexByteString"], unfollowed := true, recurses := true, plainKeys := false, apart := false, narrowed := true }
def PairStepsUptoSaid : Prop := pairStepsUptoRow.holds Try.pinned (OpenSpec.upto pairStepsSpec)

/-- 'footbridgelaw14.EncodeRows', WHERE WHAT IT READS IS OF BULK AT MOST 1048576: true; the input reads as it did. -/
def encodeRowsUptoRow : OpenClaim := { program := "ytlcnldimfgbjeaa", sum := "b2c1d673d7a4123314692343151859c18a8696dc56ca411ee41a18a5333103a1", func := "footbridge/footbridgelaw14.EncodeRows", spec := "encodeRows", inPlace := ["internal/bytealg.IndexByteString"], unfollowed := true, recurses := true, plainKeys := false, apart := false, narrowed := true }
def EncodeRowsUptoSaid : Prop := encodeRowsUptoRow.holds Try.pinned (OpenSpec.upto encodeRowsSpec)

/-- 'footbridgelaw14.EncodeBytes', WHERE WHAT IT READS IS OF BULK AT MOST 1048576: true; the input reads as it did. -/
def encodeBytesUptoRow : OpenClaim := { program := "ytlcnldimfgbjeaa", sum := "b2c1d673d7a4123314692343151859c18a8696dc56ca411ee41a18a5333103a1", func := "footbridge/footbridgelaw14.EncodeBytes", spec := "encodeBytes", inPlace := ["internal/bytealg.IndexByteString"], unfollowed := true, recurses := true, plainKeys := false, apart := false, narrowed := true }
def EncodeBytesUptoSaid : Prop := encodeBytesUptoRow.holds Try.pinned (OpenSpec.upto encodeBytesSpec)

/-- 'footbridgelaw14.EncodeCuts', WHERE WHAT IT READS IS OF BULK AT MOST 1048576: true; the input reads as it did. -/
def encodeCutsUptoRow : OpenClaim := { program := "ytlcnldimfgbjeaa", sum := "b2c1d673d7a4123314692343151859c18a8696dc56ca411ee41a18a5333103a1", func := "footbridge/footbridgelaw14.EncodeCuts", spec := "encodeCuts", inPlace := ["internal/bytealg.IndexByteString"], unfollowed := true, recurses := true, plainKeys := false, apart := false, narrowed := true }
def EncodeCutsUptoSaid : Prop := encodeCutsUptoRow.holds Try.pinned (OpenSpec.upto encodeCutsSpec)

/-- 'footbridgelaw14.EncodeDead', WHERE WHAT IT READS IS OF BULK AT MOST 1048576: true; the input reads as it did. -/
def encodeDeadUptoRow : OpenClaim := { program := "ytlcnldimfgbjeaa", sum := "b2c1d673d7a4123314692343151859c18a8696dc56ca411ee41a18a5333103a1", func := "footbridge/footbridgelaw14.EncodeDead", spec := "encodeDead", inPlace := ["internal/bytealg.IndexByteString"], unfollowed := true, recurses := true, plainKeys := false, apart := false, narrowed := true }
def EncodeDeadUptoSaid : Prop := encodeDeadUptoRow.holds Try.pinned (OpenSpec.upto encodeDeadSpec)

/-- 'footbridgelaw14.EncodeSame', WHERE WHAT IT READS IS OF BULK AT MOST 1048576: true; the input reads as it did. -/
def encodeSameUptoRow : OpenClaim := { program := "ytlcnldimfgbjeaa", sum := "b2c1d673d7a4123314692343151859c18a8696dc56ca411ee41a18a5333103a1", func := "footbridge/footbridgelaw14.EncodeSame", spec := "encodeSame", inPlace := ["internal/bytealg.IndexByteString"], unfollowed := true, recurses := true, plainKeys := false, apart := false, narrowed := true }
def EncodeSameUptoSaid : Prop := encodeSameUptoRow.holds Try.pinned (OpenSpec.upto encodeSameSpec)

/-- 'footbridgelaw14.EncodePairs', WHERE WHAT IT READS IS OF BULK AT MOST 1048576: true; the input reads as it did. -/
def encodePairsUptoRow : OpenClaim := { program := "ytlcnldimfgbjeaa", sum := "b2c1d673d7a4123314692343151859c18a8696dc56ca411ee41a18a5333103a1", func := "footbridge/footbridgelaw14.EncodePairs", spec := "encodePairs", inPlace := ["internal/bytealg.IndexByteString"], unfollowed := true, recurses := true, plainKeys := false, apart := false, narrowed := true }
def EncodePairsUptoSaid : Prop := encodePairsUptoRow.holds Try.pinned (OpenSpec.upto encodePairsSpec)

end Rows
end Go.Proofs.Ytlcnldimfgbjeaa
