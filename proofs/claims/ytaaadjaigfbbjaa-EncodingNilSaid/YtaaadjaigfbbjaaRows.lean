/-
  No cell of these rows narrows 'for every input' (looked for: loops, veiled, ifaces, maps, wideKeys, modest, calm, conditions, laid).
  DERIVED. THE GIVEN ROWS OF THIS SEAT. 9 by the template 'for every input the law returns true; each argument reads behind the call as it read before'; 0 by the template 'total and deterministic' (their statements: YtaaadjaigfbbjaaTotals.lean).
  GIVEN WITH THE SEED: the statements are not yours to turn. If you find one false, say at which input.
  Laid BY PROGRAM, IN A SANDBOX (cutbox-rows.mjs): the forced cells as the released guide's own fill.sh prints them over the translation 8a80eaa742edf8be… (all of the seat's roots in one cut). By AI agents, Wed Nov 11 2026. No macro, syntax, notation, axiom, sorry.
-/
import Derived.Test.YtaaadjaigfbbjaaChecked
import GoSem.Claim
import GoSem.ClaimJoined
import GoSem.ClaimMapViews
import Derived.JoinedTies
import Derived.KernelRfl
namespace Go.Proofs.Ytaaadjaigfbbjaa
/- THE CELL 'sum', in the pinned program and in every row, IS THE sha256 OF THE DUMP (.gsa) THAT YtaaadjaigfbbjaaProg.lean LOADS. Nothing in Lean hashes anything: it is a label: what it is worth is what the hold of that sum in a sandbox is worth. -/
noncomputable def Try.pinned : Pinned := { name := "ytaaadjaigfbbjaa", sum := "8a80eaa742edf8beeac6d9f107250d95afceda3218ea5f312fd7e693142be42a", checked := Try.checked }
namespace Rows
def none {H : Type} : Left H := { results := [], args := [] }

/-- 'sleuthlaw01.EncodingOrder': WHATEVER THE INPUT: true; the input reads as it did. -/
def encodingOrderSpec : ChangeSpec := { name := "encodingOrder", fn := fun _ => fun
  | [d1, d2] => { results := [.lit (.bool true)], args := [d1, d2] }
  | _ => none }
def encodingOrderRow : OpenClaim := { program := "ytaaadjaigfbbjaa", sum := "8a80eaa742edf8beeac6d9f107250d95afceda3218ea5f312fd7e693142be42a", func := "sleuth/sleuthlaw01.EncodingOrder", spec := "encodingOrder", apart := false }
def EncodingOrderSaid : Prop := encodingOrderRow.holds Try.pinned (OpenSpec.ofChange encodingOrderSpec)

/-- ITS FALSE NEIGHBOUR: 'it returns false'. Refute it at one input. -/
def encodingOrderWrong : ChangeSpec := { name := "encodingOrder", fn := fun _ => fun
  | [d1, d2] => { results := [.lit (.bool false)], args := [d1, d2] }
  | _ => none }
def EncodingOrderWrongFalsely : Prop := encodingOrderRow.holds Try.pinned (OpenSpec.ofChange encodingOrderWrong)

/-- 'sleuthlaw01.EncodingNumbers': WHATEVER THE INPUT: true; the input reads as it did. -/
def encodingNumbersSpec : ChangeSpec := { name := "encodingNumbers", fn := fun _ => fun
  | [d1, d2] => { results := [.lit (.bool true)], args := [d1, d2] }
  | _ => none }
def encodingNumbersRow : OpenClaim := { program := "ytaaadjaigfbbjaa", sum := "8a80eaa742edf8beeac6d9f107250d95afceda3218ea5f312fd7e693142be42a", func := "sleuth/sleuthlaw01.EncodingNumbers", spec := "encodingNumbers", apart := false }
def EncodingNumbersSaid : Prop := encodingNumbersRow.holds Try.pinned (OpenSpec.ofChange encodingNumbersSpec)

/-- ITS FALSE NEIGHBOUR: 'it returns false'. Refute it at one input. -/
def encodingNumbersWrong : ChangeSpec := { name := "encodingNumbers", fn := fun _ => fun
  | [d1, d2] => { results := [.lit (.bool false)], args := [d1, d2] }
  | _ => none }
def EncodingNumbersWrongFalsely : Prop := encodingNumbersRow.holds Try.pinned (OpenSpec.ofChange encodingNumbersWrong)

/-- 'sleuthlaw01.EncodingWrites': WHATEVER THE INPUT: true; the input reads as it did. -/
def encodingWritesSpec : ChangeSpec := { name := "encodingWrites", fn := fun _ => fun
  | [d] => { results := [.lit (.bool true)], args := [d] }
  | _ => none }
def encodingWritesRow : OpenClaim := { program := "ytaaadjaigfbbjaa", sum := "8a80eaa742edf8beeac6d9f107250d95afceda3218ea5f312fd7e693142be42a", func := "sleuth/sleuthlaw01.EncodingWrites", spec := "encodingWrites", unfollowed := true, recurses := true, apart := false }
def EncodingWritesSaid : Prop := encodingWritesRow.holds Try.pinned (OpenSpec.ofChange encodingWritesSpec)

/-- ITS FALSE NEIGHBOUR: 'it returns false'. Refute it at one input. -/
def encodingWritesWrong : ChangeSpec := { name := "encodingWrites", fn := fun _ => fun
  | [d] => { results := [.lit (.bool false)], args := [d] }
  | _ => none }
def EncodingWritesWrongFalsely : Prop := encodingWritesRow.holds Try.pinned (OpenSpec.ofChange encodingWritesWrong)

/-- 'sleuthlaw01.EncodingReads': WHATEVER THE INPUT: true; the input reads as it did. -/
def encodingReadsSpec : ChangeSpec := { name := "encodingReads", fn := fun _ => fun
  | [d1, d2] => { results := [.lit (.bool true)], args := [d1, d2] }
  | _ => none }
def encodingReadsRow : OpenClaim := { program := "ytaaadjaigfbbjaa", sum := "8a80eaa742edf8beeac6d9f107250d95afceda3218ea5f312fd7e693142be42a", func := "sleuth/sleuthlaw01.EncodingReads", spec := "encodingReads", unfollowed := true, recurses := true, apart := false }
def EncodingReadsSaid : Prop := encodingReadsRow.holds Try.pinned (OpenSpec.ofChange encodingReadsSpec)

/-- ITS FALSE NEIGHBOUR: 'it returns false'. Refute it at one input. -/
def encodingReadsWrong : ChangeSpec := { name := "encodingReads", fn := fun _ => fun
  | [d1, d2] => { results := [.lit (.bool false)], args := [d1, d2] }
  | _ => none }
def EncodingReadsWrongFalsely : Prop := encodingReadsRow.holds Try.pinned (OpenSpec.ofChange encodingReadsWrong)

/-- 'sleuthlaw01.EncodingDecodes': WHATEVER THE INPUT: true; the input reads as it did. -/
def encodingDecodesSpec : ChangeSpec := { name := "encodingDecodes", fn := fun _ => fun
  | [d] => { results := [.lit (.bool true)], args := [d] }
  | _ => none }
def encodingDecodesRow : OpenClaim := { program := "ytaaadjaigfbbjaa", sum := "8a80eaa742edf8beeac6d9f107250d95afceda3218ea5f312fd7e693142be42a", func := "sleuth/sleuthlaw01.EncodingDecodes", spec := "encodingDecodes", unfollowed := true, recurses := true, apart := false }
def EncodingDecodesSaid : Prop := encodingDecodesRow.holds Try.pinned (OpenSpec.ofChange encodingDecodesSpec)

/-- ITS FALSE NEIGHBOUR: 'it returns false'. Refute it at one input. -/
def encodingDecodesWrong : ChangeSpec := { name := "encodingDecodes", fn := fun _ => fun
  | [d] => { results := [.lit (.bool false)], args := [d] }
  | _ => none }
def EncodingDecodesWrongFalsely : Prop := encodingDecodesRow.holds Try.pinned (OpenSpec.ofChange encodingDecodesWrong)

/-- 'sleuthlaw01.EncodingSpans': WHATEVER THE INPUT: true; the input reads as it did. -/
def encodingSpansSpec : ChangeSpec := { name := "encodingSpans", fn := fun _ => fun
  | [d] => { results := [.lit (.bool true)], args := [d] }
  | _ => none }
def encodingSpansRow : OpenClaim := { program := "ytaaadjaigfbbjaa", sum := "8a80eaa742edf8beeac6d9f107250d95afceda3218ea5f312fd7e693142be42a", func := "sleuth/sleuthlaw01.EncodingSpans", spec := "encodingSpans", unfollowed := true, recurses := true, apart := false }
def EncodingSpansSaid : Prop := encodingSpansRow.holds Try.pinned (OpenSpec.ofChange encodingSpansSpec)

/-- ITS FALSE NEIGHBOUR: 'it returns false'. Refute it at one input. -/
def encodingSpansWrong : ChangeSpec := { name := "encodingSpans", fn := fun _ => fun
  | [d] => { results := [.lit (.bool false)], args := [d] }
  | _ => none }
def EncodingSpansWrongFalsely : Prop := encodingSpansRow.holds Try.pinned (OpenSpec.ofChange encodingSpansWrong)

/-- 'sleuthlaw01.EncodingCuts': WHATEVER THE INPUT: true; the input reads as it did. -/
def encodingCutsSpec : ChangeSpec := { name := "encodingCuts", fn := fun _ => fun
  | [d1, d2, d3] => { results := [.lit (.bool true)], args := [d1, d2, d3] }
  | _ => none }
def encodingCutsRow : OpenClaim := { program := "ytaaadjaigfbbjaa", sum := "8a80eaa742edf8beeac6d9f107250d95afceda3218ea5f312fd7e693142be42a", func := "sleuth/sleuthlaw01.EncodingCuts", spec := "encodingCuts", unfollowed := true, recurses := true, apart := false }
def EncodingCutsSaid : Prop := encodingCutsRow.holds Try.pinned (OpenSpec.ofChange encodingCutsSpec)

/-- ITS FALSE NEIGHBOUR: 'it returns false'. Refute it at one input. -/
def encodingCutsWrong : ChangeSpec := { name := "encodingCuts", fn := fun _ => fun
  | [d1, d2, d3] => { results := [.lit (.bool false)], args := [d1, d2, d3] }
  | _ => none }
def EncodingCutsWrongFalsely : Prop := encodingCutsRow.holds Try.pinned (OpenSpec.ofChange encodingCutsWrong)

/-- 'sleuthlaw01.EncodingNil': WHATEVER THE INPUT: true; the input reads as it did. -/
def encodingNilSpec : ChangeSpec := { name := "encodingNil", fn := fun _ => fun
  | [d1, d2] => { results := [.lit (.bool true)], args := [d1, d2] }
  | _ => none }
def encodingNilRow : OpenClaim := { program := "ytaaadjaigfbbjaa", sum := "8a80eaa742edf8beeac6d9f107250d95afceda3218ea5f312fd7e693142be42a", func := "sleuth/sleuthlaw01.EncodingNil", spec := "encodingNil", unfollowed := true, recurses := true, apart := false }
def EncodingNilSaid : Prop := encodingNilRow.holds Try.pinned (OpenSpec.ofChange encodingNilSpec)

/-- ITS FALSE NEIGHBOUR: 'it returns false'. Refute it at one input. -/
def encodingNilWrong : ChangeSpec := { name := "encodingNil", fn := fun _ => fun
  | [d1, d2] => { results := [.lit (.bool false)], args := [d1, d2] }
  | _ => none }
def EncodingNilWrongFalsely : Prop := encodingNilRow.holds Try.pinned (OpenSpec.ofChange encodingNilWrong)

/-- 'sleuthlaw01.EncodingFragments': WHATEVER THE INPUT: true; the input reads as it did. -/
def encodingFragmentsSpec : ChangeSpec := { name := "encodingFragments", fn := fun _ => fun
  | [d1, d2, d3] => { results := [.lit (.bool true)], args := [d1, d2, d3] }
  | _ => none }
def encodingFragmentsRow : OpenClaim := { program := "ytaaadjaigfbbjaa", sum := "8a80eaa742edf8beeac6d9f107250d95afceda3218ea5f312fd7e693142be42a", func := "sleuth/sleuthlaw01.EncodingFragments", spec := "encodingFragments", unfollowed := true, recurses := true, apart := false }
def EncodingFragmentsSaid : Prop := encodingFragmentsRow.holds Try.pinned (OpenSpec.ofChange encodingFragmentsSpec)

/-- ITS FALSE NEIGHBOUR: 'it returns false'. Refute it at one input. -/
def encodingFragmentsWrong : ChangeSpec := { name := "encodingFragments", fn := fun _ => fun
  | [d1, d2, d3] => { results := [.lit (.bool false)], args := [d1, d2, d3] }
  | _ => none }
def EncodingFragmentsWrongFalsely : Prop := encodingFragmentsRow.holds Try.pinned (OpenSpec.ofChange encodingFragmentsWrong)

/- THE SECOND FORM. 'bulk': how many values and letters a reading holds, each counted each time it is reached (what is shared counts as often as it is met; a slice's spare places count too). A statement '..UptoSaid' is the law's where the arguments, and the package variables that the reading takes, are together of bulk at most 1048576: NARROWER than '..Said'. Prove '..Said' where nothing that the law and all that it calls make is longer than what came in: it says more and counts as full. Else prove '..UptoSaid'. A law counts once. -/
mutual
def uptoBulk {H : Type} : DataW H → Nat
  | .lit (.string bytes) => bytes.length + 1
  | .lit _ => 1
  | .nil => 1
  | .ptr d => uptoBulk d + 1
  | .slice elems spare => uptoBulkAll elems + uptoBulkAll spare + 1
  | .agg parts => uptoBulkAll parts + 1
  | .iface _ d => uptoBulk d + 1
  | .map entries => uptoBulkEntries entries + 1
  | .held _ => 1
def uptoBulkAll {H : Type} : List (DataW H) → Nat
  | [] => 0
  | d :: r => uptoBulk d + uptoBulkAll r
def uptoBulkEntries {H : Type} : List (Lit × DataW H) → Nat
  | [] => 0
  | x :: r => uptoBulkEntry x + uptoBulkEntries r
def uptoBulkEntry {H : Type} : Lit × DataW H → Nat
  | (.string bytes, d) => bytes.length + uptoBulk d + 1
  | (_, d) => uptoBulk d + 1
 end
def uptoSmall : (H : Type) → List (DataW H) → Bool := fun _ ds => decide (uptoBulkAll ds ≤ 1048576)
def OpenSpec.upto (s : _root_.Go.ChangeSpec) : _root_.Go.OpenSpec := { _root_.Go.OpenSpec.ofChange s with cond := some uptoSmall }

/-- 'sleuthlaw01.EncodingOrder', WHERE WHAT IT READS IS OF BULK AT MOST 1048576: true; the input reads as it did. -/
def encodingOrderUptoRow : OpenClaim := { program := "ytaaadjaigfbbjaa", sum := "8a80eaa742edf8beeac6d9f107250d95afceda3218ea5f312fd7e693142be42a", func := "sleuth/sleuthlaw01.EncodingOrder", spec := "encodingOrder", apart := false, narrowed := true }
def EncodingOrderUptoSaid : Prop := encodingOrderUptoRow.holds Try.pinned (OpenSpec.upto encodingOrderSpec)

/-- 'sleuthlaw01.EncodingNumbers', WHERE WHAT IT READS IS OF BULK AT MOST 1048576: true; the input reads as it did. -/
def encodingNumbersUptoRow : OpenClaim := { program := "ytaaadjaigfbbjaa", sum := "8a80eaa742edf8beeac6d9f107250d95afceda3218ea5f312fd7e693142be42a", func := "sleuth/sleuthlaw01.EncodingNumbers", spec := "encodingNumbers", apart := false, narrowed := true }
def EncodingNumbersUptoSaid : Prop := encodingNumbersUptoRow.holds Try.pinned (OpenSpec.upto encodingNumbersSpec)

/-- 'sleuthlaw01.EncodingWrites', WHERE WHAT IT READS IS OF BULK AT MOST 1048576: true; the input reads as it did. -/
def encodingWritesUptoRow : OpenClaim := { program := "ytaaadjaigfbbjaa", sum := "8a80eaa742edf8beeac6d9f107250d95afceda3218ea5f312fd7e693142be42a", func := "sleuth/sleuthlaw01.EncodingWrites", spec := "encodingWrites", unfollowed := true, recurses := true, apart := false, narrowed := true }
def EncodingWritesUptoSaid : Prop := encodingWritesUptoRow.holds Try.pinned (OpenSpec.upto encodingWritesSpec)

/-- 'sleuthlaw01.EncodingReads', WHERE WHAT IT READS IS OF BULK AT MOST 1048576: true; the input reads as it did. -/
def encodingReadsUptoRow : OpenClaim := { program := "ytaaadjaigfbbjaa", sum := "8a80eaa742edf8beeac6d9f107250d95afceda3218ea5f312fd7e693142be42a", func := "sleuth/sleuthlaw01.EncodingReads", spec := "encodingReads", unfollowed := true, recurses := true, apart := false, narrowed := true }
def EncodingReadsUptoSaid : Prop := encodingReadsUptoRow.holds Try.pinned (OpenSpec.upto encodingReadsSpec)

/-- 'sleuthlaw01.EncodingDecodes', WHERE WHAT IT READS IS OF BULK AT MOST 1048576: true; the input reads as it did. -/
def encodingDecodesUptoRow : OpenClaim := { program := "ytaaadjaigfbbjaa", sum := "8a80eaa742edf8beeac6d9f107250d95afceda3218ea5f312fd7e693142be42a", func := "sleuth/sleuthlaw01.EncodingDecodes", spec := "encodingDecodes", unfollowed := true, recurses := true, apart := false, narrowed := true }
def EncodingDecodesUptoSaid : Prop := encodingDecodesUptoRow.holds Try.pinned (OpenSpec.upto encodingDecodesSpec)

/-- 'sleuthlaw01.EncodingSpans', WHERE WHAT IT READS IS OF BULK AT MOST 1048576: true; the input reads as it did. -/
def encodingSpansUptoRow : OpenClaim := { program := "ytaaadjaigfbbjaa", sum := "8a80eaa742edf8beeac6d9f107250d95afceda3218ea5f312fd7e693142be42a", func := "sleuth/sleuthlaw01.EncodingSpans", spec := "encodingSpans", unfollowed := true, recurses := true, apart := false, narrowed := true }
def EncodingSpansUptoSaid : Prop := encodingSpansUptoRow.holds Try.pinned (OpenSpec.upto encodingSpansSpec)

/-- 'sleuthlaw01.EncodingCuts', WHERE WHAT IT READS IS OF BULK AT MOST 1048576: true; the input reads as it did. -/
def encodingCutsUptoRow : OpenClaim := { program := "ytaaadjaigfbbjaa", sum := "8a80eaa742edf8beeac6d9f107250d95afceda3218ea5f312fd7e693142be42a", func := "sleuth/sleuthlaw01.EncodingCuts", spec := "encodingCuts", unfollowed := true, recurses := true, apart := false, narrowed := true }
def EncodingCutsUptoSaid : Prop := encodingCutsUptoRow.holds Try.pinned (OpenSpec.upto encodingCutsSpec)

/-- 'sleuthlaw01.EncodingNil', WHERE WHAT IT READS IS OF BULK AT MOST 1048576: true; the input reads as it did. -/
def encodingNilUptoRow : OpenClaim := { program := "ytaaadjaigfbbjaa", sum := "8a80eaa742edf8beeac6d9f107250d95afceda3218ea5f312fd7e693142be42a", func := "sleuth/sleuthlaw01.EncodingNil", spec := "encodingNil", unfollowed := true, recurses := true, apart := false, narrowed := true }
def EncodingNilUptoSaid : Prop := encodingNilUptoRow.holds Try.pinned (OpenSpec.upto encodingNilSpec)

/-- 'sleuthlaw01.EncodingFragments', WHERE WHAT IT READS IS OF BULK AT MOST 1048576: true; the input reads as it did. -/
def encodingFragmentsUptoRow : OpenClaim := { program := "ytaaadjaigfbbjaa", sum := "8a80eaa742edf8beeac6d9f107250d95afceda3218ea5f312fd7e693142be42a", func := "sleuth/sleuthlaw01.EncodingFragments", spec := "encodingFragments", unfollowed := true, recurses := true, apart := false, narrowed := true }
def EncodingFragmentsUptoSaid : Prop := encodingFragmentsUptoRow.holds Try.pinned (OpenSpec.upto encodingFragmentsSpec)

end Rows
end Go.Proofs.Ytaaadjaigfbbjaa
