/-
  NARROWER THAN 'FOR EVERY INPUT', by the rows' own cells (each row's printed sentence says how): PartitionScans: loops.
  DERIVED. THE GIVEN ROWS OF THIS SEAT. 9 by the template 'for every input the law returns true; each argument reads behind the call as it read before'; 0 by the template 'total and deterministic' (their statements: YtlhniejmohghgaaGreatTotals.lean).
  GIVEN WITH THE SEED: the statements are not yours to turn. If you find one false, say at which input.
  Laid BY PROGRAM, IN A SANDBOX (cutbox-rows.mjs): the forced cells as the released guide's own fill.sh prints them over the translation 9a10fc2524c33dd0… (all of the seat's roots in one cut). By AI agents, Wed Nov 11 2026. No macro, syntax, notation, axiom, sorry.
-/
import Derived.Test.YtlhniejmohghgaaGreatChecked
import GoSem.Claim
import GoSem.ClaimJoined
import GoSem.ClaimMapViews
import Derived.JoinedTies
import Derived.KernelRfl
namespace Go.Proofs.YtlhniejmohghgaaGreat
/- THE CELL 'sum', in the pinned program and in every row, IS THE sha256 OF THE DUMP (.gsa) THAT YtlhniejmohghgaaGreatProg.lean LOADS. Nothing in Lean hashes anything: it is a label: what it is worth is what the hold of that sum in a sandbox is worth. -/
noncomputable def Tryz.pinned : Pinned := { name := "ytlhniejmohghgaagreat", sum := "9a10fc2524c33dd03d2258f473902f6c8a0b4a2e0ec00f8996bed6fbc64fe33f", checked := Tryz.checked }
namespace Rows
def none {H : Type} : Left H := { results := [], args := [] }

/-- 'sleuthlaw31.PartitionOrderless': WHATEVER THE INPUT: true; the input reads as it did. -/
def partitionOrderlessSpec : ChangeSpec := { name := "partitionOrderless", fn := fun _ => fun
  | [d1, d2, d3] => { results := [.lit (.bool true)], args := [d1, d2, d3] }
  | _ => none }
def partitionOrderlessRow : OpenClaim := { program := "ytlhniejmohghgaagreat", sum := "9a10fc2524c33dd03d2258f473902f6c8a0b4a2e0ec00f8996bed6fbc64fe33f", func := "sleuth/sleuthlaw31.PartitionOrderless", spec := "partitionOrderless", unfollowed := true, recurses := true, plainKeys := false, apart := false }
def PartitionOrderlessSaid : Prop := partitionOrderlessRow.holds Tryz.pinned (OpenSpec.ofChange partitionOrderlessSpec)

/-- ITS FALSE NEIGHBOUR: 'it returns false'. Refute it at one input. -/
def partitionOrderlessWrong : ChangeSpec := { name := "partitionOrderless", fn := fun _ => fun
  | [d1, d2, d3] => { results := [.lit (.bool false)], args := [d1, d2, d3] }
  | _ => none }
def PartitionOrderlessWrongFalsely : Prop := partitionOrderlessRow.holds Tryz.pinned (OpenSpec.ofChange partitionOrderlessWrong)

/-- 'sleuthlaw31.PartitionRefuses': WHATEVER THE INPUT: true; the input reads as it did. -/
def partitionRefusesSpec : ChangeSpec := { name := "partitionRefuses", fn := fun _ => fun
  | [d1, d2] => { results := [.lit (.bool true)], args := [d1, d2] }
  | _ => none }
def partitionRefusesRow : OpenClaim := { program := "ytlhniejmohghgaagreat", sum := "9a10fc2524c33dd03d2258f473902f6c8a0b4a2e0ec00f8996bed6fbc64fe33f", func := "sleuth/sleuthlaw31.PartitionRefuses", spec := "partitionRefuses", unfollowed := true, recurses := true, plainKeys := false, apart := false }
def PartitionRefusesSaid : Prop := partitionRefusesRow.holds Tryz.pinned (OpenSpec.ofChange partitionRefusesSpec)

/-- ITS FALSE NEIGHBOUR: 'it returns false'. Refute it at one input. -/
def partitionRefusesWrong : ChangeSpec := { name := "partitionRefuses", fn := fun _ => fun
  | [d1, d2] => { results := [.lit (.bool false)], args := [d1, d2] }
  | _ => none }
def PartitionRefusesWrongFalsely : Prop := partitionRefusesRow.holds Tryz.pinned (OpenSpec.ofChange partitionRefusesWrong)

/-- 'sleuthlaw31.PartitionRuns': WHATEVER THE INPUT: true; the input reads as it did. -/
def partitionRunsSpec : ChangeSpec := { name := "partitionRuns", fn := fun _ => fun
  | [d1, d2] => { results := [.lit (.bool true)], args := [d1, d2] }
  | _ => none }
def partitionRunsRow : OpenClaim := { program := "ytlhniejmohghgaagreat", sum := "9a10fc2524c33dd03d2258f473902f6c8a0b4a2e0ec00f8996bed6fbc64fe33f", func := "sleuth/sleuthlaw31.PartitionRuns", spec := "partitionRuns", unfollowed := true, recurses := true, plainKeys := false, apart := false }
def PartitionRunsSaid : Prop := partitionRunsRow.holds Tryz.pinned (OpenSpec.ofChange partitionRunsSpec)

/-- ITS FALSE NEIGHBOUR: 'it returns false'. Refute it at one input. -/
def partitionRunsWrong : ChangeSpec := { name := "partitionRuns", fn := fun _ => fun
  | [d1, d2] => { results := [.lit (.bool false)], args := [d1, d2] }
  | _ => none }
def PartitionRunsWrongFalsely : Prop := partitionRunsRow.holds Tryz.pinned (OpenSpec.ofChange partitionRunsWrong)

/-- 'sleuthlaw31.PartitionMerges': WHATEVER THE INPUT: true; the input reads as it did. -/
def partitionMergesSpec : ChangeSpec := { name := "partitionMerges", fn := fun _ => fun
  | [d1, d2, d3] => { results := [.lit (.bool true)], args := [d1, d2, d3] }
  | _ => none }
def partitionMergesRow : OpenClaim := { program := "ytlhniejmohghgaagreat", sum := "9a10fc2524c33dd03d2258f473902f6c8a0b4a2e0ec00f8996bed6fbc64fe33f", func := "sleuth/sleuthlaw31.PartitionMerges", spec := "partitionMerges", unfollowed := true, recurses := true, plainKeys := false, apart := false }
def PartitionMergesSaid : Prop := partitionMergesRow.holds Tryz.pinned (OpenSpec.ofChange partitionMergesSpec)

/-- ITS FALSE NEIGHBOUR: 'it returns false'. Refute it at one input. -/
def partitionMergesWrong : ChangeSpec := { name := "partitionMerges", fn := fun _ => fun
  | [d1, d2, d3] => { results := [.lit (.bool false)], args := [d1, d2, d3] }
  | _ => none }
def PartitionMergesWrongFalsely : Prop := partitionMergesRow.holds Tryz.pinned (OpenSpec.ofChange partitionMergesWrong)

/-- 'sleuthlaw31.PartitionScans': WHATEVER THE INPUT: true; the input reads as it did. -/
def partitionScansSpec : ChangeSpec := { name := "partitionScans", fn := fun _ => fun
  | [d1, d2, d3] => { results := [.lit (.bool true)], args := [d1, d2, d3] }
  | _ => none }
def partitionScansRow : OpenClaim := { program := "ytlhniejmohghgaagreat", sum := "9a10fc2524c33dd03d2258f473902f6c8a0b4a2e0ec00f8996bed6fbc64fe33f", func := "sleuth/sleuthlaw31.PartitionScans", spec := "partitionScans", unfollowed := true, recurses := true, loops := true, plainKeys := false, apart := false }
def PartitionScansSaid : Prop := partitionScansRow.holds Tryz.pinned (OpenSpec.ofChange partitionScansSpec)

/-- ITS FALSE NEIGHBOUR: 'it returns false'. Refute it at one input. -/
def partitionScansWrong : ChangeSpec := { name := "partitionScans", fn := fun _ => fun
  | [d1, d2, d3] => { results := [.lit (.bool false)], args := [d1, d2, d3] }
  | _ => none }
def PartitionScansWrongFalsely : Prop := partitionScansRow.holds Tryz.pinned (OpenSpec.ofChange partitionScansWrong)

/-- 'sleuthlaw31.PartitionContents': WHATEVER THE INPUT: true; the input reads as it did. -/
def partitionContentsSpec : ChangeSpec := { name := "partitionContents", fn := fun _ => fun
  | [d1, d2] => { results := [.lit (.bool true)], args := [d1, d2] }
  | _ => none }
def partitionContentsRow : OpenClaim := { program := "ytlhniejmohghgaagreat", sum := "9a10fc2524c33dd03d2258f473902f6c8a0b4a2e0ec00f8996bed6fbc64fe33f", func := "sleuth/sleuthlaw31.PartitionContents", spec := "partitionContents", unfollowed := true, recurses := true, plainKeys := false, apart := false }
def PartitionContentsSaid : Prop := partitionContentsRow.holds Tryz.pinned (OpenSpec.ofChange partitionContentsSpec)

/-- ITS FALSE NEIGHBOUR: 'it returns false'. Refute it at one input. -/
def partitionContentsWrong : ChangeSpec := { name := "partitionContents", fn := fun _ => fun
  | [d1, d2] => { results := [.lit (.bool false)], args := [d1, d2] }
  | _ => none }
def PartitionContentsWrongFalsely : Prop := partitionContentsRow.holds Tryz.pinned (OpenSpec.ofChange partitionContentsWrong)

/-- 'sleuthlaw31.PartitionWithout': WHATEVER THE INPUT: true; the input reads as it did. -/
def partitionWithoutSpec : ChangeSpec := { name := "partitionWithout", fn := fun _ => fun
  | [d1, d2, d3] => { results := [.lit (.bool true)], args := [d1, d2, d3] }
  | _ => none }
def partitionWithoutRow : OpenClaim := { program := "ytlhniejmohghgaagreat", sum := "9a10fc2524c33dd03d2258f473902f6c8a0b4a2e0ec00f8996bed6fbc64fe33f", func := "sleuth/sleuthlaw31.PartitionWithout", spec := "partitionWithout", unfollowed := true, recurses := true, plainKeys := false, apart := false }
def PartitionWithoutSaid : Prop := partitionWithoutRow.holds Tryz.pinned (OpenSpec.ofChange partitionWithoutSpec)

/-- ITS FALSE NEIGHBOUR: 'it returns false'. Refute it at one input. -/
def partitionWithoutWrong : ChangeSpec := { name := "partitionWithout", fn := fun _ => fun
  | [d1, d2, d3] => { results := [.lit (.bool false)], args := [d1, d2, d3] }
  | _ => none }
def PartitionWithoutWrongFalsely : Prop := partitionWithoutRow.holds Tryz.pinned (OpenSpec.ofChange partitionWithoutWrong)

/-- 'sleuthlaw31.PartitionNil': WHATEVER THE INPUT: true; the input reads as it did. -/
def partitionNilSpec : ChangeSpec := { name := "partitionNil", fn := fun _ => fun
  | [d1, d2] => { results := [.lit (.bool true)], args := [d1, d2] }
  | _ => none }
def partitionNilRow : OpenClaim := { program := "ytlhniejmohghgaagreat", sum := "9a10fc2524c33dd03d2258f473902f6c8a0b4a2e0ec00f8996bed6fbc64fe33f", func := "sleuth/sleuthlaw31.PartitionNil", spec := "partitionNil", unfollowed := true, recurses := true, plainKeys := false, apart := false }
def PartitionNilSaid : Prop := partitionNilRow.holds Tryz.pinned (OpenSpec.ofChange partitionNilSpec)

/-- ITS FALSE NEIGHBOUR: 'it returns false'. Refute it at one input. -/
def partitionNilWrong : ChangeSpec := { name := "partitionNil", fn := fun _ => fun
  | [d1, d2] => { results := [.lit (.bool false)], args := [d1, d2] }
  | _ => none }
def PartitionNilWrongFalsely : Prop := partitionNilRow.holds Tryz.pinned (OpenSpec.ofChange partitionNilWrong)

/-- 'sleuthlaw31.PartitionForms': WHATEVER THE INPUT: true; the input reads as it did. -/
def partitionFormsSpec : ChangeSpec := { name := "partitionForms", fn := fun _ => fun
  | [d1, d2, d3] => { results := [.lit (.bool true)], args := [d1, d2, d3] }
  | _ => none }
def partitionFormsRow : OpenClaim := { program := "ytlhniejmohghgaagreat", sum := "9a10fc2524c33dd03d2258f473902f6c8a0b4a2e0ec00f8996bed6fbc64fe33f", func := "sleuth/sleuthlaw31.PartitionForms", spec := "partitionForms", unfollowed := true, recurses := true, plainKeys := false, apart := false }
def PartitionFormsSaid : Prop := partitionFormsRow.holds Tryz.pinned (OpenSpec.ofChange partitionFormsSpec)

/-- ITS FALSE NEIGHBOUR: 'it returns false'. Refute it at one input. -/
def partitionFormsWrong : ChangeSpec := { name := "partitionForms", fn := fun _ => fun
  | [d1, d2, d3] => { results := [.lit (.bool false)], args := [d1, d2, d3] }
  | _ => none }
def PartitionFormsWrongFalsely : Prop := partitionFormsRow.holds Tryz.pinned (OpenSpec.ofChange partitionFormsWrong)

/- THE SECOND FORM. 'bulk': how many values and letters a reading holds, each counted each time it is reached (what is shared counts as often as it is met; a slice's spare places count too). A statement '..UptoSaid' is the law's where the arguments, and the package variables that the reading takes, are together of bulk at most 1048576: NARROWER than '..Said'. Prove '..Said' where nothing that the law and all that it calls make is longer than what came in: it says more and counts as full. Else prove '..UptoSaid'. A law counts once. -/
mutual
def uptoBulk {H : Type} : DataW H → Nat
  | .lit (.string bytes) => bytes.length + 1
  | .lit _ => 1
  | .nil => 1
  | .ptr d => uptoBulk d + 1
  | .slice elems spare => uptoBulkAll elems + uptoBulkAll spare + 1
  | .agg parts => uptoBulkAll parts + 1
  | .iface _ d => uptoBulk d + 1
  | .map entries => uptoBulkEntries entries + 1
  | .held _ => 1
def uptoBulkAll {H : Type} : List (DataW H) → Nat
  | [] => 0
  | d :: r => uptoBulk d + uptoBulkAll r
def uptoBulkEntries {H : Type} : List (Lit × DataW H) → Nat
  | [] => 0
  | x :: r => uptoBulkEntry x + uptoBulkEntries r
def uptoBulkEntry {H : Type} : Lit × DataW H → Nat
  | (.string bytes, d) => bytes.length + uptoBulk d + 1
  | (_, d) => uptoBulk d + 1
 end
def uptoSmall : (H : Type) → List (DataW H) → Bool := fun _ ds => decide (uptoBulkAll ds ≤ 1048576)
def OpenSpec.upto (s : _root_.Go.ChangeSpec) : _root_.Go.OpenSpec := { _root_.Go.OpenSpec.ofChange s with cond := some uptoSmall }

/-- 'sleuthlaw31.PartitionOrderless', WHERE WHAT IT READS IS OF BULK AT MOST 1048576: true; the input reads as it did. -/
def partitionOrderlessUptoRow : OpenClaim := { program := "ytlhniejmohghgaagreat", sum := "9a10fc2524c33dd03d2258f473902f6c8a0b4a2e0ec00f8996bed6fbc64fe33f", func := "sleuth/sleuthlaw31.PartitionOrderless", spec := "partitionOrderless", unfollowed := true, recurses := true, plainKeys := false, apart := false, narrowed := true }
def PartitionOrderlessUptoSaid : Prop := partitionOrderlessUptoRow.holds Tryz.pinned (OpenSpec.upto partitionOrderlessSpec)

/-- 'sleuthlaw31.PartitionRefuses', WHERE WHAT IT READS IS OF BULK AT MOST 1048576: true; the input reads as it did. -/
def partitionRefusesUptoRow : OpenClaim := { program := "ytlhniejmohghgaagreat", sum := "9a10fc2524c33dd03d2258f473902f6c8a0b4a2e0ec00f8996bed6fbc64fe33f", func := "sleuth/sleuthlaw31.PartitionRefuses", spec := "partitionRefuses", unfollowed := true, recurses := true, plainKeys := false, apart := false, narrowed := true }
def PartitionRefusesUptoSaid : Prop := partitionRefusesUptoRow.holds Tryz.pinned (OpenSpec.upto partitionRefusesSpec)

/-- 'sleuthlaw31.PartitionRuns', WHERE WHAT IT READS IS OF BULK AT MOST 1048576: true; the input reads as it did. -/
def partitionRunsUptoRow : OpenClaim := { program := "ytlhniejmohghgaagreat", sum := "9a10fc2524c33dd03d2258f473902f6c8a0b4a2e0ec00f8996bed6fbc64fe33f", func := "sleuth/sleuthlaw31.PartitionRuns", spec := "partitionRuns", unfollowed := true, recurses := true, plainKeys := false, apart := false, narrowed := true }
def PartitionRunsUptoSaid : Prop := partitionRunsUptoRow.holds Tryz.pinned (OpenSpec.upto partitionRunsSpec)

/-- 'sleuthlaw31.PartitionMerges', WHERE WHAT IT READS IS OF BULK AT MOST 1048576: true; the input reads as it did. -/
def partitionMergesUptoRow : OpenClaim := { program := "ytlhniejmohghgaagreat", sum := "9a10fc2524c33dd03d2258f473902f6c8a0b4a2e0ec00f8996bed6fbc64fe33f", func := "sleuth/sleuthlaw31.PartitionMerges", spec := "partitionMerges", unfollowed := true, recurses := true, plainKeys := false, apart := false, narrowed := true }
def PartitionMergesUptoSaid : Prop := partitionMergesUptoRow.holds Tryz.pinned (OpenSpec.upto partitionMergesSpec)

/-- 'sleuthlaw31.PartitionScans', WHERE WHAT IT READS IS OF BULK AT MOST 1048576: true; the input reads as it did. -/
def partitionScansUptoRow : OpenClaim := { program := "ytlhniejmohghgaagreat", sum := "9a10fc2524c33dd03d2258f473902f6c8a0b4a2e0ec00f8996bed6fbc64fe33f", func := "sleuth/sleuthlaw31.PartitionScans", spec := "partitionScans", unfollowed := true, recurses := true, loops := true, plainKeys := false, apart := false, narrowed := true }
def PartitionScansUptoSaid : Prop := partitionScansUptoRow.holds Tryz.pinned (OpenSpec.upto partitionScansSpec)

/-- 'sleuthlaw31.PartitionContents', WHERE WHAT IT READS IS OF BULK AT MOST 1048576: true; the input reads as it did. -/
def partitionContentsUptoRow : OpenClaim := { program := "ytlhniejmohghgaagreat", sum := "9a10fc2524c33dd03d2258f473902f6c8a0b4a2e0ec00f8996bed6fbc64fe33f", func := "sleuth/sleuthlaw31.PartitionContents", spec := "partitionContents", unfollowed := true, recurses := true, plainKeys := false, apart := false, narrowed := true }
def PartitionContentsUptoSaid : Prop := partitionContentsUptoRow.holds Tryz.pinned (OpenSpec.upto partitionContentsSpec)

/-- 'sleuthlaw31.PartitionWithout', WHERE WHAT IT READS IS OF BULK AT MOST 1048576: true; the input reads as it did. -/
def partitionWithoutUptoRow : OpenClaim := { program := "ytlhniejmohghgaagreat", sum := "9a10fc2524c33dd03d2258f473902f6c8a0b4a2e0ec00f8996bed6fbc64fe33f", func := "sleuth/sleuthlaw31.PartitionWithout", spec := "partitionWithout", unfollowed := true, recurses := true, plainKeys := false, apart := false, narrowed := true }
def PartitionWithoutUptoSaid : Prop := partitionWithoutUptoRow.holds Tryz.pinned (OpenSpec.upto partitionWithoutSpec)

/-- 'sleuthlaw31.PartitionNil', WHERE WHAT IT READS IS OF BULK AT MOST 1048576: true; the input reads as it did. -/
def partitionNilUptoRow : OpenClaim := { program := "ytlhniejmohghgaagreat", sum := "9a10fc2524c33dd03d2258f473902f6c8a0b4a2e0ec00f8996bed6fbc64fe33f", func := "sleuth/sleuthlaw31.PartitionNil", spec := "partitionNil", unfollowed := true, recurses := true, plainKeys := false, apart := false, narrowed := true }
def PartitionNilUptoSaid : Prop := partitionNilUptoRow.holds Tryz.pinned (OpenSpec.upto partitionNilSpec)

/-- 'sleuthlaw31.PartitionForms', WHERE WHAT IT READS IS OF BULK AT MOST 1048576: true; the input reads as it did. -/
def partitionFormsUptoRow : OpenClaim := { program := "ytlhniejmohghgaagreat", sum := "9a10fc2524c33dd03d2258f473902f6c8a0b4a2e0ec00f8996bed6fbc64fe33f", func := "sleuth/sleuthlaw31.PartitionForms", spec := "partitionForms", unfollowed := true, recurses := true, plainKeys := false, apart := false, narrowed := true }
def PartitionFormsUptoSaid : Prop := partitionFormsUptoRow.holds Tryz.pinned (OpenSpec.upto partitionFormsSpec)

end Rows
end Go.Proofs.YtlhniejmohghgaaGreat
