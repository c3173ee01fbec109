/-
  No cell of these rows narrows 'for every input' (looked for: loops, veiled, ifaces, maps, wideKeys, modest, calm, conditions, laid).
  DERIVED. THE GIVEN ROWS OF THIS SEAT. 8 by the template 'for every input the law returns true; each argument reads behind the call as it read before'; 0 by the template 'total and deterministic' (their statements: YtaepkcjcmejfcaaTotals.lean).
  GIVEN WITH THE SEED: the statements are not yours to turn. If you find one false, say at which input.
  Laid BY PROGRAM, IN A SANDBOX (cutbox-rows.mjs): the forced cells as the released guide's own fill.sh prints them over the translation 416662436d59bd01… (all of the seat's roots in one cut). By AI agents, Wed Nov 11 2026. No macro, syntax, notation, axiom, sorry.
-/
import Derived.Test.YtaepkcjcmejfcaaChecked
import GoSem.Claim
import GoSem.ClaimJoined
import GoSem.ClaimMapViews
import Derived.JoinedTies
import Derived.KernelRfl
namespace Go.Proofs.Ytaepkcjcmejfcaa
/- THE CELL 'sum', in the pinned program and in every row, IS THE sha256 OF THE DUMP (.gsa) THAT YtaepkcjcmejfcaaProg.lean LOADS. Nothing in Lean hashes anything: it is a label: what it is worth is what the hold of that sum in a sandbox is worth. -/
noncomputable def Try.pinned : Pinned := { name := "ytaepkcjcmejfcaa", sum := "416662436d59bd0124b18bd6d438989e2a85fb5e0b725413e5cf24240e06d9c9", checked := Try.checked }
namespace Rows
def none {H : Type} : Left H := { results := [], args := [] }

/-- 'sleuthlaw11.SpanChecks': WHATEVER THE INPUT: true; the input reads as it did. -/
def spanChecksSpec : ChangeSpec := { name := "spanChecks", fn := fun _ => fun
  | [d] => { results := [.lit (.bool true)], args := [d] }
  | _ => none }
def spanChecksRow : OpenClaim := { program := "ytaepkcjcmejfcaa", sum := "416662436d59bd0124b18bd6d438989e2a85fb5e0b725413e5cf24240e06d9c9", func := "sleuth/sleuthlaw11.SpanChecks", spec := "spanChecks", unfollowed := true, recurses := true, apart := false }
def SpanChecksSaid : Prop := spanChecksRow.holds Try.pinned (OpenSpec.ofChange spanChecksSpec)

/-- ITS FALSE NEIGHBOUR: 'it returns false'. Refute it at one input. -/
def spanChecksWrong : ChangeSpec := { name := "spanChecks", fn := fun _ => fun
  | [d] => { results := [.lit (.bool false)], args := [d] }
  | _ => none }
def SpanChecksWrongFalsely : Prop := spanChecksRow.holds Try.pinned (OpenSpec.ofChange spanChecksWrong)

/-- 'sleuthlaw11.SpanCompares': WHATEVER THE INPUT: true; the input reads as it did. -/
def spanComparesSpec : ChangeSpec := { name := "spanCompares", fn := fun _ => fun
  | [d1, d2, d3] => { results := [.lit (.bool true)], args := [d1, d2, d3] }
  | _ => none }
def spanComparesRow : OpenClaim := { program := "ytaepkcjcmejfcaa", sum := "416662436d59bd0124b18bd6d438989e2a85fb5e0b725413e5cf24240e06d9c9", func := "sleuth/sleuthlaw11.SpanCompares", spec := "spanCompares", unfollowed := true, recurses := true, apart := false }
def SpanComparesSaid : Prop := spanComparesRow.holds Try.pinned (OpenSpec.ofChange spanComparesSpec)

/-- ITS FALSE NEIGHBOUR: 'it returns false'. Refute it at one input. -/
def spanComparesWrong : ChangeSpec := { name := "spanCompares", fn := fun _ => fun
  | [d1, d2, d3] => { results := [.lit (.bool false)], args := [d1, d2, d3] }
  | _ => none }
def SpanComparesWrongFalsely : Prop := spanComparesRow.holds Try.pinned (OpenSpec.ofChange spanComparesWrong)

/-- 'sleuthlaw11.SpanRaw': WHATEVER THE INPUT: true; the input reads as it did. -/
def spanRawSpec : ChangeSpec := { name := "spanRaw", fn := fun _ => fun
  | [d1, d2] => { results := [.lit (.bool true)], args := [d1, d2] }
  | _ => none }
def spanRawRow : OpenClaim := { program := "ytaepkcjcmejfcaa", sum := "416662436d59bd0124b18bd6d438989e2a85fb5e0b725413e5cf24240e06d9c9", func := "sleuth/sleuthlaw11.SpanRaw", spec := "spanRaw", unfollowed := true, recurses := true, apart := false }
def SpanRawSaid : Prop := spanRawRow.holds Try.pinned (OpenSpec.ofChange spanRawSpec)

/-- ITS FALSE NEIGHBOUR: 'it returns false'. Refute it at one input. -/
def spanRawWrong : ChangeSpec := { name := "spanRaw", fn := fun _ => fun
  | [d1, d2] => { results := [.lit (.bool false)], args := [d1, d2] }
  | _ => none }
def SpanRawWrongFalsely : Prop := spanRawRow.holds Try.pinned (OpenSpec.ofChange spanRawWrong)

/-- 'sleuthlaw11.SpanFields': WHATEVER THE INPUT: true; the input reads as it did. -/
def spanFieldsSpec : ChangeSpec := { name := "spanFields", fn := fun _ => fun
  | [d1, d2, d3] => { results := [.lit (.bool true)], args := [d1, d2, d3] }
  | _ => none }
def spanFieldsRow : OpenClaim := { program := "ytaepkcjcmejfcaa", sum := "416662436d59bd0124b18bd6d438989e2a85fb5e0b725413e5cf24240e06d9c9", func := "sleuth/sleuthlaw11.SpanFields", spec := "spanFields", unfollowed := true, recurses := true, apart := false }
def SpanFieldsSaid : Prop := spanFieldsRow.holds Try.pinned (OpenSpec.ofChange spanFieldsSpec)

/-- ITS FALSE NEIGHBOUR: 'it returns false'. Refute it at one input. -/
def spanFieldsWrong : ChangeSpec := { name := "spanFields", fn := fun _ => fun
  | [d1, d2, d3] => { results := [.lit (.bool false)], args := [d1, d2, d3] }
  | _ => none }
def SpanFieldsWrongFalsely : Prop := spanFieldsRow.holds Try.pinned (OpenSpec.ofChange spanFieldsWrong)

/-- 'sleuthlaw11.SpanKinds': WHATEVER THE INPUT: true; the input reads as it did. -/
def spanKindsSpec : ChangeSpec := { name := "spanKinds", fn := fun _ => fun
  | [d1, d2] => { results := [.lit (.bool true)], args := [d1, d2] }
  | _ => none }
def spanKindsRow : OpenClaim := { program := "ytaepkcjcmejfcaa", sum := "416662436d59bd0124b18bd6d438989e2a85fb5e0b725413e5cf24240e06d9c9", func := "sleuth/sleuthlaw11.SpanKinds", spec := "spanKinds", unfollowed := true, recurses := true, apart := false }
def SpanKindsSaid : Prop := spanKindsRow.holds Try.pinned (OpenSpec.ofChange spanKindsSpec)

/-- ITS FALSE NEIGHBOUR: 'it returns false'. Refute it at one input. -/
def spanKindsWrong : ChangeSpec := { name := "spanKinds", fn := fun _ => fun
  | [d1, d2] => { results := [.lit (.bool false)], args := [d1, d2] }
  | _ => none }
def SpanKindsWrongFalsely : Prop := spanKindsRow.holds Try.pinned (OpenSpec.ofChange spanKindsWrong)

/-- 'sleuthlaw11.SpanTimes': WHATEVER THE INPUT: true; the input reads as it did. -/
def spanTimesSpec : ChangeSpec := { name := "spanTimes", fn := fun _ => fun
  | [d1, d2] => { results := [.lit (.bool true)], args := [d1, d2] }
  | _ => none }
def spanTimesRow : OpenClaim := { program := "ytaepkcjcmejfcaa", sum := "416662436d59bd0124b18bd6d438989e2a85fb5e0b725413e5cf24240e06d9c9", func := "sleuth/sleuthlaw11.SpanTimes", spec := "spanTimes", unfollowed := true, recurses := true, apart := false }
def SpanTimesSaid : Prop := spanTimesRow.holds Try.pinned (OpenSpec.ofChange spanTimesSpec)

/-- ITS FALSE NEIGHBOUR: 'it returns false'. Refute it at one input. -/
def spanTimesWrong : ChangeSpec := { name := "spanTimes", fn := fun _ => fun
  | [d1, d2] => { results := [.lit (.bool false)], args := [d1, d2] }
  | _ => none }
def SpanTimesWrongFalsely : Prop := spanTimesRow.holds Try.pinned (OpenSpec.ofChange spanTimesWrong)

/-- 'sleuthlaw11.SpanSets': WHATEVER THE INPUT: true; the input reads as it did. -/
def spanSetsSpec : ChangeSpec := { name := "spanSets", fn := fun _ => fun
  | [d1, d2] => { results := [.lit (.bool true)], args := [d1, d2] }
  | _ => none }
def spanSetsRow : OpenClaim := { program := "ytaepkcjcmejfcaa", sum := "416662436d59bd0124b18bd6d438989e2a85fb5e0b725413e5cf24240e06d9c9", func := "sleuth/sleuthlaw11.SpanSets", spec := "spanSets", unfollowed := true, recurses := true, apart := false }
def SpanSetsSaid : Prop := spanSetsRow.holds Try.pinned (OpenSpec.ofChange spanSetsSpec)

/-- ITS FALSE NEIGHBOUR: 'it returns false'. Refute it at one input. -/
def spanSetsWrong : ChangeSpec := { name := "spanSets", fn := fun _ => fun
  | [d1, d2] => { results := [.lit (.bool false)], args := [d1, d2] }
  | _ => none }
def SpanSetsWrongFalsely : Prop := spanSetsRow.holds Try.pinned (OpenSpec.ofChange spanSetsWrong)

/-- 'sleuthlaw11.SpanOrderless': WHATEVER THE INPUT: true; the input reads as it did. -/
def spanOrderlessSpec : ChangeSpec := { name := "spanOrderless", fn := fun _ => fun
  | [d1, d2] => { results := [.lit (.bool true)], args := [d1, d2] }
  | _ => none }
def spanOrderlessRow : OpenClaim := { program := "ytaepkcjcmejfcaa", sum := "416662436d59bd0124b18bd6d438989e2a85fb5e0b725413e5cf24240e06d9c9", func := "sleuth/sleuthlaw11.SpanOrderless", spec := "spanOrderless", unfollowed := true, recurses := true, apart := false }
def SpanOrderlessSaid : Prop := spanOrderlessRow.holds Try.pinned (OpenSpec.ofChange spanOrderlessSpec)

/-- ITS FALSE NEIGHBOUR: 'it returns false'. Refute it at one input. -/
def spanOrderlessWrong : ChangeSpec := { name := "spanOrderless", fn := fun _ => fun
  | [d1, d2] => { results := [.lit (.bool false)], args := [d1, d2] }
  | _ => none }
def SpanOrderlessWrongFalsely : Prop := spanOrderlessRow.holds Try.pinned (OpenSpec.ofChange spanOrderlessWrong)

/- THE SECOND FORM. 'bulk': how many values and letters a reading holds, each counted each time it is reached (what is shared counts as often as it is met; a slice's spare places count too). A statement '..UptoSaid' is the law's where the arguments, and the package variables that the reading takes, are together of bulk at most 1048576: NARROWER than '..Said'. Prove '..Said' where nothing that the law and all that it calls make is longer than what came in: it says more and counts as full. Else prove '..UptoSaid'. A law counts once. -/
mutual
def uptoBulk {H : Type} : DataW H → Nat
  | .lit (.string bytes) => bytes.length + 1
  | .lit _ => 1
  | .nil => 1
  | .ptr d => uptoBulk d + 1
  | .slice elems spare => uptoBulkAll elems + uptoBulkAll spare + 1
  | .agg parts => uptoBulkAll parts + 1
  | .iface _ d => uptoBulk d + 1
  | .map entries => uptoBulkEntries entries + 1
  | .held _ => 1
def uptoBulkAll {H : Type} : List (DataW H) → Nat
  | [] => 0
  | d :: r => uptoBulk d + uptoBulkAll r
def uptoBulkEntries {H : Type} : List (Lit × DataW H) → Nat
  | [] => 0
  | x :: r => uptoBulkEntry x + uptoBulkEntries r
def uptoBulkEntry {H : Type} : Lit × DataW H → Nat
  | (.string bytes, d) => bytes.length + uptoBulk d + 1
  | (_, d) => uptoBulk d + 1
 end
def uptoSmall : (H : Type) → List (DataW H) → Bool := fun _ ds => decide (uptoBulkAll ds ≤ 1048576)
def OpenSpec.upto (s : _root_.Go.ChangeSpec) : _root_.Go.OpenSpec := { _root_.Go.OpenSpec.ofChange s with cond := some uptoSmall }

/-- 'sleuthlaw11.SpanChecks', WHERE WHAT IT READS IS OF BULK AT MOST 1048576: true; the input reads as it did. -/
def spanChecksUptoRow : OpenClaim := { program := "ytaepkcjcmejfcaa", sum := "416662436d59bd0124b18bd6d438989e2a85fb5e0b725413e5cf24240e06d9c9", func := "sleuth/sleuthlaw11.SpanChecks", spec := "spanChecks", unfollowed := true, recurses := true, apart := false, narrowed := true }
def SpanChecksUptoSaid : Prop := spanChecksUptoRow.holds Try.pinned (OpenSpec.upto spanChecksSpec)

/-- 'sleuthlaw11.SpanCompares', WHERE WHAT IT READS IS OF BULK AT MOST 1048576: true; the input reads as it did. -/
def spanComparesUptoRow : OpenClaim := { program := "ytaepkcjcmejfcaa", sum := "416662436d59bd0124b18bd6d438989e2a85fb5e0b725413e5cf24240e06d9c9", func := "sleuth/sleuthlaw11.SpanCompares", spec := "spanCompares", unfollowed := true, recurses := true, apart := false, narrowed := true }
def SpanComparesUptoSaid : Prop := spanComparesUptoRow.holds Try.pinned (OpenSpec.upto spanComparesSpec)

/-- 'sleuthlaw11.SpanRaw', WHERE WHAT IT READS IS OF BULK AT MOST 1048576: true; the input reads as it did. -/
def spanRawUptoRow : OpenClaim := { program := "ytaepkcjcmejfcaa", sum := "416662436d59bd0124b18bd6d438989e2a85fb5e0b725413e5cf24240e06d9c9", func := "sleuth/sleuthlaw11.SpanRaw", spec := "spanRaw", unfollowed := true, recurses := true, apart := false, narrowed := true }
def SpanRawUptoSaid : Prop := spanRawUptoRow.holds Try.pinned (OpenSpec.upto spanRawSpec)

/-- 'sleuthlaw11.SpanFields', WHERE WHAT IT READS IS OF BULK AT MOST 1048576: true; the input reads as it did. -/
def spanFieldsUptoRow : OpenClaim := { program := "ytaepkcjcmejfcaa", sum := "416662436d59bd0124b18bd6d438989e2a85fb5e0b725413e5cf24240e06d9c9", func := "sleuth/sleuthlaw11.SpanFields", spec := "spanFields", unfollowed := true, recurses := true, apart := false, narrowed := true }
def SpanFieldsUptoSaid : Prop := spanFieldsUptoRow.holds Try.pinned (OpenSpec.upto spanFieldsSpec)

/-- 'sleuthlaw11.SpanKinds', WHERE WHAT IT READS IS OF BULK AT MOST 1048576: true; the input reads as it did. -/
def spanKindsUptoRow : OpenClaim := { program := "ytaepkcjcmejfcaa", sum := "416662436d59bd0124b18bd6d438989e2a85fb5e0b725413e5cf24240e06d9c9", func := "sleuth/sleuthlaw11.SpanKinds", spec := "spanKinds", unfollowed := true, recurses := true, apart := false, narrowed := true }
def SpanKindsUptoSaid : Prop := spanKindsUptoRow.holds Try.pinned (OpenSpec.upto spanKindsSpec)

/-- 'sleuthlaw11.SpanTimes', WHERE WHAT IT READS IS OF BULK AT MOST 1048576: true; the input reads as it did. -/
def spanTimesUptoRow : OpenClaim := { program := "ytaepkcjcmejfcaa", sum := "416662436d59bd0124b18bd6d438989e2a85fb5e0b725413e5cf24240e06d9c9", func := "sleuth/sleuthlaw11.SpanTimes", spec := "spanTimes", unfollowed := true, recurses := true, apart := false, narrowed := true }
def SpanTimesUptoSaid : Prop := spanTimesUptoRow.holds Try.pinned (OpenSpec.upto spanTimesSpec)

/-- 'sleuthlaw11.SpanSets', WHERE WHAT IT READS IS OF BULK AT MOST 1048576: true; the input reads as it did. -/
def spanSetsUptoRow : OpenClaim := { program := "ytaepkcjcmejfcaa", sum := "416662436d59bd0124b18bd6d438989e2a85fb5e0b725413e5cf24240e06d9c9", func := "sleuth/sleuthlaw11.SpanSets", spec := "spanSets", unfollowed := true, recurses := true, apart := false, narrowed := true }
def SpanSetsUptoSaid : Prop := spanSetsUptoRow.holds Try.pinned (OpenSpec.upto spanSetsSpec)

/-- 'sleuthlaw11.SpanOrderless', WHERE WHAT IT READS IS OF BULK AT MOST 1048576: true; the input reads as it did. -/
def spanOrderlessUptoRow : OpenClaim := { program := "ytaepkcjcmejfcaa", sum := "416662436d59bd0124b18bd6d438989e2a85fb5e0b725413e5cf24240e06d9c9", func := "sleuth/sleuthlaw11.SpanOrderless", spec := "spanOrderless", unfollowed := true, recurses := true, apart := false, narrowed := true }
def SpanOrderlessUptoSaid : Prop := spanOrderlessUptoRow.holds Try.pinned (OpenSpec.upto spanOrderlessSpec)

end Rows
end Go.Proofs.Ytaepkcjcmejfcaa
