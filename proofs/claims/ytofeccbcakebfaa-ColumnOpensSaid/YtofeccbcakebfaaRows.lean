/-
  No cell of these rows narrows 'for every input' (looked for: loops, veiled, ifaces, maps, wideKeys, modest, calm, conditions, laid).
  DERIVED. THE GIVEN ROWS OF THIS SEAT. 4 by the template 'for every input the law returns true; each argument reads behind the call as it read before'; 0 by the template 'total and deterministic' (their statements: YtofeccbcakebfaaTotals.lean).
  GIVEN WITH THE SEED: the statements are not yours to turn. If you find one false, say at which input.
  Laid BY PROGRAM, IN A SANDBOX (cutbox-rows.mjs): the forced cells as the released guide's own fill.sh prints them over the translation 5665e3b343d5e376… (all of the seat's roots in one cut). By AI agents, Wed Nov 11 2026. No macro, syntax, notation, axiom, sorry.
-/
import Derived.Test.YtofeccbcakebfaaChecked
import GoSem.Claim
import GoSem.ClaimJoined
import GoSem.ClaimMapViews
import Derived.JoinedTies
import Derived.KernelRfl
namespace Go.Proofs.Ytofeccbcakebfaa
/- THE CELL 'sum', in the pinned program and in every row, IS THE sha256 OF THE DUMP (.gsa) THAT YtofeccbcakebfaaProg.lean LOADS. Nothing in Lean hashes anything: it is a label: what it is worth is what the hold of that sum in a sandbox is worth. -/
noncomputable def Try.pinned : Pinned := { name := "ytofeccbcakebfaa", sum := "5665e3b343d5e3765a0046a455f974e2441b653d7ff101a5053cc7318239db09", checked := Try.checked }
namespace Rows
def none {H : Type} : Left H := { results := [], args := [] }

/-- 'sleuthlaw07.ColumnErrors': WHATEVER THE INPUT: true; the input reads as it did. -/
def columnErrorsSpec : ChangeSpec := { name := "columnErrors", fn := fun _ => fun
  | [d1, d2, d3] => { results := [.lit (.bool true)], args := [d1, d2, d3] }
  | _ => none }
def columnErrorsRow : OpenClaim := { program := "ytofeccbcakebfaa", sum := "5665e3b343d5e3765a0046a455f974e2441b653d7ff101a5053cc7318239db09", func := "sleuth/sleuthlaw07.ColumnErrors", spec := "columnErrors", unfollowed := true, recurses := true, apart := false }
def ColumnErrorsSaid : Prop := columnErrorsRow.holds Try.pinned (OpenSpec.ofChange columnErrorsSpec)

/-- ITS FALSE NEIGHBOUR: 'it returns false'. Refute it at one input. -/
def columnErrorsWrong : ChangeSpec := { name := "columnErrors", fn := fun _ => fun
  | [d1, d2, d3] => { results := [.lit (.bool false)], args := [d1, d2, d3] }
  | _ => none }
def ColumnErrorsWrongFalsely : Prop := columnErrorsRow.holds Try.pinned (OpenSpec.ofChange columnErrorsWrong)

/-- 'sleuthlaw07.ColumnCompresses': WHATEVER THE INPUT: true; the input reads as it did. -/
def columnCompressesSpec : ChangeSpec := { name := "columnCompresses", fn := fun _ => fun
  | [d1, d2, d3] => { results := [.lit (.bool true)], args := [d1, d2, d3] }
  | _ => none }
def columnCompressesRow : OpenClaim := { program := "ytofeccbcakebfaa", sum := "5665e3b343d5e3765a0046a455f974e2441b653d7ff101a5053cc7318239db09", func := "sleuth/sleuthlaw07.ColumnCompresses", spec := "columnCompresses", unfollowed := true, recurses := true, apart := false }
def ColumnCompressesSaid : Prop := columnCompressesRow.holds Try.pinned (OpenSpec.ofChange columnCompressesSpec)

/-- ITS FALSE NEIGHBOUR: 'it returns false'. Refute it at one input. -/
def columnCompressesWrong : ChangeSpec := { name := "columnCompresses", fn := fun _ => fun
  | [d1, d2, d3] => { results := [.lit (.bool false)], args := [d1, d2, d3] }
  | _ => none }
def ColumnCompressesWrongFalsely : Prop := columnCompressesRow.holds Try.pinned (OpenSpec.ofChange columnCompressesWrong)

/-- 'sleuthlaw07.ColumnNil': WHATEVER THE INPUT: true; the input reads as it did. -/
def columnNilSpec : ChangeSpec := { name := "columnNil", fn := fun _ => fun
  | [d1, d2, d3] => { results := [.lit (.bool true)], args := [d1, d2, d3] }
  | _ => none }
def columnNilRow : OpenClaim := { program := "ytofeccbcakebfaa", sum := "5665e3b343d5e3765a0046a455f974e2441b653d7ff101a5053cc7318239db09", func := "sleuth/sleuthlaw07.ColumnNil", spec := "columnNil", unfollowed := true, recurses := true, apart := false }
def ColumnNilSaid : Prop := columnNilRow.holds Try.pinned (OpenSpec.ofChange columnNilSpec)

/-- ITS FALSE NEIGHBOUR: 'it returns false'. Refute it at one input. -/
def columnNilWrong : ChangeSpec := { name := "columnNil", fn := fun _ => fun
  | [d1, d2, d3] => { results := [.lit (.bool false)], args := [d1, d2, d3] }
  | _ => none }
def ColumnNilWrongFalsely : Prop := columnNilRow.holds Try.pinned (OpenSpec.ofChange columnNilWrong)

/-- 'sleuthlaw07.ColumnOpens': WHATEVER THE INPUT: true; the input reads as it did. -/
def columnOpensSpec : ChangeSpec := { name := "columnOpens", fn := fun _ => fun
  | [d] => { results := [.lit (.bool true)], args := [d] }
  | _ => none }
def columnOpensRow : OpenClaim := { program := "ytofeccbcakebfaa", sum := "5665e3b343d5e3765a0046a455f974e2441b653d7ff101a5053cc7318239db09", func := "sleuth/sleuthlaw07.ColumnOpens", spec := "columnOpens", unfollowed := true, recurses := true, apart := false }
def ColumnOpensSaid : Prop := columnOpensRow.holds Try.pinned (OpenSpec.ofChange columnOpensSpec)

/-- ITS FALSE NEIGHBOUR: 'it returns false'. Refute it at one input. -/
def columnOpensWrong : ChangeSpec := { name := "columnOpens", fn := fun _ => fun
  | [d] => { results := [.lit (.bool false)], args := [d] }
  | _ => none }
def ColumnOpensWrongFalsely : Prop := columnOpensRow.holds Try.pinned (OpenSpec.ofChange columnOpensWrong)

/- THE SECOND FORM. 'bulk': how many values and letters a reading holds, each counted each time it is reached (what is shared counts as often as it is met; a slice's spare places count too). A statement '..UptoSaid' is the law's where the arguments, and the package variables that the reading takes, are together of bulk at most 1048576: NARROWER than '..Said'. Prove '..Said' where nothing that the law and all that it calls make is longer than what came in: it says more and counts as full. Else prove '..UptoSaid'. A law counts once. -/
mutual
def uptoBulk {H : Type} : DataW H → Nat
  | .lit (.string bytes) => bytes.length + 1
  | .lit _ => 1
  | .nil => 1
  | .ptr d => uptoBulk d + 1
  | .slice elems spare => uptoBulkAll elems + uptoBulkAll spare + 1
  | .agg parts => uptoBulkAll parts + 1
  | .iface _ d => uptoBulk d + 1
  | .map entries => uptoBulkEntries entries + 1
  | .held _ => 1
def uptoBulkAll {H : Type} : List (DataW H) → Nat
  | [] => 0
  | d :: r => uptoBulk d + uptoBulkAll r
def uptoBulkEntries {H : Type} : List (Lit × DataW H) → Nat
  | [] => 0
  | x :: r => uptoBulkEntry x + uptoBulkEntries r
def uptoBulkEntry {H : Type} : Lit × DataW H → Nat
  | (.string bytes, d) => bytes.length + uptoBulk d + 1
  | (_, d) => uptoBulk d + 1
 end
def uptoSmall : (H : Type) → List (DataW H) → Bool := fun _ ds => decide (uptoBulkAll ds ≤ 1048576)
def OpenSpec.upto (s : _root_.Go.ChangeSpec) : _root_.Go.OpenSpec := { _root_.Go.OpenSpec.ofChange s with cond := some uptoSmall }

/-- 'sleuthlaw07.ColumnErrors', WHERE WHAT IT READS IS OF BULK AT MOST 1048576: true; the input reads as it did. -/
def columnErrorsUptoRow : OpenClaim := { program := "ytofeccbcakebfaa", sum := "5665e3b343d5e3765a0046a455f974e2441b653d7ff101a5053cc7318239db09", func := "sleuth/sleuthlaw07.ColumnErrors", spec := "columnErrors", unfollowed := true, recurses := true, apart := false, narrowed := true }
def ColumnErrorsUptoSaid : Prop := columnErrorsUptoRow.holds Try.pinned (OpenSpec.upto columnErrorsSpec)

/-- 'sleuthlaw07.ColumnCompresses', WHERE WHAT IT READS IS OF BULK AT MOST 1048576: true; the input reads as it did. -/
def columnCompressesUptoRow : OpenClaim := { program := "ytofeccbcakebfaa", sum := "5665e3b343d5e3765a0046a455f974e2441b653d7ff101a5053cc7318239db09", func := "sleuth/sleuthlaw07.ColumnCompresses", spec := "columnCompresses", unfollowed := true, recurses := true, apart := false, narrowed := true }
def ColumnCompressesUptoSaid : Prop := columnCompressesUptoRow.holds Try.pinned (OpenSpec.upto columnCompressesSpec)

/-- 'sleuthlaw07.ColumnNil', WHERE WHAT IT READS IS OF BULK AT MOST 1048576: true; the input reads as it did. -/
def columnNilUptoRow : OpenClaim := { program := "ytofeccbcakebfaa", sum := "5665e3b343d5e3765a0046a455f974e2441b653d7ff101a5053cc7318239db09", func := "sleuth/sleuthlaw07.ColumnNil", spec := "columnNil", unfollowed := true, recurses := true, apart := false, narrowed := true }
def ColumnNilUptoSaid : Prop := columnNilUptoRow.holds Try.pinned (OpenSpec.upto columnNilSpec)

/-- 'sleuthlaw07.ColumnOpens', WHERE WHAT IT READS IS OF BULK AT MOST 1048576: true; the input reads as it did. -/
def columnOpensUptoRow : OpenClaim := { program := "ytofeccbcakebfaa", sum := "5665e3b343d5e3765a0046a455f974e2441b653d7ff101a5053cc7318239db09", func := "sleuth/sleuthlaw07.ColumnOpens", spec := "columnOpens", unfollowed := true, recurses := true, apart := false, narrowed := true }
def ColumnOpensUptoSaid : Prop := columnOpensUptoRow.holds Try.pinned (OpenSpec.upto columnOpensSpec)

end Rows
end Go.Proofs.Ytofeccbcakebfaa
