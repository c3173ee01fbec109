/-
  No cell of these rows narrows 'for every input' (looked for: loops, veiled, ifaces, maps, wideKeys, modest, calm, conditions, laid).
  DERIVED. THE GIVEN ROWS OF THIS SEAT. 9 by the template 'for every input the law returns true; each argument reads behind the call as it read before'; 0 by the template 'total and deterministic' (their statements: YtalalpgkljkdiaaGreatTotals.lean).
  GIVEN WITH THE SEED: the statements are not yours to turn. If you find one false, say at which input.
  Laid BY PROGRAM, IN A SANDBOX (cutbox-rows.mjs): the forced cells as the released guide's own fill.sh prints them over the translation 4b7527151668fefe… (all of the seat's roots in one cut). By AI agents, Wed Nov 11 2026. No macro, syntax, notation, axiom, sorry.
-/
import Derived.Test.YtalalpgkljkdiaaGreatChecked
import GoSem.Claim
import GoSem.ClaimJoined
import GoSem.ClaimMapViews
import Derived.JoinedTies
import Derived.KernelRfl
namespace Go.Proofs.YtalalpgkljkdiaaGreat
/- THE CELL 'sum', in the pinned program and in every row, IS THE sha256 OF THE DUMP (.gsa) THAT YtalalpgkljkdiaaGreatProg.lean LOADS. Nothing in Lean hashes anything: it is a label: what it is worth is what the hold of that sum in a sandbox is worth. -/
noncomputable def Tryz.pinned : Pinned := { name := "ytalalpgkljkdiaagreat", sum := "4b7527151668fefe4612addcc6c20b9d1ff8d7bf2e5bfaf7d97f74c41b4c7b15", checked := Tryz.checked }
namespace Rows
def none {H : Type} : Left H := { results := [], args := [] }

/-- 'sleuthlaw29.BlockColumns': WHATEVER THE INPUT: true; the input reads as it did. -/
def blockColumnsSpec : ChangeSpec := { name := "blockColumns", fn := fun _ => fun
  | [d1, d2] => { results := [.lit (.bool true)], args := [d1, d2] }
  | _ => none }
def blockColumnsRow : OpenClaim := { program := "ytalalpgkljkdiaagreat", sum := "4b7527151668fefe4612addcc6c20b9d1ff8d7bf2e5bfaf7d97f74c41b4c7b15", func := "sleuth/sleuthlaw29.BlockColumns", spec := "blockColumns", unfollowed := true, recurses := true, apart := false }
def BlockColumnsSaid : Prop := blockColumnsRow.holds Tryz.pinned (OpenSpec.ofChange blockColumnsSpec)

/-- ITS FALSE NEIGHBOUR: 'it returns false'. Refute it at one input. -/
def blockColumnsWrong : ChangeSpec := { name := "blockColumns", fn := fun _ => fun
  | [d1, d2] => { results := [.lit (.bool false)], args := [d1, d2] }
  | _ => none }
def BlockColumnsWrongFalsely : Prop := blockColumnsRow.holds Tryz.pinned (OpenSpec.ofChange blockColumnsWrong)

/-- 'sleuthlaw29.BlockRefuses': WHATEVER THE INPUT: true; the input reads as it did. -/
def blockRefusesSpec : ChangeSpec := { name := "blockRefuses", fn := fun _ => fun
  | [d1, d2] => { results := [.lit (.bool true)], args := [d1, d2] }
  | _ => none }
def blockRefusesRow : OpenClaim := { program := "ytalalpgkljkdiaagreat", sum := "4b7527151668fefe4612addcc6c20b9d1ff8d7bf2e5bfaf7d97f74c41b4c7b15", func := "sleuth/sleuthlaw29.BlockRefuses", spec := "blockRefuses", unfollowed := true, recurses := true, apart := false }
def BlockRefusesSaid : Prop := blockRefusesRow.holds Tryz.pinned (OpenSpec.ofChange blockRefusesSpec)

/-- ITS FALSE NEIGHBOUR: 'it returns false'. Refute it at one input. -/
def blockRefusesWrong : ChangeSpec := { name := "blockRefuses", fn := fun _ => fun
  | [d1, d2] => { results := [.lit (.bool false)], args := [d1, d2] }
  | _ => none }
def BlockRefusesWrongFalsely : Prop := blockRefusesRow.holds Tryz.pinned (OpenSpec.ofChange blockRefusesWrong)

/-- 'sleuthlaw29.BlockMerges': WHATEVER THE INPUT: true; the input reads as it did. -/
def blockMergesSpec : ChangeSpec := { name := "blockMerges", fn := fun _ => fun
  | [d1, d2] => { results := [.lit (.bool true)], args := [d1, d2] }
  | _ => none }
def blockMergesRow : OpenClaim := { program := "ytalalpgkljkdiaagreat", sum := "4b7527151668fefe4612addcc6c20b9d1ff8d7bf2e5bfaf7d97f74c41b4c7b15", func := "sleuth/sleuthlaw29.BlockMerges", spec := "blockMerges", unfollowed := true, recurses := true, apart := false }
def BlockMergesSaid : Prop := blockMergesRow.holds Tryz.pinned (OpenSpec.ofChange blockMergesSpec)

/-- ITS FALSE NEIGHBOUR: 'it returns false'. Refute it at one input. -/
def blockMergesWrong : ChangeSpec := { name := "blockMerges", fn := fun _ => fun
  | [d1, d2] => { results := [.lit (.bool false)], args := [d1, d2] }
  | _ => none }
def BlockMergesWrongFalsely : Prop := blockMergesRow.holds Tryz.pinned (OpenSpec.ofChange blockMergesWrong)

/-- 'sleuthlaw29.BlockAttrs': WHATEVER THE INPUT: true; the input reads as it did. -/
def blockAttrsSpec : ChangeSpec := { name := "blockAttrs", fn := fun _ => fun
  | [d1, d2] => { results := [.lit (.bool true)], args := [d1, d2] }
  | _ => none }
def blockAttrsRow : OpenClaim := { program := "ytalalpgkljkdiaagreat", sum := "4b7527151668fefe4612addcc6c20b9d1ff8d7bf2e5bfaf7d97f74c41b4c7b15", func := "sleuth/sleuthlaw29.BlockAttrs", spec := "blockAttrs", unfollowed := true, recurses := true, apart := false }
def BlockAttrsSaid : Prop := blockAttrsRow.holds Tryz.pinned (OpenSpec.ofChange blockAttrsSpec)

/-- ITS FALSE NEIGHBOUR: 'it returns false'. Refute it at one input. -/
def blockAttrsWrong : ChangeSpec := { name := "blockAttrs", fn := fun _ => fun
  | [d1, d2] => { results := [.lit (.bool false)], args := [d1, d2] }
  | _ => none }
def BlockAttrsWrongFalsely : Prop := blockAttrsRow.holds Tryz.pinned (OpenSpec.ofChange blockAttrsWrong)

/-- 'sleuthlaw29.BlockProjects': WHATEVER THE INPUT: true; the input reads as it did. -/
def blockProjectsSpec : ChangeSpec := { name := "blockProjects", fn := fun _ => fun
  | [d1, d2, d3] => { results := [.lit (.bool true)], args := [d1, d2, d3] }
  | _ => none }
def blockProjectsRow : OpenClaim := { program := "ytalalpgkljkdiaagreat", sum := "4b7527151668fefe4612addcc6c20b9d1ff8d7bf2e5bfaf7d97f74c41b4c7b15", func := "sleuth/sleuthlaw29.BlockProjects", spec := "blockProjects", unfollowed := true, recurses := true, apart := false }
def BlockProjectsSaid : Prop := blockProjectsRow.holds Tryz.pinned (OpenSpec.ofChange blockProjectsSpec)

/-- ITS FALSE NEIGHBOUR: 'it returns false'. Refute it at one input. -/
def blockProjectsWrong : ChangeSpec := { name := "blockProjects", fn := fun _ => fun
  | [d1, d2, d3] => { results := [.lit (.bool false)], args := [d1, d2, d3] }
  | _ => none }
def BlockProjectsWrongFalsely : Prop := blockProjectsRow.holds Tryz.pinned (OpenSpec.ofChange blockProjectsWrong)

/-- 'sleuthlaw29.BlockSelects': WHATEVER THE INPUT: true; the input reads as it did. -/
def blockSelectsSpec : ChangeSpec := { name := "blockSelects", fn := fun _ => fun
  | [d1, d2, d3] => { results := [.lit (.bool true)], args := [d1, d2, d3] }
  | _ => none }
def blockSelectsRow : OpenClaim := { program := "ytalalpgkljkdiaagreat", sum := "4b7527151668fefe4612addcc6c20b9d1ff8d7bf2e5bfaf7d97f74c41b4c7b15", func := "sleuth/sleuthlaw29.BlockSelects", spec := "blockSelects", unfollowed := true, recurses := true, apart := false }
def BlockSelectsSaid : Prop := blockSelectsRow.holds Tryz.pinned (OpenSpec.ofChange blockSelectsSpec)

/-- ITS FALSE NEIGHBOUR: 'it returns false'. Refute it at one input. -/
def blockSelectsWrong : ChangeSpec := { name := "blockSelects", fn := fun _ => fun
  | [d1, d2, d3] => { results := [.lit (.bool false)], args := [d1, d2, d3] }
  | _ => none }
def BlockSelectsWrongFalsely : Prop := blockSelectsRow.holds Tryz.pinned (OpenSpec.ofChange blockSelectsWrong)

/-- 'sleuthlaw29.BlockDecodes': WHATEVER THE INPUT: true; the input reads as it did. -/
def blockDecodesSpec : ChangeSpec := { name := "blockDecodes", fn := fun _ => fun
  | [d1, d2, d3] => { results := [.lit (.bool true)], args := [d1, d2, d3] }
  | _ => none }
def blockDecodesRow : OpenClaim := { program := "ytalalpgkljkdiaagreat", sum := "4b7527151668fefe4612addcc6c20b9d1ff8d7bf2e5bfaf7d97f74c41b4c7b15", func := "sleuth/sleuthlaw29.BlockDecodes", spec := "blockDecodes", unfollowed := true, recurses := true, apart := false }
def BlockDecodesSaid : Prop := blockDecodesRow.holds Tryz.pinned (OpenSpec.ofChange blockDecodesSpec)

/-- ITS FALSE NEIGHBOUR: 'it returns false'. Refute it at one input. -/
def blockDecodesWrong : ChangeSpec := { name := "blockDecodes", fn := fun _ => fun
  | [d1, d2, d3] => { results := [.lit (.bool false)], args := [d1, d2, d3] }
  | _ => none }
def BlockDecodesWrongFalsely : Prop := blockDecodesRow.holds Tryz.pinned (OpenSpec.ofChange blockDecodesWrong)

/-- 'sleuthlaw29.BlockEncodes': WHATEVER THE INPUT: true; the input reads as it did. -/
def blockEncodesSpec : ChangeSpec := { name := "blockEncodes", fn := fun _ => fun
  | [d1, d2, d3] => { results := [.lit (.bool true)], args := [d1, d2, d3] }
  | _ => none }
def blockEncodesRow : OpenClaim := { program := "ytalalpgkljkdiaagreat", sum := "4b7527151668fefe4612addcc6c20b9d1ff8d7bf2e5bfaf7d97f74c41b4c7b15", func := "sleuth/sleuthlaw29.BlockEncodes", spec := "blockEncodes", unfollowed := true, recurses := true, apart := false }
def BlockEncodesSaid : Prop := blockEncodesRow.holds Tryz.pinned (OpenSpec.ofChange blockEncodesSpec)

/-- ITS FALSE NEIGHBOUR: 'it returns false'. Refute it at one input. -/
def blockEncodesWrong : ChangeSpec := { name := "blockEncodes", fn := fun _ => fun
  | [d1, d2, d3] => { results := [.lit (.bool false)], args := [d1, d2, d3] }
  | _ => none }
def BlockEncodesWrongFalsely : Prop := blockEncodesRow.holds Tryz.pinned (OpenSpec.ofChange blockEncodesWrong)

/-- 'sleuthlaw29.BlockNil': WHATEVER THE INPUT: true; the input reads as it did. -/
def blockNilSpec : ChangeSpec := { name := "blockNil", fn := fun _ => fun
  | [d1, d2, d3] => { results := [.lit (.bool true)], args := [d1, d2, d3] }
  | _ => none }
def blockNilRow : OpenClaim := { program := "ytalalpgkljkdiaagreat", sum := "4b7527151668fefe4612addcc6c20b9d1ff8d7bf2e5bfaf7d97f74c41b4c7b15", func := "sleuth/sleuthlaw29.BlockNil", spec := "blockNil", unfollowed := true, recurses := true, apart := false }
def BlockNilSaid : Prop := blockNilRow.holds Tryz.pinned (OpenSpec.ofChange blockNilSpec)

/-- ITS FALSE NEIGHBOUR: 'it returns false'. Refute it at one input. -/
def blockNilWrong : ChangeSpec := { name := "blockNil", fn := fun _ => fun
  | [d1, d2, d3] => { results := [.lit (.bool false)], args := [d1, d2, d3] }
  | _ => none }
def BlockNilWrongFalsely : Prop := blockNilRow.holds Tryz.pinned (OpenSpec.ofChange blockNilWrong)

/- THE SECOND FORM. 'bulk': how many values and letters a reading holds, each counted each time it is reached (what is shared counts as often as it is met; a slice's spare places count too). A statement '..UptoSaid' is the law's where the arguments, and the package variables that the reading takes, are together of bulk at most 1048576: NARROWER than '..Said'. Prove '..Said' where nothing that the law and all that it calls make is longer than what came in: it says more and counts as full. Else prove '..UptoSaid'. A law counts once. -/
mutual
def uptoBulk {H : Type} : DataW H → Nat
  | .lit (.string bytes) => bytes.length + 1
  | .lit _ => 1
  | .nil => 1
  | .ptr d => uptoBulk d + 1
  | .slice elems spare => uptoBulkAll elems + uptoBulkAll spare + 1
  | .agg parts => uptoBulkAll parts + 1
  | .iface _ d => uptoBulk d + 1
  | .map entries => uptoBulkEntries entries + 1
  | .held _ => 1
def uptoBulkAll {H : Type} : List (DataW H) → Nat
  | [] => 0
  | d :: r => uptoBulk d + uptoBulkAll r
def uptoBulkEntries {H : Type} : List (Lit × DataW H) → Nat
  | [] => 0
  | x :: r => uptoBulkEntry x + uptoBulkEntries r
def uptoBulkEntry {H : Type} : Lit × DataW H → Nat
  | (.string bytes, d) => bytes.length + uptoBulk d + 1
  | (_, d) => uptoBulk d + 1
 end
def uptoSmall : (H : Type) → List (DataW H) → Bool := fun _ ds => decide (uptoBulkAll ds ≤ 1048576)
def OpenSpec.upto (s : _root_.Go.ChangeSpec) : _root_.Go.OpenSpec := { _root_.Go.OpenSpec.ofChange s with cond := some uptoSmall }

/-- 'sleuthlaw29.BlockColumns', WHERE WHAT IT READS IS OF BULK AT MOST 1048576: true; the input reads as it did. -/
def blockColumnsUptoRow : OpenClaim := { program := "ytalalpgkljkdiaagreat", sum := "4b7527151668fefe4612addcc6c20b9d1ff8d7bf2e5bfaf7d97f74c41b4c7b15", func := "sleuth/sleuthlaw29.BlockColumns", spec := "blockColumns", unfollowed := true, recurses := true, apart := false, narrowed := true }
def BlockColumnsUptoSaid : Prop := blockColumnsUptoRow.holds Tryz.pinned (OpenSpec.upto blockColumnsSpec)

/-- 'sleuthlaw29.BlockRefuses', WHERE WHAT IT READS IS OF BULK AT MOST 1048576: true; the input reads as it did. -/
def blockRefusesUptoRow : OpenClaim := { program := "ytalalpgkljkdiaagreat", sum := "4b7527151668fefe4612addcc6c20b9d1ff8d7bf2e5bfaf7d97f74c41b4c7b15", func := "sleuth/sleuthlaw29.BlockRefuses", spec := "blockRefuses", unfollowed := true, recurses := true, apart := false, narrowed := true }
def BlockRefusesUptoSaid : Prop := blockRefusesUptoRow.holds Tryz.pinned (OpenSpec.upto blockRefusesSpec)

/-- 'sleuthlaw29.BlockMerges', WHERE WHAT IT READS IS OF BULK AT MOST 1048576: true; the input reads as it did. -/
def blockMergesUptoRow : OpenClaim := { program := "ytalalpgkljkdiaagreat", sum := "4b7527151668fefe4612addcc6c20b9d1ff8d7bf2e5bfaf7d97f74c41b4c7b15", func := "sleuth/sleuthlaw29.BlockMerges", spec := "blockMerges", unfollowed := true, recurses := true, apart := false, narrowed := true }
def BlockMergesUptoSaid : Prop := blockMergesUptoRow.holds Tryz.pinned (OpenSpec.upto blockMergesSpec)

/-- 'sleuthlaw29.BlockAttrs', WHERE WHAT IT READS IS OF BULK AT MOST 1048576: true; the input reads as it did. -/
def blockAttrsUptoRow : OpenClaim := { program := "ytalalpgkljkdiaagreat", sum := "4b7527151668fefe4612addcc6c20b9d1ff8d7bf2e5bfaf7d97f74c41b4c7b15", func := "sleuth/sleuthlaw29.BlockAttrs", spec := "blockAttrs", unfollowed := true, recurses := true, apart := false, narrowed := true }
def BlockAttrsUptoSaid : Prop := blockAttrsUptoRow.holds Tryz.pinned (OpenSpec.upto blockAttrsSpec)

/-- 'sleuthlaw29.BlockProjects', WHERE WHAT IT READS IS OF BULK AT MOST 1048576: true; the input reads as it did. -/
def blockProjectsUptoRow : OpenClaim := { program := "ytalalpgkljkdiaagreat", sum := "4b7527151668fefe4612addcc6c20b9d1ff8d7bf2e5bfaf7d97f74c41b4c7b15", func := "sleuth/sleuthlaw29.BlockProjects", spec := "blockProjects", unfollowed := true, recurses := true, apart := false, narrowed := true }
def BlockProjectsUptoSaid : Prop := blockProjectsUptoRow.holds Tryz.pinned (OpenSpec.upto blockProjectsSpec)

/-- 'sleuthlaw29.BlockSelects', WHERE WHAT IT READS IS OF BULK AT MOST 1048576: true; the input reads as it did. -/
def blockSelectsUptoRow : OpenClaim := { program := "ytalalpgkljkdiaagreat", sum := "4b7527151668fefe4612addcc6c20b9d1ff8d7bf2e5bfaf7d97f74c41b4c7b15", func := "sleuth/sleuthlaw29.BlockSelects", spec := "blockSelects", unfollowed := true, recurses := true, apart := false, narrowed := true }
def BlockSelectsUptoSaid : Prop := blockSelectsUptoRow.holds Tryz.pinned (OpenSpec.upto blockSelectsSpec)

/-- 'sleuthlaw29.BlockDecodes', WHERE WHAT IT READS IS OF BULK AT MOST 1048576: true; the input reads as it did. -/
def blockDecodesUptoRow : OpenClaim := { program := "ytalalpgkljkdiaagreat", sum := "4b7527151668fefe4612addcc6c20b9d1ff8d7bf2e5bfaf7d97f74c41b4c7b15", func := "sleuth/sleuthlaw29.BlockDecodes", spec := "blockDecodes", unfollowed := true, recurses := true, apart := false, narrowed := true }
def BlockDecodesUptoSaid : Prop := blockDecodesUptoRow.holds Tryz.pinned (OpenSpec.upto blockDecodesSpec)

/-- 'sleuthlaw29.BlockEncodes', WHERE WHAT IT READS IS OF BULK AT MOST 1048576: true; the input reads as it did. -/
def blockEncodesUptoRow : OpenClaim := { program := "ytalalpgkljkdiaagreat", sum := "4b7527151668fefe4612addcc6c20b9d1ff8d7bf2e5bfaf7d97f74c41b4c7b15", func := "sleuth/sleuthlaw29.BlockEncodes", spec := "blockEncodes", unfollowed := true, recurses := true, apart := false, narrowed := true }
def BlockEncodesUptoSaid : Prop := blockEncodesUptoRow.holds Tryz.pinned (OpenSpec.upto blockEncodesSpec)

/-- 'sleuthlaw29.BlockNil', WHERE WHAT IT READS IS OF BULK AT MOST 1048576: true; the input reads as it did. -/
def blockNilUptoRow : OpenClaim := { program := "ytalalpgkljkdiaagreat", sum := "4b7527151668fefe4612addcc6c20b9d1ff8d7bf2e5bfaf7d97f74c41b4c7b15", func := "sleuth/sleuthlaw29.BlockNil", spec := "blockNil", unfollowed := true, recurses := true, apart := false, narrowed := true }
def BlockNilUptoSaid : Prop := blockNilUptoRow.holds Tryz.pinned (OpenSpec.upto blockNilSpec)

end Rows
end Go.Proofs.YtalalpgkljkdiaaGreat
