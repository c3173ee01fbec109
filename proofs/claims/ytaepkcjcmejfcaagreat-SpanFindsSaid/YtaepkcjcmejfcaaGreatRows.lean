/-
  NARROWER THAN 'FOR EVERY INPUT', by the rows' own cells (each row's printed sentence says how): SpanMatches: loops.
  DERIVED. THE GIVEN ROWS OF THIS SEAT. 2 by the template 'for every input the law returns true; each argument reads behind the call as it read before'; 0 by the template 'total and deterministic' (their statements: YtaepkcjcmejfcaaGreatTotals.lean).
  GIVEN WITH THE SEED: the statements are not yours to turn. If you find one false, say at which input.
  Laid BY PROGRAM, IN A SANDBOX (cutbox-rows.mjs): the forced cells as the released guide's own fill.sh prints them over the translation ccd3ef970827f919… (all of the seat's roots in one cut). By AI agents, Wed Nov 11 2026. No macro, syntax, notation, axiom, sorry.
-/
import Derived.Test.YtaepkcjcmejfcaaGreatChecked
import GoSem.Claim
import GoSem.ClaimJoined
import GoSem.ClaimMapViews
import Derived.JoinedTies
import Derived.KernelRfl
namespace Go.Proofs.YtaepkcjcmejfcaaGreat
/- THE CELL 'sum', in the pinned program and in every row, IS THE sha256 OF THE DUMP (.gsa) THAT YtaepkcjcmejfcaaGreatProg.lean LOADS. Nothing in Lean hashes anything: it is a label: what it is worth is what the hold of that sum in a sandbox is worth. -/
noncomputable def Tryz.pinned : Pinned := { name := "ytaepkcjcmejfcaagreat", sum := "ccd3ef970827f9195bbde6b92274f70b4e7c048277d502d7443cffebfe72455f", checked := Tryz.checked }
namespace Rows
def none {H : Type} : Left H := { results := [], args := [] }

/-- 'sleuthlaw11.SpanMatches': WHATEVER THE INPUT: true; the input reads as it did. -/
def spanMatchesSpec : ChangeSpec := { name := "spanMatches", fn := fun _ => fun
  | [d1, d2] => { results := [.lit (.bool true)], args := [d1, d2] }
  | _ => none }
def spanMatchesRow : OpenClaim := { program := "ytaepkcjcmejfcaagreat", sum := "ccd3ef970827f9195bbde6b92274f70b4e7c048277d502d7443cffebfe72455f", func := "sleuth/sleuthlaw11.SpanMatches", spec := "spanMatches", unfollowed := true, recurses := true, loops := true, apart := false }
def SpanMatchesSaid : Prop := spanMatchesRow.holds Tryz.pinned (OpenSpec.ofChange spanMatchesSpec)

/-- ITS FALSE NEIGHBOUR: 'it returns false'. Refute it at one input. -/
def spanMatchesWrong : ChangeSpec := { name := "spanMatches", fn := fun _ => fun
  | [d1, d2] => { results := [.lit (.bool false)], args := [d1, d2] }
  | _ => none }
def SpanMatchesWrongFalsely : Prop := spanMatchesRow.holds Tryz.pinned (OpenSpec.ofChange spanMatchesWrong)

/-- 'sleuthlaw11.SpanFinds': WHATEVER THE INPUT: true; the input reads as it did. -/
def spanFindsSpec : ChangeSpec := { name := "spanFinds", fn := fun _ => fun
  | [d1, d2, d3] => { results := [.lit (.bool true)], args := [d1, d2, d3] }
  | _ => none }
def spanFindsRow : OpenClaim := { program := "ytaepkcjcmejfcaagreat", sum := "ccd3ef970827f9195bbde6b92274f70b4e7c048277d502d7443cffebfe72455f", func := "sleuth/sleuthlaw11.SpanFinds", spec := "spanFinds", unfollowed := true, recurses := true, apart := false }
def SpanFindsSaid : Prop := spanFindsRow.holds Tryz.pinned (OpenSpec.ofChange spanFindsSpec)

/-- ITS FALSE NEIGHBOUR: 'it returns false'. Refute it at one input. -/
def spanFindsWrong : ChangeSpec := { name := "spanFinds", fn := fun _ => fun
  | [d1, d2, d3] => { results := [.lit (.bool false)], args := [d1, d2, d3] }
  | _ => none }
def SpanFindsWrongFalsely : Prop := spanFindsRow.holds Tryz.pinned (OpenSpec.ofChange spanFindsWrong)

/- THE SECOND FORM. 'bulk': how many values and letters a reading holds, each counted each time it is reached (what is shared counts as often as it is met; a slice's spare places count too). A statement '..UptoSaid' is the law's where the arguments, and the package variables that the reading takes, are together of bulk at most 1048576: NARROWER than '..Said'. Prove '..Said' where nothing that the law and all that it calls make is longer than what came in: it says more and counts as full. Else prove '..UptoSaid'. A law counts once. -/
mutual
def uptoBulk {H : Type} : DataW H → Nat
  | .lit (.string bytes) => bytes.length + 1
  | .lit _ => 1
  | .nil => 1
  | .ptr d => uptoBulk d + 1
  | .slice elems spare => uptoBulkAll elems + uptoBulkAll spare + 1
  | .agg parts => uptoBulkAll parts + 1
  | .iface _ d => uptoBulk d + 1
  | .map entries => uptoBulkEntries entries + 1
  | .held _ => 1
def uptoBulkAll {H : Type} : List (DataW H) → Nat
  | [] => 0
  | d :: r => uptoBulk d + uptoBulkAll r
def uptoBulkEntries {H : Type} : List (Lit × DataW H) → Nat
  | [] => 0
  | x :: r => uptoBulkEntry x + uptoBulkEntries r
def uptoBulkEntry {H : Type} : Lit × DataW H → Nat
  | (.string bytes, d) => bytes.length + uptoBulk d + 1
  | (_, d) => uptoBulk d + 1
 end
def uptoSmall : (H : Type) → List (DataW H) → Bool := fun _ ds => decide (uptoBulkAll ds ≤ 1048576)
def OpenSpec.upto (s : _root_.Go.ChangeSpec) : _root_.Go.OpenSpec := { _root_.Go.OpenSpec.ofChange s with cond := some uptoSmall }

/-- 'sleuthlaw11.SpanMatches', WHERE WHAT IT READS IS OF BULK AT MOST 1048576: true; the input reads as it did. -/
def spanMatchesUptoRow : OpenClaim := { program := "ytaepkcjcmejfcaagreat", sum := "ccd3ef970827f9195bbde6b92274f70b4e7c048277d502d7443cffebfe72455f", func := "sleuth/sleuthlaw11.SpanMatches", spec := "spanMatches", unfollowed := true, recurses := true, loops := true, apart := false, narrowed := true }
def SpanMatchesUptoSaid : Prop := spanMatchesUptoRow.holds Tryz.pinned (OpenSpec.upto spanMatchesSpec)

/-- 'sleuthlaw11.SpanFinds', WHERE WHAT IT READS IS OF BULK AT MOST 1048576: true; the input reads as it did. -/
def spanFindsUptoRow : OpenClaim := { program := "ytaepkcjcmejfcaagreat", sum := "ccd3ef970827f9195bbde6b92274f70b4e7c048277d502d7443cffebfe72455f", func := "sleuth/sleuthlaw11.SpanFinds", spec := "spanFinds", unfollowed := true, recurses := true, apart := false, narrowed := true }
def SpanFindsUptoSaid : Prop := spanFindsUptoRow.holds Tryz.pinned (OpenSpec.upto spanFindsSpec)

end Rows
end Go.Proofs.YtaepkcjcmejfcaaGreat
