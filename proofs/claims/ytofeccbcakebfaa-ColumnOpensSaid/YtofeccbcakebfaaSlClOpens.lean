/- ColumnOpens: for any string the call answers true, and the argument reads as before. No condition. -/
import Derived.Test.YtofeccbcakebfaaRows
import Derived.Test.YtofeccbcakebfaaSlC
import Derived.Test.YtofeccbcakebfaaSlT
import Derived.Test.YtofeccbcakebfaaSlL1
set_option linter.unusedVariables false
set_option linter.unusedSimpArgs false
set_option linter.unnecessarySimpa false
namespace Go.Proofs.Ytofeccbcakebfaa
open Go.Proofs.Sl Go.RowKit
set_option maxRecDepth 100000

theorem columnOpens_all : ∀ vs, Ty.okVs [.s] vs → run XP i_sleuthlaw07_ColumnOpens vs [] = some (vb true, []) := by
  intro vs h
  obtain ⟨x, vs, rfl, hx, h⟩ := Ty.okVs_cons h
  obtain rfl := Ty.okVs_nil h
  obtain ⟨S, rfl, _⟩ := Ty.okV_s hx
  exact opens_law
theorem columnOpens_lifted (os : Os) (started : os.Started) (H : Type) (enc : TypeId × Value → H) :
    ReturnsInHanded {} Try.checked os 6 .any (Rows.columnOpensSpec.pre6 enc Try.prog Try.f6 Rows.columnOpensRow.domain false) (Rows.columnOpensSpec.post enc Try.prog Try.f6 false true false false) :=
  law_of (C := Try.checked) table prog_own started (by kernel_rfl) Try.func6
    (ChangeSpec.witness6 (enc := enc) (C := Try.checked) false ⟨#[], #[.string ⟨#[]⟩], []⟩ 8 (by kernel_rfl) (by kernel_rfl) (by kernel_rfl) (by kernel_rfl))
    (f := i_sleuthlaw07_ColumnOpens) rfl prog_laidOut (by kernel_rfl) (Ts := [.s]) (by kernel_rfl) (tb := _) rfl (by kernel_rfl) rfl (fun ds h => by
      match ds, h with
      | [_], _ => rfl) columnOpens_all
theorem columnOpens_holds : Rows.ColumnOpensSaid :=
  OpenClaim.holds_of_wide 6 Try.f6 rfl rfl rfl rfl rfl rfl rfl ⟨rfl, rfl, rfl, rfl, rfl⟩ rfl rfl rfl rfl rfl (by kernel_rfl) Try.func6 (by kernel_rfl)
    (of_decide_eq_true (by kernel_rfl)) (by unfold Func.isWrapper; first | (rw [if_pos (by decide +kernel)]; kernel_rfl) | (rw [if_neg (by decide +kernel)]; exact ⟨rfl, rfl⟩))
    (fun os started H enc _ => columnOpens_lifted os started H enc)
#print axioms columnOpens_holds
end Go.Proofs.Ytofeccbcakebfaa
