/- ColumnNil: for any two numbers and any rows the call answers true, and the arguments read as before. No condition. -/
import Derived.Test.YtofeccbcakebfaaRows
import Derived.Test.YtofeccbcakebfaaSlC
import Derived.Test.YtofeccbcakebfaaSlT
import Derived.Test.YtofeccbcakebfaaSlL0
set_option linter.unusedVariables false
set_option linter.unusedSimpArgs false
set_option linter.unnecessarySimpa false
namespace Go.Proofs.Ytofeccbcakebfaa
open Go.Proofs.Sl Go.RowKit
set_option maxRecDepth 100000

theorem columnNil_all : ∀ vs, Ty.okVs [.i .i64, .i .i64, .sl (.i .i64)] vs → run XP i_sleuthlaw07_ColumnNil vs [] = some (vb true, []) := by
  intro vs h
  obtain ⟨x, vs, rfl, hx, h⟩ := Ty.okVs_cons h
  obtain ⟨y, vs, rfl, hy, h⟩ := Ty.okVs_cons h
  obtain ⟨z, vs, rfl, hz, h⟩ := Ty.okVs_cons h
  obtain rfl := Ty.okVs_nil h
  obtain ⟨a, rfl, ha⟩ := Ty.okV_i hx
  obtain ⟨b, rfl, hb⟩ := Ty.okV_i hy
  obtain ⟨o, rfl, _, ho⟩ := okV_sl hz
  exact nil7_law
theorem columnNil_lifted (os : Os) (started : os.Started) (H : Type) (enc : TypeId × Value → H) :
    ReturnsInHanded {} Try.checked os 5 .any (Rows.columnNilSpec.pre6 enc Try.prog Try.f5 Rows.columnNilRow.domain false) (Rows.columnNilSpec.post enc Try.prog Try.f5 false true false false) :=
  law_of (C := Try.checked) table prog_own started (by kernel_rfl) Try.func5
    (ChangeSpec.witness6 (enc := enc) (C := Try.checked) false ⟨#[], #[.int .i64 0, .int .i64 0, .slice none 0 0], []⟩ 8 (by kernel_rfl) (by kernel_rfl) (by kernel_rfl) (by kernel_rfl))
    (f := i_sleuthlaw07_ColumnNil) rfl prog_laidOut (by kernel_rfl) (Ts := [.i .i64, .i .i64, .sl (.i .i64)]) (by kernel_rfl) (tb := _) rfl (by kernel_rfl) rfl (fun ds h => by
      match ds, h with
      | [_, _, _], _ => rfl) columnNil_all
theorem columnNil_holds : Rows.ColumnNilSaid :=
  OpenClaim.holds_of_wide 5 Try.f5 rfl rfl rfl rfl rfl rfl rfl ⟨rfl, rfl, rfl, rfl, rfl⟩ rfl rfl rfl rfl rfl (by kernel_rfl) Try.func5 (by kernel_rfl)
    (of_decide_eq_true (by kernel_rfl)) (by unfold Func.isWrapper; first | (rw [if_pos (by decide +kernel)]; kernel_rfl) | (rw [if_neg (by decide +kernel)]; exact ⟨rfl, rfl⟩))
    (fun os started H enc _ => columnNil_lifted os started H enc)
#print axioms columnNil_holds
end Go.Proofs.Ytofeccbcakebfaa
