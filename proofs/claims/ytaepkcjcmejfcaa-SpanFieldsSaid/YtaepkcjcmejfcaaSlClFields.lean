/- SpanFields: for any mark and any two strings the call answers true, and the arguments read as before. No condition. -/
import Derived.Test.YtaepkcjcmejfcaaRows
import Derived.Test.YtaepkcjcmejfcaaSlC
import Derived.Test.YtaepkcjcmejfcaaSlT
import Derived.Test.YtaepkcjcmejfcaaSlK
set_option linter.unusedVariables false
set_option linter.unusedSimpArgs false
set_option linter.unnecessarySimpa false
namespace Go.Proofs.Ytaepkcjcmejfcaa
open Go.Proofs.Sl Go.RowKit
set_option maxRecDepth 100000

theorem spanFields_all : ∀ vs, Ty.okVs [markTy, .s, .s] vs → run XP i_sleuthlaw11_SpanFields vs [] = some (vb true, []) := by
  intro vs h
  obtain ⟨x, vs, rfl, hx, h⟩ := Ty.okVs_cons h
  obtain ⟨y, vs, rfl, hy, h⟩ := Ty.okVs_cons h
  obtain ⟨z, vs, rfl, hz, h⟩ := Ty.okVs_cons h
  obtain rfl := Ty.okVs_nil h
  obtain ⟨a, rfl, ha⟩ := mark_of hx
  obtain ⟨f, rfl, _⟩ := Ty.okV_s hy
  obtain ⟨k, rfl, _⟩ := Ty.okV_s hz
  exact fields_law ha
theorem spanFields_lifted (os : Os) (started : os.Started) (H : Type) (enc : TypeId × Value → H) :
    ReturnsInHanded {} Try.checked os 6 .any (Rows.spanFieldsSpec.pre6 enc Try.prog Try.f6 Rows.spanFieldsRow.domain false) (Rows.spanFieldsSpec.post enc Try.prog Try.f6 false true false false) :=
  law_of (C := Try.checked) table prog_own started (by kernel_rfl) Try.func6
    (ChangeSpec.witness6 (enc := enc) (C := Try.checked) false ⟨#[], #[.agg #[.int .u8 0, .int .u8 0, .int .u8 0, .int .u8 0, .int .u8 0, .int .u8 0, .int .u8 0, .int .u8 0, .int .u8 0, .int .u8 0, .int .u8 0, .int .u8 0, .int .u8 0, .bool false], .string ⟨#[]⟩, .string ⟨#[]⟩], []⟩ 8 (by kernel_rfl) (by kernel_rfl) (by kernel_rfl) (by kernel_rfl))
    (f := i_sleuthlaw11_SpanFields) rfl prog_laidOut (by kernel_rfl) (Ts := [markTy, .s, .s]) (by kernel_rfl) (tb := _) rfl (by kernel_rfl) rfl (fun ds h => by
      match ds, h with
      | [_, _, _], _ => rfl) spanFields_all
theorem spanFields_holds : Rows.SpanFieldsSaid :=
  OpenClaim.holds_of_wide 6 Try.f6 rfl rfl rfl rfl rfl rfl rfl ⟨rfl, rfl, rfl, rfl, rfl⟩ rfl rfl rfl rfl rfl (by kernel_rfl) Try.func6 (by kernel_rfl)
    (of_decide_eq_true (by kernel_rfl)) (by unfold Func.isWrapper; first | (rw [if_pos (by decide +kernel)]; kernel_rfl) | (rw [if_neg (by decide +kernel)]; exact ⟨rfl, rfl⟩))
    (fun os started H enc _ => spanFields_lifted os started H enc)
#print axioms spanFields_holds
end Go.Proofs.Ytaepkcjcmejfcaa
