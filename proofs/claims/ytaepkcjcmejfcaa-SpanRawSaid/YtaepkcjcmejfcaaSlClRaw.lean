/- SpanRaw: for any two spans the call answers true, and both arguments read as before. No condition. -/
import Derived.Test.YtaepkcjcmejfcaaRows
import Derived.Test.YtaepkcjcmejfcaaSlC
import Derived.Test.YtaepkcjcmejfcaaSlT
import Derived.Test.YtaepkcjcmejfcaaSlK
set_option linter.unusedVariables false
set_option linter.unusedSimpArgs false
set_option linter.unnecessarySimpa false
namespace Go.Proofs.Ytaepkcjcmejfcaa
open Go.Proofs.Sl Go.RowKit
set_option maxRecDepth 100000

theorem spanRaw_all : ∀ vs, Ty.okVs [spanTy, spanTy] vs → run XP i_sleuthlaw11_SpanRaw vs [] = some (vb true, []) := by
  intro vs h
  obtain ⟨x, vs, rfl, hx, h⟩ := Ty.okVs_cons h
  obtain ⟨y, vs, rfl, hy, h⟩ := Ty.okVs_cons h
  obtain rfl := Ty.okVs_nil h
  obtain ⟨a, rfl, ha⟩ := span_of hx
  obtain ⟨b, rfl, hb⟩ := span_of hy
  exact raw_law ha hb
theorem spanRaw_lifted (os : Os) (started : os.Started) (H : Type) (enc : TypeId × Value → H) :
    ReturnsInHanded {} Try.checked os 5 .any (Rows.spanRawSpec.pre6 enc Try.prog Try.f5 Rows.spanRawRow.domain false) (Rows.spanRawSpec.post enc Try.prog Try.f5 false true false false) :=
  law_of (C := Try.checked) table prog_own started (by kernel_rfl) Try.func5
    (ChangeSpec.witness6 (enc := enc) (C := Try.checked) false ⟨#[], #[.agg #[.int .i64 0, .int .i64 0, .int .i64 0, .int .i64 0, .int .i64 0, .int .i64 0, .string ⟨#[]⟩, .string ⟨#[]⟩, .string ⟨#[]⟩, .int .i64 0, .int .i64 0, .bool false, .slice none 0 0, .slice none 0 0], .agg #[.int .i64 0, .int .i64 0, .int .i64 0, .int .i64 0, .int .i64 0, .int .i64 0, .string ⟨#[]⟩, .string ⟨#[]⟩, .string ⟨#[]⟩, .int .i64 0, .int .i64 0, .bool false, .slice none 0 0, .slice none 0 0]], []⟩ 8 (by kernel_rfl) (by kernel_rfl) (by kernel_rfl) (by kernel_rfl))
    (f := i_sleuthlaw11_SpanRaw) rfl prog_laidOut (by kernel_rfl) (Ts := [spanTy, spanTy]) (by kernel_rfl) (tb := _) rfl (by kernel_rfl) rfl (fun ds h => by
      match ds, h with
      | [_, _], _ => rfl) spanRaw_all
theorem spanRaw_holds : Rows.SpanRawSaid :=
  OpenClaim.holds_of_wide 5 Try.f5 rfl rfl rfl rfl rfl rfl rfl ⟨rfl, rfl, rfl, rfl, rfl⟩ rfl rfl rfl rfl rfl (by kernel_rfl) Try.func5 (by kernel_rfl)
    (of_decide_eq_true (by kernel_rfl)) (by unfold Func.isWrapper; first | (rw [if_pos (by decide +kernel)]; kernel_rfl) | (rw [if_neg (by decide +kernel)]; exact ⟨rfl, rfl⟩))
    (fun os started H enc _ => spanRaw_lifted os started H enc)
#print axioms spanRaw_holds
end Go.Proofs.Ytaepkcjcmejfcaa
