/- SpanKinds: for any int and any string the call answers true. No condition. -/
import Derived.Test.YtaepkcjcmejfcaaRows
import Derived.Test.YtaepkcjcmejfcaaSlC
import Derived.Test.YtaepkcjcmejfcaaSlT
import Derived.Test.YtaepkcjcmejfcaaSlK
set_option linter.unusedVariables false
set_option linter.unusedSimpArgs false
set_option linter.unnecessarySimpa false
namespace Go.Proofs.Ytaepkcjcmejfcaa
open Go.Proofs.Sl Go.RowKit
set_option maxRecDepth 100000

theorem spanKinds_all : ∀ vs, Ty.okVs [.i .i64, .s] vs → run XP i_sleuthlaw11_SpanKinds vs [] = some (vb true, []) := by
  intro vs h
  obtain ⟨x, vs, rfl, hx, h⟩ := Ty.okVs_cons h
  obtain ⟨y, vs, rfl, hy, h⟩ := Ty.okVs_cons h
  obtain rfl := Ty.okVs_nil h
  obtain ⟨k, rfl, hk⟩ := Ty.okV_i hx
  obtain ⟨q, rfl, _⟩ := Ty.okV_s hy
  exact kinds_law (rng_of hk)
theorem spanKinds_lifted (os : Os) (started : os.Started) (H : Type) (enc : TypeId × Value → H) :
    ReturnsInHanded {} Try.checked os 7 .any (Rows.spanKindsSpec.pre6 enc Try.prog Try.f7 Rows.spanKindsRow.domain false) (Rows.spanKindsSpec.post enc Try.prog Try.f7 false true false false) :=
  law_of (C := Try.checked) table prog_own started (by kernel_rfl) Try.func7
    (ChangeSpec.witness6 (enc := enc) (C := Try.checked) false ⟨#[], #[.int .i64 0, .string ⟨#[]⟩], []⟩ 8 (by kernel_rfl) (by kernel_rfl) (by kernel_rfl) (by kernel_rfl))
    (f := i_sleuthlaw11_SpanKinds) rfl prog_laidOut (by kernel_rfl) (Ts := [.i .i64, .s]) (by kernel_rfl) (tb := _) rfl (by kernel_rfl) rfl (fun ds h => by
      match ds, h with
      | [_, _], _ => rfl) spanKinds_all
theorem spanKinds_holds : Rows.SpanKindsSaid :=
  OpenClaim.holds_of_wide 7 Try.f7 rfl rfl rfl rfl rfl rfl rfl ⟨rfl, rfl, rfl, rfl, rfl⟩ rfl rfl rfl rfl rfl (by kernel_rfl) Try.func7 (by kernel_rfl)
    (of_decide_eq_true (by kernel_rfl)) (by unfold Func.isWrapper; first | (rw [if_pos (by decide +kernel)]; kernel_rfl) | (rw [if_neg (by decide +kernel)]; exact ⟨rfl, rfl⟩))
    (fun os started H enc _ => spanKinds_lifted os started H enc)
#print axioms spanKinds_holds
end Go.Proofs.Ytaepkcjcmejfcaa
