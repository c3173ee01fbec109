/- SpanTimes: for any mark and any int the call answers true, and the arguments read as before. No condition. -/
import Derived.Test.YtaepkcjcmejfcaaRows
import Derived.Test.YtaepkcjcmejfcaaSlC
import Derived.Test.YtaepkcjcmejfcaaSlT
import Derived.Test.YtaepkcjcmejfcaaSlK
set_option linter.unusedVariables false
set_option linter.unusedSimpArgs false
set_option linter.unnecessarySimpa false
namespace Go.Proofs.Ytaepkcjcmejfcaa
open Go.Proofs.Sl Go.RowKit
set_option maxRecDepth 100000

theorem spanTimes_all : ∀ vs, Ty.okVs [markTy, .i .i64] vs → run XP i_sleuthlaw11_SpanTimes vs [] = some (vb true, []) := by
  intro vs h
  obtain ⟨x, vs, rfl, hx, h⟩ := Ty.okVs_cons h
  obtain ⟨y, vs, rfl, hy, h⟩ := Ty.okVs_cons h
  obtain rfl := Ty.okVs_nil h
  obtain ⟨a, rfl, ha⟩ := mark_of hx
  obtain ⟨k, rfl, hk⟩ := Ty.okV_i hy
  exact times_law ha
theorem spanTimes_lifted (os : Os) (started : os.Started) (H : Type) (enc : TypeId × Value → H) :
    ReturnsInHanded {} Try.checked os 8 .any (Rows.spanTimesSpec.pre6 enc Try.prog Try.f8 Rows.spanTimesRow.domain false) (Rows.spanTimesSpec.post enc Try.prog Try.f8 false true false false) :=
  law_of (C := Try.checked) table prog_own started (by kernel_rfl) Try.func8
    (ChangeSpec.witness6 (enc := enc) (C := Try.checked) false ⟨#[], #[.agg #[.int .u8 0, .int .u8 0, .int .u8 0, .int .u8 0, .int .u8 0, .int .u8 0, .int .u8 0, .int .u8 0, .int .u8 0, .int .u8 0, .int .u8 0, .int .u8 0, .int .u8 0, .bool false], .int .i64 0], []⟩ 8 (by kernel_rfl) (by kernel_rfl) (by kernel_rfl) (by kernel_rfl))
    (f := i_sleuthlaw11_SpanTimes) rfl prog_laidOut (by kernel_rfl) (Ts := [markTy, .i .i64]) (by kernel_rfl) (tb := _) rfl (by kernel_rfl) rfl (fun ds h => by
      match ds, h with
      | [_, _], _ => rfl) spanTimes_all
theorem spanTimes_holds : Rows.SpanTimesSaid :=
  OpenClaim.holds_of_wide 8 Try.f8 rfl rfl rfl rfl rfl rfl rfl ⟨rfl, rfl, rfl, rfl, rfl⟩ rfl rfl rfl rfl rfl (by kernel_rfl) Try.func8 (by kernel_rfl)
    (of_decide_eq_true (by kernel_rfl)) (by unfold Func.isWrapper; first | (rw [if_pos (by decide +kernel)]; kernel_rfl) | (rw [if_neg (by decide +kernel)]; exact ⟨rfl, rfl⟩))
    (fun os started H enc _ => spanTimes_lifted os started H enc)
#print axioms spanTimes_holds
end Go.Proofs.Ytaepkcjcmejfcaa
