/- PartitionRefuses: for any number and any span the call answers true, and the arguments read as before. No condition. -/
import Derived.Test.YtlhniejmohghgaaGreatRows
import Derived.Test.YtlhniejmohghgaaGreatSlC
import Derived.Test.YtlhniejmohghgaaGreatSlT
import Derived.Test.YtlhniejmohghgaaGreatSlK
set_option linter.unusedVariables false
set_option linter.unusedSimpArgs false
set_option linter.unnecessarySimpa false
namespace Go.Proofs.YtlhniejmohghgaaGreat
open Go.Proofs.Sl Go.RowKit
set_option maxRecDepth 100000

theorem partitionRefuses_all : ∀ vs, Ty.okVs [.i .i64, spanTy] vs → run XP i_sleuthlaw31_PartitionRefuses vs [] = some (vb true, []) := by
  intro vs h
  obtain ⟨k, vs, rfl, hk, h⟩ := Ty.okVs_cons h
  obtain ⟨x, vs, rfl, hx, h⟩ := Ty.okVs_cons h
  obtain rfl := Ty.okVs_nil h
  obtain ⟨n, rfl, hn⟩ := Ty.okV_i hk
  obtain ⟨a, rfl, ha⟩ := span_of hx
  exact refuses_law (rng_of hn) ha
theorem partitionRefuses_lifted (os : Os) (started : os.Started) (H : Type) (enc : TypeId × Value → H) :
    ReturnsInHanded {} Tryz.checked os 4 .any (Rows.partitionRefusesSpec.pre6 enc Tryz.prog Tryz.f4 Rows.partitionRefusesRow.domain false) (Rows.partitionRefusesSpec.post enc Tryz.prog Tryz.f4 false true false false) :=
  law_of (C := Tryz.checked) table prog_own started (by kernel_rfl) Tryz.func4
    (ChangeSpec.witness6 (enc := enc) (C := Tryz.checked) false ⟨#[], #[.int .i64 0, .agg #[.int .i64 0, .int .i64 0, .int .i64 0, .int .i64 0, .int .i64 0, .int .i64 0, .string ⟨#[]⟩, .string ⟨#[]⟩, .string ⟨#[]⟩, .int .i64 0, .int .i64 0, .bool false, .slice none 0 0, .slice none 0 0]], []⟩ 8 (by kernel_rfl) (by kernel_rfl) (by kernel_rfl) (by kernel_rfl))
    (f := i_sleuthlaw31_PartitionRefuses) rfl prog_laidOut (by kernel_rfl) (Ts := [.i .i64, spanTy]) (by kernel_rfl) (tb := _) rfl (by kernel_rfl) rfl (fun ds h => by
      match ds, h with
      | [_, _], _ => rfl) partitionRefuses_all
set_option maxHeartbeats 8000000 in
theorem partitionRefuses_closed : joinedFacts Tryz.checked.prog 4 Tryz.f4 Rows.partitionRefusesSpec Rows.partitionRefusesRow = true := by
  unfold joinedFacts
  simp only [Bool.and_eq_true]
  and_intros
  all_goals as_aux_lemma => kernel_rfl
theorem partitionRefuses_holds : Rows.PartitionRefusesSaid :=
  OpenClaim.holds_of_wide 4 Tryz.f4 rfl rfl rfl rfl rfl rfl rfl ⟨rfl, rfl, rfl, rfl, rfl⟩ rfl rfl rfl rfl rfl (by kernel_rfl) Tryz.func4 partitionRefuses_closed
    (of_decide_eq_true (by kernel_rfl)) (by unfold Func.isWrapper; first | (rw [if_pos (by decide +kernel)]; kernel_rfl) | (rw [if_neg (by decide +kernel)]; exact ⟨rfl, rfl⟩))
    (fun os started H enc _ => partitionRefuses_lifted os started H enc)
#print axioms partitionRefuses_holds
end Go.Proofs.YtlhniejmohghgaaGreat
