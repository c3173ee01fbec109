/- PartitionMerges: for any story and any two lists of acts the call answers true, and the arguments read as before. No condition. -/
import Derived.Test.YtlhniejmohghgaaGreatRows
import Derived.Test.YtlhniejmohghgaaGreatSlC
import Derived.Test.YtlhniejmohghgaaGreatSlT
import Derived.Test.YtlhniejmohghgaaGreatSlK
set_option linter.unusedVariables false
set_option linter.unusedSimpArgs false
set_option linter.unnecessarySimpa false
namespace Go.Proofs.YtlhniejmohghgaaGreat
open Go.Proofs.Sl Go.RowKit
set_option maxRecDepth 100000
theorem partitionMerges_all : ∀ vs, Ty.okVs [zxa_, .sl actTy, .sl actTy] vs → run XP zjm_ vs [] = some (vb true, []) := by
  intro vs h
  obtain ⟨x, vs, rfl, hx, h⟩ := Ty.okVs_cons h
  obtain ⟨y, vs, rfl, hy, h⟩ := Ty.okVs_cons h
  obtain ⟨z, vs, rfl, hz, h⟩ := Ty.okVs_cons h
  obtain rfl := Ty.okVs_nil h
  obtain ⟨s, rfl, hs⟩ := zctv_ hx
  obtain ⟨l, n, rfl, h1, h2⟩ := zbfo_ hy
  obtain ⟨m, k, rfl, h3, h4⟩ := zbfo_ hz
  exact zctw_ hs h1 h3 h2 h4
theorem partitionMerges_lifted (os : Os) (started : os.Started) (H : Type) (enc : TypeId × Value → H) :
    ReturnsInHanded {} Tryz.checked os 6 .any (Rows.partitionMergesSpec.pre6 enc Tryz.prog Tryz.f6 Rows.partitionMergesRow.domain false) (Rows.partitionMergesSpec.post enc Tryz.prog Tryz.f6 false true false false) :=
  law_of (C := Tryz.checked) table zcmy_ started (by kernel_rfl) Tryz.func6
    (ChangeSpec.witness6 (enc := enc) (C := Tryz.checked) false ⟨#[], #[.agg #[.slice none 0 0, .int .i8 0, .int .i8 0, .int .i8 0, .int .i8 0, .slice none 0 0, .int .u8 0], .slice none 0 0, .slice none 0 0], []⟩ 8 (by kernel_rfl) (by kernel_rfl) (by kernel_rfl) (by kernel_rfl))
    (f := zjm_) rfl zcmz_ (by kernel_rfl) (Ts := [zxa_, .sl actTy, .sl actTy]) (by kernel_rfl) (tb := _) rfl (by kernel_rfl) rfl (fun ds h => by
      match ds, h with
      | [_, _, _], _ => rfl) partitionMerges_all
set_option maxHeartbeats 8000000 in
theorem partitionMerges_closed : joinedFacts Tryz.checked.prog 6 Tryz.f6 Rows.partitionMergesSpec Rows.partitionMergesRow = true := by
  unfold joinedFacts
  simp only [Bool.and_eq_true]
  and_intros
  all_goals as_aux_lemma => kernel_rfl
theorem partitionMerges_holds : Rows.PartitionMergesSaid :=
  OpenClaim.holds_of_wide 6 Tryz.f6 rfl rfl rfl rfl rfl rfl rfl ⟨rfl, rfl, rfl, rfl, rfl⟩ rfl rfl rfl rfl rfl (by kernel_rfl) Tryz.func6 partitionMerges_closed
    (of_decide_eq_true (by kernel_rfl)) (by unfold Func.isWrapper; first | (rw [if_pos (by decide +kernel)]; kernel_rfl) | (rw [if_neg (by decide +kernel)]; exact ⟨rfl, rfl⟩))
    (fun os started H enc _ => partitionMerges_lifted os started H enc)
#print axioms partitionMerges_holds
end Go.Proofs.YtlhniejmohghgaaGreat
