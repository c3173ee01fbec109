/- BlockColumns: for any story and any string the call answers true, and the arguments read as before. No condition. -/
import Derived.Test.YtalalpgkljkdiaaGreatRows
import Derived.Test.YtalalpgkljkdiaaGreatSlC
import Derived.Test.YtalalpgkljkdiaaGreatSlT
import Derived.Test.YtalalpgkljkdiaaGreatSlK
set_option linter.unusedVariables false
set_option linter.unusedSimpArgs false
set_option linter.unnecessarySimpa false
namespace Go.Proofs.YtalalpgkljkdiaaGreat
open Go.Proofs.Sl Go.RowKit
set_option maxRecDepth 100000
theorem blockColumns_all : ∀ vs, Ty.okVs [zbbq_, .s] vs → run XP zry_ vs [] = some (vb true, []) := by
  intro vs h
  obtain ⟨x, vs, rfl, hx, h⟩ := Ty.okVs_cons h
  obtain ⟨y, vs, rfl, hy, h⟩ := Ty.okVs_cons h
  obtain rfl := Ty.okVs_nil h
  obtain ⟨s, rfl, hs⟩ := zdku_ hx
  obtain ⟨n, rfl, -⟩ := Ty.okV_s hy
  exact zdkv_ hs n
theorem blockColumns_lifted (os : Os) (started : os.Started) (H : Type) (enc : TypeId × Value → H) :
    ReturnsInHanded {} Tryz.checked os 3 .any (Rows.blockColumnsSpec.pre6 enc Tryz.prog Tryz.f3 Rows.blockColumnsRow.domain false) (Rows.blockColumnsSpec.post enc Tryz.prog Tryz.f3 false true false false) :=
  law_of (C := Tryz.checked) table zdcc_ started (by kernel_rfl) Tryz.func3
    (ChangeSpec.witness6 (enc := enc) (C := Tryz.checked) false ⟨#[], #[.agg #[.slice none 0 0, .int .i8 0, .int .i8 0, .int .i8 0, .int .i8 0, .slice none 0 0, .int .u8 0], .string ⟨#[]⟩], []⟩ 8 (by kernel_rfl) (by kernel_rfl) (by kernel_rfl) (by kernel_rfl))
    (f := zry_) rfl zdcd_ (by kernel_rfl) (Ts := [zbbq_, .s]) (by kernel_rfl) (tb := _) rfl (by kernel_rfl) rfl (fun ds h => by
      match ds, h with
      | [_, _], _ => rfl) blockColumns_all
set_option maxHeartbeats 8000000 in
theorem blockColumns_closed : joinedFacts Tryz.checked.prog 3 Tryz.f3 Rows.blockColumnsSpec Rows.blockColumnsRow = true := by
  unfold joinedFacts
  simp only [Bool.and_eq_true]
  and_intros
  all_goals as_aux_lemma => kernel_rfl
theorem blockColumns_holds : Rows.BlockColumnsSaid :=
  OpenClaim.holds_of_wide 3 Tryz.f3 rfl rfl rfl rfl rfl rfl rfl ⟨rfl, rfl, rfl, rfl, rfl⟩ rfl rfl rfl rfl rfl (by kernel_rfl) Tryz.func3 blockColumns_closed
    (of_decide_eq_true (by kernel_rfl)) (by unfold Func.isWrapper; first | (rw [if_pos (by decide +kernel)]; kernel_rfl) | (rw [if_neg (by decide +kernel)]; exact ⟨rfl, rfl⟩))
    (fun os started H enc _ => blockColumns_lifted os started H enc)
#print axioms blockColumns_holds
end Go.Proofs.YtalalpgkljkdiaaGreat
