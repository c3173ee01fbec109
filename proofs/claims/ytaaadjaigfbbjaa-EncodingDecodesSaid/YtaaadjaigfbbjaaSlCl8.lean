/- EncodingDecodes: for any string the call answers true, and the argument reads as before. No condition. -/
import Derived.Test.YtaaadjaigfbbjaaRows
import Derived.Test.YtaaadjaigfbbjaaSlB
import Derived.Test.YtaaadjaigfbbjaaSlC
import Derived.Test.YtaaadjaigfbbjaaSlT
import Derived.Test.YtaaadjaigfbbjaaSlM
set_option linter.unusedVariables false
set_option linter.unusedSimpArgs false
set_option linter.unnecessarySimpa false
namespace Go.Proofs.Ytaaadjaigfbbjaa
open Go.Proofs.Sl Go.RowKit
set_option maxRecDepth 100000

theorem encodingDecodes_all : ∀ vs, Ty.okVs [.s] vs → run XP i_sleuthlaw01_EncodingDecodes vs [] = some (vb true, []) := by
  intro vs h
  obtain ⟨x, vs, rfl, hx, h⟩ := Ty.okVs_cons h
  obtain rfl := Ty.okVs_nil h
  obtain ⟨S, rfl, _⟩ := okV_s hx
  exact decodes_law
theorem encodingDecodes_lifted (os : Os) (started : os.Started) (H : Type) (enc : TypeId × Value → H) :
    ReturnsInHanded {} Try.checked os 7 .any (Rows.encodingDecodesSpec.pre6 enc Try.prog Try.f7 Rows.encodingDecodesRow.domain false) (Rows.encodingDecodesSpec.post enc Try.prog Try.f7 false true false false) :=
  law_of (C := Try.checked) table prog_own started (by kernel_rfl) Try.func7
    (ChangeSpec.witness6 (enc := enc) (C := Try.checked) false ⟨#[], #[.string ⟨#[]⟩], []⟩ 8 (by kernel_rfl) (by kernel_rfl) (by kernel_rfl) (by kernel_rfl))
    (f := i_sleuthlaw01_EncodingDecodes) rfl prog_laidOut (by kernel_rfl) (Ts := [.s]) (by kernel_rfl) (tb := _) rfl (by kernel_rfl) rfl (fun ds h => by
      match ds, h with
      | [_], _ => rfl) encodingDecodes_all
theorem encodingDecodes_holds : Rows.EncodingDecodesSaid :=
  OpenClaim.holds_of_wide 7 Try.f7 rfl rfl rfl rfl rfl rfl rfl ⟨rfl, rfl, rfl, rfl, rfl⟩ rfl rfl rfl rfl rfl (by kernel_rfl) Try.func7 (by kernel_rfl)
    (of_decide_eq_true (by kernel_rfl)) (by unfold Func.isWrapper; first | (rw [if_pos (by decide +kernel)]; kernel_rfl) | (rw [if_neg (by decide +kernel)]; exact ⟨rfl, rfl⟩))
    (fun os started H enc _ => encodingDecodes_lifted os started H enc)
#print axioms encodingDecodes_holds
end Go.Proofs.Ytaaadjaigfbbjaa
