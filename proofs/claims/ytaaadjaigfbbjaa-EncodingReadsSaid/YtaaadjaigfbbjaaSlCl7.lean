/- EncodingReads: for any string and any calls the call answers true, and the arguments read as before. No condition. -/
import Derived.Test.YtaaadjaigfbbjaaRows
import Derived.Test.YtaaadjaigfbbjaaSlB
import Derived.Test.YtaaadjaigfbbjaaSlC
import Derived.Test.YtaaadjaigfbbjaaSlT
set_option linter.unusedVariables false
set_option linter.unusedSimpArgs false
set_option linter.unnecessarySimpa false
namespace Go.Proofs.Ytaaadjaigfbbjaa
open Go.Proofs.Sl Go.RowKit
set_option maxRecDepth 100000

theorem encodingReads_all : ∀ vs, Ty.okVs [.s, .sl opTy] vs → run XP i_sleuthlaw01_EncodingReads vs [] = some (vb true, []) := by
  intro vs h
  obtain ⟨x, vs, rfl, hx, h⟩ := Ty.okVs_cons h
  obtain ⟨y, vs, rfl, hy, h⟩ := Ty.okVs_cons h
  obtain rfl := Ty.okVs_nil h
  obtain ⟨S, rfl, _⟩ := okV_s hx
  obtain ⟨o, rfl, _, ho⟩ := okV_sl hy
  obtain ⟨ps, hps, hok⟩ := list_map fun y hy => op_of (ho y hy)
  exact reads_law hok hps
theorem encodingReads_lifted (os : Os) (started : os.Started) (H : Type) (enc : TypeId × Value → H) :
    ReturnsInHanded {} Try.checked os 6 .any (Rows.encodingReadsSpec.pre6 enc Try.prog Try.f6 Rows.encodingReadsRow.domain false) (Rows.encodingReadsSpec.post enc Try.prog Try.f6 false true false false) :=
  law_of (C := Try.checked) table prog_own started (by kernel_rfl) Try.func6
    (ChangeSpec.witness6 (enc := enc) (C := Try.checked) false ⟨#[], #[.string ⟨#[]⟩, .slice none 0 0], []⟩ 8 (by kernel_rfl) (by kernel_rfl) (by kernel_rfl) (by kernel_rfl))
    (f := i_sleuthlaw01_EncodingReads) rfl prog_laidOut (by kernel_rfl) (Ts := [.s, .sl opTy]) (by kernel_rfl) (tb := _) rfl (by kernel_rfl) rfl (fun ds h => by
      match ds, h with
      | [_, _], _ => rfl) encodingReads_all
theorem encodingReads_holds : Rows.EncodingReadsSaid :=
  OpenClaim.holds_of_wide 6 Try.f6 rfl rfl rfl rfl rfl rfl rfl ⟨rfl, rfl, rfl, rfl, rfl⟩ rfl rfl rfl rfl rfl (by kernel_rfl) Try.func6 (by kernel_rfl)
    (of_decide_eq_true (by kernel_rfl)) (by unfold Func.isWrapper; first | (rw [if_pos (by decide +kernel)]; kernel_rfl) | (rw [if_neg (by decide +kernel)]; exact ⟨rfl, rfl⟩))
    (fun os started H enc _ => encodingReads_lifted os started H enc)
#print axioms encodingReads_holds
end Go.Proofs.Ytaaadjaigfbbjaa
