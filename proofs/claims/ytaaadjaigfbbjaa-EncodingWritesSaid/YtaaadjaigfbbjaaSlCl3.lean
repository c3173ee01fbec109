/- EncodingWrites: for any list of parts the call answers true, and the argument reads as before. No condition. -/
import Derived.Test.YtaaadjaigfbbjaaRows
import Derived.Test.YtaaadjaigfbbjaaSlB
import Derived.Test.YtaaadjaigfbbjaaSlC
import Derived.Test.YtaaadjaigfbbjaaSlT
import Derived.Test.YtaaadjaigfbbjaaSlL
set_option linter.unusedVariables false
set_option linter.unusedSimpArgs false
namespace Go.Proofs.Ytaaadjaigfbbjaa
open Go.Proofs.Sl Go.RowKit
set_option maxRecDepth 100000

theorem encodingWrites_all : ∀ vs, Ty.okVs [.sl partTy] vs → run XP i_sleuthlaw01_EncodingWrites vs [] = some (vb true, []) := by
  intro vs h
  obtain ⟨x, vs, rfl, hx, h⟩ := Ty.okVs_cons h
  obtain rfl := Ty.okVs_nil h
  obtain ⟨o, rfl, _, ho⟩ := okV_sl hx
  obtain ⟨ps, hps, hok⟩ := list_map fun y hy => part_of (ho y hy)
  exact writes_law hok hps
theorem encodingWrites_lifted (os : Os) (started : os.Started) (H : Type) (enc : TypeId × Value → H) :
    ReturnsInHanded {} Try.checked os 5 .any (Rows.encodingWritesSpec.pre6 enc Try.prog Try.f5 Rows.encodingWritesRow.domain false) (Rows.encodingWritesSpec.post enc Try.prog Try.f5 false true false false) :=
  law_of (C := Try.checked) table prog_own started (by kernel_rfl) Try.func5
    (ChangeSpec.witness6 (enc := enc) (C := Try.checked) false ⟨#[], #[.slice none 0 0], []⟩ 8 (by kernel_rfl) (by kernel_rfl) (by kernel_rfl) (by kernel_rfl))
    (f := i_sleuthlaw01_EncodingWrites) rfl prog_laidOut (by kernel_rfl) (Ts := [.sl partTy]) (by kernel_rfl) (tb := _) rfl (by kernel_rfl) rfl (fun ds h => by
      match ds, h with
      | [_], _ => rfl) encodingWrites_all
theorem encodingWrites_holds : Rows.EncodingWritesSaid :=
  OpenClaim.holds_of_wide 5 Try.f5 rfl rfl rfl rfl rfl rfl rfl ⟨rfl, rfl, rfl, rfl, rfl⟩ rfl rfl rfl rfl rfl (by kernel_rfl) Try.func5 (by kernel_rfl)
    (of_decide_eq_true (by kernel_rfl)) (by unfold Func.isWrapper; first | (rw [if_pos (by decide +kernel)]; kernel_rfl) | (rw [if_neg (by decide +kernel)]; exact ⟨rfl, rfl⟩))
    (fun os started H enc _ => encodingWrites_lifted os started H enc)
#print axioms encodingWrites_holds
end Go.Proofs.Ytaaadjaigfbbjaa
