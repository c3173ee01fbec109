/- EncodingNil: for any number and any string the call answers true, and the arguments read as before. No condition. -/
import Derived.Test.YtaaadjaigfbbjaaRows
import Derived.Test.YtaaadjaigfbbjaaSlB
import Derived.Test.YtaaadjaigfbbjaaSlC
import Derived.Test.YtaaadjaigfbbjaaSlT
import Derived.Test.YtaaadjaigfbbjaaSlM
set_option linter.unusedVariables false
set_option linter.unusedSimpArgs false
set_option linter.unnecessarySimpa false
namespace Go.Proofs.Ytaaadjaigfbbjaa
open Go.Proofs.Sl Go.RowKit
set_option maxRecDepth 100000

theorem encodingNil_all : ∀ vs, Ty.okVs [.i .i64, .s] vs → run XP i_sleuthlaw01_EncodingNil vs [] = some (vb true, []) := by
  intro vs h
  obtain ⟨x, vs, rfl, hx, h⟩ := Ty.okVs_cons h
  obtain ⟨y, vs, rfl, hy, h⟩ := Ty.okVs_cons h
  obtain rfl := Ty.okVs_nil h
  obtain ⟨n, rfl, _⟩ := Ty.okV_i hx
  obtain ⟨S, rfl, _⟩ := okV_s hy
  exact nil_law
theorem encodingNil_lifted (os : Os) (started : os.Started) (H : Type) (enc : TypeId × Value → H) :
    ReturnsInHanded {} Try.checked os 10 .any (Rows.encodingNilSpec.pre6 enc Try.prog Try.f10 Rows.encodingNilRow.domain false) (Rows.encodingNilSpec.post enc Try.prog Try.f10 false true false false) :=
  law_of (C := Try.checked) table prog_own started (by kernel_rfl) Try.func10
    (ChangeSpec.witness6 (enc := enc) (C := Try.checked) false ⟨#[], #[.int .i64 0, .string ⟨#[]⟩], []⟩ 8 (by kernel_rfl) (by kernel_rfl) (by kernel_rfl) (by kernel_rfl))
    (f := i_sleuthlaw01_EncodingNil) rfl prog_laidOut (by kernel_rfl) (Ts := [.i .i64, .s]) (by kernel_rfl) (tb := _) rfl (by kernel_rfl) rfl (fun ds h => by
      match ds, h with
      | [_, _], _ => rfl) encodingNil_all
theorem encodingNil_holds : Rows.EncodingNilSaid :=
  OpenClaim.holds_of_wide 10 Try.f10 rfl rfl rfl rfl rfl rfl rfl ⟨rfl, rfl, rfl, rfl, rfl⟩ rfl rfl rfl rfl rfl (by kernel_rfl) Try.func10 (by kernel_rfl)
    (of_decide_eq_true (by kernel_rfl)) (by unfold Func.isWrapper; first | (rw [if_pos (by decide +kernel)]; kernel_rfl) | (rw [if_neg (by decide +kernel)]; exact ⟨rfl, rfl⟩))
    (fun os started H enc _ => encodingNil_lifted os started H enc)
#print axioms encodingNil_holds
end Go.Proofs.Ytaaadjaigfbbjaa
