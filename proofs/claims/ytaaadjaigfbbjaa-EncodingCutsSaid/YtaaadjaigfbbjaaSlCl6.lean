/- EncodingCuts: for any fragment, any cut and any byte the call answers true, and the arguments read as before. No condition. -/
import Derived.Test.YtaaadjaigfbbjaaRows
import Derived.Test.YtaaadjaigfbbjaaSlB
import Derived.Test.YtaaadjaigfbbjaaSlC
import Derived.Test.YtaaadjaigfbbjaaSlT
import Derived.Test.YtaaadjaigfbbjaaSlM
set_option linter.unusedVariables false
set_option linter.unusedSimpArgs false
set_option linter.unnecessarySimpa false
namespace Go.Proofs.Ytaaadjaigfbbjaa
open Go.Proofs.Sl Go.RowKit
set_option maxRecDepth 100000

theorem encodingCuts_all : ∀ vs, Ty.okVs [fragTy, .i .u16, .i .u8] vs → run XP i_sleuthlaw01_EncodingCuts vs [] = some (vb true, []) := by
  intro vs h
  obtain ⟨x, vs, rfl, hx, h⟩ := Ty.okVs_cons h
  obtain ⟨y, vs, rfl, hy, h⟩ := Ty.okVs_cons h
  obtain ⟨z, vs, rfl, hz, h⟩ := Ty.okVs_cons h
  obtain rfl := Ty.okVs_nil h
  obtain ⟨p, rfl, hp⟩ := frag_of hx
  obtain ⟨m, rfl, hm⟩ := Ty.okV_i hy
  obtain ⟨n, rfl, hn⟩ := Ty.okV_i hz
  exact cuts_law hp (u16_of hm).1 (u16_of hm).2
theorem encodingCuts_lifted (os : Os) (started : os.Started) (H : Type) (enc : TypeId × Value → H) :
    ReturnsInHanded {} Try.checked os 9 .any (Rows.encodingCutsSpec.pre6 enc Try.prog Try.f9 Rows.encodingCutsRow.domain false) (Rows.encodingCutsSpec.post enc Try.prog Try.f9 false true false false) :=
  law_of (C := Try.checked) table prog_own started (by kernel_rfl) Try.func9
    (ChangeSpec.witness6 (enc := enc) (C := Try.checked) false ⟨#[], #[.agg #[.int .i64 0, .int .i64 0, .slice none 0 0, .slice none 0 0], .int .u16 0, .int .u8 0], []⟩ 8 (by kernel_rfl) (by kernel_rfl) (by kernel_rfl) (by kernel_rfl))
    (f := i_sleuthlaw01_EncodingCuts) rfl prog_laidOut (by kernel_rfl) (Ts := [fragTy, .i .u16, .i .u8]) (by kernel_rfl) (tb := _) rfl (by kernel_rfl) rfl (fun ds h => by
      match ds, h with
      | [_, _, _], _ => rfl) encodingCuts_all
theorem encodingCuts_holds : Rows.EncodingCutsSaid :=
  OpenClaim.holds_of_wide 9 Try.f9 rfl rfl rfl rfl rfl rfl rfl ⟨rfl, rfl, rfl, rfl, rfl⟩ rfl rfl rfl rfl rfl (by kernel_rfl) Try.func9 (by kernel_rfl)
    (of_decide_eq_true (by kernel_rfl)) (by unfold Func.isWrapper; first | (rw [if_pos (by decide +kernel)]; kernel_rfl) | (rw [if_neg (by decide +kernel)]; exact ⟨rfl, rfl⟩))
    (fun os started H enc _ => encodingCuts_lifted os started H enc)
#print axioms encodingCuts_holds
end Go.Proofs.Ytaaadjaigfbbjaa
