/- EncodingFragments: for any fragment and any two ints the call answers true, and the arguments read as before. No condition. -/
import Derived.Test.YtaaadjaigfbbjaaRows
import Derived.Test.YtaaadjaigfbbjaaSlB
import Derived.Test.YtaaadjaigfbbjaaSlC
import Derived.Test.YtaaadjaigfbbjaaSlT
set_option linter.unusedVariables false
set_option linter.unusedSimpArgs false
set_option linter.unnecessarySimpa false
namespace Go.Proofs.Ytaaadjaigfbbjaa
open Go.Proofs.Sl Go.RowKit
set_option maxRecDepth 100000

theorem encodingFragments_all : ∀ vs, Ty.okVs [fragTy, .i .i64, .i .i64] vs → run XP i_sleuthlaw01_EncodingFragments vs [] = some (vb true, []) := by
  intro vs h
  obtain ⟨x, vs, rfl, hx, h⟩ := Ty.okVs_cons h
  obtain ⟨y, vs, rfl, hy, h⟩ := Ty.okVs_cons h
  obtain ⟨z, vs, rfl, hz, h⟩ := Ty.okVs_cons h
  obtain rfl := Ty.okVs_nil h
  obtain ⟨p, rfl, hp⟩ := frag_of hx
  obtain ⟨m, rfl, hm⟩ := Ty.okV_i hy
  obtain ⟨n, rfl, hn⟩ := Ty.okV_i hz
  exact fragments_law hp (rng_of hm) (rng_of hn)
theorem encodingFragments_lifted (os : Os) (started : os.Started) (H : Type) (enc : TypeId × Value → H) :
    ReturnsInHanded {} Try.checked os 11 .any (Rows.encodingFragmentsSpec.pre6 enc Try.prog Try.f11 Rows.encodingFragmentsRow.domain false) (Rows.encodingFragmentsSpec.post enc Try.prog Try.f11 false true false false) :=
  law_of (C := Try.checked) table prog_own started (by kernel_rfl) Try.func11
    (ChangeSpec.witness6 (enc := enc) (C := Try.checked) false ⟨#[], #[.agg #[.int .i64 0, .int .i64 0, .slice none 0 0, .slice none 0 0], .int .i64 0, .int .i64 0], []⟩ 8 (by kernel_rfl) (by kernel_rfl) (by kernel_rfl) (by kernel_rfl))
    (f := i_sleuthlaw01_EncodingFragments) rfl prog_laidOut (by kernel_rfl) (Ts := [fragTy, .i .i64, .i .i64]) (by kernel_rfl) (tb := _) rfl (by kernel_rfl) rfl (fun ds h => by
      match ds, h with
      | [_, _, _], _ => rfl) encodingFragments_all
theorem encodingFragments_holds : Rows.EncodingFragmentsSaid :=
  OpenClaim.holds_of_wide 11 Try.f11 rfl rfl rfl rfl rfl rfl rfl ⟨rfl, rfl, rfl, rfl, rfl⟩ rfl rfl rfl rfl rfl (by kernel_rfl) Try.func11 (by kernel_rfl)
    (of_decide_eq_true (by kernel_rfl)) (by unfold Func.isWrapper; first | (rw [if_pos (by decide +kernel)]; kernel_rfl) | (rw [if_neg (by decide +kernel)]; exact ⟨rfl, rfl⟩))
    (fun os started H enc _ => encodingFragments_lifted os started H enc)
#print axioms encodingFragments_holds
end Go.Proofs.Ytaaadjaigfbbjaa
