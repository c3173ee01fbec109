/- EncodingNumbers: for any two ints the call answers true, and the arguments read as before. No condition. -/
import Derived.Test.YtaaadjaigfbbjaaRows
import Derived.Test.YtaaadjaigfbbjaaSlB
import Derived.Test.YtaaadjaigfbbjaaSlC
import Derived.Test.YtaaadjaigfbbjaaSlL
set_option linter.unusedVariables false
namespace Go.Proofs.Ytaaadjaigfbbjaa
open Go.Proofs.Sl Go.RowKit
set_option maxRecDepth 100000
theorem rng_of {n : Int} (h : (Lit.int .i64 n).wf = true) : Rng n := by
  simp only [Lit.wf, Bool.and_eq_true, decide_eq_true_eq] at h
  exact h
theorem encodingNumbers_all : ∀ vs, Ty.okVs [.i .i64, .i .i64] vs → run XP i_sleuthlaw01_EncodingNumbers vs [] = some (vb true, []) := by
  intro vs h
  obtain ⟨x, vs, rfl, hx, h⟩ := Ty.okVs_cons h
  obtain ⟨y, vs, rfl, hy, h⟩ := Ty.okVs_cons h
  obtain rfl := Ty.okVs_nil h
  obtain ⟨m, rfl, hm⟩ := Ty.okV_i hx
  obtain ⟨n, rfl, hn⟩ := Ty.okV_i hy
  exact numbers_law (rng_of hm) (rng_of hn)
theorem encodingNumbers_lifted (os : Os) (started : os.Started) (H : Type) (enc : TypeId × Value → H) :
    ReturnsInHanded {} Try.checked os 4 .any (Rows.encodingNumbersSpec.pre6 enc Try.prog Try.f4 Rows.encodingNumbersRow.domain false) (Rows.encodingNumbersSpec.post enc Try.prog Try.f4 false true false false) :=
  law_of (C := Try.checked) table prog_own started (by kernel_rfl) Try.func4
    (ChangeSpec.witness6 (enc := enc) (C := Try.checked) false ⟨#[], #[.int .i64 0, .int .i64 0], []⟩ 8 (by kernel_rfl) (by kernel_rfl) (by kernel_rfl) (by kernel_rfl))
    (f := i_sleuthlaw01_EncodingNumbers) rfl prog_laidOut (by kernel_rfl) (Ts := [.i .i64, .i .i64]) (by kernel_rfl) (tb := _) rfl (by kernel_rfl) rfl (fun ds h => by
      match ds, h with
      | [_, _], _ => rfl) encodingNumbers_all
theorem encodingNumbers_holds : Rows.EncodingNumbersSaid :=
  OpenClaim.holds_of_wide 4 Try.f4 rfl rfl rfl rfl rfl rfl rfl ⟨rfl, rfl, rfl, rfl, rfl⟩ rfl rfl rfl rfl rfl (by kernel_rfl) Try.func4 (by kernel_rfl)
    (of_decide_eq_true (by kernel_rfl)) (by unfold Func.isWrapper; first | (rw [if_pos (by decide +kernel)]; kernel_rfl) | (rw [if_neg (by decide +kernel)]; exact ⟨rfl, rfl⟩))
    (fun os started H enc _ => encodingNumbers_lifted os started H enc)
#print axioms encodingNumbers_holds
end Go.Proofs.Ytaaadjaigfbbjaa
