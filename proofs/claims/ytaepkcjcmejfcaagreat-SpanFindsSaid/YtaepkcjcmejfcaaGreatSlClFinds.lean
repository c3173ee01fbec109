/- SpanFinds: for any list of marks and any two numbers the call answers true, and the arguments read as before. No condition. -/
import Derived.Test.YtaepkcjcmejfcaaGreatRows
import Derived.Test.YtaepkcjcmejfcaaGreatSlC
import Derived.Test.YtaepkcjcmejfcaaGreatSlT
import Derived.Test.YtaepkcjcmejfcaaGreatSlK
set_option linter.unusedVariables false
set_option linter.unusedSimpArgs false
set_option linter.unnecessarySimpa false
namespace Go.Proofs.YtaepkcjcmejfcaaGreat
open Go.Proofs.Sl Go.RowKit
set_option maxRecDepth 100000
theorem marks_of {x : V} (h : (Ty.sl markTy).okV x) : ∃ ms : List MK, (∀ h' : H, Rd h' 14 x (ms.map MK.val)) ∧ ∀ m ∈ ms, m.Ok := by
  obtain ⟨o, rfl, _, ho⟩ := okV_sl h
  obtain ⟨ms, e, hm⟩ := zwi_ fun y hy => zckj_ (ho y hy)
  exact ⟨ms, fun h' => by
    have := Rd.lv h' 14 o
    rwa [e] at this, hm⟩
theorem spanFinds_all : ∀ vs, Ty.okVs [.sl markTy, .i .i64, .i .i64] vs → run XP zib_ vs [] = some (vb true, []) := by
  intro vs h
  obtain ⟨x, vs, rfl, hx, h⟩ := Ty.okVs_cons h
  obtain ⟨y, vs, rfl, hy, h⟩ := Ty.okVs_cons h
  obtain ⟨z, vs, rfl, hz, h⟩ := Ty.okVs_cons h
  obtain rfl := Ty.okVs_nil h
  obtain ⟨ms, h1, h2⟩ := marks_of hx
  obtain ⟨a, rfl, -⟩ := Ty.okV_i hy
  obtain ⟨b, rfl, -⟩ := Ty.okV_i hz
  exact zcki_ h1 h2
theorem spanFinds_lifted (os : Os) (started : os.Started) (H : Type) (enc : TypeId × Value → H) :
    ReturnsInHanded {} Tryz.checked os 4 .any (Rows.spanFindsSpec.pre6 enc Tryz.prog Tryz.f4 Rows.spanFindsRow.domain false) (Rows.spanFindsSpec.post enc Tryz.prog Tryz.f4 false true false false) :=
  law_of (C := Tryz.checked) table zcgi_ started (by kernel_rfl) Tryz.func4
    (ChangeSpec.witness6 (enc := enc) (C := Tryz.checked) false ⟨#[], #[.slice none 0 0, .int .i64 0, .int .i64 0], []⟩ 8 (by kernel_rfl) (by kernel_rfl) (by kernel_rfl) (by kernel_rfl))
    (f := zib_) rfl zcgj_ (by kernel_rfl) (Ts := [.sl markTy, .i .i64, .i .i64]) (by kernel_rfl) (tb := _) rfl (by kernel_rfl) rfl (fun ds h => by
      match ds, h with
      | [_, _, _], _ => rfl) spanFinds_all
set_option maxHeartbeats 8000000 in
theorem spanFinds_closed : joinedFacts Tryz.checked.prog 4 Tryz.f4 Rows.spanFindsSpec Rows.spanFindsRow = true := by
  unfold joinedFacts
  simp only [Bool.and_eq_true]
  and_intros
  all_goals as_aux_lemma => kernel_rfl
theorem spanFinds_holds : Rows.SpanFindsSaid :=
  OpenClaim.holds_of_wide 4 Tryz.f4 rfl rfl rfl rfl rfl rfl rfl ⟨rfl, rfl, rfl, rfl, rfl⟩ rfl rfl rfl rfl rfl (by kernel_rfl) Tryz.func4 spanFinds_closed
    (of_decide_eq_true (by kernel_rfl)) (by unfold Func.isWrapper; first | (rw [if_pos (by decide +kernel)]; kernel_rfl) | (rw [if_neg (by decide +kernel)]; exact ⟨rfl, rfl⟩))
    (fun os started H enc _ => spanFinds_lifted os started H enc)
#print axioms spanFinds_holds
end Go.Proofs.YtaepkcjcmejfcaaGreat
