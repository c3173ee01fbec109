/- SpanMatches: for any list of marks and any predicate (a tree) the call answers true, and the arguments read as before. No condition. -/
import Derived.Test.YtaepkcjcmejfcaaGreatRows
import Derived.Test.YtaepkcjcmejfcaaGreatSlC
import Derived.Test.YtaepkcjcmejfcaaGreatSlT
import Derived.Test.YtaepkcjcmejfcaaGreatSlK
set_option linter.unusedVariables false
set_option linter.unusedSimpArgs false
set_option linter.unnecessarySimpa false
namespace Go.Proofs.YtaepkcjcmejfcaaGreat
open Go.Proofs.Sl Go.RowKit
set_option maxRecDepth 100000
theorem marks_of {x : V} (h : (Ty.sl markTy).okV x) : ∃ ms : List MK, (∀ h' : H, Rd h' 14 x (ms.map MK.val)) ∧ ∀ m ∈ ms, m.Ok := by
  obtain ⟨o, rfl, _, ho⟩ := okV_sl h
  obtain ⟨ms, e, hm⟩ := zrw_ fun y hy => zcmw_ (ho y hy)
  exact ⟨ms, fun h' => by
    have := Rd.lv h' 14 o
    rwa [e] at this, hm⟩
theorem spanMatches_all : ∀ vs, Ty.okVs [.sl markTy, predTy] vs → run XP zox_ vs [] = some (vb true, []) := by
  intro vs h
  obtain ⟨x, vs, rfl, hx, h⟩ := Ty.okVs_cons h
  obtain ⟨y, vs, rfl, hy, h⟩ := Ty.okVs_cons h
  obtain rfl := Ty.okVs_nil h
  obtain ⟨ms, h1, h2⟩ := marks_of hx
  obtain ⟨p, rfl, hp⟩ := zcmy_ hy
  exact zcmv_ h1 h2 hp
theorem spanMatches_lifted (os : Os) (started : os.Started) (H : Type) (enc : TypeId × Value → H) :
    ReturnsInHanded {} Tryz.checked os 3 .any (Rows.spanMatchesSpec.pre6 enc Tryz.prog Tryz.f3 Rows.spanMatchesRow.domain false) (Rows.spanMatchesSpec.post enc Tryz.prog Tryz.f3 false true false false) :=
  law_of (C := Tryz.checked) table zchd_ started (by kernel_rfl) Tryz.func3
    (ChangeSpec.witness6 (enc := enc) (C := Tryz.checked) false ⟨#[], #[.slice none 0 0, .agg #[.int .i64 0, .string ⟨#[]⟩, .string ⟨#[]⟩, .int .i64 0, .string ⟨#[]⟩, .int .i64 0, .slice none 0 0]], []⟩ 8 (by kernel_rfl) (by kernel_rfl) (by kernel_rfl) (by kernel_rfl))
    (f := zox_) rfl zche_ (by kernel_rfl) (Ts := [.sl markTy, predTy]) (by kernel_rfl) (tb := _) rfl (by kernel_rfl) rfl (fun ds h => by
      match ds, h with
      | [_, _], _ => rfl) spanMatches_all
set_option maxHeartbeats 8000000 in
theorem spanMatches_closed : joinedFacts Tryz.checked.prog 3 Tryz.f3 Rows.spanMatchesSpec Rows.spanMatchesRow = true := by
  unfold joinedFacts
  simp only [Bool.and_eq_true]
  and_intros
  all_goals as_aux_lemma => kernel_rfl
theorem spanMatches_holds : Rows.SpanMatchesSaid :=
  OpenClaim.holds_of_wide 3 Tryz.f3 rfl rfl rfl rfl rfl rfl rfl ⟨rfl, rfl, rfl, rfl, rfl⟩ rfl rfl rfl rfl rfl (by kernel_rfl) Tryz.func3 spanMatches_closed
    (of_decide_eq_true (by kernel_rfl)) (by unfold Func.isWrapper; first | (rw [if_pos (by decide +kernel)]; kernel_rfl) | (rw [if_neg (by decide +kernel)]; exact ⟨rfl, rfl⟩))
    (fun os started H enc _ => spanMatches_lifted os started H enc)
#print axioms spanMatches_holds
end Go.Proofs.YtaepkcjcmejfcaaGreat
