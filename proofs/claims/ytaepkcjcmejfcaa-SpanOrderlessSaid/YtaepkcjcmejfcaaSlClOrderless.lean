/- SpanOrderless: for any two lists of marks the call answers true, and the arguments read as before. No condition. -/
import Derived.Test.YtaepkcjcmejfcaaRows
import Derived.Test.YtaepkcjcmejfcaaSlC
import Derived.Test.YtaepkcjcmejfcaaSlT
import Derived.Test.YtaepkcjcmejfcaaSlK
set_option linter.unusedVariables false
set_option linter.unusedSimpArgs false
set_option linter.unnecessarySimpa false
namespace Go.Proofs.Ytaepkcjcmejfcaa
open Go.Proofs.Sl Go.RowKit
set_option maxRecDepth 100000
theorem marks_of {x : V} (h : (Ty.sl markTy).okV x) : ∃ ms : List MK, (∀ h' : H, Rd h' 14 x (ms.map MK.val)) ∧ ∀ m ∈ ms, m.Ok := by
  obtain ⟨o, rfl, _, ho⟩ := okV_sl h
  obtain ⟨ms, e, hm⟩ := list_map fun y hy => mark_of (ho y hy)
  exact ⟨ms, fun h' => by
    have := Rd.lv h' 14 o
    rwa [e] at this, hm⟩

theorem spanOrderless_all : ∀ vs, Ty.okVs [.sl markTy, .sl markTy] vs → run XP i_sleuthlaw11_SpanOrderless vs [] = some (vb true, []) := by
  intro vs h
  obtain ⟨x, vs, rfl, hx, h⟩ := Ty.okVs_cons h
  obtain ⟨y, vs, rfl, hy, h⟩ := Ty.okVs_cons h
  obtain rfl := Ty.okVs_nil h
  obtain ⟨ms, h1, h2⟩ := marks_of hx
  obtain ⟨ns, h3, h4⟩ := marks_of hy
  exact orderless_law [] (fun t => h1 _) (fun t => h3 _) h2 h4
theorem spanOrderless_lifted (os : Os) (started : os.Started) (H : Type) (enc : TypeId × Value → H) :
    ReturnsInHanded {} Try.checked os 10 .any (Rows.spanOrderlessSpec.pre6 enc Try.prog Try.f10 Rows.spanOrderlessRow.domain false) (Rows.spanOrderlessSpec.post enc Try.prog Try.f10 false true false false) :=
  law_of (C := Try.checked) table prog_own started (by kernel_rfl) Try.func10
    (ChangeSpec.witness6 (enc := enc) (C := Try.checked) false ⟨#[], #[.slice none 0 0, .slice none 0 0], []⟩ 8 (by kernel_rfl) (by kernel_rfl) (by kernel_rfl) (by kernel_rfl))
    (f := i_sleuthlaw11_SpanOrderless) rfl prog_laidOut (by kernel_rfl) (Ts := [.sl markTy, .sl markTy]) (by kernel_rfl) (tb := _) rfl (by kernel_rfl) rfl (fun ds h => by
      match ds, h with
      | [_, _], _ => rfl) spanOrderless_all
theorem spanOrderless_holds : Rows.SpanOrderlessSaid :=
  OpenClaim.holds_of_wide 10 Try.f10 rfl rfl rfl rfl rfl rfl rfl ⟨rfl, rfl, rfl, rfl, rfl⟩ rfl rfl rfl rfl rfl (by kernel_rfl) Try.func10 (by kernel_rfl)
    (of_decide_eq_true (by kernel_rfl)) (by unfold Func.isWrapper; first | (rw [if_pos (by decide +kernel)]; kernel_rfl) | (rw [if_neg (by decide +kernel)]; exact ⟨rfl, rfl⟩))
    (fun os started H enc _ => spanOrderless_lifted os started H enc)
#print axioms spanOrderless_holds
end Go.Proofs.Ytaepkcjcmejfcaa
