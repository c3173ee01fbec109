/- A part of the proof. -/
import Derived.Test.YtaepkcjcmejfcaaGreatSlB
import Derived.Test.YtaepkcjcmejfcaaGreatSlS
set_option linter.unusedVariables false
set_option linter.unusedSimpArgs false
set_option linter.unnecessarySimpa false
namespace Go.Proofs.Sl
theorem okV_sl {e : Ty} {x : V} (h : (Ty.sl e).okV x) : ∃ o : Option (List V), x = lv e.cells o ∧ (o.getD []).length ≤ maxLen ∧ ∀ y ∈ o.getD [], e.okV y := by
  unfold Ty.okV at h
  simp only [Ty.isAgg, Bool.false_eq_true, if_false, Ty.ok] at h
  rcases h with h | ⟨es, h, hl, hes⟩
  · injection h with h _
    exact ⟨none, h, by simp, by simp⟩
  · injection h with h _
    exact ⟨some es, h, hl, hes⟩
theorem zwi_ {α : Type} {v : α → V} {Q : α → Prop} : ∀ {l : List V}, (∀ y ∈ l, ∃ a, y = v a ∧ Q a) → ∃ as : List α, l = as.map v ∧ ∀ a ∈ as, Q a
  | [], _ => ⟨[], rfl, by simp⟩
  | y :: l, h => by
    obtain ⟨a, ha, hq⟩ := h y (by simp)
    obtain ⟨as, hl, hall⟩ := zwi_ (l := l) fun z hz => h z (List.mem_cons_of_mem _ hz)
    exact ⟨a :: as, by rw [ha, hl]; rfl, by simpa using ⟨hq, hall⟩⟩
theorem okV_st {fs : List Ty} {x : V} (h : (Ty.st fs).okV x) : ∃ cs, x = .agg cs ∧ Ty.oks fs cs := by
  unfold Ty.okV at h
  simp only [Ty.isAgg, if_true, Ty.ok] at h
  exact h
theorem zbsl_ {cs : List V} (h : Ty.oks [] cs) : cs = [] := by simpa [Ty.oks] using h
theorem oks_i {k : IntKind} {r : List Ty} {cs : List V} (h : Ty.oks (.i k :: r) cs) : ∃ n b, cs = vk k n :: b ∧ (Lit.int k n).wf = true ∧ Ty.oks r b := by
  simp only [Ty.oks, Ty.ok] at h
  obtain ⟨a, b, rfl, ⟨n, rfl, hw⟩, h⟩ := h
  exact ⟨n, b, rfl, hw, h⟩
theorem oks_b {r : List Ty} {cs : List V} (h : Ty.oks (.b :: r) cs) : ∃ x b, cs = vb x :: b ∧ Ty.oks r b := by
  simp only [Ty.oks, Ty.ok] at h
  obtain ⟨a, b, rfl, ⟨n, rfl⟩, h⟩ := h
  exact ⟨n, b, rfl, h⟩
theorem u8_of {n : Int} (h : (Lit.int .u8 n).wf = true) : 0 ≤ n ∧ n ≤ 255 := by
  simp only [Lit.wf, Bool.and_eq_true, decide_eq_true_eq] at h
  exact h
end Go.Proofs.Sl
