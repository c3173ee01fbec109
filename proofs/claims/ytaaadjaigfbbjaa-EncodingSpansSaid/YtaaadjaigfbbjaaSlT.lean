/- The arguments, as records. -/
import Derived.Test.YtaaadjaigfbbjaaSlB
import Derived.Test.YtaaadjaigfbbjaaSlL
import Derived.Test.YtaaadjaigfbbjaaSlM
set_option linter.unusedVariables false
set_option linter.unusedSimpArgs false
set_option linter.unnecessarySimpa false
namespace Go.Proofs.Sl
theorem okV_sl {e : Ty} {x : V} (h : (Ty.sl e).okV x) : ∃ o : Option (List V), x = lv e.cells o ∧ (o.getD []).length ≤ maxLen ∧ ∀ y ∈ o.getD [], e.okV y := by
  unfold Ty.okV at h
  simp only [Ty.isAgg, Bool.false_eq_true, if_false, Ty.ok] at h
  rcases h with h | ⟨es, h, hl, hes⟩
  · injection h with h _
    exact ⟨none, h, by simp, by simp⟩
  · injection h with h _
    exact ⟨some es, h, hl, hes⟩
theorem list_map {α : Type} {v : α → V} {Q : α → Prop} : ∀ {l : List V}, (∀ y ∈ l, ∃ a, y = v a ∧ Q a) → ∃ as : List α, l = as.map v ∧ ∀ a ∈ as, Q a
  | [], _ => ⟨[], rfl, by simp⟩
  | y :: l, h => by
    obtain ⟨a, ha, hq⟩ := h y (by simp)
    obtain ⟨as, hl, hall⟩ := list_map (l := l) fun z hz => h z (List.mem_cons_of_mem _ hz)
    exact ⟨a :: as, by rw [ha, hl]; rfl, by simpa using ⟨hq, hall⟩⟩
theorem okV_st {fs : List Ty} {x : V} (h : (Ty.st fs).okV x) : ∃ cs, x = .agg cs ∧ Ty.oks fs cs := by
  unfold Ty.okV at h
  simp only [Ty.isAgg, if_true, Ty.ok] at h
  exact h
theorem oks_nil {cs : List V} (h : Ty.oks [] cs) : cs = [] := by simpa [Ty.oks] using h
theorem oks_i {k : IntKind} {r : List Ty} {cs : List V} (h : Ty.oks (.i k :: r) cs) : ∃ n b, cs = vk k n :: b ∧ (Lit.int k n).wf = true ∧ Ty.oks r b := by
  simp only [Ty.oks, Ty.ok] at h
  obtain ⟨a, b, rfl, ⟨n, rfl, hw⟩, h⟩ := h
  exact ⟨n, b, rfl, hw, h⟩
theorem oks_b {r : List Ty} {cs : List V} (h : Ty.oks (.b :: r) cs) : ∃ x b, cs = vb x :: b ∧ Ty.oks r b := by
  simp only [Ty.oks, Ty.ok] at h
  obtain ⟨a, b, rfl, ⟨n, rfl⟩, h⟩ := h
  exact ⟨n, b, rfl, h⟩
theorem oks_s {r : List Ty} {cs : List V} (h : Ty.oks (.s :: r) cs) : ∃ (x : ByteArray) (b : List V), cs = vs x :: b ∧ x.size ≤ maxLen ∧ Ty.oks r b := by
  simp only [Ty.oks, Ty.ok] at h
  obtain ⟨a, b, rfl, ⟨n, rfl, hw⟩, h⟩ := h
  exact ⟨n, b, rfl, hw, h⟩
theorem oks_sl {e : Ty} {r : List Ty} {cs : List V} (h : Ty.oks (.sl e :: r) cs) : ∃ (o : Option (List V)) (b : List V), cs = lv e.cells o :: b ∧ (o.getD []).length ≤ maxLen ∧ (∀ y ∈ o.getD [], e.okV y) ∧ Ty.oks r b := by
  simp only [Ty.oks] at h
  obtain ⟨a, b, rfl, h1, h⟩ := h
  simp only [Ty.ok] at h1
  rcases h1 with rfl | ⟨es, rfl, hl, hes⟩
  · exact ⟨none, b, rfl, by simp, by simp, h⟩
  · exact ⟨some es, b, rfl, hl, hes, h⟩
/-- A struct in a struct: its cells lie in place. -/
theorem oks_st {fs r : List Ty} {cs : List V} (h : Ty.oks (.st fs :: r) cs) : ∃ a b, cs = a ++ b ∧ Ty.oks fs a ∧ Ty.oks r b := by
  simp only [Ty.oks, Ty.ok] at h
  exact h
/-- n cells of ints. -/
theorem oks_ar {n : Nat} {k : IntKind} {r : List Ty} {cs : List V} (h : Ty.oks (.ar n (.i k) :: r) cs) : ∃ (ns : List Int) (b : List V), cs = ns.map (vk k) ++ b ∧ ns.length = n ∧ (∀ x ∈ ns, (Lit.int k x).wf = true) ∧ Ty.oks r b := by
  simp only [Ty.oks, Ty.ok] at h
  obtain ⟨a, b, rfl, ⟨css, hl, rfl, hc⟩, h⟩ := h
  have : ∀ css : List (List V), (∀ c ∈ css, ∃ n, c = [vk k n] ∧ (Lit.int k n).wf = true) → ∃ ns : List Int, css.flatten = ns.map (vk k) ∧ ns.length = css.length ∧ ∀ x ∈ ns, (Lit.int k x).wf = true := by
    intro css
    induction css with
    | nil => intro _; exact ⟨[], rfl, rfl, by simp⟩
    | cons c css ih =>
      intro hc
      obtain ⟨n, rfl, hw⟩ := hc c (by simp)
      obtain ⟨ns, h1, h2, h3⟩ := ih fun c hc' => hc c (List.mem_cons_of_mem _ hc')
      exact ⟨n :: ns, by simp [h1], by simp [h2], by simpa using ⟨hw, h3⟩⟩
  obtain ⟨ns, h1, h2, h3⟩ := this css hc
  exact ⟨ns, b, by rw [h1], by omega, h3, h⟩
theorem rng_of {n : Int} (h : (Lit.int .i64 n).wf = true) : Rng n := by
  simp only [Lit.wf, Bool.and_eq_true, decide_eq_true_eq] at h
  exact h
theorem u8_of {n : Int} (h : (Lit.int .u8 n).wf = true) : 0 ≤ n ∧ n ≤ 255 := by
  simp only [Lit.wf, Bool.and_eq_true, decide_eq_true_eq] at h
  exact h
theorem maxLen_le {n : Nat} (h : n ≤ maxLen) : n ≤ 9223372036854775807 := by
  unfold maxLen at h
  omega
abbrev partTy : Ty := .st [.i .u8, .ar 8 (.i .i64), .s, .s]
theorem part_of {x : V} (h : partTy.okV x) : ∃ p : PT, x = p.v ∧ p.Pre := by
  obtain ⟨c0, rfl, h0⟩ := okV_st h
  obtain ⟨k, c1, rfl, hk, h1⟩ := oks_i h0
  obtain ⟨ns, c2, rfl, hl, hn, h2⟩ := oks_ar h1
  obtain ⟨key, c3, rfl, hkey, h3⟩ := oks_s h2
  obtain ⟨s, c4, rfl, hs, h4⟩ := oks_s h3
  obtain rfl := oks_nil h4
  match ns, hl, hn with
  | [n0, n1, n2, n3, n4, n5, n6, n7], _, hn =>
    have hk' := u8_of hk
    exact ⟨⟨k, n0, n1, n2, n3, n4, n5, n6, n7, key, s⟩, rfl, ⟨hk'.1, hk'.2, rng_of (hn n0 (by simp)), rng_of (hn n1 (by simp)), rng_of (hn n2 (by simp)), rng_of (hn n3 (by simp)), rng_of (hn n4 (by simp)), rng_of (hn n5 (by simp)), rng_of (hn n6 (by simp)), rng_of (hn n7 (by simp)), maxLen_le hkey, maxLen_le hs⟩⟩
end Go.Proofs.Sl

/- Spans, fragments, as records. -/
namespace Go.Proofs.Sl
abbrev attrTy : Ty := .st [.s, .st [.i .i64, .s, .i .i64]]
abbrev refTy : Ty := .st [.i .i64, .i .i64]
abbrev spanTy : Ty := .st [.i .i64, .i .i64, .i .i64, .i .i64, .i .i64, .i .i64, .s, .s, .s, .i .i64, .i .i64, .b, .sl attrTy, .sl refTy]
theorem attr_of {x : V} (h : attrTy.okV x) : ∃ p : AT, x = p.v ∧ p.Pre := by
  obtain ⟨c0, rfl, h0⟩ := okV_st h
  obtain ⟨key, c1, rfl, hkey, h1⟩ := oks_s h0
  obtain ⟨c2, c3, rfl, h2, h3⟩ := oks_st h1
  obtain rfl := oks_nil h3
  obtain ⟨k, c4, rfl, hk, h4⟩ := oks_i h2
  obtain ⟨t, c5, rfl, ht, h5⟩ := oks_s h4
  obtain ⟨n, c6, rfl, hn, h6⟩ := oks_i h5
  obtain rfl := oks_nil h6
  exact ⟨⟨key, ⟨k, t, n⟩⟩, rfl, ⟨maxLen_le hkey, rng_of hk, maxLen_le ht, rng_of hn⟩⟩
theorem ref_of {x : V} (h : refTy.okV x) : ∃ p : RF, x = p.v ∧ p.Ok := by
  obtain ⟨c0, rfl, h0⟩ := okV_st h
  obtain ⟨k, c4, rfl, hk, h4⟩ := oks_i h0
  obtain ⟨n, c6, rfl, hn, h6⟩ := oks_i h4
  obtain rfl := oks_nil h6
  exact ⟨⟨k, n⟩, rfl, ⟨rng_of hk, rng_of hn⟩⟩
/-- A slice, nil or not. -/
theorem slc_of {α : Type} {v : α → V} {o : Option (List V)} {l : List α} (h : o.getD [] = l.map v) : ∃ n : Bool, o = slc v l n ∧ (n = true → l = []) := by
  cases o with
  | none =>
    refine ⟨true, rfl, fun _ => ?_⟩
    have : l.map v = [] := h.symm
    simpa using this
  | some es => exact ⟨false, by simpa [slc] using h, fun h => by cases h⟩
theorem span_of {x : V} (h : spanTy.okV x) : ∃ p : SP, x = p.v ∧ p.Pre := by
  obtain ⟨c0, rfl, h0⟩ := okV_st h
  obtain ⟨n0, c, rfl, k0, h1⟩ := oks_i h0
  obtain ⟨n1, c, rfl, k1, h2⟩ := oks_i h1
  obtain ⟨n2, c, rfl, k2, h3⟩ := oks_i h2
  obtain ⟨n3, c, rfl, k3, h4⟩ := oks_i h3
  obtain ⟨n4, c, rfl, k4, h5⟩ := oks_i h4
  obtain ⟨n5, c, rfl, k5, h6⟩ := oks_i h5
  obtain ⟨t0, c, rfl, q0, h7⟩ := oks_s h6
  obtain ⟨t1, c, rfl, q1, h8⟩ := oks_s h7
  obtain ⟨t2, c, rfl, q2, h9⟩ := oks_s h8
  obtain ⟨n6, c, rfl, k6, h10⟩ := oks_i h9
  obtain ⟨n7, c, rfl, k7, h11⟩ := oks_i h10
  obtain ⟨b, c, rfl, h12⟩ := oks_b h11
  obtain ⟨o1, c, rfl, l1, g1, h13⟩ := oks_sl h12
  obtain ⟨o2, c, rfl, l2, g2, h14⟩ := oks_sl h13
  obtain rfl := oks_nil h14
  obtain ⟨ats, e1, p1⟩ := list_map fun y hy => attr_of (g1 y hy)
  obtain ⟨lks, e2, p2⟩ := list_map fun y hy => ref_of (g2 y hy)
  obtain ⟨an, rfl, z1⟩ := slc_of e1
  obtain ⟨ln, rfl, z2⟩ := slc_of e2
  have w1 : ats.length ≤ 9223372036854775807 := by rw [e1, List.length_map] at l1; exact maxLen_le l1
  have w2 : lks.length ≤ 9223372036854775807 := by rw [e2, List.length_map] at l2; exact maxLen_le l2
  refine ⟨⟨n0, n1, n2, n3, n4, n5, t0, t1, t2, n6, n7, b, ats, lks, an, ln⟩, rfl, ⟨?_, maxLen_le q0, maxLen_le q1, maxLen_le q2, p1, p2, w1, w2, z1, z2⟩⟩
  intro n hn
  simp at hn
  rcases hn with rfl | rfl | rfl | rfl | rfl | rfl | rfl | rfl
  · exact rng_of k0
  · exact rng_of k1
  · exact rng_of k2
  · exact rng_of k3
  · exact rng_of k4
  · exact rng_of k5
  · exact rng_of k6
  · exact rng_of k7
end Go.Proofs.Sl

/- Fragments, as records. -/
namespace Go.Proofs.Sl
abbrev exTy : Ty := .st [.i .i64, .i .i64, .i .i64, .i .i64, .i .i64]
abbrev fragTy : Ty := .st [.i .i64, .i .i64, .sl spanTy, .sl exTy]
theorem ex_of {x : V} (h : exTy.okV x) : ∃ p : EX, x = p.v ∧ p.Ok := by
  obtain ⟨c0, rfl, h0⟩ := okV_st h
  obtain ⟨n0, c, rfl, k0, h1⟩ := oks_i h0
  obtain ⟨n1, c, rfl, k1, h2⟩ := oks_i h1
  obtain ⟨n2, c, rfl, k2, h3⟩ := oks_i h2
  obtain ⟨n3, c, rfl, k3, h4⟩ := oks_i h3
  obtain ⟨n4, c, rfl, k4, h5⟩ := oks_i h4
  obtain rfl := oks_nil h5
  exact ⟨⟨n0, n1, n2, n3, n4⟩, rfl, ⟨rng_of k0, rng_of k1, rng_of k2, rng_of k3, rng_of k4⟩⟩
theorem frag_of {x : V} (h : fragTy.okV x) : ∃ p : FR, x = p.v ∧ p.Pre := by
  obtain ⟨c0, rfl, h0⟩ := okV_st h
  obtain ⟨n0, c, rfl, k0, h1⟩ := oks_i h0
  obtain ⟨n1, c, rfl, k1, h2⟩ := oks_i h1
  obtain ⟨o1, c, rfl, l1, g1, h3⟩ := oks_sl h2
  obtain ⟨o2, c, rfl, l2, g2, h4⟩ := oks_sl h3
  obtain rfl := oks_nil h4
  obtain ⟨sps, e1, p1⟩ := list_map fun y hy => span_of (g1 y hy)
  obtain ⟨exs, e2, p2⟩ := list_map fun y hy => ex_of (g2 y hy)
  obtain ⟨sn, rfl, z1⟩ := slc_of e1
  obtain ⟨xn, rfl, z2⟩ := slc_of e2
  have w1 : sps.length ≤ 9223372036854775807 := by rw [e1, List.length_map] at l1; exact maxLen_le l1
  have w2 : exs.length ≤ 9223372036854775807 := by rw [e2, List.length_map] at l2; exact maxLen_le l2
  exact ⟨⟨n0, n1, sps, exs, sn, xn⟩, rfl, ⟨rng_of k0, rng_of k1, p1, p2, w1, w2, z1, z2⟩⟩
theorem u16_of {n : Int} (h : (Lit.int .u16 n).wf = true) : 0 ≤ n ∧ n ≤ 65535 := by
  simp only [Lit.wf, Bool.and_eq_true, decide_eq_true_eq] at h
  exact h
end Go.Proofs.Sl
