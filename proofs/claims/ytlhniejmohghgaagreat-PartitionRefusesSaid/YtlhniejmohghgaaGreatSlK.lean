/- A part of the proof. -/
import Derived.Test.YtlhniejmohghgaaGreatSlT
import Derived.Test.YtlhniejmohghgaaGreatSlL1
set_option linter.unusedVariables false
set_option linter.unusedSimpArgs false
set_option linter.unnecessarySimpa false
namespace Go.Proofs.Sl
abbrev attrTy : Ty := .st [.s, .st [.i .i64, .s, .i .i64]]
abbrev refTy : Ty := .st [.i .i64, .i .i64]
abbrev spanTy : Ty := .st [.i .i64, .i .i64, .i .i64, .i .i64, .i .i64, .i .i64, .s, .s, .s, .i .i64, .i .i64, .b, .sl attrTy, .sl refTy]
theorem attr_of {x : V} (h : attrTy.okV x) : ∃ p : AT, x = p.v ∧ p.Pre := by
  obtain ⟨c0, rfl, h0⟩ := okV_st h
  obtain ⟨key, c1, rfl, hkey, h1⟩ := oks_s h0
  obtain ⟨c2, c3, rfl, h2, h3⟩ := oks_st h1
  obtain rfl := oks_nil h3
  obtain ⟨k, c4, rfl, hk, h4⟩ := oks_i h2
  obtain ⟨t, c5, rfl, ht, h5⟩ := oks_s h4
  obtain ⟨n, c6, rfl, hn, h6⟩ := oks_i h5
  obtain rfl := oks_nil h6
  exact ⟨⟨key, ⟨k, t, n⟩⟩, rfl, ⟨maxLen_le hkey, rng_of hk, maxLen_le ht, rng_of hn⟩⟩
theorem ref_of {x : V} (h : refTy.okV x) : ∃ p : RF, x = p.v ∧ p.Ok := by
  obtain ⟨c0, rfl, h0⟩ := okV_st h
  obtain ⟨k, c4, rfl, hk, h4⟩ := oks_i h0
  obtain ⟨n, c6, rfl, hn, h6⟩ := oks_i h4
  obtain rfl := oks_nil h6
  exact ⟨⟨k, n⟩, rfl, ⟨rng_of hk, rng_of hn⟩⟩
/-- A slice, nil or not. -/
theorem slc_of {α : Type} {v : α → V} {o : Option (List V)} {l : List α} (h : o.getD [] = l.map v) : ∃ n : Bool, o = slc v l n ∧ (n = true → l = []) := by
  cases o with
  | none =>
    refine ⟨true, rfl, fun _ => ?_⟩
    have : l.map v = [] := h.symm
    simpa using this
  | some es => exact ⟨false, by simpa [slc] using h, fun h => by cases h⟩
theorem span_of {x : V} (h : spanTy.okV x) : ∃ p : SP, x = p.v ∧ p.Pre := by
  obtain ⟨c0, rfl, h0⟩ := okV_st h
  obtain ⟨n0, c, rfl, k0, h1⟩ := oks_i h0
  obtain ⟨n1, c, rfl, k1, h2⟩ := oks_i h1
  obtain ⟨n2, c, rfl, k2, h3⟩ := oks_i h2
  obtain ⟨n3, c, rfl, k3, h4⟩ := oks_i h3
  obtain ⟨n4, c, rfl, k4, h5⟩ := oks_i h4
  obtain ⟨n5, c, rfl, k5, h6⟩ := oks_i h5
  obtain ⟨t0, c, rfl, q0, h7⟩ := oks_s h6
  obtain ⟨t1, c, rfl, q1, h8⟩ := oks_s h7
  obtain ⟨t2, c, rfl, q2, h9⟩ := oks_s h8
  obtain ⟨n6, c, rfl, k6, h10⟩ := oks_i h9
  obtain ⟨n7, c, rfl, k7, h11⟩ := oks_i h10
  obtain ⟨b, c, rfl, h12⟩ := oks_b h11
  obtain ⟨o1, c, rfl, l1, g1, h13⟩ := oks_sl h12
  obtain ⟨o2, c, rfl, l2, g2, h14⟩ := oks_sl h13
  obtain rfl := oks_nil h14
  obtain ⟨ats, e1, p1⟩ := list_map fun y hy => attr_of (g1 y hy)
  obtain ⟨lks, e2, p2⟩ := list_map fun y hy => ref_of (g2 y hy)
  obtain ⟨an, rfl, z1⟩ := slc_of e1
  obtain ⟨ln, rfl, z2⟩ := slc_of e2
  have w1 : ats.length ≤ 9223372036854775807 := by rw [e1, List.length_map] at l1; exact maxLen_le l1
  have w2 : lks.length ≤ 9223372036854775807 := by rw [e2, List.length_map] at l2; exact maxLen_le l2
  refine ⟨⟨n0, n1, n2, n3, n4, n5, t0, t1, t2, n6, n7, b, ats, lks, an, ln⟩, rfl, ⟨?_, maxLen_le q0, maxLen_le q1, maxLen_le q2, p1, p2, w1, w2, z1, z2⟩⟩
  intro n hn
  simp at hn
  rcases hn with rfl | rfl | rfl | rfl | rfl | rfl | rfl | rfl
  · exact rng_of k0
  · exact rng_of k1
  · exact rng_of k2
  · exact rng_of k3
  · exact rng_of k4
  · exact rng_of k5
  · exact rng_of k6
  · exact rng_of k7
end Go.Proofs.Sl

