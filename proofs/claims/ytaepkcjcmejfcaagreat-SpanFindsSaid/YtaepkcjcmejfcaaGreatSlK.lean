/- A part of the proof. -/
import Derived.Test.YtaepkcjcmejfcaaGreatSlT
import Derived.Test.YtaepkcjcmejfcaaGreatSlL1
set_option linter.unusedVariables false
set_option linter.unusedSimpArgs false
set_option linter.unnecessarySimpa false
namespace Go.Proofs.Sl
abbrev markTy : Ty := .st [.i .u8, .i .u8, .i .u8, .i .u8, .i .u8, .i .u8, .i .u8, .i .u8, .i .u8, .i .u8, .i .u8, .i .u8, .i .u8, .b]
theorem u8n {n : Int} (h : (Lit.int .u8 n).wf = true) : ∃ m : Nat, n = m ∧ m < 256 := by
  have := u8_of h
  exact ⟨n.toNat, by omega, by omega⟩
theorem zckj_ {x : V} (h : markTy.okV x) : ∃ p : MK, x = p.val ∧ p.Ok := by
  obtain ⟨c, rfl, h0⟩ := okV_st h
  obtain ⟨n, c, rfl, k, h1⟩ := oks_i h0
  obtain ⟨n0, rfl, k0⟩ := u8n k
  obtain ⟨n, c, rfl, k, h2⟩ := oks_i h1
  obtain ⟨n1, rfl, k1⟩ := u8n k
  obtain ⟨n, c, rfl, k, h3⟩ := oks_i h2
  obtain ⟨n2, rfl, k2⟩ := u8n k
  obtain ⟨n, c, rfl, k, h4⟩ := oks_i h3
  obtain ⟨n3, rfl, k3⟩ := u8n k
  obtain ⟨n, c, rfl, k, h5⟩ := oks_i h4
  obtain ⟨n4, rfl, k4⟩ := u8n k
  obtain ⟨n, c, rfl, k, h6⟩ := oks_i h5
  obtain ⟨n5, rfl, k5⟩ := u8n k
  obtain ⟨n, c, rfl, k, h7⟩ := oks_i h6
  obtain ⟨n6, rfl, k6⟩ := u8n k
  obtain ⟨n, c, rfl, k, h8⟩ := oks_i h7
  obtain ⟨n7, rfl, k7⟩ := u8n k
  obtain ⟨n, c, rfl, k, h9⟩ := oks_i h8
  obtain ⟨n8, rfl, k8⟩ := u8n k
  obtain ⟨n, c, rfl, k, h10⟩ := oks_i h9
  obtain ⟨n9, rfl, k9⟩ := u8n k
  obtain ⟨n, c, rfl, k, h11⟩ := oks_i h10
  obtain ⟨n10, rfl, k10⟩ := u8n k
  obtain ⟨n, c, rfl, k, h12⟩ := oks_i h11
  obtain ⟨n11, rfl, k11⟩ := u8n k
  obtain ⟨n, c, rfl, k, h13⟩ := oks_i h12
  obtain ⟨n12, rfl, k12⟩ := u8n k
  obtain ⟨b, c, rfl, h14⟩ := oks_b h13
  obtain rfl := zbsl_ h14
  refine ⟨⟨n0, n1, n2, n3, n4, n5, n6, n7, n8, n9, n10, n11, n12, b⟩, rfl, ⟨?_⟩⟩
  simp only [List.mem_cons, List.not_mem_nil, or_false, forall_eq_or_imp, forall_eq]
  exact ⟨k0, k1, k2, k3, k4, k5, k6, k7, k8, k9, k10, k11, k12⟩
end Go.Proofs.Sl
