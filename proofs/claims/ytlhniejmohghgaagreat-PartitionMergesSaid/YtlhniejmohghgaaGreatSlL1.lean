/- A part of the proof. -/
import Derived.Test.YtlhniejmohghgaaGreatSlL0
set_option linter.unusedVariables false
set_option linter.unusedSimpArgs false
set_option linter.unnecessarySimpa false
namespace Go.Proofs.Sl
theorem bsW_ok {c : Nat → Int} {n : Nat} (hm : ∀ a b, a < b → b < n → c b < 0 → c a < 0) (i j : Nat) (hij : i ≤ j) (hj : j ≤ n) (h1 : ∀ k, k < i → c k < 0) (h2 : ∀ k, j ≤ k → k < n → ¬ c k < 0) :
    (∀ k, k < bsW c i j → c k < 0) ∧ (∀ k, bsW c i j ≤ k → k < n → ¬ c k < 0) ∧ bsW c i j ≤ n := by
  induction hn : j - i using Nat.strongRecOn generalizing i j with
  | _ d ih =>
    rw [bsW]
    by_cases hlt : i < j
    · rw [dif_pos hlt]
      have hmid : (i + j) / 2 < j := by omega
      have hmid2 : i ≤ (i + j) / 2 := by omega
      by_cases hc : c ((i + j) / 2) < 0
      · rw [if_pos hc]
        refine ih (j - ((i + j) / 2 + 1)) (by omega) _ _ (by omega) hj (fun k hk => ?_) h2 rfl
        by_cases hk' : k = (i + j) / 2
        · rw [hk']; exact hc
        · exact hm k ((i + j) / 2) (by omega) (by omega) hc
      · rw [if_neg hc]
        refine ih ((i + j) / 2 - i) (by omega) _ _ (by omega) (by omega) h1 (fun k hk hkn hck => ?_) rfl
        by_cases hk' : k = (i + j) / 2
        · rw [hk'] at hck; exact hc hck
        · exact hc (hm _ k (by omega) hkn hck)
    · rw [dif_neg hlt]
      obtain rfl : i = j := by omega
      exact ⟨h1, h2, hj⟩
def cS (D : List SP) (e : SP) (m : Nat) : Int := match D[m]? with
  | some d => cmpS d e
  | none => 0
def posS (D : List SP) (e : SP) : Nat := bsW (cS D e) 0 D.length
def fndS (D : List SP) (e : SP) : Bool := decide (posS D e < D.length) && (cS D e (posS D e) == 0)
def inS (D : List SP) (e : SP) : Bool := D.any fun d => cmpS d e == 0
theorem zbdo_ {D : List SP} (h : Str D) {i j : Nat} {a b : SP} (hij : i < j) (ha : D[i]? = some a) (hb : D[j]? = some b) : cmpS a b < 0 := by
  have hi := (List.getElem?_eq_some_iff.1 ha)
  have hj := (List.getElem?_eq_some_iff.1 hb)
  have := List.pairwise_iff_getElem.1 h i j hi.1 hj.1 hij
  rw [hi.2, hj.2] at this
  exact this
theorem zcqt_ {D : List SP} (h : Str D) (e : SP) : fndS D e = inS D e := by
  have hm : ∀ a b, a < b → b < D.length → cS D e b < 0 → cS D e a < 0 := fun a b hab hb hc => by
    have h1 : D[a]? = some D[a] := List.getElem?_eq_getElem (by omega)
    have h2 : D[b]? = some D[b] := List.getElem?_eq_getElem hb
    have h3 := zbdo_ h hab h1 h2
    simp only [cS, h1, h2] at hc ⊢
    exact clt h3 (by omega)
  obtain ⟨k1, k2, k3⟩ := bsW_ok hm 0 D.length (Nat.zero_le _) (Nat.le_refl _) (fun k hk => by omega) (fun k hk hk' => by omega)
  have k1 : ∀ k, k < posS D e → cS D e k < 0 := k1
  have k2 : ∀ k, posS D e ≤ k → k < D.length → ¬ cS D e k < 0 := k2
  cases hI : inS D e with
  | true =>
    rw [inS, List.any_eq_true] at hI
    obtain ⟨d, hd, hc⟩ := hI
    have hc : cmpS d e = 0 := by simpa using hc
    obtain ⟨m, hml, hmd⟩ := List.getElem_of_mem hd
    have h2 : D[m]? = some d := by rw [List.getElem?_eq_getElem hml, hmd]
    have hcm : cS D e m = 0 := by simp only [cS, h2, hc]
    have hge : posS D e ≤ m := by
      apply Decidable.byContradiction
      intro hlt
      have := k1 m (by omega)
      omega
    have hpl : posS D e < D.length := by omega
    have hpe : posS D e = m := by
      apply Decidable.byContradiction
      intro hne
      have h1 : D[posS D e]? = some D[posS D e] := List.getElem?_eq_getElem hpl
      have h3 := zbdo_ h (show posS D e < m by omega) h1 h2
      have h4 := clt h3 (c := e) (by omega)
      have h5 := k2 (posS D e) (Nat.le_refl _) hpl
      simp only [cS, h1] at h5
      exact h5 h4
    rw [fndS, hpe, hcm]
    simp [hml]
  | false =>
    rw [fndS]
    by_cases hpl : posS D e < D.length
    · have h1 : D[posS D e]? = some D[posS D e] := List.getElem?_eq_getElem hpl
      have h2 : ¬ cmpS D[posS D e] e = 0 := by
        intro hc
        have : inS D e = true := by
          rw [inS, List.any_eq_true]
          exact ⟨D[posS D e], List.getElem_mem hpl, by simpa using hc⟩
        rw [hI] at this
        cases this
      simp only [cS, h1]
      simp [h2]
    · simp [hpl]
set_option maxHeartbeats 1000000 in
theorem zcqu_ (h : H) {v : V} {D : List SP} {e : SP} (hv : ∀ t, Rd (h ++ t) 14 v (D.map SP.v)) (hD : ∀ d ∈ D, d.Sm) (he : e.Sm) (hl : D.length ≤ 100000) :
    run XP ztw_ [v, e.v, .fn zdg_ [] []] h = some (.tup [vi (posS D e), vb (fndS D e)], h) := by
  have hL := fun t => (hv t).toL
  have hL0 := hL []
  rw [List.append_nil] at hL0
  rw [run_eq, zbzq_]
  simp -implicitDefEqProofs [zmm_, hL, hL0, SP.v]
  refine zeh_ (fun p : Nat × Nat => p.2 - p.1) (fun p s h' => h' = h ++ [.box false e.v.cells] ∧ Sees s [(0, v), (2, .fn zdg_ [] []), (4, .ptr h.length 0), (8, vi D.length), (9, vi p.1), (10, vi p.2)] ∧ p.1 ≤ p.2 ∧ p.2 ≤ D.length ∧ posS D e = bsW (cS D e) p.1 p.2) ?_ (0, D.length) _ _ ?_
  rotate_left
  · exact ⟨by simp [SP.v], by simp, Nat.zero_le _, Nat.le_refl _, rfl⟩
  rintro B f hB hf ⟨i, j⟩ s h' ⟨rfl, ⟨g0, g2, g4, g8, g9, g10, -⟩, hij, hjn, hp⟩ K
  simp only at g9 g10 hij hjn hp K
  rw [bsW] at hp
  by_cases c : i < j
  · rw [dif_pos c] at hp
    have c' : (i : Int) < j := by omega
    obtain ⟨m, hm⟩ : ∃ m, m = (i + j) / 2 := ⟨_, rfl⟩
    rw [← hm] at hp
    obtain ⟨d, hd⟩ : ∃ d, D[m]? = some d := ⟨_, List.getElem?_eq_getElem (by omega)⟩
    obtain ⟨p, hpp, hpl⟩ := (hv [.box false e.v.cells]).at (i := m) (e := d.v) (by simp [hd])
    have w1 : IntKind.i64.wrap ((i : Int) + j) = (i : Int) + j := zae_ (by omega) (by omega)
    have w2 : IntKind.u64.wrap ((i : Int) + j) = (i : Int) + j := by rw [zqe_]; omega
    have w3 : ((i : Int) + j).fdiv (2 ^ min 1 IntKind.u64.bits) = (m : Int) := by
      show ((i : Int) + j).fdiv 2 = _
      rw [Int.fdiv_eq_ediv_of_nonneg _ (by decide)]
      omega
    have w4 : IntKind.i64.wrap (m : Int) = (m : Int) := zae_ (by omega) (by omega)
    have w5 : IntKind.i64.wrap ((m : Int) + 1) = (m : Int) + 1 := zae_ (by omega) (by omega)
    have hc : cS D e m = cmpS d e := by rw [cS, hd]
    have h1 := fun h => zqg_ h (hD d (List.mem_of_getElem? hd)).len he.len
    rw [hc] at hp
    generalize cmpS d e = z at *
    simp only [SP.v, V.cells] at hpl h1 hpp
    by_cases hz : z < 0
    · rw [if_pos hz] at hp
      simp -implicitDefEqProofs [hB, zml_, g0, g2, g4, g8, g9, g10, c, w1, w2, w3, w4, w5, hpp, hpl, h1, hz, SP.v, V.cells]
      refine K (m + 1, j) _ _ (by simp only; omega) ⟨by simp [SP.v, V.cells], ?_, by simp only; omega, hjn, hp⟩
      simp [g0, g2, g4, g8, g10]
    · rw [if_neg hz] at hp
      simp -implicitDefEqProofs [hB, zml_, g0, g2, g4, g8, g9, g10, c, w1, w2, w3, w4, hpp, hpl, h1, hz, SP.v, V.cells]
      refine K (i, m) _ _ (by simp only; omega) ⟨by simp [SP.v, V.cells], ?_, by simp only; omega, by simp only; omega, hp⟩
      simp [g0, g2, g4, g8, g9]
  · rw [dif_neg c] at hp
    by_cases hn : i < D.length
    · obtain ⟨d, hd⟩ : ∃ d, D[i]? = some d := ⟨_, List.getElem?_eq_getElem hn⟩
      obtain ⟨p, hpp, hpl⟩ := (hv [.box false e.v.cells]).at (i := i) (e := d.v) (by simp [hd])
      have hc : cS D e i = cmpS d e := by rw [cS, hd]
      have hfd : fndS D e = (cmpS d e == 0) := by rw [fndS, hp, hc]; simp [hn]
      have h1 := fun h => zqg_ h (hD d (List.mem_of_getElem? hd)).len he.len
      rw [hp, hfd]
      generalize cmpS d e = z at *
      simp only [SP.v, V.cells] at hpl h1 hpp
      simp -implicitDefEqProofs [hB, hf, zml_, g0, g2, g4, g8, g9, g10, c, hn, hpp, hpl, h1, SP.v, V.cells]
    · have hfd : fndS D e = false := by rw [fndS, hp]; simp [hn]
      rw [hp, hfd]
      simp -implicitDefEqProofs [hB, hf, zml_, g0, g2, g4, g8, g9, g10, c, hn]
end Go.Proofs.Sl
namespace Go.Proofs.Sl
theorem zcqv_ {h : H} {v w : V} {xs ys : List SP} (hv : ∀ t, Rd (h ++ t) 14 v (xs.map SP.v)) (hw : ∀ t, Rd (h ++ t) 14 w (ys.map SP.v)) (hx : ∀ e ∈ xs, e.Sm) (hy : ∀ e ∈ ys, e.Sm) (hl : xs.length ≤ 100000) :
    run XP ztx_ [v, w, .fn zck_ [] []] h = some (vb (sameL xs ys), h) := by
  have hL := fun t => (hv t).toL
  have hR := fun t => (hw t).toL
  have hL0 := hL []
  have hR0 := hR []
  rw [List.append_nil] at hL0 hR0
  have key : ∀ k, sameL (xs.drop k) (ys.drop k) = true → True := fun _ _ => trivial
  rw [run_eq, zbzr_]
  by_cases hc : xs.length = ys.length
  · have hc' : ((xs.length : Int) != (ys.length : Int)) = false := by simp [hc]
    simp -implicitDefEqProofs [zhv_, hL0, hR0, hc']
    refine zak_ xs (fun k s h' => ∃ t, h' = h ++ t ∧ Sees s [(1, w), (2, .fn zck_ [] []), (15, v), (16, vi xs.length), (17, vi k)] ∧ sameL xs ys = sameL (xs.drop k) (ys.drop k)) ?_ ?_ _ _ ?_
    · rintro B f' hB hf k e s h' he hk ⟨t, rfl, ⟨g1, g2, g15, g16, g17, -⟩, hx'⟩ K
      have hlt : (k : Int) < xs.length := by omega
      obtain ⟨d, hd⟩ : ∃ d, ys[k]? = some d := ⟨_, List.getElem?_eq_getElem (by omega)⟩
      obtain ⟨q, hq, hld⟩ := (hv t).at (i := k) (e := e.v) (by simp [he])
      have hat := fun x : H => (hw (t ++ x)).at (i := k) (e := d.v) (by simp [hd])
      obtain ⟨q2, hq2, hld2⟩ := hat [.box false e.v.cells]
      have hE := fun h => zqh_ h (hx e (List.mem_of_getElem? he)).len (hy d (List.mem_of_getElem? hd)).len
      have hw0 : IntKind.i64.wrap ((k : Int) + 1) = (k : Int) + 1 := zae_ (by omega) (by omega)
      rw [zau_ he, zau_ hd, sameL] at hx'
      simp only [SP.v, V.cells] at hld hld2 hE hq2
      cases hb : (cmpS e d == 0) with
      | true =>
        rw [hb, Bool.true_and] at hx'
        rw [hb] at hE
        simp -implicitDefEqProofs [hB, zpr_, g1, g2, g15, g16, g17, hlt, hq, hld, hq2, hld2, hE]
        refine K _ _ ⟨_, rfl, ?_, hx'⟩
        simp [g1, g2, g15, g16, hw0]
      | false =>
        rw [hb, Bool.false_and] at hx'
        rw [hb] at hE
        simp -implicitDefEqProofs [hB, hf, zpr_, g1, g2, g15, g16, g17, hlt, hq, hld, hq2, hld2, hE, hx']
    · rintro B hB s h' ⟨t, rfl, ⟨g1, g2, g15, g16, g17, -⟩, hx'⟩
      rw [List.drop_of_length_le (Nat.le_refl _), List.drop_of_length_le (by omega)] at hx'
      have hx' : sameL xs ys = true := hx'
      simp -implicitDefEqProofs [hB, zpr_, g16, g17, hx']
    · exact ⟨[], by simp, by simp, rfl⟩
  · have hc' : ((xs.length : Int) != (ys.length : Int)) = true := by
      simp only [bne_iff_ne, ne_eq]
      omega
    have hs : sameL xs ys = false := by
      cases h : sameL xs ys with
      | false => rfl
      | true => exact absurd (znd_ h) hc
    simp -implicitDefEqProofs [zhv_, hL0, hR0, hc', hs]
theorem OutV.grows {x : V} {h : H} {b k lim : Nat} {es : List V} (o : OutV x h b k es) {y : V} {ys : List V} (ey : appEls h y = some ys) (hb : b ≤ h.length) (hw : wide k ys = true) (hc : V.closed.closeds ys = true) (hl : es.length + ys.length ≤ lim) :
    ∃ x' h', zay_ h k lim x y = some (x', h') ∧ OutV x' h' b k (es ++ ys) ∧ h'.take b = h.take b ∧ b ≤ h'.length := by
  rcases o with ⟨rfl, rfl⟩ | ⟨q, h0, h1, rfl, h3⟩
  · by_cases hy : ys = []
    · subst hy
      refine ⟨vnil, h, ?_, .inl ⟨rfl, rfl⟩, rfl, hb⟩
      simp only [zay_, ey, zac_, hw, hc, and_self, if_true, List.length_nil]
    · have hy' : ys.length ≠ 0 := by simpa using hy
      have hl' : ys.length ≤ lim := by simpa using hl
      refine ⟨.ref h.length ys.length, h ++ [.arr false k ys], ?_, .inr ⟨h.length, by simpa using hy, hb, by simp, by simp⟩, by rw [List.take_append_of_le_length hb], by simp; omega⟩
      simp only [zay_, ey, zac_, hw, hc, and_self, if_true, hy', if_false, hl']
  · have hq := (List.getElem?_eq_some_iff.1 h3).1
    refine ⟨.ref q (es.length + ys.length), h.set q (.arr false k (es ++ ys)), ?_, .inr ⟨q, by simp [h0], h1, by simp, by rw [List.getElem?_set_self hq]⟩, ?_, by simpa using hb⟩
    · have : arrN h q es.length = some (false, k, es) := by simp [arrN, arrAt, h3, zac_]
      simp only [zay_, ey, zac_, hw, hc, and_self, if_true, this, true_and, hl]
    · rw [List.take_set, List.set_eq_of_length_le (by simp; omega)]
theorem OutV.SA {x : V} {h : H} {b : Nat} {es : List SP} (o : OutV x h b 14 (es.map SP.v)) : ∃ h2, SA h h2 x es ∧ h2.take b = h.take b := by
  rcases o with ⟨h1, rfl⟩ | ⟨q, h0, h1, rfl, h3⟩
  · have : es = [] := by simpa using h1
    subst this
    exact ⟨h, .lst (.inl ⟨rfl, rfl⟩) h, rfl⟩
  · have := SA.ref (es := es) h3
    rw [List.length_map] at *
    exact ⟨_, this, by rw [List.take_set, List.set_eq_of_length_le (by simp; omega)]⟩
theorem Rd.atB {h : H} {v : V} {bs : List (List SP)} (r : Rd h 1 v (bs.map bkV)) {i : Nat} {b : List SP} (hb : bs[i]? = some b) : ∃ p, iaddrV h 1 v i = some p ∧ xload h 1 false p = some (bkV b) := by
  obtain ⟨p, h1, h2⟩ := r.at (i := i) (e := bkV b) (by simp [hb])
  exact ⟨p, h1, by rw [h2]; rfl⟩
theorem zbdp_ {h : H} {v : V} {bs : List (List SP)} (hv : ∀ t, Rd (h ++ t) 1 v (bs.map bkV)) (hb : ∀ b ∈ bs, ∀ e ∈ b, e.Bk) (hn : bs.length ≤ 1000) (hl : bs.flatten.length ≤ 100000) :
    run XP ztz_ [v] h = some (nl (dst bs.flatten), h) := by
  have hL0 := (hv []).toL
  rw [List.append_nil] at hL0
  rw [run_eq, zbzt_]
  simp -implicitDefEqProofs [zmo_, hL0]
  refine zak_ bs (fun k s h' => ∃ t, Sees s [(6, v), (7, vi bs.length), (8, vi k)] ∧ h' = h ++ t ∧ OutV (s 3) h' h.length 14 ((bs.take k).flatten.map SP.v)) ?_ ?_ _ _ ?_
  rotate_left
  · rintro B hB s h' ⟨t, ⟨g6, g7, g8, -⟩, rfl, ho⟩
    rw [List.take_length] at ho
    have hm : ∀ e ∈ bs.flatten, e.Sm := fun e he => by
      obtain ⟨b, hbm, hbe⟩ := List.mem_flatten.1 he
      exact (hb b hbm e hbe).sm
    obtain ⟨h2, sa, htk⟩ := ho.SA
    have ha0 := sa.a0
    have hS := sa.set hm hl []
    rw [List.append_nil, List.append_nil] at hS
    have hr0 := zds_ (dst bs.flatten)
    have hrr := nl_ret h.length h2 (dst bs.flatten)
    rw [List.take_left] at htk
    simp -implicitDefEqProofs [hB, zuz_, g7, g8, ha0, hS, hr0, hrr, htk]
  · exact ⟨[], by simp, by simp, .inl ⟨by simp, by simp⟩⟩
  · rintro B f' hB hf k e s h' he hk ⟨t, ⟨g6, g7, g8, -⟩, rfl, ho⟩ K
    have hlt : (k : Int) < bs.length := by omega
    obtain ⟨q, hq, hld⟩ := (hv t).atB he
    have hel : e.length ≤ 100000 := by
      have h1 := zii_ (xs := bs) (k + 1)
      rw [zga_ he, List.length_append] at h1
      omega
    have hS := fun h => zcqr_ h (hb e (List.mem_of_getElem? he)) hel
    have hr0 := zds_ e
    have hw : IntKind.i64.wrap ((k : Int) + 1) = (k : Int) + 1 := zae_ (by omega) (by omega)
    have hle := zii_ (xs := bs) (k + 1)
    rw [zga_ he, List.length_append] at hle
    obtain ⟨x', h'', hap, ho', htk, hbl⟩ := ho.grows (lim := 837723144972) (y := nl e) ((nl_LV e).rd _).appEls (by simp) (zeo_ e) (zaq_ e) (by simp only [List.length_map]; omega)
    have htk' : ∃ t', h'' = h ++ t' := ⟨h''.drop h.length, by
      have := List.take_append_drop h.length h''
      rw [htk, List.take_left] at this
      exact this.symm⟩
    obtain ⟨t', rfl⟩ := htk'
    simp only [bkV] at hld hS
    simp -implicitDefEqProofs [hB, zuz_, g6, g7, g8, hlt, hq, hld, hS, hr0, hap]
    refine K _ _ ⟨t', ?_, rfl, ?_⟩
    · simp [g6, g7, hw]
    · rw [zga_ he, List.map_append]
      simpa using ho'
end Go.Proofs.Sl
namespace Go.Proofs.Sl
theorem zbdq_ {L : List SP} (hL : ∀ a ∈ L, ∀ b ∈ L, cmpS a b = 0 → a = b) : ∀ {x y : List SP}, sameL x y = true → (∀ a ∈ x, a ∈ L) → (∀ a ∈ y, a ∈ L) → x = y
  | [], [], _, _, _ => rfl
  | a :: x, b :: y, h, hx, hy => by
    rw [sameL, Bool.and_eq_true, beq_iff_eq] at h
    rw [hL a (hx a (by simp)) b (hy b (by simp)) h.1, zbdq_ hL h.2 (fun c hc => hx c (by simp [hc])) (fun c hc => hy c (by simp [hc]))]
  | [], b :: y, h, _, _ => by simp [sameL] at h
  | a :: x, [], h, _, _ => by simp [sameL] at h
theorem zcqw_ {l : List SP} (h : Str l) : ∀ a ∈ l, ∀ b ∈ l, cmpS a b = 0 → a = b := by
  intro a ha b hb hc
  obtain ⟨i, hi, rfl⟩ := List.getElem_of_mem ha
  obtain ⟨j, hj, rfl⟩ := List.getElem_of_mem hb
  rcases Nat.lt_trichotomy i j with hij | hij | hij
  · have := List.pairwise_iff_getElem.1 h i j hi hj hij
    omega
  · subst hij; rfl
  · have := List.pairwise_iff_getElem.1 h j i hj hi hij
    have h2 := csym hc
    omega
theorem zik_ {l : List SP} (h : Str l) : dst l = l := zbdq_ (zcqw_ h) (zij_ (zeq_ l) h (zdt_ l)) (fun _ => zca_) (fun _ h => h)
def PB (c : V) (bs : List (List SP)) : Prop := (c = vnil ∧ bs = []) ∨ c = .own 1 (bs.map bkV)
def PO (h : H) (l : Nat) (n : Int) (s : Bool) (bs : List (List SP)) : Prop := ∃ c, h[l]? = some (.box false [vi n, vb s, c]) ∧ PB c bs
theorem PO.app {h : H} {l : Nat} {n : Int} {s : Bool} {bs : List (List SP)} (p : PO h l n s bs) (t : H) : PO (h ++ t) l n s bs := by
  obtain ⟨c, h1, h2⟩ := p
  exact ⟨c, by rw [List.getElem?_append_left (List.getElem?_eq_some_iff.1 h1).1]; exact h1, h2⟩
def recs (bs : List (List SP)) : List SP := dst bs.flatten
theorem zne_ (bs : List (List SP)) : Str (recs bs) := zeq_ _
structure Bks (bs : List (List SP)) : Prop where
  bk : ∀ b ∈ bs, ∀ e ∈ b, e.Bk
  n : bs.length ≤ 1000
  l : bs.flatten.length ≤ 100000
theorem Bks.mem {bs : List (List SP)} (h : Bks bs) {e : SP} (he : e ∈ bs.flatten) : e.Bk := by
  obtain ⟨b, hb, hbe⟩ := List.mem_flatten.1 he
  exact h.bk b hb e hbe
theorem zdu_ {h : H} {l : Nat} {n : Int} {s : Bool} {bs : List (List SP)} (p : PO h l n s bs) (hb : Bks bs) : run XP zbz_ [.ptr l 0] h = some (nl (recs bs), h) := by
  obtain ⟨c, h1, h2⟩ := p
  have hr0 := zbt_ (recs bs)
  have hrr := nl_ret h.length h (recs bs)
  rw [run_eq, zbzi_]
  rcases h2 with ⟨rfl, rfl⟩ | rfl
  · have hR := fun h => zbdp_ (h := h) (v := vnil) (bs := []) (fun t => .nil) hb.bk hb.n hb.l
    simp only [recs] at hr0 hrr ⊢
    simp -implicitDefEqProofs [zic_, h1, hR, zbt_, nl_ret]
  · have hR := fun h => zbdp_ (h := h) (v := .lst 1 (bs.map bkV)) (bs := bs) (fun t => .lst _) hb.bk hb.n hb.l
    simp only [recs] at hr0 hrr ⊢
    simp -implicitDefEqProofs [zic_, h1, hR, zbt_, nl_ret]
def fgn (n : Int) (a : SP) : Bool := (a.tr.fdiv 1048576).fdiv 16 != n
theorem zcqx_ (h : H) (n : Int) : run XP zon_ [vi n] h = some (vi ((n.fdiv 1048576).fdiv 16), h) := by
  have := zcqe_ h n
  rw [this]
theorem zcqy_ {h : H} {l : Nat} {n : Int} {s : Bool} {bs : List (List SP)} (p : PO h l n s bs) (a : SP) : run XP zgz_ [.ptr l 0, a.v] h = some (vb (fgn n a), h) := by
  obtain ⟨c, h1, h2⟩ := p
  have hP := fun h => zcqx_ h a.tr
  have h3 : ∀ t, (h ++ t)[l]? = some (.box false [vi n, vb s, c]) := fun t => by rw [List.getElem?_append_left (List.getElem?_eq_some_iff.1 h1).1]; exact h1
  rw [run_eq, zbzo_]
  simp -implicitDefEqProofs [zmj_, SP.v, hP, h3, fgn, zav_, optEq]
theorem zcqz_ {h : H} {q : Nat} {z : Bool} {D : List SP} (hq : h[q]? = some (.box z [nl D])) (hD : ∀ d ∈ D, d.Sm) (hs : Str D) {e : SP} (he : e.Sm) (hl : D.length ≤ 100000) : run XP zdo_ [e.v, .ptr q 0] h = some (vb (inS D e), h) := by
  have h3 : ∀ t, (h ++ t)[q]? = some (.box z [nl D]) := fun t => by rw [List.getElem?_append_left (List.getElem?_eq_some_iff.1 hq).1]; exact hq
  have hB := fun h => zcqu_ h (v := nl D) (e := e) (fun t => (nl_LV D).rd _) hD he hl
  rw [zcqt_ hs] at hB
  have n1 := zcw_ D
  rw [run_eq, zbzp_]
  simp only [SP.v] at hB
  simp -implicitDefEqProofs [zmk_, SP.v, h3, hB, n1]
theorem zwc_ {β : Type} {f : Ex × St → Option β} {w : Option β} {base : Nat} {h : H} {v x : V} {es : List SP} (hv : ∀ t, Rd (h ++ t) 14 v (es.map SP.v)) (hs : ∀ e ∈ es, e.Sz) (hl : es.length ≤ 100000)
    (hret : ∀ s t, Sees s [(4, vi 0), (5, vi (chkF es))] → chkF es ≠ 0 → f (.ret, ⟨s, h ++ t⟩) = w)
    (hend : ∀ s t, Sees s [(0, x), (1, v)] → chkF es = 0 → f (.exit 1, ⟨s, h ++ t⟩) = w)
    (s0 : Sl) (g : Sees s0 [(0, x), (1, v), (21, v), (22, vi es.length), (23, vi 0)]) : ob (loopW (xcode (run XP) loopW base zmf_) ⟨s0, h⟩) f = w := by
  refine zak_ es (fun k s h' => ∃ t, h' = h ++ t ∧ Sees s [(0, x), (1, v), (21, v), (22, vi es.length), (23, vi k)] ∧ chkF es = chkF (es.drop k)) ?_ ?_ _ _ ⟨[], by simp, by simpa using g, rfl⟩
  · rintro B f' hB hf k e s h' he hk ⟨t, rfl, ⟨h0, h1, h12, h13, h14, -⟩, hx⟩ K
    have hlt : (k : Int) < es.length := by omega
    have hm := List.mem_of_getElem? he
    obtain ⟨q, hq, hld⟩ := (hv t).at (i := k) (e := e.v) (by simp [he])
    have hck := fun h => zbdf_ h (hs e hm)
    have w0 : IntKind.i64.wrap ((k : Int) + 1) = (k : Int) + 1 := zae_ (by omega) (by omega)
    rw [zau_ he, chkF] at hx
    simp only [SP.v, V.cells] at hld hck
    by_cases hc : chkSp e = 0
    · rw [if_neg (by simpa using hc)] at hx
      rw [hc] at hck
      simp -implicitDefEqProofs [hB, zmf_, h0, h1, h12, h13, h14, hlt, hq, hld, hck]
      refine K _ _ ⟨_, rfl, ?_, hx⟩
      simp [h0, h1, h12, h13, w0]
    · rw [if_pos hc] at hx
      have hr := fun s t g => hret s t g (by rw [hx]; exact hc)
      rw [hx] at hr
      generalize chkSp e = z at *
      have hnz : (z != 0) = true := by simpa using hc
      simp -implicitDefEqProofs [hB, hf, hnz, zmf_, h0, h1, h12, h13, h14, hlt, hq, hld, hck, hc]
      refine hr _ _ ?_
      simp
  · rintro B hB s h' ⟨t, rfl, ⟨h0, h1, h12, h13, h14, -⟩, hx⟩
    rw [List.drop_of_length_le (Nat.le_refl _)] at hx
    simp -implicitDefEqProofs [hB, zmf_, h13, h14]
    exact hend _ t (by simp [h0, h1]) hx
def more (bs : List (List SP)) (es : List SP) : List SP := (dst es).filter fun e => !inS (recs bs) e
def insR (n : Int) (s : Bool) (bs : List (List SP)) (es : List SP) : Int × Int × List (List SP) :=
  if s = true then (0, 31, bs) else if chkF es ≠ 0 then (0, chkF es, bs) else if es.any (fgn n) = true then (0, 17, bs) else
  if blE (more bs es) ≠ 0 then (0, blE (more bs es), bs) else if more bs es = [] then (0, 0, bs) else if 64 ≤ bs.length then (0, 6, bs) else ((more bs es).length, 0, bs ++ [more bs es])
theorem zbdr_ (bs : List (List SP)) (es : List SP) : Str (more bs es) := List.Pairwise.sublist List.filter_sublist (zeq_ es)
theorem zil_ {bs : List (List SP)} {es : List SP} {a : SP} (h : a ∈ more bs es) : a ∈ es := zca_ (List.mem_filter.1 h).1
theorem zwd_ (bs : List (List SP)) (es : List SP) : (more bs es).length ≤ es.length := Nat.le_trans (List.length_filter_le _ _) (zep_ es)
end Go.Proofs.Sl
namespace Go.Proofs.Sl
theorem PO.get {h : H} {l : Nat} {c : V} {n : Int} {s : Bool} (h1 : h[l]? = some (.box false [vi n, vb s, c])) (t : H) : (h ++ t)[l]? = some (.box false [vi n, vb s, c]) := by
  rw [List.getElem?_append_left (List.getElem?_eq_some_iff.1 h1).1]
  exact h1
theorem ow_nil : ow [] = vnil := rfl
theorem zql_ {bs : List (List SP)} (hb : Bks bs) : (recs bs).length ≤ 100000 := Nat.le_trans (zep_ _) hb.l
theorem zcra_ {h : H} {q : Nat} {bs : List (List SP)} {es : List SP} (hq : h[q]? = some (.box false [nl (recs bs)])) (hb : Bks bs) (hes : ∀ e ∈ es, e.Bk) (hl : es.length ≤ 100000) :
    ∃ y X x t1 t2 t3, resM h (ow (dst es)) = some (y, h ++ t1) ∧ arg0 y = some y ∧ run XP zjp_ [y, .fn zdo_ [] [.ptr q 0]] (h ++ t1) = some (X, h ++ t2) ∧ res0 X = x ∧ SA (h ++ t2) (h ++ t3) x (more bs es) := by
  have hql := (List.getElem?_eq_some_iff.1 hq).1
  have hrl := zql_ hb
  have hin : ∀ e ∈ es, ∀ t, run XP zdo_ [e.v, .ptr q 0] (h ++ t) = some (vb (inS (recs bs) e), h ++ t) := fun e he t =>
    zcqz_ (by rw [List.getElem?_append_left hql]; exact hq) (fun d hd => (hb.mem (zca_ hd)).sm) (zne_ bs) (hes e he).sm hrl
  by_cases he : dst es = []
  · have hI : run XP zjp_ [vnil, .fn zdo_ [] [.ptr q 0]] (h ++ []) = some (vnil, h ++ []) := by
      have h1 : run XP zjr_ [vnil, .fn zdo_ [] [.ptr q 0]] (h ++ []) = some (vi (-1), h ++ []) := zwb_ (h := h ++ []) (v := vnil) (es := []) (f := zdo_) (a := []) (b := [.ptr q 0]) (p := fun _ => false) .nil (fun e he => by simp at he) (fun e he => by simp at he) (Nat.zero_le _)
      rw [List.append_nil] at h1 ⊢
      rw [run_eq, zvf_]
      simp -implicitDefEqProofs [zfu_, h1]
    have hm : more bs es = [] := by rw [more, he]; rfl
    refine ⟨vnil, vnil, vnil, [], [], [], ?_, rfl, hI, rfl, ?_⟩
    · rw [he, ow_nil, resM_s, List.append_nil]
    · rw [hm]
      exact .lst (.inl ⟨rfl, rfl⟩) _
  · have hr : resM h (ow (dst es)) = some (.ref h.length (dst es).length, h ++ [.arr false 14 ((dst es).map SP.v)]) := by
      rw [ow, if_neg he, zbao_, List.length_map]
    have hget : (h ++ [O.arr false 14 ((dst es).map SP.v)])[h.length]? = some (.arr false 14 ((dst es).map SP.v)) := by simp
    have hset : ∀ o : O, (h ++ [O.arr false 14 ((dst es).map SP.v)]).set h.length o = h ++ [o] := fun o => by simp
    obtain ⟨r, hr1, hr2⟩ := zcqc_ (f := zdo_) (a := []) (b := [.ptr q 0]) (p := fun e => inS (recs bs) e) hget rfl (fun _ _ => rfl) (fun e hm o t => by
      rw [hset, List.append_assoc]
      exact hin e (zca_ hm) _) (by have := zep_ es; omega)
    rcases hr2 with ⟨rfl, hf⟩ | ⟨o, rfl⟩
    · have hm : more bs es = dst es := hf
      have sa := SA.ref hget
      rw [hset] at sa
      refine ⟨_, _, _, _, _, [.arr true 14 ((dst es).map SP.v)], hr, rfl, hr1, rfl, ?_⟩
      rw [hm]
      exact sa
    · rw [hset] at hr1
      exact ⟨_, _, _, _, _, _, hr, rfl, hr1, rfl, .lst (.inr rfl) _⟩
set_option maxHeartbeats 2000000 in
theorem zqm_ {h : H} {l : Nat} {n : Int} {s : Bool} {bs : List (List SP)} (p : PO h l n s bs) (hb : Bks bs) {v : V} {es : List SP} (lv : LV v es) (hes : ∀ e ∈ es, e.Bk) (hsz : ∀ e ∈ es, e.Sz) (hl : es.length ≤ 100000) :
    ∃ h', run XP zdn_ [.ptr l 0, v] h = some (.tup [vi (insR n s bs es).1, vi (insR n s bs es).2.1], h') ∧ PO h' l n s (insR n s bs es).2.2 ∧ (h' = h ∨ ∃ o, h' = h.set l o) := by
  obtain ⟨c, hbx, hc⟩ := p
  have hlt := (List.getElem?_eq_some_iff.1 hbx).1
  have hget := PO.get hbx
  have hsa := SA.lst lv
  have hL := fun h => (lv.rd h).toL
  have ha0 := (hsa h).a0
  have hfor : ∀ h' a, h'[l]? = some (.box false [vi n, vb s, c]) → run XP zgz_ [.ptr l 0, a] h' = run XP zgz_ [.ptr l 0, a] h' := fun _ _ _ => rfl
  unfold insR
  cases s with
  | true =>
    refine ⟨h, ?_, ⟨c, hbx, hc⟩, .inl rfl⟩
    rw [run_eq, zqc_]
    simp -implicitDefEqProofs [zen_, hbx, hL]
  | false =>
    rw [if_neg (by simp)]
    by_cases hz : chkF es = 0
    · rw [if_neg (by simpa using hz)]
      have hC := fun t => zcpm_ (h := h ++ t) (v := v) (es := es) (f := zgz_) (a := [.ptr l 0]) (b := []) (p := fgn n) (lv.rd _) rfl (fun _ _ => rfl) (fun e _ => zcqy_ (n := n) (s := false) (bs := bs) ⟨c, hget t, hc⟩ e) hl
      cases hf : es.any (fgn n) with
      | true =>
        rw [hf] at hC
        refine ⟨h, ?_, ⟨c, hbx, hc⟩, .inl rfl⟩
        rw [run_eq, zqc_]
        simp -implicitDefEqProofs [zen_, hbx, hL]
        refine zwc_ (x := .ptr l 0) (v := v) (es := es) (fun t => lv.rd _) hsz hl ?_ ?_ _ ?_
        · rintro s t _ h0
          exact absurd hz h0
        · rintro s t ⟨g0, g1, -⟩ _
          simp -implicitDefEqProofs [g0, g1, ha0, hC]
        · simp
      | false =>
        rw [hf] at hC
        rw [if_neg (by simp)]
        have hmb : ∀ e ∈ more bs es, e.Bk := fun e he => hes e (zil_ he)
        have hmz : ∀ e ∈ more bs es, e.Sz := fun e he => hsz e (zil_ he)
        have hml : (more bs es).length ≤ 100000 := Nat.le_trans (zwd_ bs es) hl
        have hmd := zik_ (zbdr_ bs es)
        suffices key : run XP zdn_ [.ptr l 0, v] h = some (.tup [vi (if blE (more bs es) ≠ 0 then 0 else if more bs es = [] then 0 else if 64 ≤ bs.length then 0 else (more bs es).length), vi (if blE (more bs es) ≠ 0 then blE (more bs es) else if more bs es = [] then 0 else if 64 ≤ bs.length then 6 else 0)],
            if blE (more bs es) ≠ 0 then h else if more bs es = [] then h else if 64 ≤ bs.length then h else h.set l (.box false [vi n, vb false, .own 1 ((bs ++ [more bs es]).map bkV)])) by
          by_cases c1 : blE (more bs es) ≠ 0
          · simp only [if_pos c1] at key ⊢
            exact ⟨h, key, ⟨c, hbx, hc⟩, .inl rfl⟩
          · simp only [if_neg c1] at key ⊢
            by_cases c2 : more bs es = []
            · simp only [if_pos c2] at key ⊢
              exact ⟨h, key, ⟨c, hbx, hc⟩, .inl rfl⟩
            · simp only [if_neg c2] at key ⊢
              by_cases c3 : 64 ≤ bs.length
              · simp only [if_pos c3] at key ⊢
                exact ⟨h, key, ⟨c, hbx, hc⟩, .inl rfl⟩
              · simp only [if_neg c3] at key ⊢
                exact ⟨_, key, ⟨_, List.getElem?_set_self hlt, .inr rfl⟩, .inr ⟨_, rfl⟩⟩
        have hRec := fun t => zdu_ (h := h ++ t) ⟨c, hget t, hc⟩ hb
        rw [run_eq, zqc_]
        simp -implicitDefEqProofs [zen_, hbx, hL]
        refine zwc_ (x := .ptr l 0) (v := v) (es := es) (fun t => lv.rd _) hsz hl ?_ ?_ _ ?_
        · rintro s t _ h0
          exact absurd hz h0
        · rintro s t ⟨g0, g1, -⟩ _
          obtain ⟨y, X, x, t1, t2, t3, e1, e2, e3, e4, sa⟩ := zcra_ (h := h ++ (t ++ [.box false [nl (recs bs)]])) (q := h.length + t.length) (bs := bs) (es := es) (by simp) hb hes hl
          have hS := (SA.lst lv (h ++ (t ++ [.box false [nl (recs bs)]]))).set (fun e he => (hes e he).sm) hl []
          have hBl := zcqb_ sa hmb hmz hml
          obtain ⟨t4, ht4, hrd⟩ : ∃ t4, (if blE0 (more bs es) ≠ 0 then h ++ (t ++ [.box false [nl (recs bs)]]) ++ t2 else h ++ (t ++ [.box false [nl (recs bs)]]) ++ t3) = h ++ t4 ∧ ∀ t, Rd (h ++ (t4 ++ t)) 14 x ((more bs es).map SP.v) := by
            split
            · exact ⟨_, by rw [List.append_assoc], fun t => by have := sa.rd t; simpa only [List.append_assoc] using this⟩
            · exact ⟨_, by rw [List.append_assoc], fun t => by have := sa.rd2 t; simpa only [List.append_assoc] using this⟩
          rw [ht4] at hBl
          have ha1 := sa.a0
          have hxL := fun t => (hrd t).toL
          have hxL0 := hxL []
          rw [List.append_nil] at hxL0
          rw [List.append_nil] at hS
          simp only [List.append_assoc, List.cons_append, List.nil_append] at e1 e3 hBl hS
          have n1 := zcw_ (recs bs)
          rw [blV, hmd] at hBl
          generalize recs bs = D at *
          generalize blE (more bs es) = z at *
          generalize more bs es = m at *
          have hsl : ∀ (o : O) (r : H), (h ++ r).set l o = h.set l o ++ r := fun o r => List.set_append_left _ _ hlt
          have hgs : ∀ (o : O) (r : H), (h.set l o ++ r)[l]? = some o := fun o r => by rw [List.getElem?_append_left (by simpa using hlt), List.getElem?_set_self hlt]
          have hss : ∀ (o o2 : O) (r : H), (h.set l o ++ r).set l o2 = h.set l o2 ++ r := fun o o2 r => by rw [List.set_append_left _ _ (by simpa using hlt), List.set_set]
          have hxs : ∀ (o : O) (r : H), V.toL (h.set l o ++ (t4 ++ r)) x = some (m.map SP.v) := fun o r => by
            have := (hrd r).setBox (c := o) (hget (t4 ++ r))
            rw [hsl] at this
            exact this.toL
          by_cases cz : z = 0
          · subst cz
            rw [if_pos rfl] at hBl
            simp only [bkV] at hBl
            by_cases c2 : m = []
            · have hm0 : m.length = 0 := by rw [c2]; rfl
              simp -implicitDefEqProofs [g0, g1, ha0, hC, hRec, zbt_, n1, hS, e1, e2, e3, e4, hBl, ha1, hxL0, hm0, c2]
            · have hm0 : ((m.length : Int) == 0) = false := by
                have : m.length ≠ 0 := by simpa using c2
                simp only [beq_eq_false_iff_ne, ne_eq]
                omega
              rcases hc with ⟨rfl, rfl⟩ | rfl
              · simp -implicitDefEqProofs [g0, g1, ha0, hC, hRec, zbt_, n1, hS, e1, e2, e3, e4, hBl, ha1, hxL, hxL0, hm0, c2, hget, hsl, hgs, hss, hxs, bkV, V.closed]
              · by_cases c3 : 64 ≤ bs.length
                · have c3' : (64 : Int) ≤ bs.length := by omega
                  simp -implicitDefEqProofs [g0, g1, ha0, hC, hRec, zbt_, n1, hS, e1, e2, e3, e4, hBl, ha1, hxL, hxL0, hm0, c2, hget, c3, c3']
                · have c3' : ¬ (64 : Int) ≤ bs.length := by omega
                  have c4 : bs.length + 1 ≤ 17592186044416 := by omega
                  simp -implicitDefEqProofs [g0, g1, ha0, hC, hRec, zbt_, n1, hS, e1, e2, e3, e4, hBl, ha1, hxL, hxL0, hm0, c2, hget, hsl, hgs, hss, hxs, c3, c3', c4, bkV, V.closed]
          · rw [if_neg cz] at hBl
            have hnz : (z != 0) = true := by simpa using cz
            simp -implicitDefEqProofs [g0, g1, ha0, hC, hRec, zbt_, n1, hS, e1, e2, e3, e4, hBl, ha1, hnz, cz]
        · simp
    · rw [if_pos hz]
      refine ⟨h, ?_, ⟨c, hbx, hc⟩, .inl rfl⟩
      rw [run_eq, zqc_]
      simp -implicitDefEqProofs [zen_, hbx, hL]
      refine zwc_ (x := .ptr l 0) (v := v) (es := es) (fun t => lv.rd _) hsz hl ?_ ?_ _ ?_
      · rintro s t ⟨g4, g5, -⟩ _
        simp -implicitDefEqProofs [g4, g5]
      · rintro s t _ h0
        exact absurd h0 hz
      · simp
end Go.Proofs.Sl
namespace Go.Proofs.Sl
theorem zcrb_ (n : Int) : xun .xor (vk .u32 n) = some (vk .u32 (xorI .u32 4294967295 n)) := by
  simp only [xun, intOp, xorI]
  rfl
theorem zcrc_ (n : Int) : intOp .xor .u32 (if IntKind.u32.signed = true then -1 else IntKind.u32.max) n = some (.int .u32 (xorI .u32 4294967295 n)) := by
  simp only [intOp, xorI]
  rfl
def zbF (r : Int) : Int := if (andI .u32 r 1 == 1) = true then xorI .u32 (r.fdiv (2 ^ min 1 IntKind.u32.bits)) 2197175160 else r.fdiv (2 ^ min 1 IntKind.u32.bits)
theorem zcrd_ (h : H) (r : Int) : run XP zuk_ [vk .u32 r] h = some (vk .u32 (zbF r), h) := by
  rw [run_eq, zcam_, zbF]
  cases hc : (andI .u32 r 1 == 1) with
  | true => simp -implicitDefEqProofs [zig_, hc]
  | false => simp -implicitDefEqProofs [zig_, hc]
def itF : Nat → Int → Int
  | 0, r => r
  | n + 1, r => itF n (zbF r)
theorem Ext_l0 {β : Type} {f : Ex × St → Option β} {w : Option β} {base : Nat} {h : H} {r : Int} {t : V} {n k : V} {z y : V}
    (hend : ∀ s, Sees s [(1, t), (5, vk .u32 (itF 8 r)), (10, n), (11, k)] → f (.exit 2, ⟨s, h⟩) = w)
    (s0 : Sl) (g : Sees s0 [(1, t), (5, vk .u32 r), (10, n), (11, k), (20, vi 0)]) : ob (loopW (xcode (run XP) loopW base zqb_) ⟨s0, h⟩) f = w := by
  refine zjd_ 8 (fun i s h' => h' = h ∧ ∃ q, Sees s [(1, t), (5, vk .u32 q), (10, n), (11, k), (20, vi i)] ∧ itF 8 r = itF (8 - i) q) ?_ ?_ _ _ ⟨rfl, r, by simpa using g, rfl⟩
  · rintro B f' hB hf i s h' hi ⟨rfl, q, ⟨g1, g5, g10, g11, g20, -⟩, hx⟩ K
    have hlt : (i : Int) < 8 := by omega
    have hz := fun h => zcrd_ h q
    have hw : IntKind.i64.wrap ((i : Int) + 1) = (i : Int) + 1 := zae_ (by omega) (by omega)
    rw [show 8 - i = (8 - (i + 1)) + 1 by omega, itF] at hx
    simp -implicitDefEqProofs [hB, zqb_, g1, g5, g10, g11, g20, hlt, hz]
    refine K _ _ ⟨rfl, zbF q, ?_, hx⟩
    simp [g1, g10, g11, hw]
  · rintro B hB s h' ⟨rfl, q, ⟨g1, g5, g10, g11, g20, -⟩, hx⟩
    have hx : itF 8 r = q := hx
    rw [← hx] at g5
    simp -implicitDefEqProofs [hB, zqb_, g20]
    exact hend _ (by simp [g1, g5, g10, g11])
def exF : Int → List UInt8 → Int
  | r, [] => r
  | r, b :: l => exF (itF 8 (xorI .u32 r b.toNat)) l
def extF (r : Int) (l : List UInt8) : Int := xorI .u32 4294967295 (exF (xorI .u32 4294967295 r) l)
theorem zcre_ (n : Int) : IntKind.u32.wrap n = n % 4294967296 := rfl
theorem wrapb (c : UInt8) : IntKind.u32.wrap (c.toNat : Int) = (c.toNat : Int) := by
  have := c.toNat_lt
  rw [zcre_]
  omega
theorem zbds_ (h : H) (sum : Int) (s : ByteArray) (hs : s.size ≤ 9223372036854775807) : run XP zpg_ [vk .u32 sum, vs s] h = some (vk .u32 (extF sum (bts s)), h) := by
  have hx0 := zcrb_
  have hx1 := zcrc_
  have hlen := zih_ s
  rw [run_eq, zcaj_]
  simp -implicitDefEqProofs [zmr_, ↓hx0, ↓hx1]
  refine zak_ (bts s) (fun k s' h' => h' = h ∧ ∃ r, Sees s' [(1, vs s), (5, vk .u32 r), (10, vi s.size), (11, vi k)] ∧ exF (xorI .u32 4294967295 sum) (bts s) = exF r ((bts s).drop k)) ?_ ?_ _ _ ⟨rfl, _, by simp, rfl⟩
  · rintro B f' hB hf k c s' h' he hk ⟨rfl, r, ⟨g1, g5, g10, g11, -⟩, hx⟩ K
    have hlt : (k : Int) < s.size := by omega
    have hd := zbdb_ he
    have hw : IntKind.i64.wrap ((k : Int) + 1) = (k : Int) + 1 := zae_ (by omega) (by omega)
    have hwc := wrapb c
    rw [zau_ he, exF] at hx
    simp -implicitDefEqProofs [hB, zvc_, g1, g5, g10, g11, hlt, hd, hwc]
    refine Ext_l0 (t := vs s) (n := vi s.size) (k := vi k) (r := xorI .u32 r c.toNat) (z := .u) (y := .u) ?_ _ ?_
    · rintro s2 ⟨e1, e5, e10, e11, -⟩
      simp -implicitDefEqProofs [e11]
      refine K _ _ ⟨rfl, _, ?_, hx⟩
      simp [e1, e5, e10, hw]
    · simp [g1, g10, g11]
  · rintro B hB s' h' ⟨rfl, r, ⟨g1, g5, g10, g11, -⟩, hx⟩
    rw [List.drop_of_length_le (Nat.le_refl _)] at hx
    have hx : exF (xorI .u32 4294967295 sum) (bts s) = r := hx
    rw [hlen] at g11
    simp -implicitDefEqProofs [hB, zvc_, g5, g10, g11, ↓hx0, ↓hx1, extF, hx]
theorem zcrf_ (h : H) (s : ByteArray) (hs : s.size ≤ 9223372036854775807) : run XP zui_ [vs s] h = some (vk .u32 (extF 0 (bts s)), h) := by
  have h1 := fun h => zbds_ h 0 s hs
  rw [run_eq, zcak_]
  simp -implicitDefEqProofs [zms_, h1]
def b8 (x : Int) : Int := IntKind.u8.wrap x
def hdP (p : Int) (i : Nat) : Int := b8 (p.fdiv (2 ^ min (8 * i) IntKind.u32.bits))
def hdN (n : Nat) (i : Nat) : Int := b8 ((n : Int).fdiv (2 ^ min (8 * i) IntKind.u64.bits))
def hdL (p : Int) (n k : Nat) : List Int := (List.range (min k 4)).map (hdP p) ++ (List.range (k - 4)).map (hdN n)
def hdB (p : Int) (n : Nat) : List UInt8 := (hdL p n 12).map fun x => UInt8.ofNat x.toNat
def lnkF (p : Int) (r : List UInt8) : Int := extF (extF 0 (hdB p r.length)) r
theorem zbdt_ : ∀ l : List Int, zcc_ (l.map (vk .u8)) = some (l.map fun x => UInt8.ofNat x.toNat)
  | [] => rfl
  | x :: l => by
    rw [List.map_cons, zcc_, zbdt_ l]
    rfl
theorem zwe_ : ∀ l : List Int, V.closed.closeds (l.map (vk .u8)) = true
  | [] => rfl
  | x :: l => by rw [List.map_cons, V.closed.closeds, zwe_ l]; rfl
theorem zwf_ (p : Int) (n k : Nat) : (hdL p n k).length = k := by simp [hdL]; omega
theorem hdL_lo {p : Int} {n k : Nat} (h : k < 4) : hdL p n (k + 1) = hdL p n k ++ [hdP p k] := by
  simp only [hdL]
  rw [show min (k + 1) 4 = min k 4 + 1 by omega, show k + 1 - 4 = 0 by omega, show k - 4 = 0 by omega, List.range_succ]
  simp [show min k 4 = k by omega]
theorem hdL_hi {p : Int} {n k : Nat} : hdL p n (4 + k + 1) = hdL p n (4 + k) ++ [hdN n k] := by
  simp only [hdL]
  rw [show min (4 + k + 1) 4 = 4 by omega, show min (4 + k) 4 = 4 by omega, show 4 + k + 1 - 4 = k + 1 by omega, show 4 + k - 4 = k by omega, List.range_succ (n := k), List.map_append, List.append_assoc]
  rfl
theorem zcrg_ (h : H) (p : Int) (s : ByteArray) (hs : s.size ≤ 9223372036854775807) : run XP zue_ [vk .u32 p, vs s] h = some (vk .u32 (lnkF p (bts s)), h) := by
  have hlen := zih_ s
  have hws : IntKind.u64.wrap (s.size : Int) = (s.size : Int) := by rw [zqe_]; omega
  rw [run_eq, zcac_]
  simp -implicitDefEqProofs [zmq_]
  refine zjd_ 4 (fun i s' h' => h' = h ++ [.arr false 1 ((hdL p s.size i).map (vk .u8))] ∧ Sees s' [(0, vk .u32 p), (1, vs s), (5, .ref h.length i), (10, vi i)]) ?_ ?_ _ _ ⟨by simp [hdL], by simp⟩
  · rintro B f' hB hf i s' h' hi ⟨rfl, g0, g1, g5, g10, -⟩ K
    have hlt : (i : Int) < 4 := by omega
    have hw : IntKind.i64.wrap ((i : Int) + 1) = (i : Int) + 1 := zae_ (by omega) (by omega)
    have hw8 : IntKind.i64.wrap (8 * (i : Int)) = ((8 * i : Nat) : Int) := by rw [zae_ (by omega) (by omega)]; omega
    have hl := zwf_ p s.size i
    have hc := zwe_ (hdL p s.size i)
    have h12 : i + 1 ≤ 140737488355328 := by omega
    simp -implicitDefEqProofs [hB, zva_, g0, g1, g5, g10, hlt, hw8, hl, h12]
    refine K _ _ ⟨?_, ?_⟩
    · rw [hdL_lo hi]
      simp [hdP, b8, show ((8 : Int) * (i : Int)).toNat = 8 * i by omega]
    · simp [g0, g1, hw]
  · rintro B hB s' h' ⟨rfl, g0, g1, g5, g10, -⟩
    simp -implicitDefEqProofs [hB, zva_, g0, g1, g5, g10, hws]
    refine zjd_ 8 (fun i s' h' => h' = h ++ [.arr false 1 ((hdL p s.size (4 + i)).map (vk .u8))] ∧ Sees s' [(1, vs s), (5, .ref h.length (4 + i)), (7, vk .u64 s.size), (25, vi i)]) ?_ ?_ _ _ ⟨rfl, by simp [g1, g5]⟩
    · rintro B f' hB hf i s' h' hi ⟨rfl, g1, g5, g7, g25, -⟩ K
      have hlt : (i : Int) < 8 := by omega
      have hw : IntKind.i64.wrap ((i : Int) + 1) = (i : Int) + 1 := zae_ (by omega) (by omega)
      have hw8 : IntKind.i64.wrap (8 * (i : Int)) = ((8 * i : Nat) : Int) := by rw [zae_ (by omega) (by omega)]; omega
      have hl := zwf_ p s.size (4 + i)
      have hc := zwe_ (hdL p s.size (4 + i))
      have h12 : 4 + i + 1 ≤ 140737488355328 := by omega
      simp -implicitDefEqProofs [hB, zvb_, g1, g5, g7, g25, hlt, hw8, hl, h12]
      refine K _ _ ⟨?_, ?_⟩
      · rw [show 4 + (i + 1) = 4 + i + 1 by omega, hdL_hi]
        simp [hdN, b8, show ((8 : Int) * (i : Int)).toNat = 8 * i by omega]
      · simp [g1, g7, hw]
        omega
    · rintro B hB s' h' ⟨rfl, g1, g5, g7, g25, -⟩
      have hl := zwf_ p s.size 12
      have hb := zbdt_ (hdL p s.size 12)
      have hsz : (⟨((hdL p s.size 12).map fun x => UInt8.ofNat x.toNat).toArray⟩ : ByteArray).size ≤ 9223372036854775807 := by
        show ((hdL p s.size 12).map fun x => UInt8.ofNat x.toNat).toArray.size ≤ _
        simp [hl]
      have hS := fun h => zcrf_ h _ hsz
      have hbt : bts ⟨((hdL p s.size 12).map fun x => UInt8.ofNat x.toNat).toArray⟩ = hdB p (bts s).length := by simp [bts, hdB, hlen]
      rw [hbt] at hS
      have hE := fun h => zbds_ h (extF 0 (hdB p (bts s).length)) s hs
      simp -implicitDefEqProofs [hB, zvb_, g1, g5, g25, hl, hb, hS, hE, lnkF]
end Go.Proofs.Sl
namespace Go.Proofs.Sl
theorem zbdu_ {a : SP} (h : chkSp a = 0) : (rngd a.tr 1 1099511627776 = true ∧ rngd a.id 1 1099511627776 = true ∧ rngd a.par 0 1099511627776 = true ∧ rngd a.rev 0 1048576 = true ∧ rngd a.clk 1 1048576 = true) ∧ rngd a.kind 1 5 = true ∧
    (isNm a.sv = true ∧ isNm a.op = true ∧ (a.vr = eS ∨ isNm a.vr = true)) ∧ (rngd a.st (-1099511627776) 1099511627776 = true ∧ rngd a.en (-1099511627776) 1099511627776 = true) ∧ chkAL a.ats = 0 ∧ chkLL a.lks = 0 := by
  unfold chkSp at h
  split at h
  · cases h
  rename_i c1
  split at h
  · cases h
  rename_i c2
  split at h
  · cases h
  rename_i c3
  split at h
  · cases h
  rename_i c4
  split at h
  · cases h
  split at h
  · cases h
  simp only [Bool.not_eq_false, Bool.and_eq_true, Bool.or_eq_true, decide_eq_true_eq] at c1 c2 c3 c4
  have ho := zbcf_.1 h
  exact ⟨⟨c1.1, c1.2.1, c1.2.2.1, c1.2.2.2.1, c1.2.2.2.2⟩, c2, ⟨c3.1, c3.2.1, c3.2.2⟩, c4, ho _ (by simp), ho _ (by simp)⟩
theorem zqn_ {s : ByteArray} (h : isNm s = true) : s.size ≤ 64 := by
  simp only [isNm, Bool.and_eq_true, decide_eq_true_eq] at h
  exact h.2.1
theorem zcrh_ {v : AV} (h : chkV v = 0) : v.t.size ≤ 4096 ∧ (v.k = 1 ∨ v.k = 2 ∨ v.k = 3) ∧ -1099511627776 ≤ v.n ∧ v.n ≤ 1099511627776 := by
  unfold chkV at h
  split at h
  · rename_i hk
    unfold fin5 at h
    split at h
    · cases h
    rename_i hsz
    split at h
    · rename_i hok
      refine ⟨by omega, hk, ?_⟩
      unfold okV at hok
      split at hok
      · simp only [Bool.and_eq_true, decide_eq_true_eq] at hok
        omega
      · split at hok
        · simp only [Bool.and_eq_true, decide_eq_true_eq] at hok
          exact hok.2
        · simp only [Bool.and_eq_true, Bool.or_eq_true, decide_eq_true_eq] at hok
          omega
    · cases h
  · cases h
theorem ite8 {c : Prop} [Decidable c] {x : Int} (h : (if c then 8 else x) = 0) : x = 0 := by
  split at h
  · exact absurd h (by decide)
  · exact h
theorem zbdv_ : ∀ {l : List AT} {p : Option AT}, chkAs p l = 0 → ∀ e ∈ l, isNm e.key = true ∧ chkV e.val = 0
  | [], _, _, e, he => by simp at he
  | a :: r, p, h, e, he => by
    rw [zbdd_] at h
    by_cases c1 : isNm a.key = false
    · rw [if_pos c1] at h; exact absurd h (by decide)
    rw [if_neg c1] at h
    have h := ite8 h
    by_cases c3 : chkV a.val = 0
    · rw [if_neg (by simpa using c3)] at h
      rcases List.mem_cons.1 he with rfl | he
      · exact ⟨by simpa using c1, c3⟩
      · exact zbdv_ h e he
    · rw [if_pos c3] at h
      exact absurd h c3
theorem zbdw_ : ∀ {l : List RF} {p : Option RF}, chkLs p l = 0 → ∀ e ∈ l, okR e = true
  | [], _, _, e, he => by simp at he
  | a :: r, p, h, e, he => by
    rw [zvz_] at h
    by_cases c1 : okR a = false
    · rw [if_pos c1] at h; exact absurd h (by decide)
    rw [if_neg c1] at h
    have h := ite8 h
    rcases List.mem_cons.1 he with rfl | he
    · simpa using c1
    · exact zbdw_ h e he
structure SP.Va (a : SP) : Prop where
  sz : a.Sz
  ck : chkSp a = 0
theorem zbdx_ {l : List AT} (h : chkAL l = 0) : l.length ≤ 32 ∧ ∀ e ∈ l, isNm e.key = true ∧ chkV e.val = 0 := by
  unfold chkAL at h
  split at h
  · cases h
  · exact ⟨by omega, zbdv_ h⟩
theorem zbdy_ {l : List RF} (h : chkLL l = 0) : l.length ≤ 16 ∧ ∀ e ∈ l, okR e = true := by
  unfold chkLL at h
  split at h
  · cases h
  · exact ⟨by omega, zbdw_ h⟩
theorem SP.Va.bk {a : SP} (h : a.Va) : a.Bk := by
  obtain ⟨_, _, _, _, h5, h6⟩ := zbdu_ h.ck
  exact ⟨by have := (zbdx_ h5).1; omega, by have := (zbdy_ h6).1; omega, h.sz.an, h.sz.ln⟩
theorem SP.Va.ok {a : SP} (h : a.Va) : a.Ok := by
  obtain ⟨⟨h1, h2, h3, h4, h5⟩, h6, ⟨h7, h8, h9⟩, ⟨h10, h11⟩, h12, h13⟩ := zbdu_ h.ck
  rw [zcv_] at h1 h2 h3 h4 h5 h6 h10 h11
  have k1 := zqn_ h7
  have k2 := zqn_ h8
  have k3 : a.vr.size ≤ 64 := by
    rcases h9 with h9 | h9
    · rw [h9]; decide
    · exact zqn_ h9
  obtain ⟨l1, l2⟩ := zbdx_ h12
  obtain ⟨l3, l4⟩ := zbdy_ h13
  refine ⟨fun n hn => ?_, by omega, by omega, by omega, fun e he => ?_, fun e he => ?_, by omega, by omega, h.sz.an, h.sz.ln⟩
  · simp only [List.mem_cons, List.not_mem_nil, or_false] at hn
    unfold Rng
    rcases hn with rfl | rfl | rfl | rfl | rfl | rfl | rfl | rfl <;> omega
  · obtain ⟨m1, m2⟩ := l2 e he
    have m3 := zqn_ m1
    obtain ⟨m4, m5, m6⟩ := zcrh_ m2
    exact ⟨by omega, ⟨by unfold Rng; omega, by omega, by unfold Rng; omega⟩⟩
  · have m := l4 e he
    simp only [okR, Bool.and_eq_true] at m
    rw [zcv_, zcv_] at m
    exact ⟨by unfold Rng; omega, by unfold Rng; omega⟩
def chF : Int → List (List UInt8) → List Int
  | _, [] => []
  | p, s :: r => lnkF p s :: chF (lnkF p s) r
def digF (fs : List (List UInt8)) : Int := fs.foldl lnkF 0
theorem zqo_ : ∀ (fs : List (List UInt8)) (p : Int), (chF p fs).length = fs.length
  | [], _ => rfl
  | s :: r, p => by rw [chF, List.length_cons, zqo_ r, List.length_cons]
theorem zwg_ : ∀ {fs : List (List UInt8)} {p : Int} {k : Nat} {s : List UInt8}, fs[k]? = some s → chF p (fs.take (k + 1)) = chF p (fs.take k) ++ [lnkF ((fs.take k).foldl lnkF p) s]
  | [], p, k, s, h => by simp at h
  | t :: r, p, 0, s, h => by
    simp only [List.getElem?_cons_zero, Option.some.injEq] at h
    subst h
    simp [chF]
  | t :: r, p, k + 1, s, h => by
    have := zwg_ (p := lnkF p t) (k := k) (s := s) (by simpa using h)
    simp only [List.take_succ_cons, chF, List.foldl_cons, this, List.cons_append]
theorem zwh_ : ∀ l : List Int, V.closed.closeds (l.map (vk .u32)) = true
  | [] => rfl
  | x :: l => by rw [List.map_cons, V.closed.closeds, zwh_ l]; rfl
theorem tx_bts (l : List UInt8) : bts ⟨l.toArray⟩ = l := by simp [bts]
theorem zcri_ (h : H) {v : V} {fs : List (List UInt8)} (hv : ∀ t, Rd (h ++ t) 1 v (fs.map tx)) (hs : ∀ f ∈ fs, f.length ≤ 100000000) (hl : fs.length ≤ 100000) : run XP zty_ [v] h = some (.own 1 ((chF 0 fs).map (vk .u32)), h) := by
  have hL0 := (hv []).toL
  rw [List.append_nil] at hL0
  have hlm : fs.length ≤ 35184372088832 := by omega
  rw [run_eq, zbzs_]
  simp -implicitDefEqProofs [zmn_, hL0, hlm]
  have hL1 := (hv [.arr false 1 []]).toL
  simp -implicitDefEqProofs [hL1]
  refine zak_ fs (fun k s h' => h' = h ++ [.arr false 1 ((chF 0 (fs.take k)).map (vk .u32))] ∧ Sees s [(3, .ref h.length k), (4, vk .u32 ((fs.take k).foldl lnkF 0)), (10, v), (11, vi fs.length), (12, vi k)]) ?_ ?_ _ _ ⟨by simp [chF], by simp⟩
  · rintro B f' hB hf k e s h' he hk ⟨rfl, g3, g4, g10, g11, g12, -⟩ K
    have hlt : (k : Int) < fs.length := by omega
    have hw : IntKind.i64.wrap ((k : Int) + 1) = (k : Int) + 1 := zae_ (by omega) (by omega)
    obtain ⟨q, hq, hld⟩ := (hv [.arr false 1 ((chF 0 (fs.take k)).map (vk .u32))]).at1 (i := k) (e := tx e) (by simp [he]) rfl
    have hsz : (⟨e.toArray⟩ : ByteArray).size ≤ 9223372036854775807 := by
      have := hs e (List.mem_of_getElem? he)
      show e.toArray.size ≤ _
      simp
      omega
    have hLk := fun h => zcrg_ h ((fs.take k).foldl lnkF 0) ⟨e.toArray⟩ hsz
    rw [tx_bts] at hLk
    have hcl : (chF 0 (fs.take k)).length = k := by rw [zqo_, List.length_take]; omega
    have hc := zwh_ (chF 0 (fs.take k))
    have hk1 : k + 1 ≤ 35184372088832 := by omega
    have hfo : lnkF ((fs.take k).foldl lnkF 0) e = (fs.take (k + 1)).foldl lnkF 0 := by rw [List.take_add_one, he, List.foldl_append]; rfl
    simp only [tx] at hld
    simp -implicitDefEqProofs [hB, zuy_, g3, g4, g10, g11, g12, hlt, hq, hld, hLk, hcl, hk1]
    refine K _ _ ⟨?_, ?_⟩
    · rw [zwg_ he]
      simp
    · simp [g10, g11, hw, hfo]
  · rintro B hB s h' ⟨rfl, g3, g4, g10, g11, g12, -⟩
    have hcl := zqo_ fs 0
    have hc := zwh_ (chF 0 fs)
    simp -implicitDefEqProofs [hB, zuy_, g3, g11, g12, hcl, hc]
end Go.Proofs.Sl
namespace Go.Proofs.Sl
theorem zbdz_ {h : H} {n : Int} (hn : 0 ≤ n ∧ n ≤ 65536) : run XP zjn_ [vi n] h = some (.tup [.ptr h.length 0, vi 0], h ++ [.box false [vi n, vb false, vnil]]) := by
  have h1 : ¬ n < 0 := by omega
  have h2 : ¬ 65536 < n := by omega
  rw [run_eq, zbzd_]
  simp -implicitDefEqProofs [zmd_, h1, h2]
theorem PO.new (h : H) (n : Int) : PO (h ++ [.box false [vi n, vb false, vnil]]) h.length n false [] := ⟨vnil, by simp, .inl ⟨rfl, rfl⟩⟩
section
variable {h : H} {l : Nat} {n : Int} {s : Bool} {bs : List (List SP)}
theorem zwi_ : ∀ bs : List (List SP), wide 1 (bs.map bkV) = true
  | [] => rfl
  | b :: bs => by rw [List.map_cons, wide, zwi_ bs]; rfl
theorem zwj_ : ∀ bs : List (List SP), V.closed.closeds (bs.map bkV) = true
  | [] => rfl
  | b :: bs => by rw [List.map_cons, V.closed.closeds, zwj_ bs]; rfl
theorem zbea_ (h : H) (bs : List (List SP)) (hn : bs.length ≤ 1000) : run XP zjq_ [.lst 1 (bs.map bkV)] h = some (.own 1 (bs.map bkV), h) := by
  have h1 := zwi_ bs
  have h2 := zwj_ bs
  have h3 : bs.length ≤ 17592186044416 := by omega
  rw [run_eq, zbbu_]
  simp -implicitDefEqProofs [zif_, h1, h2, h3]
theorem zbeb_ (h : H) : run XP zjq_ [vnil] h = some (vnil, h) := by
  rw [run_eq, zbbu_]
  simp -implicitDefEqProofs [zif_]
def blks (bs : List (List SP)) (v : V) : Prop := (v = vnil ∧ bs = []) ∨ v = .lst 1 (bs.map bkV)
theorem blks.rd {v : V} (b : blks bs v) (h : H) : Rd h 1 v (bs.map bkV) := by
  rcases b with ⟨rfl, rfl⟩ | rfl
  · exact .nil
  · exact .lst _
theorem zcrj_ (p : PO h l n s bs) (hn : bs.length ≤ 1000) : ∃ v, run XP ztt_ [.ptr l 0] h = some (v, h) ∧ blks bs (res0 v) := by
  obtain ⟨c, h1, h2⟩ := p
  rcases h2 with ⟨rfl, rfl⟩ | rfl
  · refine ⟨vnil, ?_, .inl ⟨rfl, rfl⟩⟩
    have hC := fun h => zbeb_ h
    rw [run_eq, zbbt_]
    simp -implicitDefEqProofs [zie_, h1, hC]
  · refine ⟨.lst 1 (bs.map bkV), ?_, .inr rfl⟩
    have hC := fun h => zbea_ h bs hn
    rw [run_eq, zbbt_]
    simp -implicitDefEqProofs [zie_, h1, hC]
end
theorem zcrk_ {h : H} {l q : Nat} {n m : Int} {s z : Bool} {bs cs : List (List SP)} (p : PO h l n s bs) (o : PO h q m z cs) (hb : Bks bs) (hc : Bks cs) (hz : ∀ e ∈ recs cs, e.Sz) :
    ∃ h', run XP zjo_ [.ptr l 0, .ptr q 0] h = some (if n = m then .tup [vi (insR n s bs (recs cs)).1, vi (insR n s bs (recs cs)).2.1] else .tup [vi 0, vi 17], h') ∧ PO h' l n s (if n = m then (insR n s bs (recs cs)).2.2 else bs) ∧ (h' = h ∨ ∃ o, h' = h.set l o) := by
  obtain ⟨c, h1, h2⟩ := p
  obtain ⟨d, h3, h4⟩ := o
  by_cases hnm : n = m
  · subst hnm
    obtain ⟨h', hI, hp', hh⟩ := zqm_ (h := h) (l := l) (n := n) (s := s) ⟨c, h1, h2⟩ hb (nl_LV (recs cs)) (fun e he => hc.mem (zca_ he)) hz (zql_ hc)
    refine ⟨h', ?_, by rw [if_pos rfl]; exact hp', hh⟩
    have hR := zdu_ (h := h) (l := q) (n := n) (s := z) (bs := cs) ⟨d, h3, h4⟩ hc
    have hl' : h'.length = h.length := by
      rcases hh with rfl | ⟨o, rfl⟩
      · rfl
      · simp
    have htk : h'.take h.length = h' := List.take_of_length_le (by omega)
    rw [if_pos rfl, run_eq, zbbs_]
    generalize insR n s bs (recs cs) = r at *
    simp -implicitDefEqProofs [zib_, h1, h3, hR, zbo_, zbt_, hI, htk]
  · refine ⟨h, ?_, by rw [if_neg hnm]; exact ⟨c, h1, h2⟩, .inl rfl⟩
    have hne : (n != m) = true := by simpa using hnm
    rw [if_neg hnm, run_eq, zbbs_]
    simp -implicitDefEqProofs [zib_, h1, h3, hne]
theorem zcrl_ {h : H} {l q : Nat} {n m : Int} {s z : Bool} {bs cs : List (List SP)} (p : PO h l n s bs) (o : PO h q m z cs) (hb : Bks bs) (hc : Bks cs) :
    run XP ztq_ [.ptr l 0, .ptr q 0] h = some (vb (decide (n = m) && (s == z && sameL (recs bs) (recs cs))), h) := by
  have hR1 := zdu_ p hb
  have hR2 := zdu_ o hc
  have hE := zcqv_ (h := h) (v := nl (recs bs)) (w := nl (recs cs)) (fun t => (nl_LV _).rd _) (fun t => (nl_LV _).rd _) (fun e he => (hb.mem (zca_ he)).sm) (fun e he => (hc.mem (zca_ he)).sm) (zql_ hb)
  obtain ⟨c, h1, h2⟩ := p
  obtain ⟨d, h3, h4⟩ := o
  generalize sameL (recs bs) (recs cs) = b at *
  rw [run_eq, zbzg_]
  by_cases hnm : n = m
  · subst hnm
    have hz : (n == n) = true := by simp
    cases hs : s == z with
    | true => simp -implicitDefEqProofs [zft_, h1, h3, hR1, hR2, hE, zbo_, zbt_, hz, hs]
    | false => simp -implicitDefEqProofs [zft_, h1, h3, hz, hs]
  · have hz : (n == m) = false := by simpa using hnm
    simp -implicitDefEqProofs [zft_, h1, h3, hz, hnm]
end Go.Proofs.Sl
namespace Go.Proofs.Sl
def rc (id : Int) : SP := ⟨16777217, id, 0, 0, 1, 3, ⟨#[115]⟩, ⟨#[]⟩, ⟨#[111]⟩, 0, 0, false, [], [], true, true⟩
theorem zcrm_ (h : H) (id : Int) : run XP zgy_ [vi id] h = some ((rc id).v, h) := by
  rw [run_eq, zbzj_]
  simp -implicitDefEqProofs [zmh_, rc, SP.v, slc, lv]
theorem zcrn_ {h : H} {v w : V} {xs ys : List SP} (hv : Rd h 14 v (xs.map SP.v)) (hw : Rd h 14 w (ys.map SP.v)) (hx : ∀ e ∈ xs, e.Sm) (hy : ∀ e ∈ ys, e.Sm) (hl : xs.length ≤ 100000) : run XP zts_ [v, w] h = some (vb (sameL xs ys), h) := by
  have hL := hv.toL
  have hR := hw.toL
  rw [run_eq, zbzk_]
  by_cases hc : xs.length = ys.length
  · have hc' : ((xs.length : Int) != (ys.length : Int)) = false := by simp [hc]
    simp -implicitDefEqProofs [zid_, hL, hR, hc']
    refine zak_ xs (fun k s h' => h' = h ∧ Sees s [(0, v), (1, w), (5, vi k)] ∧ sameL xs ys = sameL (xs.drop k) (ys.drop k)) ?_ ?_ _ _ ?_
    · rintro B f' hB hf k e s h' he hk ⟨rfl, ⟨g0, g1, g5, -⟩, hx'⟩ K
      have hlt : (k : Int) < xs.length := by omega
      obtain ⟨d, hd⟩ : ∃ d, ys[k]? = some d := ⟨_, List.getElem?_eq_getElem (by omega)⟩
      obtain ⟨q, hq, hld⟩ := hv.at (i := k) (e := e.v) (by simp [he])
      obtain ⟨q2, hq2, hld2⟩ := hw.at (i := k) (e := d.v) (by simp [hd])
      have hE := fun h => zqh_ h (hx e (List.mem_of_getElem? he)).len (hy d (List.mem_of_getElem? hd)).len
      have hw0 : IntKind.i64.wrap ((k : Int) + 1) = (k : Int) + 1 := zae_ (by omega) (by omega)
      rw [zau_ he, zau_ hd, sameL] at hx'
      simp only [SP.v, V.cells] at hld hld2 hE
      cases hb : (cmpS e d == 0) with
      | true =>
        rw [hb, Bool.true_and] at hx'
        rw [hb] at hE
        simp -implicitDefEqProofs [hB, zpy_, g0, g1, g5, hL, hlt, hq, hld, hq2, hld2, hE]
        refine K _ _ ⟨rfl, ?_, hx'⟩
        simp [g0, g1, hw0]
      | false =>
        rw [hb, Bool.false_and] at hx'
        rw [hb] at hE
        simp -implicitDefEqProofs [hB, hf, zpy_, g0, g1, g5, hL, hlt, hq, hld, hq2, hld2, hE, hx']
    · rintro B hB s h' ⟨rfl, ⟨g0, g1, g5, -⟩, hx'⟩
      rw [List.drop_of_length_le (Nat.le_refl _), List.drop_of_length_le (by omega)] at hx'
      have hx' : sameL xs ys = true := hx'
      simp -implicitDefEqProofs [hB, zpy_, g0, g5, hL, hx']
    · exact ⟨rfl, by simp, rfl⟩
  · have hc' : ((xs.length : Int) != (ys.length : Int)) = true := by
      simp only [bne_iff_ne, ne_eq]
      omega
    have hs : sameL xs ys = false := by
      cases h : sameL xs ys with
      | false => rfl
      | true => exact absurd (znd_ h) hc
    simp -implicitDefEqProofs [zid_, hL, hR, hc', hs]
def SV (v : V) (bs : List (List SP)) : Prop := (v = vnil ∧ bs = []) ∨ v = .lst 1 (bs.map nl)
theorem SV.rd {v : V} {bs : List (List SP)} (b : SV v bs) (h : H) : Rd h 1 v (bs.map nl) := by
  rcases b with ⟨rfl, rfl⟩ | rfl
  · exact .nil
  · exact .lst _
theorem SV.plain {v : V} {bs : List (List SP)} (b : SV v bs) : v.plain = true := by
  rcases b with ⟨rfl, rfl⟩ | rfl
  · rfl
  · rfl
end Go.Proofs.Sl
namespace Go.Proofs.Sl
end Go.Proofs.Sl
namespace Go.Proofs.Sl
end Go.Proofs.Sl
namespace Go.Proofs.Sl
end Go.Proofs.Sl
namespace Go.Proofs.Sl
def digS (es : List SP) : Int := digF (es.map SP.f)
theorem zcro_ {h : H} {l : Nat} {n : Int} {s : Bool} {bs : List (List SP)} (p : PO h l n s bs) (hb : Bks bs) (hv : ∀ e ∈ recs bs, e.Va) : run XP ztr_ [.ptr l 0] h = some (vk .u32 (digS (recs bs)), h) := by
  have hR := zdu_ p hb
  have hL := fun h => ((nl_LV (recs bs)).rd h).toL
  have hrl := zql_ hb
  rw [run_eq, zbzh_]
  generalize recs bs = D at *
  simp -implicitDefEqProofs [zmg_, hR, zbt_, hL]
  refine zak_ D (fun k s h' => ∃ t, Sees s [(7, nl D), (8, vi D.length), (9, vi k)] ∧ h' = h ++ t ∧ OutV (s 3) h' h.length 1 (((D.take k).map SP.f).map tx)) ?_ ?_ _ _ ?_
  · rintro B f' hB hf k e s h' he hk ⟨t, ⟨g7, g8, g9, -⟩, rfl, ho⟩ K
    have hlt : (k : Int) < D.length := by omega
    have hie := nl_at he (h ++ t)
    have hva := hv e (List.mem_of_getElem? he)
    have hE := fun h => E_Span h hva.ok
    have hw : IntKind.i64.wrap ((k : Int) + 1) = (k : Int) + 1 := zae_ (by omega) (by omega)
    have tk : D.take (k + 1) = D.take k ++ [e] := by rw [List.take_add_one, he]; rfl
    obtain ⟨x', h'', hap, ho', htk, hbl⟩ := (ho.app [.box false e.v.cells]).grow (lim := 8796093022208) (e := tx e.f) (by simp) rfl rfl (by simp only [List.length_map, List.length_take]; omega)
    have htk' : ∃ t', h'' = h ++ t' := ⟨h''.drop h.length, by
      have := List.take_append_drop h.length h''
      rw [htk] at this
      rw [List.append_assoc, List.take_left] at this
      exact this.symm⟩
    obtain ⟨t', rfl⟩ := htk'
    rw [List.append_assoc] at hap
    simp only [SP.v, V.cells, tx] at hie hE hap
    simp -implicitDefEqProofs [hB, zux_, g7, g8, g9, hlt, hie, hE, hap]
    refine K _ _ ⟨t', ?_, rfl, ?_⟩
    · simp [g7, g8, hw]
    · rw [tk, List.map_append, List.map_append]
      simpa using ho'
  · rintro B hB s h' ⟨t, ⟨g7, g8, g9, -⟩, rfl, ho⟩
    rw [List.take_length] at ho
    simp -implicitDefEqProofs [hB, zux_, g8, g9]
    by_cases hD : D = []
    · subst hD
      rcases ho with ⟨-, h3⟩ | ⟨q, h0, -⟩
      · simp -implicitDefEqProofs [h3, digS, digF]
      · exact absurd rfl h0
    · have hrd := fun r => (ho.app r).rd
      have hrd0 := ho.rd
      have hC := zcri_ (h ++ t) (v := s 3) (fs := D.map SP.f) (fun r => hrd r) (fun f hf => by
        obtain ⟨e, he, rfl⟩ := List.mem_map.1 hf
        have := SP.le (hv e he).ok
        omega) (by simpa using hrl)
      have ha0 := hrd0.arg0
      have hT := hrd0.toL
      have hlm : (((D.map SP.f).map tx).length : Int) = (D.length : Int) := by simp
      have hd0 : ((D.length : Int) == 0) = false := by
        have : D.length ≠ 0 := by simpa using hD
        simp only [beq_eq_false_iff_ne, ne_eq]
        omega
      have hpos : 0 < D.length := List.length_pos_iff.2 hD
      have hw1 : IntKind.i64.wrap ((D.length : Int) - 1) = ((D.length - 1 : Nat) : Int) := by rw [zae_ (by omega) (by omega)]; omega
      have hlast : ((chF 0 (D.map SP.f)).map (vk .u32))[D.length - 1]? = some (vk .u32 (digS D)) := by
        obtain ⟨e, he⟩ : ∃ e, (D.map SP.f)[D.length - 1]? = some e := ⟨_, List.getElem?_eq_getElem (by simp; omega)⟩
        have h1 := zwg_ (p := 0) he
        have h2 : D.length - 1 + 1 = (D.map SP.f).length := by simp; omega
        have h4 : (D.map SP.f).foldl lnkF 0 = lnkF (((D.map SP.f).take (D.length - 1)).foldl lnkF 0) e := by
          have : D.map SP.f = (D.map SP.f).take (D.length - 1) ++ [e] := by
            have := List.take_add_one (l := D.map SP.f) (i := D.length - 1)
            rw [h2, List.take_length, he] at this
            exact this
          rw [this, List.foldl_append, ← this]
          rfl
        have h3 : digS D = lnkF (((D.map SP.f).take (D.length - 1)).foldl lnkF 0) e := h4
        have hlen : (chF 0 ((D.map SP.f).take (D.length - 1))).length = D.length - 1 := by rw [zqo_, List.length_take, List.length_map]; omega
        rw [h2, List.take_length] at h1
        rw [List.getElem?_map, h1, List.getElem?_append_right (by omega), hlen, h3]
        simp
      have htk3 : (h ++ t).take h.length = h := by simp
      generalize (chF 0 (D.map SP.f)).map (vk .u32) = C at *
      generalize (D.map SP.f).map tx = T at *
      have hx3 := s 3
      simp -implicitDefEqProofs [hT, hlm, hd0, ha0, hC, hw1, hlast]
  · exact ⟨[], by simp, by simp, .inl ⟨by simp, by simp⟩⟩
end Go.Proofs.Sl
namespace Go.Proofs.Sl
theorem zcrp_ : chkSp (rc 1) = 0 := by decide +kernel
theorem zcrq_ : chkSp (rc 2) = 0 := by decide +kernel
theorem zcrr_ : chkSp (rc 3) = 0 := by decide +kernel
theorem rc_sz (i : Int) : (rc i).Sz := ⟨by show 1 ≤ 9223372036854775807; decide, by show 0 ≤ 9223372036854775807; decide, by show 1 ≤ 9223372036854775807; decide, fun e he => (List.not_mem_nil (show e ∈ ([] : List AT) from he)).elim, fun _ => rfl, fun _ => rfl⟩
theorem rc_bk (i : Int) : (rc i).Bk := ⟨Nat.zero_le _, Nat.zero_le _, fun _ => rfl, fun _ => rfl⟩
theorem str12 : Str [rc 1, rc 2] := by
  simp only [Str, List.pairwise_cons, List.mem_cons, List.not_mem_nil, or_false, forall_eq, false_implies, implies_true, List.Pairwise.nil, and_true]
  decide +kernel
theorem str23 : Str [rc 2, rc 3] := by
  simp only [Str, List.pairwise_cons, List.mem_cons, List.not_mem_nil, or_false, forall_eq, false_implies, implies_true, List.Pairwise.nil, and_true]
  decide +kernel
theorem str123 : Str [rc 1, rc 2, rc 3] := by
  simp only [Str, List.pairwise_cons, List.mem_cons, List.not_mem_nil, or_false, forall_eq_or_imp, forall_eq, false_implies, implies_true, List.Pairwise.nil, and_true]
  decide +kernel
theorem zcrs_ : recs [] = [] := rfl
theorem recs12 : recs [[rc 1, rc 2]] = [rc 1, rc 2] := zik_ str12
theorem zbec_ : recs [[rc 1, rc 2], [rc 3]] = [rc 1, rc 2, rc 3] := zik_ str123
theorem more12 : more [] [rc 1, rc 2] = [rc 1, rc 2] := by
  rw [more, zik_ str12, zcrs_]
  rfl
theorem more3 : more [[rc 1, rc 2]] [rc 2, rc 3] = [rc 3] := by
  have h1 : inS [rc 1, rc 2] (rc 2) = true := by decide +kernel
  have h2 : inS [rc 1, rc 2] (rc 3) = false := by decide +kernel
  rw [more, zik_ str23, recs12]
  simp [h1, h2]
theorem blE_of {l : List SP} (hs : Str l) (h1 : blE0 l = 0) (h2 : madE l = 0) : blE l = 0 := by rw [blE, h1, zik_ hs, h2]; rfl
theorem blE12 : blE [rc 1, rc 2] = 0 := blE_of str12 (by decide +kernel) (by decide +kernel)
theorem blE3 : blE [rc 3] = 0 := blE_of (List.pairwise_singleton _ _) (by decide +kernel) (by decide +kernel)
theorem ins12 : insR 1 false [] [rc 1, rc 2] = (2, 0, [[rc 1, rc 2]]) := by
  have h1 : chkF [rc 1, rc 2] = 0 := by decide +kernel
  have h2 : [rc 1, rc 2].any (fgn 1) = false := by decide +kernel
  rw [insR, if_neg (by simp), if_neg (by simpa using h1), if_neg (by simp [h2]), more12, blE12]
  rfl
theorem ins3 : insR 1 false [[rc 1, rc 2]] [rc 2, rc 3] = (1, 0, [[rc 1, rc 2], [rc 3]]) := by
  have h1 : chkF [rc 2, rc 3] = 0 := by decide +kernel
  have h2 : [rc 2, rc 3].any (fgn 1) = false := by decide +kernel
  rw [insR, if_neg (by simp), if_neg (by simpa using h1), if_neg (by simp [h2]), more3, blE3]
  rfl
theorem bl0 : blen 0 = 0 := by rw [blen]; rfl
theorem bl1 {m : Nat} (h : 0 < m ∧ m < 256) : blen m = 1 := by
  rw [blen, dif_neg (by omega), show m / 256 = 0 by omega, bl0]
theorem bl4 : blen 16777217 = 4 := by
  rw [blen, dif_neg (by decide), show 16777217 / 256 = 65536 from rfl, blen, dif_neg (by decide), show 65536 / 256 = 256 from rfl, blen, dif_neg (by decide), show 256 / 256 = 1 from rfl, bl1 (by decide)]
theorem fN0 : fNum 0 = [128] := by
  rw [fNum, show (0 : Int).natAbs = 0 from rfl, bl0]
  rfl
theorem fN1 : fNum 1 = [129, 1] := by
  rw [fNum, show (1 : Int).natAbs = 1 from rfl, bl1 (by decide)]
  rfl
theorem fN2 : fNum 2 = [129, 2] := by
  rw [fNum, show (2 : Int).natAbs = 2 from rfl, bl1 (by decide)]
  rfl
theorem fN3 : fNum 3 = [129, 3] := by
  rw [fNum, show (3 : Int).natAbs = 3 from rfl, bl1 (by decide)]
  rfl
theorem fN4 : fNum 16777217 = [132, 1, 0, 0, 1] := by
  rw [fNum, show (16777217 : Int).natAbs = 16777217 from rfl, bl4]
  rfl
def rcB (x : UInt8) : List UInt8 := [132, 1, 0, 0, 1, 129, x, 128, 128, 129, 1, 129, 3, 129, 1, 115, 128, 129, 1, 111, 128, 128, 128, 128, 128]
theorem rcF {i : Int} {x : UInt8} (h : fNum i = [129, x]) : (rc i).f = rcB x := by
  have e1 : fText ⟨#[115]⟩ = [129, 1, 115] := by
    rw [fText, show ((⟨#[115]⟩ : ByteArray).size : Int) = 1 from rfl, fN1]
    rfl
  have e2 : fText ⟨#[]⟩ = [128] := by
    rw [fText, show ((⟨#[]⟩ : ByteArray).size : Int) = 0 from rfl, fN0]
    rfl
  have e3 : fText ⟨#[111]⟩ = [129, 1, 111] := by
    rw [fText, show ((⟨#[111]⟩ : ByteArray).size : Int) = 1 from rfl, fN1]
    rfl
  have e4 : fList AT.f [] = [128] := by
    rw [fList, show ((([] : List AT).length : Nat) : Int) = 0 from rfl, fN0]
    rfl
  have e5 : fList RF.f [] = [128] := by
    rw [fList, show ((([] : List RF).length : Nat) : Int) = 0 from rfl, fN0]
    rfl
  have e6 : fBool false = [128] := by rw [fBool, if_neg (by decide), fN0]
  show fNums [16777217, i, 0, 0, 1, 3] ++ (fText ⟨#[115]⟩ ++ (fText ⟨#[]⟩ ++ (fText ⟨#[111]⟩ ++ (fNums [0, 0] ++ (fBool false ++ (fList AT.f [] ++ fList RF.f [])))))) = _
  rw [e1, e2, e3, e4, e5, e6, fNums, fNums, fNums, fNums, fNums, fNums, fNums, fNums, fNums, fNums, fN4, h, fN0, fN1, fN3]
  rfl
theorem zab_ {r r2 : Int} {b : UInt8} {l : List UInt8} (h : itF 8 (xorI .u32 r b.toNat) = r2) : exF r (b :: l) = exF r2 l := by rw [exF, h]
theorem xh1 : extF 0 [0, 0, 0, 0, 25, 0, 0, 0, 0, 0, 0, 0] = 2752627988 := by
  rw [extF, show xorI .u32 4294967295 0 = 4294967295 by decide +kernel]
  rw [zab_ (r2 := 2911022254) (by decide +kernel), zab_ (r2 := 245270573) (by decide +kernel), zab_ (r2 := 2677759109) (by decide +kernel), zab_ (r2 := 3080238136) (by decide +kernel), zab_ (r2 := 3529610601) (by decide +kernel), zab_ (r2 := 430319931) (by decide +kernel), zab_ (r2 := 2842903715) (by decide +kernel), zab_ (r2 := 2981246230) (by decide +kernel), zab_ (r2 := 911119026) (by decide +kernel), zab_ (r2 := 1394101420) (by decide +kernel), zab_ (r2 := 4015743546) (by decide +kernel), zab_ (r2 := 1542339307) (by decide +kernel)]
  decide +kernel
theorem xr1 : extF 2752627988 [132, 1, 0, 0, 1, 129, 1, 128, 128, 129, 1, 129, 3, 129, 1, 115, 128, 129, 1, 111, 128, 128, 128, 128, 128] = 3051982707 := by
  rw [extF, show xorI .u32 4294967295 2752627988 = 1542339307 by decide +kernel]
  rw [zab_ (r2 := 1066287484) (by decide +kernel), zab_ (r2 := 3465516703) (by decide +kernel), zab_ (r2 := 3430240165) (by decide +kernel), zab_ (r2 := 2541147381) (by decide +kernel), zab_ (r2 := 878939838) (by decide +kernel), zab_ (r2 := 1858344475) (by decide +kernel), zab_ (r2 := 2077371201) (by decide +kernel), zab_ (r2 := 832403436) (by decide +kernel), zab_ (r2 := 750043589) (by decide +kernel), zab_ (r2 := 2261597794) (by decide +kernel), zab_ (r2 := 1913695656) (by decide +kernel), zab_ (r2 := 1484604863) (by decide +kernel), zab_ (r2 := 4279156828) (by decide +kernel), zab_ (r2 := 1812243384) (by decide +kernel), zab_ (r2 := 3402345894) (by decide +kernel), zab_ (r2 := 3873979930) (by decide +kernel), zab_ (r2 := 4188814353) (by decide +kernel), zab_ (r2 := 2454802475) (by decide +kernel), zab_ (r2 := 1271789494) (by decide +kernel), zab_ (r2 := 2871719824) (by decide +kernel), zab_ (r2 := 284552600) (by decide +kernel), zab_ (r2 := 2593614413) (by decide +kernel), zab_ (r2 := 2084568445) (by decide +kernel), zab_ (r2 := 1278876763) (by decide +kernel), zab_ (r2 := 1242984588) (by decide +kernel)]
  decide +kernel
theorem lk1 : lnkF 0 (rcB 1) = 3051982707 := by
  rw [lnkF, show hdB 0 (rcB 1).length = [0, 0, 0, 0, 25, 0, 0, 0, 0, 0, 0, 0] by decide +kernel, xh1, rcB, xr1]
theorem xh2 : extF 0 [115, 143, 233, 181, 25, 0, 0, 0, 0, 0, 0, 0] = 3737304874 := by
  rw [extF, show xorI .u32 4294967295 0 = 4294967295 by decide +kernel]
  rw [zab_ (r2 := 3477736279) (by decide +kernel), zab_ (r2 := 1506145135) (by decide +kernel), zab_ (r2 := 2752387427) (by decide +kernel), zab_ (r2 := 4124444762) (by decide +kernel), zab_ (r2 := 1390295104) (by decide +kernel), zab_ (r2 := 1093256068) (by decide +kernel), zab_ (r2 := 1160611236) (by decide +kernel), zab_ (r2 := 1704202044) (by decide +kernel), zab_ (r2 := 2110067310) (by decide +kernel), zab_ (r2 := 3452168535) (by decide +kernel), zab_ (r2 := 2233630161) (by decide +kernel), zab_ (r2 := 557662421) (by decide +kernel)]
  decide +kernel
theorem xr2 : extF 3737304874 [132, 1, 0, 0, 1, 129, 2, 128, 128, 129, 1, 129, 3, 129, 1, 115, 128, 129, 1, 111, 128, 128, 128, 128, 128] = 1922063850 := by
  rw [extF, show xorI .u32 4294967295 3737304874 = 557662421 by decide +kernel]
  rw [zab_ (r2 := 2741986448) (by decide +kernel), zab_ (r2 := 1616908400) (by decide +kernel), zab_ (r2 := 1912091677) (by decide +kernel), zab_ (r2 := 2936501128) (by decide +kernel), zab_ (r2 := 4209764295) (by decide +kernel), zab_ (r2 := 1730154931) (by decide +kernel), zab_ (r2 := 1075433947) (by decide +kernel), zab_ (r2 := 3370936377) (by decide +kernel), zab_ (r2 := 3396289901) (by decide +kernel), zab_ (r2 := 2931361935) (by decide +kernel), zab_ (r2 := 773864791) (by decide +kernel), zab_ (r2 := 4116457086) (by decide +kernel), zab_ (r2 := 3460646136) (by decide +kernel), zab_ (r2 := 165988997) (by decide +kernel), zab_ (r2 := 1164265645) (by decide +kernel), zab_ (r2 := 2146319300) (by decide +kernel), zab_ (r2 := 2258527384) (by decide +kernel), zab_ (r2 := 1751810759) (by decide +kernel), zab_ (r2 := 3846482862) (by decide +kernel), zab_ (r2 := 822337900) (by decide +kernel), zab_ (r2 := 2923586603) (by decide +kernel), zab_ (r2 := 996957433) (by decide +kernel), zab_ (r2 := 152167325) (by decide +kernel), zab_ (r2 := 2944375391) (by decide +kernel), zab_ (r2 := 2372903445) (by decide +kernel)]
  decide +kernel
theorem lk2 : lnkF 3051982707 (rcB 2) = 1922063850 := by
  rw [lnkF, show hdB 3051982707 (rcB 2).length = [115, 143, 233, 181, 25, 0, 0, 0, 0, 0, 0, 0] by decide +kernel, xh2, rcB, xr2]
theorem xh3 : extF 0 [234, 93, 144, 114, 25, 0, 0, 0, 0, 0, 0, 0] = 3231833749 := by
  rw [extF, show xorI .u32 4294967295 0 = 4294967295 by decide +kernel]
  rw [zab_ (r2 := 626011276) (by decide +kernel), zab_ (r2 := 563950212) (by decide +kernel), zab_ (r2 := 3622161730) (by decide +kernel), zab_ (r2 := 808758396) (by decide +kernel), zab_ (r2 := 1409790930) (by decide +kernel), zab_ (r2 := 851220207) (by decide +kernel), zab_ (r2 := 3172018344) (by decide +kernel), zab_ (r2 := 674233409) (by decide +kernel), zab_ (r2 := 3006837059) (by decide +kernel), zab_ (r2 := 1385748217) (by decide +kernel), zab_ (r2 := 2341350511) (by decide +kernel), zab_ (r2 := 1063133546) (by decide +kernel)]
  decide +kernel
theorem xr3 : extF 3231833749 [132, 1, 0, 0, 1, 129, 3, 128, 128, 129, 1, 129, 3, 129, 1, 115, 128, 129, 1, 111, 128, 128, 128, 128, 128] = 1215840405 := by
  rw [extF, show xorI .u32 4294967295 3231833749 = 1063133546 by decide +kernel]
  rw [zab_ (r2 := 1333217564) (by decide +kernel), zab_ (r2 := 2939813109) (by decide +kernel), zab_ (r2 := 3325051541) (by decide +kernel), zab_ (r2 := 2812270665) (by decide +kernel), zab_ (r2 := 3406158507) (by decide +kernel), zab_ (r2 := 1268032316) (by decide +kernel), zab_ (r2 := 1857806646) (by decide +kernel), zab_ (r2 := 2497326784) (by decide +kernel), zab_ (r2 := 1106233234) (by decide +kernel), zab_ (r2 := 55565148) (by decide +kernel), zab_ (r2 := 3993950683) (by decide +kernel), zab_ (r2 := 975830066) (by decide +kernel), zab_ (r2 := 3266503502) (by decide +kernel), zab_ (r2 := 2640095235) (by decide +kernel), zab_ (r2 := 3785763935) (by decide +kernel), zab_ (r2 := 1830807330) (by decide +kernel), zab_ (r2 := 1126030006) (by decide +kernel), zab_ (r2 := 3832164480) (by decide +kernel), zab_ (r2 := 1887031883) (by decide +kernel), zab_ (r2 := 3881263123) (by decide +kernel), zab_ (r2 := 2166315139) (by decide +kernel), zab_ (r2 := 332524716) (by decide +kernel), zab_ (r2 := 1844285666) (by decide +kernel), zab_ (r2 := 2156924421) (by decide +kernel), zab_ (r2 := 3079126890) (by decide +kernel)]
  decide +kernel
theorem lk3 : lnkF 1922063850 (rcB 3) = 1215840405 := by
  rw [lnkF, show hdB 1922063850 (rcB 3).length = [234, 93, 144, 114, 25, 0, 0, 0, 0, 0, 0, 0] by decide +kernel, xh3, rcB, xr3]
theorem dig123 : (digS [rc 1, rc 2, rc 3] != 0) = true := by
  have h : digS [rc 1, rc 2, rc 3] = lnkF (lnkF (lnkF 0 (rcB 1)) (rcB 2)) (rcB 3) := by
    show lnkF (lnkF (lnkF 0 (rc 1).f) (rc 2).f) (rc 3).f = _
    rw [rcF fN1, rcF fN2, rcF fN3]
  rw [h, lk1, lk2, lk3]
  decide
theorem rc_va1 : (rc 1).Va := ⟨rc_sz 1, zcrp_⟩
theorem rc_va2 : (rc 2).Va := ⟨rc_sz 2, zcrq_⟩
theorem rc_va3 : (rc 3).Va := ⟨rc_sz 3, zcrr_⟩
theorem zbed_ (h : H) : run XP zoy_ [] h = some (vb true, h) := by
  have hN := fun h => zbdz_ (h := h) (n := 1) (by omega)
  have hrc := fun h i => zcrm_ h i
  have bk0 : Bks [] := ⟨by simp, by simp, by simp⟩
  have bk1 : Bks [[rc 1, rc 2]] := ⟨by simp [rc_bk], by simp, by simp⟩
  have bk2 : Bks [[rc 1, rc 2], [rc 3]] := ⟨by simp [rc_bk], by simp, by simp⟩
  obtain ⟨h1, I1, P1, e1⟩ := zqm_ (PO.new h 1) bk0 (v := .lst 14 [(rc 1).v, (rc 2).v]) (es := [rc 1, rc 2]) (.inr rfl) (by simp [rc_bk]) (by simp [rc_sz]) (by simp)
  rw [ins12] at I1 P1
  obtain ⟨h2, I2, P2, e2⟩ := zqm_ P1 bk1 (v := .lst 14 [(rc 2).v, (rc 3).v]) (es := [rc 2, rc 3]) (.inr rfl) (by simp [rc_bk]) (by simp [rc_sz]) (by simp)
  rw [ins3] at I2 P2
  obtain ⟨v, hB, hv⟩ := zcrj_ P2 (by simp)
  have hR := zdu_ P2 bk2
  have hD := zcro_ P2 bk2 (by rw [zbec_]; simp [rc_va1, rc_va2, rc_va3])
  rw [zbec_] at hR hD
  have hbl := fun h => (hv.rd h).toL
  have hrl := fun h => ((nl_LV [rc 1, rc 2, rc 3]).rd h).toL
  have hd := dig123
  generalize digS [rc 1, rc 2, rc 3] = d at *
  have htk : h2.take h.length = h := by
    have : h1.take h.length = h := by
      rcases e1 with rfl | ⟨o, rfl⟩
      · simp
      · rw [List.take_set, List.set_eq_of_length_le (by simp)]
        simp
    rcases e2 with rfl | ⟨o, rfl⟩
    · exact this
    · rw [List.take_set, List.set_eq_of_length_le (by simp; omega)]
      exact this
  have c1 : ∀ i, (rc i).v.cells.length = 14 := fun i => (zmy_ _).1
  have c2 : ∀ i, zai_ (rc i).v.cells = true := fun i => (zmy_ _).2
  have c3 : ∀ i, (rc i).v.closed = true := fun i => rfl
  have c4 : ∀ i, res0 (rc i).v = (rc i).v := fun i => rfl
  have c5 : ∀ i, frz0 (rc i).v = some (rc i).v := fun i => rfl
  rw [run_eq, zbzb_]
  simp only at I1 I2
  generalize hres : res0 v = b at *
  simp -implicitDefEqProofs [zmc_, hN, hrc, c1, c2, c3, c4, c5, I1, I2, hB, hres, hbl, hR, zbt_, hrl, hD, hd, htk]
end Go.Proofs.Sl
namespace Go.Proofs.Sl
theorem zbee_ : ∀ {l : List SP}, chkF l = 0 ↔ ∀ e ∈ l, chkSp e = 0
  | [] => by simp [chkF]
  | a :: r => by
    rw [chkF]
    by_cases h : chkSp a = 0
    · rw [if_neg (by simpa using h), zbee_]
      simp [h]
    · rw [if_pos h]
      simp [h]
theorem PO.one {h' : H} {n : Int} {s : Bool} {bs : List (List SP)} {H : H} {l : Nat} (p : PO h' l n s bs) (e : h' = H ∨ ∃ o, h' = H.set l o) (hl : l < H.length) : ∃ c, h' = H.set l (.box false [vi n, vb s, c]) := by
  obtain ⟨c, h1, -⟩ := p
  refine ⟨c, ?_⟩
  rcases e with rfl | ⟨o, rfl⟩
  · obtain ⟨h2, h3⟩ := List.getElem?_eq_some_iff.1 h1
    rw [← h3, List.set_getElem_self]
  · rw [List.getElem?_set_self hl] at h1
    obtain rfl := Option.some.inj h1
    rfl
theorem SV.nil : SV vnil [] := .inl ⟨rfl, rfl⟩
end Go.Proofs.Sl
namespace Go.Proofs.Sl
theorem Ins.app {x y z : List SP} (h : Ins x z) (k : Ins y z) : Ins (x ++ y) z := fun a ha => by
  rcases List.mem_append.1 ha with ha | ha
  · exact h a ha
  · exact k a ha
theorem Ins.left (x y : List SP) : Ins x (x ++ y) := Ins.of_sub fun a h => List.mem_append.2 (.inl h)
theorem Ins.right (x y : List SP) : Ins y (x ++ y) := Ins.of_sub fun a h => List.mem_append.2 (.inr h)
theorem Alk.refl (x : List SP) : Alk x x := Alk.of_mem fun _ => Iff.rfl
theorem Alk.app {x y z w : List SP} (h : Alk x y) (k : Alk z w) : Alk (x ++ z) (y ++ w) := ⟨(h.1.trans (Ins.left _ _)).app (k.1.trans (Ins.right _ _)), (h.2.trans (Ins.left _ _)).app (k.2.trans (Ins.right _ _))⟩
theorem zbef_ : ∀ (r : List SP) (a : SP), (a :: r).Pairwise (fun a b => cmpS a b ≠ 0) → cptA a r = r
  | [], a, _ => rfl
  | b :: r, a, h => by
    obtain ⟨h1, h2⟩ := List.pairwise_cons.1 h
    have := h1 b (by simp)
    rw [cptA, if_neg (fun e => this (csym e)), zbef_ r b h2]
theorem zcrt_ {l : List SP} (h : l.Pairwise fun a b => cmpS a b ≠ 0) : (dst l).length = l.length := by
  have hs : (srt l).Pairwise fun a b => cmpS a b ≠ 0 := (zvu_ l).symm.pairwise h fun {a b} hab e => hab (csym e)
  unfold dst
  rw [← znb_ l]
  match srt l, hs with
  | [], _ => rfl
  | a :: r, hs => rw [cpt, zbef_ r a hs]
structure SP.Rc (a : SP) : Prop where
  va : a.Va
  fg : fgn 1 a = false
  lo : longS a = false
  al : a.ats.length ≤ 3
  ll : a.lks.length ≤ 1
theorem sumA_3 : ∀ {l : List SP}, (∀ e ∈ l, e.Rc) → sumA l ≤ 3 * l.length
  | [], _ => Nat.le_refl _
  | a :: r, h => by
    have h1 := (h a (by simp)).al
    have h2 := sumA_3 (l := r) fun e he => h e (by simp [he])
    rw [sumA, List.length_cons]
    omega
theorem sumL_1 : ∀ {l : List SP}, (∀ e ∈ l, e.Rc) → sumL l ≤ l.length
  | [], _ => Nat.le_refl _
  | a :: r, h => by
    have h1 := (h a (by simp)).ll
    have h2 := sumL_1 (l := r) fun e he => h e (by simp [he])
    rw [sumL, List.length_cons]
    omega
theorem zbeg_ {l : List SP} (h : ∀ e ∈ l, e.Rc) : chkF l = 0 := zbee_.2 fun e he => (h e he).va.ck
theorem blE_rc {l : List SP} (h : ∀ e ∈ l, e.Rc) (hl : l.length ≤ 1000) : blE l = 0 := by
  have h0 : blE0 l = 0 := by
    rw [blE0, if_neg (by omega), if_neg (by simpa using zbeg_ h), if_neg]
    rw [Bool.not_eq_true, List.any_eq_false]
    exact fun e he => by rw [(h e he).lo]; simp
  have hd : ∀ e ∈ dst l, e.Rc := fun e he => h e (zca_ he)
  have h1 := sumA_3 hd
  have h2 := sumL_1 hd
  have h3 := zep_ l
  rw [blE, h0, if_neg (by simp), madE, if_neg (by omega)]
def insB (bs : List (List SP)) (es : List SP) : List (List SP) := if more bs es = [] then bs else bs ++ [more bs es]
theorem zbeh_ {bs : List (List SP)} {es : List SP} (h : ∀ e ∈ es, e.Rc) (hl : es.length ≤ 1000) (hb : bs.length < 64) : insR 1 false bs es = (((more bs es).length : Int), 0, insB bs es) := by
  have h1 : es.any (fgn 1) = false := by
    rw [List.any_eq_false]
    exact fun e he => by rw [(h e he).fg]; simp
  have h2 : blE (more bs es) = 0 := blE_rc (fun e he => h e (zil_ he)) (Nat.le_trans (zwd_ bs es) hl)
  unfold insR insB
  rw [if_neg (by simp), if_neg (by simpa using zbeg_ h), h1, if_neg (by simp), h2, if_neg (by simp)]
  by_cases hm : more bs es = []
  · rw [if_pos hm, if_pos hm, hm]; rfl
  · rw [if_neg hm, if_neg hm, if_neg (by omega)]
theorem zwk_ {D : List SP} {e : SP} : inS D e = true ↔ ∃ b ∈ D, cmpS b e = 0 := by
  unfold inS
  rw [List.any_eq_true]
  exact ⟨fun ⟨b, h1, h2⟩ => ⟨b, h1, by simpa using h2⟩, fun ⟨b, h1, h2⟩ => ⟨b, h1, by simpa using h2⟩⟩
theorem zim_ (bs : List (List SP)) : Alk (recs bs) bs.flatten := zdt_ _
theorem zcru_ {bs : List (List SP)} {es : List SP} {e : SP} (h : e ∈ more bs es) {b : SP} (hb : b ∈ recs bs) : cmpS b e ≠ 0 := by
  intro hc
  have := (List.mem_filter.1 h).2
  rw [zwk_.2 ⟨b, hb, hc⟩] at this
  cases this
theorem zwl_ (bs : List (List SP)) (es : List SP) : Alk (insB bs es).flatten (bs.flatten ++ es) := by
  have hm : Ins (more bs es) es := Ins.of_sub fun a h => zil_ h
  have he : Ins es (bs.flatten ++ more bs es) := fun a ha => by
    obtain ⟨d, hd, e⟩ := (zdt_ es).2 a ha
    by_cases hc : inS (recs bs) d = true
    · obtain ⟨b, hb, e2⟩ := zwk_.1 hc
      obtain ⟨b2, hb2, e3⟩ := (zim_ bs).1 b hb
      exact ⟨b2, List.mem_append.2 (.inl hb2), zbg_.eq_trans e (zbg_.eq_trans (csym e2) e3)⟩
    · exact ⟨d, List.mem_append.2 (.inr (List.mem_filter.2 ⟨hd, by simpa using hc⟩)), e⟩
  unfold insB
  split
  · rename_i h
    rw [h, List.append_nil] at he
    exact ⟨Ins.left _ _, (Alk.refl _).1.app he⟩
  · rw [List.flatten_append]
    simp only [List.flatten_cons, List.flatten_nil, List.append_nil]
    exact ⟨(Ins.left _ _).app (hm.trans (Ins.right _ _)), (Ins.left _ _).app he⟩
theorem zcrv_ (bs : List (List SP)) (es : List SP) : (insB bs es).length ≤ bs.length + 1 := by
  unfold insB
  split
  · omega
  · simp
theorem zcrw_ (bs : List (List SP)) (es : List SP) : (insB bs es).flatten.length ≤ bs.flatten.length + es.length := by
  have := zwd_ bs es
  unfold insB
  split
  · omega
  · rw [List.flatten_append]
    simp
    omega
theorem zcrx_ {bs : List (List SP)} {es : List SP} {b : List SP} (h : b ∈ insB bs es) : b ∈ bs ∨ ∀ e ∈ b, e ∈ es := by
  unfold insB at h
  split at h
  · exact .inl h
  · rcases List.mem_append.1 h with h | h
    · exact .inl h
    · have : b = more bs es := by simpa using h
      subst this
      exact .inr fun e he => zil_ he
structure Bx (bs : List (List SP)) (n m : Nat) : Prop where
  rc : ∀ b ∈ bs, ∀ e ∈ b, e.Rc
  n : bs.length ≤ n
  m : bs.flatten.length ≤ m
theorem Bx.nil : Bx [] 0 0 := ⟨by simp, by simp, by simp⟩
theorem Bx.ins {bs : List (List SP)} {n m k : Nat} (h : Bx bs n m) {es : List SP} (he : ∀ e ∈ es, e.Rc) (hl : es.length ≤ k) : Bx (insB bs es) (n + 1) (m + k) := by
  refine ⟨fun b hb e hbe => ?_, ?_, ?_⟩
  · rcases zcrx_ hb with hb | hb
    · exact h.rc b hb e hbe
    · exact he e (hb e hbe)
  · have := zcrv_ bs es
    have := h.n
    omega
  · have := zcrw_ bs es
    have := h.m
    omega
theorem Bx.bks {bs : List (List SP)} {n m : Nat} (h : Bx bs n m) (hn : n ≤ 1000) (hm : m ≤ 100000) : Bks bs := ⟨fun b hb e he => (h.rc b hb e he).va.bk, Nat.le_trans h.n hn, Nat.le_trans h.m hm⟩
theorem Bx.mem {bs : List (List SP)} {n m : Nat} (h : Bx bs n m) {e : SP} (he : e ∈ recs bs) : e.Rc := by
  obtain ⟨b, hb, hbe⟩ := List.mem_flatten.1 (zca_ he)
  exact h.rc b hb e hbe
theorem Bx.len {bs : List (List SP)} {n m : Nat} (h : Bx bs n m) : (recs bs).length ≤ m := Nat.le_trans (zep_ _) h.m
def insAll (bs : List (List SP)) (ls : List (List SP)) : List (List SP) := ls.foldl insB bs
theorem znf_ {k : Nat} : ∀ (ls : List (List SP)) {bs : List (List SP)} {n m : Nat}, Bx bs n m → (∀ l ∈ ls, (∀ e ∈ l, e.Rc) ∧ l.length ≤ k) → Bx (insAll bs ls) (n + ls.length) (m + k * ls.length)
  | [], bs, n, m, h, _ => by simpa [insAll] using h
  | es :: ls, bs, n, m, h, hl => by
    obtain ⟨h1, h2⟩ := hl es (by simp)
    have := znf_ ls (h.ins h1 h2) fun l h => hl l (by simp [h])
    refine ⟨this.rc, ?_, ?_⟩
    · have := this.n
      rw [List.length_cons]
      show (insAll (insB bs es) ls).length ≤ _
      omega
    · have := this.m
      rw [List.length_cons]
      show (insAll (insB bs es) ls).flatten.length ≤ _
      rw [Nat.mul_add]
      omega
theorem zcry_ {bs cs : List (List SP)} (h : Alk bs.flatten cs.flatten) : sameL (recs bs) (recs cs) = true :=
  zij_ (zne_ _) (zne_ _) ((zim_ bs).trans (h.trans (zim_ cs).symm))
theorem zbei_ {bs : List (List SP)} {es : List SP} : (dst (recs bs ++ es)).length = (recs bs).length + (more bs es).length := by
  have h1 : sameL (dst (recs bs ++ es)) (dst (recs bs ++ more bs es)) = true := by
    refine zij_ (zeq_ _) (zeq_ _) ((zdt_ _).trans (Alk.trans ?_ (zdt_ _).symm))
    have := zwl_ bs es
    refine ⟨(Ins.left _ _).app fun a ha => ?_, (Ins.left _ _).app ((Ins.of_sub fun a h => zil_ h).trans (Ins.right _ _))⟩
    obtain ⟨d, hd, e⟩ := (zdt_ es).2 a ha
    by_cases hc : inS (recs bs) d = true
    · obtain ⟨b, hb, e2⟩ := zwk_.1 hc
      exact ⟨b, List.mem_append.2 (.inl hb), zbg_.eq_trans e (csym e2)⟩
    · exact ⟨d, List.mem_append.2 (.inr (List.mem_filter.2 ⟨hd, by simpa using hc⟩)), e⟩
  rw [znd_ h1, zcrt_, List.length_append]
  rw [List.pairwise_append]
  refine ⟨(zne_ bs).imp fun h => by omega, (zbdr_ bs es).imp fun h => by omega, fun b hb e he => zcru_ he hb⟩
end Go.Proofs.Sl
namespace Go.Proofs.Sl
structure CL where
  pa : Nat
  ck : Nat
  kd : Nat
  sv : Nat
  vr : Nat
  op : Nat
  wt : Nat
  lg : Nat
  lk : Nat
  tg : Nat
  fl : Bool
def CL.v (c : CL) : V := .agg [v8 c.pa, v8 c.ck, v8 c.kd, v8 c.sv, v8 c.vr, v8 c.op, v8 c.wt, v8 c.lg, v8 c.lk, v8 c.tg, vb c.fl]
structure CL.Ok (c : CL) : Prop where
  a : ∀ n ∈ [c.pa, c.ck, c.kd, c.sv, c.vr, c.op, c.wt, c.lg, c.lk, c.tg], n < 256
structure TR where
  sl : Nat
  st : Nat
  cs : List CL
  cn : Bool
def TR.v (t : TR) : V := .agg [v8 t.sl, v8 t.st, lv 11 (slc CL.v t.cs t.cn)]
structure TR.Ok (t : TR) : Prop where
  sl : t.sl < 256
  st : t.st < 256
  cs : ∀ c ∈ t.cs, c.Ok
  l : t.cs.length ≤ 8
  n : t.cn = true → t.cs = []
structure SY where
  fr : Nat
  to : Nat
  at' : Nat
  dl : Nat
  sk : Nat
def SY.v (y : SY) : V := .agg [v8 y.fr, v8 y.to, v8 y.at', v8 y.dl, v8 y.sk]
structure SY.Ok (y : SY) : Prop where
  a : ∀ n ∈ [y.fr, y.to, y.at', y.dl, y.sk], n < 256
structure ST where
  ts : List TR
  tn : Bool
  o0 : Int
  o1 : Int
  o2 : Int
  o3 : Int
  ys : List SY
  yn : Bool
  wr : Nat
def ST.v (s : ST) : V := .agg [lv 3 (slc TR.v s.ts s.tn), .s (.int .i8 s.o0), .s (.int .i8 s.o1), .s (.int .i8 s.o2), .s (.int .i8 s.o3), lv 5 (slc SY.v s.ys s.yn), v8 s.wr]
structure ST.Ok (s : ST) : Prop where
  ts : ∀ t ∈ s.ts, t.Ok
  l : s.ts.length ≤ 3
  n : s.tn = true → s.ts = []
  ys : ∀ y ∈ s.ys, y.Ok
  yl : s.ys.length ≤ 6
  y : s.yn = true → s.ys = []
  wr : s.wr < 256
  o : ∀ o ∈ [s.o0, s.o1, s.o2, s.o3], -128 ≤ o ∧ o ≤ 127
def CL.kind (c : CL) : Int := 1 + ((c.kd % 5 : Nat) : Int)
theorem zwm_ {c : CL} (hc : c.Ok) (h : H) : run XP zjs_ [c.v] h = some (vi c.kind, h) := by
  have h1 : c.kd % 5 < 256 := by omega
  have w1 : IntKind.i64.wrap ((c.kd % 5 : Nat) : Int) = ((c.kd % 5 : Nat) : Int) := w64 (by omega)
  have w2 : IntKind.i64.wrap (1 + ((c.kd % 5 : Nat) : Int)) = 1 + ((c.kd % 5 : Nat) : Int) := w64 (by omega)
  have e1 : (c.kd : Int).tmod 5 = ((c.kd % 5 : Nat) : Int) := tmodN _ 5
  unfold CL.kind
  generalize c.kd % 5 = k at *
  rw [run_eq, zcaq_]
  simp -implicitDefEqProofs [zma_, CL.v, e1, w1, w2]
def CL.ats (c : CL) : List AT := (mats (c.tg / 4 % 2) ((c.tg : Int) - 100) (tbl zns (c.tg / 8 % 3))).take (c.tg % 4)
theorem zcrz_ {c : CL} (hc : c.Ok) (h : H) : run XP zun_ [c.v] h = some (.lst 4 (c.ats.map AT.v), h) := by
  have g : c.tg < 256 := hc.a _ (by simp)
  have e1 : (c.tg : Int).tdiv 4 = ((c.tg / 4 : Nat) : Int) := tdivN _ 4
  have e2 : ((c.tg / 4 : Nat) : Int).tmod 2 = ((c.tg / 4 % 2 : Nat) : Int) := tmodN _ 2
  have e3 : (c.tg : Int).tdiv 8 = ((c.tg / 8 : Nat) : Int) := tdivN _ 8
  have e4 : ((c.tg / 8 : Nat) : Int).tmod 3 = ((c.tg / 8 % 3 : Nat) : Int) := tmodN _ 3
  have e5 : (c.tg : Int).tmod 4 = ((c.tg % 4 : Nat) : Int) := tmodN _ 4
  have w1 : IntKind.u8.wrap ((c.tg / 4 : Nat) : Int) = ((c.tg / 4 : Nat) : Int) := w8 (by omega)
  have w2 : IntKind.u8.wrap ((c.tg / 8 : Nat) : Int) = ((c.tg / 8 : Nat) : Int) := w8 (by omega)
  have w3 : IntKind.i64.wrap ((c.tg / 4 % 2 : Nat) : Int) = ((c.tg / 4 % 2 : Nat) : Int) := w64 (by omega)
  have w4 : IntKind.i64.wrap (c.tg : Int) = (c.tg : Int) := w64 (by omega)
  have w5 : IntKind.i64.wrap ((c.tg : Int) - 100) = (c.tg : Int) - 100 := w64 (by omega)
  have s4 : (zns.map vs)[c.tg / 8 % 3]? = some (vs (tbl zns (c.tg / 8 % 3))) := tbl_at (by show _ < 3; omega)
  have hz : c.tg % 4 ≤ 3 := by omega
  unfold CL.ats CL.v
  generalize tbl zns (c.tg / 8 % 3) = zn at *
  generalize c.tg / 8 % 3 = iz at *
  generalize c.tg / 8 = b2 at *
  generalize c.tg / 4 % 2 = a8 at *
  generalize c.tg / 4 = b1 at *
  generalize c.tg % 4 = nt at *
  generalize c.tg = tg at *
  have hnt : nt = 0 ∨ nt = 1 ∨ nt = 2 ∨ nt = 3 := by omega
  simp only [zns, List.map_cons, List.map_nil] at s4
  rw [run_eq, zcar_]
  rcases hnt with rfl | rfl | rfl | rfl <;>
    simp -implicitDefEqProofs [zmb_, e1, e2, e3, e4, e5, w1, w2, w3, w4, w5, s4, mats, AT.v]
end Go.Proofs.Sl
namespace Go.Proofs.Sl
theorem zcsa_ (cf : CallF) (base : Nat) (s : Sl) (h : H) (z : List V) (parts : List (Nat × Nat × Opd)) : xop cf base s h (.buildR z parts) = ob (ob (zcd_ (zce_ parts (zbl_ s parts)) z) fun cs => some (.agg cs)) (pureV h) := Eq.trans rfl rfl
attribute [simp ↓] zcsa_
theorem zbej_ {h : H} {l : Nat} {n : Int} {s : Bool} {bs : List (List SP)} (p : PO h l n s bs) (hn : bs.length ≤ 1000) : ∃ c, run XP zpa_ [.ptr l 0] h = some (.ptr h.length 0, h ++ [.box false [vi n, vb s, c]]) ∧ PB c bs := by
  obtain ⟨c, h1, h2⟩ := p
  have hg := PO.get h1
  rcases h2 with ⟨rfl, rfl⟩ | rfl
  · refine ⟨vnil, ?_, .inl ⟨rfl, rfl⟩⟩
    have hC := fun h => zbeb_ h
    rw [run_eq, zbbr_]
    simp -implicitDefEqProofs [zia_, h1, hg, hC, zav_, optEq]
  · refine ⟨.own 1 (bs.map bkV), ?_, .inr rfl⟩
    have hC := fun h => zbea_ h bs hn
    have h3 := zwi_ bs
    have h4 := zwj_ bs
    generalize bs.map bkV = M at *
    rw [run_eq, zbbr_]
    simp -implicitDefEqProofs [zia_, h1, hg, hC, h3, h4, noOwn, xboxR, zcy_, zav_, optEq]
structure AC where
  kd : Nat
  fr : Nat
  ct : Nat
def AC.v (a : AC) : V := .agg [v8 a.kd, v8 a.fr, v8 a.ct]
structure AC.Ok (a : AC) : Prop where
  kd : a.kd < 256
  fr : a.fr < 256
  ct : a.ct < 256
def someG (R : List SP) (a : AC) (i : Nat) : SP := R.getD ((a.fr + i) % R.length) SP.z
def someL (R : List SP) (a : AC) : List SP := if R = [] then [] else (List.range (1 + a.ct % 6)).map (someG R a)
theorem zwn_ (R : List SP) (a : AC) : (someL R a).length ≤ 6 := by
  unfold someL
  split
  · simp
  · simp; omega
theorem zwo_ {R : List SP} {a : AC} {e : SP} (h : e ∈ someL R a) : e ∈ R := by
  unfold someL at h
  split at h
  · cases h
  · rename_i hR
    obtain ⟨i, -, rfl⟩ := List.mem_map.1 h
    have : 0 < R.length := List.length_pos_iff.2 hR
    have hlt := Nat.mod_lt (a.fr + i) this
    rw [someG, List.getD_eq_getElem?_getD, List.getElem?_eq_getElem hlt]
    exact List.getElem_mem _
set_option maxHeartbeats 4000000 in
theorem zbek_ {R : List SP} (hl : R.length ≤ 1000) {a : AC} (ha : a.Ok) (h : H) : run XP zoz_ [nl R, a.v] h = some (ow (someL R a), h) := by
  have hL := fun h => ((nl_LV R).rd h).toL
  have hc := ha.ct
  have hfr := ha.fr
  have e1 : (a.ct : Int).tmod 6 = ((a.ct % 6 : Nat) : Int) := tmodN _ 6
  have w1 : IntKind.i64.wrap ((a.ct % 6 : Nat) : Int) = ((a.ct % 6 : Nat) : Int) := w64 (by omega)
  have w2 : IntKind.i64.wrap (1 + ((a.ct % 6 : Nat) : Int)) = 1 + ((a.ct % 6 : Nat) : Int) := w64 (by omega)
  have m1 : a.ct % 6 < 6 := by omega
  rw [run_eq, zbzf_]
  unfold AC.v
  by_cases hR : R = []
  · subst hR
    have e0 : nl ([] : List SP) = vnil := rfl
    have e2 : ow (someL [] a) = vnil := rfl
    have h0 : (0 : Int) < 1 + ((a.ct % 6 : Nat) : Int) := by omega
    rw [e0, e2]
    generalize a.ct % 6 = m at *
    simp -implicitDefEqProofs [zhz_]
    rw [zbv_]
    simp -implicitDefEqProofs [zpx_, e1, w1, w2, h0]
  · have hpos : 0 < R.length := List.length_pos_iff.2 hR
    have n1 := zbo_ R
    have n2 := zcw_ R
    simp -implicitDefEqProofs [zhz_, n1]
    refine zjd_ (1 + a.ct % 6) (fun i st h' => ∃ t, Sees st [(0, nl R), (3, .ptr h.length 0), (6, vi i)] ∧ h' = h ++ (.box false [v8 a.kd, v8 a.fr, v8 a.ct] :: t) ∧ OutV (st 5) h' (h.length + 1) 14 (((List.range i).map (someG R a)).map SP.v)) ?_ ?_ _ _ ?_
    · rintro B f' hB hf i st h' hi ⟨t, ⟨g0, g3, g6, -⟩, rfl, ho⟩ K
      have hlt : (i : Int) < 1 + ((a.ct % 6 : Nat) : Int) := by omega
      have hp2 : (0 : Int) < R.length := by omega
      have hne : (R.length : Int) ≠ 0 := by omega
      have hmod : (a.fr + i) % R.length < R.length := Nat.mod_lt _ hpos
      have e3 : ((a.fr : Int) + i).tmod (R.length : Int) = (((a.fr + i) % R.length : Nat) : Int) := tmodN (a.fr + i) R.length
      have hrem : xbin .rem (vk .i64 ((a.fr : Int) + i)) (vi R.length) = some (vi (((a.fr + i) % R.length : Nat) : Int)) := by rw [zbaf_ _ _ _ hne, e3]
      have w3 : IntKind.i64.wrap (a.fr : Int) = a.fr := w64 (by omega)
      have w4 : IntKind.i64.wrap ((a.fr : Int) + i) = (a.fr : Int) + i := w64 (by omega)
      have w5 : IntKind.i64.wrap (((a.fr + i) % R.length : Nat) : Int) = (((a.fr + i) % R.length : Nat) : Int) := w64 (by omega)
      have w6 : IntKind.i64.wrap ((i : Int) + 1) = (i : Int) + 1 := w64 (by omega)
      obtain ⟨x, hx⟩ : ∃ x, R[(a.fr + i) % R.length]? = some x := ⟨_, List.getElem?_eq_getElem hmod⟩
      have hat := fun h => nl_at hx h
      have eg : someG R a i = x := by rw [someG, List.getD_eq_getElem?_getD, hx]; rfl
      have hup : ((List.range (i + 1)).map (someG R a)) = ((List.range i).map (someG R a)) ++ [x] := by
        rw [List.range_succ, List.map_append, ← eg]
        simp
      obtain ⟨x', h'', hap, ho', htk, hbl⟩ := ho.grow (e := x.v) (lim := 837723144972) (by simp) (zdr_ _) (zaq_ [_]) (by simp; omega)
      obtain ⟨t', rfl⟩ : ∃ t', h'' = h ++ (.box false [v8 a.kd, v8 a.fr, v8 a.ct] :: t') := ⟨h''.drop (h.length + 1), by
        have := List.take_append_drop (h.length + 1) h''
        rw [htk] at this
        have e : (h ++ (O.box false [v8 a.kd, v8 a.fr, v8 a.ct] :: t)).take (h.length + 1) = h ++ [.box false [v8 a.kd, v8 a.fr, v8 a.ct]] := by
          rw [List.take_append, List.take_of_length_le (show h.length ≤ h.length + 1 by omega)]
          simp
        rw [e, List.append_assoc] at this
        exact this.symm⟩
      generalize (a.fr + i) % R.length = j at *
      generalize a.ct % 6 = m at *
      unfold SP.v at hat hap
      simp -implicitDefEqProofs [hB, zpx_, g0, g3, g6, e1, w1, w2, hlt, hL, hp2, hpos, hrem, w3, w4, w5, hat, hap, zan_]
      refine K _ _ ⟨t', ?_, rfl, ?_⟩
      · simp [g0, g3, w6]
      · rw [hup, List.map_append]
        simpa using ho'
    · rintro B hB st h' ⟨t, ⟨g0, g3, g6, -⟩, rfl, ho⟩
      have hlt : ¬ (((1 + a.ct % 6 : Nat) : Int) < 1 + ((a.ct % 6 : Nat) : Int)) := by omega
      have e2 : ((1 + a.ct % 6 : Nat) : Int) = 1 + ((a.ct % 6 : Nat) : Int) := by omega
      rw [e2] at g6 hlt
      have ho2 : OutV (st 5) (h ++ (.box false [v8 a.kd, v8 a.fr, v8 a.ct] :: t)) h.length 14 ((someL R a).map SP.v) := by
        rw [someL, if_neg hR]
        rcases ho with o | ⟨q, o1, o2, o3⟩
        · exact .inl o
        · exact .inr ⟨q, o1, by omega, o3⟩
      have hr := ho2.ret (zaq_ _)
      generalize a.ct % 6 = m at *
      simp -implicitDefEqProofs [hB, zpx_, g0, g3, g6, e1, w1, w2, hlt]
      simp only [hr, ow]
      simp
    · exact ⟨[], by simp, by simp, .inl ⟨by simp, by simp⟩⟩
end Go.Proofs.Sl
namespace Go.Proofs.Sl
theorem ST.lst {s : ST} (h : s.Ok) {k : Nat} {t : TR} (hk : s.ts[k]? = some t) : lv 3 (slc TR.v s.ts s.tn) = .lst 3 (s.ts.map TR.v) := by
  cases hn : s.tn with
  | true => rw [h.n hn] at hk; simp at hk
  | false => rfl
def TR.id (t : TR) (k : Nat) : Int := ((t.sl % 64 : Nat) : Int) * 1048576 + 1 + k
theorem zwp_ {s : ST} (hs : s.Ok) {k : Nat} {t : TR} (hk : s.ts[k]? = some t) (h : H) : run XP zek_ [s.v, vi k] h = some (vi (t.id k), h) := by
  have hl := hs.l
  have hkl : k < s.ts.length := (List.getElem?_eq_some_iff.1 hk).1
  have ht := hs.ts t (List.mem_of_getElem? hk)
  have hlst := ST.lst hs hk
  have e1 : (t.sl : Int).tmod 64 = ((t.sl % 64 : Nat) : Int) := tmodN _ 64
  have h1 : t.sl % 64 < 64 := by omega
  unfold TR.id ST.v
  rw [hlst]
  generalize t.sl % 64 = m at *
  have w1 : IntKind.i64.wrap (m : Int) = m := w64 (by omega)
  have w2 : IntKind.i64.wrap ((m : Int) * 2 ^ min 20 IntKind.i64.bits) = (m : Int) * 1048576 := w64 (n := (m : Int) * 1048576) (by omega)
  have w3 : IntKind.i64.wrap ((m : Int) * 1048576 + 1) = (m : Int) * 1048576 + 1 := w64 (by omega)
  have w4 : IntKind.i64.wrap ((m : Int) * 1048576 + 1 + k) = (m : Int) * 1048576 + 1 + k := w64 (by omega)
  have sY : (lv 5 (slc SY.v s.ys s.yn)).plain = true := zan_ _ _
  generalize lv 5 (slc SY.v s.ys s.yn) = Y at *
  have hq : (s.ts.map TR.v)[k]? = some t.v := by rw [List.getElem?_map, hk]; rfl
  generalize s.ts.map TR.v = L at *
  rw [run_eq, zcah_]
  unfold TR.v at hq
  simp -implicitDefEqProofs [zlu_, sY, hq, e1, w1, w2, w3, w4]
def ST.off (s : ST) (c : Nat) : Int := ([s.o0, s.o1, s.o2, s.o3].getD c 0).tmod 21
theorem ST.off_le (s : ST) (c : Nat) : -20 ≤ s.off c ∧ s.off c ≤ 20 := by
  unfold ST.off
  generalize [s.o0, s.o1, s.o2, s.o3].getD c 0 = x
  have := Int.tmod_lt_of_pos x (b := 21) (by omega)
  have := Int.lt_tmod_of_pos x (b := 21) (by omega)
  omega
theorem zbel_ {s : ST} (hs : s.Ok) {c : Nat} (hc : c < 4) (h : H) : run XP zha_ [s.v, vi (1 + c)] h = some (vi (s.off c), h) := by
  have ho := hs.o
  simp only [List.mem_cons, List.not_mem_nil, or_false, forall_eq_or_imp, forall_eq] at ho
  obtain ⟨a0, a1, a2, a3⟩ := ho
  have b0 : IntKind.i64.wrap s.o0 = s.o0 := w64 (by omega)
  have b1 : IntKind.i64.wrap s.o1 = s.o1 := w64 (by omega)
  have b2 : IntKind.i64.wrap s.o2 = s.o2 := w64 (by omega)
  have b3 : IntKind.i64.wrap s.o3 = s.o3 := w64 (by omega)
  have sT : (lv 3 (slc TR.v s.ts s.tn)).plain = true := zan_ _ _
  have sY : (lv 5 (slc SY.v s.ys s.yn)).plain = true := zan_ _ _
  unfold ST.off ST.v
  generalize lv 3 (slc TR.v s.ts s.tn) = T at *
  generalize lv 5 (slc SY.v s.ys s.yn) = Y at *
  have hcc : c = 0 ∨ c = 1 ∨ c = 2 ∨ c = 3 := by omega
  have u1 : IntKind.u64.wrap 1 = 1 := by decide
  have u2 : IntKind.u64.wrap 2 = 2 := by decide
  have u3 : IntKind.u64.wrap 3 = 3 := by decide
  have u4 : IntKind.u64.wrap 4 = 4 := by decide
  have u5 : IntKind.u64.wrap 5 = 5 := by decide
  have u6 : IntKind.u64.wrap 6 = 6 := by decide
  have u7 : IntKind.u64.wrap 7 = 7 := by decide
  rw [run_eq, zcai_]
  rcases hcc with rfl | rfl | rfl | rfl <;>
    simp -implicitDefEqProofs [zlv_, sT, sY, b0, b1, b2, b3, u1, u2, u3, u4, u5, u6, u7]
end Go.Proofs.Sl
namespace Go.Proofs.Sl
theorem zcb_ {α : Type} {v : α → V} {k : Nat} {l : List α} {n : Bool} (hn : n = true → l = []) (h : H) : (lv k (slc v l n)).toL h = some (l.map v) := by
  cases n with
  | true => rw [hn rfl]; rfl
  | false => rfl
structure ST.Pre (s : ST) : Prop where
  n : s.tn = true → s.ts = []
  l : s.ts.length ≤ 9223372036854775807
  y : s.yn = true → s.ys = []
  c : ∀ t ∈ s.ts, t.cn = true → t.cs = []
def ST.short (s : ST) : Bool := s.ts.all (fun t => decide (t.cs.length ≤ 8)) && (decide (s.ts.length ≤ 3) && decide (s.ys.length ≤ 6))
theorem zbem_ {s : ST} (hs : s.Pre) (h : H) : run XP zto_ [s.v] h = some (vb s.short, h) := by
  have sT : (lv 3 (slc TR.v s.ts s.tn)).plain = true := zan_ _ _
  have sY : (lv 5 (slc SY.v s.ys s.yn)).plain = true := zan_ _ _
  have hT := zcb_ (v := TR.v) (k := 3) hs.n
  have hY := zcb_ (v := SY.v) (k := 5) hs.y
  have hlst : s.ts ≠ [] → lv 3 (slc TR.v s.ts s.tn) = .lst 3 (s.ts.map TR.v) := fun hne => by
    cases hn : s.tn with
    | true => exact absurd (hs.n hn) hne
    | false => rfl
  have hl := hs.l
  rw [run_eq, zbzc_]
  unfold ST.v
  generalize lv 3 (slc TR.v s.ts s.tn) = T at *
  generalize lv 5 (slc SY.v s.ys s.yn) = Y at *
  simp -implicitDefEqProofs [zlk_, sT, sY]
  refine zak_ s.ts (fun k s' h' => h' = h ++ [.box false [T, .s (.int .i8 s.o0), .s (.int .i8 s.o1), .s (.int .i8 s.o2), .s (.int .i8 s.o3), Y, v8 s.wr]] ∧ Sees s' [(1, .ptr h.length 0), (3, vi k)] ∧ s.ts.all (fun t => decide (t.cs.length ≤ 8)) = (s.ts.drop k).all (fun t => decide (t.cs.length ≤ 8))) ?_ ?_ _ _ ?_
  · rintro B f hB hf k t s' h' ht hk ⟨rfl, ⟨g1, g3, -⟩, hx⟩ K
    have hlt : (k : Int) < s.ts.length := by omega
    have hne : s.ts ≠ [] := by rintro e; rw [e] at hk; simp at hk
    obtain rfl := hlst hne
    have hq : (s.ts.map TR.v)[k]? = some t.v := by rw [List.getElem?_map, ht]; rfl
    have hC := zcb_ (v := CL.v) (k := 11) (hs.c t (List.mem_of_getElem? ht))
    have sC : (lv 11 (slc CL.v t.cs t.cn)).plain = true := zan_ _ _
    have hw : IntKind.i64.wrap ((k : Int) + 1) = (k : Int) + 1 := zae_ (by omega) (by omega)
    rw [zau_ ht, List.all_cons] at hx
    have hlen : (s.ts.map TR.v).length = s.ts.length := by simp
    generalize s.ts.map TR.v = L at *
    unfold TR.v at hq
    generalize lv 11 (slc CL.v t.cs t.cn) = C at *
    by_cases h8 : t.cs.length ≤ 8
    · have h9 : ¬ 8 < (t.cs.length : Int) := by omega
      rw [decide_eq_true h8, Bool.true_and] at hx
      simp -implicitDefEqProofs [hB, zhr_, g1, g3, hT, hlen, hlt, hq, hC, h9]
      refine K _ _ ⟨rfl, ?_, hx⟩
      simp [g1, hw]
    · have h9 : 8 < (t.cs.length : Int) := by omega
      rw [decide_eq_false h8, Bool.false_and] at hx
      have hsh : s.short = false := by rw [ST.short, hx]; rfl
      simp -implicitDefEqProofs [hB, hf, zhr_, g1, g3, hT, hlen, hlt, hq, hC, h9, hsh]
  · rintro B hB s' h' ⟨rfl, ⟨g1, g3, -⟩, hx⟩
    rw [List.drop_of_length_le (Nat.le_refl _)] at hx
    have hx : s.ts.all (fun t => decide (t.cs.length ≤ 8)) = true := hx
    have hsh : s.short = (decide (s.ts.length ≤ 3) && decide (s.ys.length ≤ 6)) := by rw [ST.short, hx, Bool.true_and]
    rw [hsh]
    by_cases h3 : s.ts.length ≤ 3
    · have h4 : (s.ts.length : Int) ≤ 3 := by omega
      by_cases h5 : s.ys.length ≤ 6
      · have h6 : (s.ys.length : Int) ≤ 6 := by omega
        simp -implicitDefEqProofs [hB, zhr_, g1, g3, sT, sY, hT, hY, h3, h4, h5, h6]
      · have h6 : ¬ (s.ys.length : Int) ≤ 6 := by omega
        simp -implicitDefEqProofs [hB, zhr_, g1, g3, sT, sY, hT, hY, h3, h4, h5, h6]
    · have h4 : ¬ (s.ts.length : Int) ≤ 3 := by omega
      simp -implicitDefEqProofs [hB, zhr_, g1, g3, sT, sY, hT, hY, h3, h4]
  · exact ⟨rfl, by simp, rfl⟩
end Go.Proofs.Sl
namespace Go.Proofs.Sl
def TB (S E : List Int) : Prop := S.length = E.length ∧ ∀ (i : Nat) (x y : Int), S[i]? = some x → E[i]? = some y → 1000 ≤ x ∧ x ≤ 1031 + 31 * (i : Int) ∧ x ≤ y ∧ y ≤ 1279
theorem TB.push {S E : List Int} (h : TB S E) {x y : Int} (h1 : 1000 ≤ x) (h2 : x ≤ 1031 + 31 * (S.length : Int)) (h3 : x ≤ y) (h4 : y ≤ 1279) : TB (S ++ [x]) (E ++ [y]) := by
  refine ⟨by simp [h.1], fun i a b ha hb => ?_⟩
  by_cases hi : i < S.length
  · rw [List.getElem?_append_left hi] at ha
    rw [List.getElem?_append_left (by rw [← h.1]; exact hi)] at hb
    exact h.2 i a b ha hb
  · have hi' : i = S.length := by
      have := (List.getElem?_eq_some_iff.1 ha).1
      simp at this
      omega
    subst hi'
    rw [List.getElem?_concat_length] at ha
    rw [h.1, List.getElem?_concat_length] at hb
    obtain rfl := Option.some.inj ha
    obtain rfl := Option.some.inj hb
    exact ⟨h1, h2, h3, h4⟩
theorem TB.raise {S E : List Int} (h : TB S E) {p : Nat} {a b : Int} (ha : E[p]? = some a) (hb : a ≤ b) (hc : b ≤ 1279) : TB S (E.set p b) := by
  refine ⟨by simp [h.1], fun i x y hx hy => ?_⟩
  rw [List.getElem?_set] at hy
  split at hy
  · rename_i hp
    subst hp
    split at hy
    · obtain rfl := Option.some.inj hy
      obtain ⟨k1, k2, k3, k4⟩ := h.2 p x a hx ha
      exact ⟨k1, k2, by omega, hc⟩
    · cases hy
  · exact h.2 i x y hx hy
theorem TB.top {S E : List Int} (h : TB S E) {p : Nat} {a : Int} (ha : E[p]? = some a) : a ≤ 1279 := by
  obtain ⟨x, hx⟩ : ∃ x, S[p]? = some x := ⟨_, List.getElem?_eq_getElem (by rw [h.1]; exact (List.getElem?_eq_some_iff.1 ha).1)⟩
  exact (h.2 p x a hx ha).2.2.2
def ilv (S : List Int) : V := if S = [] then vnil else .lst 1 (S.map vi)
theorem zng_ : ∀ S : List Int, V.closed.closeds (S.map vi) = true
  | [] => rfl
  | x :: S => by rw [List.map_cons, V.closed.closeds, zng_ S]; rfl
def frm (m w k p : Nat) (S : List Int) : Int := (if p < k then S.getD p 0 else 1000 + (m : Int)) + (if 0 < k then (w : Int) else 0)
theorem frm_b {m w k p : Nat} {S E : List Int} (h : TB S E) (hk : S.length = k) (hm : m < 32) (hw : w < 32) : 1000 ≤ frm m w k p S ∧ frm m w k p S ≤ 1031 + 31 * (k : Int) := by
  unfold frm
  by_cases hp : p < k
  · have hps : p < S.length := by omega
    have h1 := h.2 p S[p] E[p]! (List.getElem?_eq_getElem hps) (by rw [List.getElem?_eq_getElem (by rw [← h.1]; exact hps), getElem!_pos E p (by rw [← h.1]; exact hps)])
    rw [if_pos hp, List.getD_eq_getElem?_getD, List.getElem?_eq_getElem hps, Option.getD_some]
    split <;> omega
  · rw [if_neg hp]
    split <;> omega
end Go.Proofs.Sl
namespace Go.Proofs.Sl
def goS (st : Nat) : Nat → List CL → List Int → List Int → List Int × List Int
  | _, [], S, E => (S, E)
  | k, c :: r, S, E => goS st (k + 1) r (S ++ [frm (st % 32) (c.wt % 32) k (c.pa % (k + 1)) S]) (E ++ [frm (st % 32) (c.wt % 32) k (c.pa % (k + 1)) S + ((c.lg % 32 : Nat) : Int)])
theorem goS_TB (st : Nat) : ∀ (k : Nat) (cs : List CL) (S E : List Int), TB S E → S.length = k → k + cs.length ≤ 8 → TB (goS st k cs S E).1 (goS st k cs S E).2 ∧ (goS st k cs S E).1.length = k + cs.length
  | k, [], S, E, h, hk, hl => ⟨h, by simpa [goS] using hk⟩
  | k, c :: r, S, E, h, hk, hl => by
    simp only [List.length_cons] at hl
    obtain ⟨b1, b2⟩ := frm_b (m := st % 32) (w := c.wt % 32) (p := c.pa % (k + 1)) h hk (by omega) (by omega)
    rw [goS]
    have := goS_TB st (k + 1) r _ _ (h.push (y := frm (st % 32) (c.wt % 32) k (c.pa % (k + 1)) S + ((c.lg % 32 : Nat) : Int)) b1 (by rw [hk]; exact b2) (by omega) (by omega)) (by simp [hk]) (by omega)
    refine ⟨this.1, by rw [this.2]; simp only [List.length_cons]; omega⟩
set_option maxHeartbeats 2000000 in
theorem zcsb_ {t : TR} (ht : t.Ok) {h : H} {C : V} (hC : t.cs ≠ [] → C = .lst 11 (t.cs.map CL.v)) (hL : ∀ h, V.toL h C = some (t.cs.map CL.v)) (sC : C.plain = true) {f : Ex × St → Option (V × H)} {w : Option (V × H)}
    (hend : ∀ S E c0 tl s, goS t.st 0 t.cs [] [] = (S, E) → Sees s [(1, .ptr h.length 0), (2, if S = [] then vnil else .ref (h.length + 2) (S.map vi).length), (3, if S = [] then vnil else .ref (h.length + 3) (E.map vi).length)] →
      f (.exit 0, ⟨s, h ++ (.box false [v8 t.sl, v8 t.st, C] :: (if S = [] then [] else c0 :: .arr false 1 (S.map vi) :: .arr false 1 (E.map vi) :: tl))⟩) = w)
    (s0 : Sl) (h1 : Sees s0 [(1, .ptr h.length 0), (2, vnil), (3, vnil), (4, vi 0)]) :
    ob (loopW (xcode (run XP) loopW h.length zhy_) ⟨s0, h ++ [.box false [v8 t.sl, v8 t.st, C]]⟩) f = w := by
  refine zak_ t.cs (fun k s h' => ∃ S E c0 tl, goS t.st k (t.cs.drop k) S E = goS t.st 0 t.cs [] [] ∧ S.length = k ∧ TB S E ∧ h' = h ++ (.box false [v8 t.sl, v8 t.st, C] :: (if S = [] then [] else c0 :: .arr false 1 (S.map vi) :: .arr false 1 (E.map vi) :: tl)) ∧
    Sees s [(1, .ptr h.length 0), (2, if S = [] then vnil else .ref (h.length + 2) (S.map vi).length), (3, if S = [] then vnil else .ref (h.length + 3) (E.map vi).length), (4, vi k)]) ?_ ?_ _ _ ?_
  · rintro B f' hB hf k c s h' hc hk ⟨S, E, c0, tl, hg, hSk, hTB, rfl, ⟨g1, g2, g3, g4, -⟩⟩ K
    have hl8 := ht.l
    have hcok := ht.cs c (List.mem_of_getElem? hc)
    have ha := hcok.a
    simp only [List.mem_cons, List.not_mem_nil, or_false, forall_eq_or_imp, forall_eq] at ha
    have hlt : (k : Int) < t.cs.length := by omega
    obtain rfl := hC (by rintro e; rw [e] at hk; simp at hk)
    have hq : (t.cs.map CL.v)[k]? = some c.v := by rw [List.getElem?_map, hc]; rfl
    have hlen : (t.cs.map CL.v).length = t.cs.length := by simp
    obtain ⟨b1, b2⟩ := frm_b (m := t.st % 32) (w := c.wt % 32) (p := c.pa % (k + 1)) hTB hSk (by omega) (by omega)
    rw [zau_ hc, goS] at hg
    have hpl : c.pa % (k + 1) ≤ k := by have := Nat.mod_lt c.pa (show 0 < k + 1 by omega); omega
    have e1 : (t.st : Int).tmod 32 = ((t.st % 32 : Nat) : Int) := tmodN _ 32
    have e2 : (c.pa : Int).tmod ((k : Int) + 1) = ((c.pa % (k + 1) : Nat) : Int) := tmodN c.pa (k + 1)
    have e3 : (c.wt : Int).tmod 32 = ((c.wt % 32 : Nat) : Int) := tmodN _ 32
    have e4 : (c.lg : Int).tmod 32 = ((c.lg % 32 : Nat) : Int) := tmodN _ 32
    have hlg : c.lg % 32 < 32 := by omega
    have hwt : c.wt % 32 < 32 := by omega
    have hst : t.st % 32 < 32 := by omega
    have hk0 : ¬ ((k : Int) + 1 = 0) := by omega
    have hpa : c.pa < 256 := ha.1
    have hTB' := hTB.push (y := frm (t.st % 32) (c.wt % 32) k (c.pa % (k + 1)) S + ((c.lg % 32 : Nat) : Int)) b1 (by rw [hSk]; exact b2) (by omega) (by omega)
    generalize hx : frm (t.st % 32) (c.wt % 32) k (c.pa % (k + 1)) S = x at *
    unfold frm at hx
    generalize t.cs.map CL.v = L at *
    unfold CL.v at hq
    generalize c.pa % (k + 1) = p at *
    generalize c.wt % 32 = wt at *
    generalize c.lg % 32 = lg at *
    generalize t.st % 32 = m at *
    have w1 : IntKind.i64.wrap (m : Int) = m := w64 (by omega)
    have w2 : IntKind.i64.wrap (1000 + (m : Int)) = 1000 + m := w64 (by omega)
    have w3 : IntKind.i64.wrap (c.pa : Int) = c.pa := w64 (by omega)
    have w4 : IntKind.i64.wrap ((k : Int) + 1) = (k : Int) + 1 := w64 (by omega)
    have w5 : IntKind.i64.wrap (wt : Int) = wt := w64 (by omega)
    have w6 : IntKind.i64.wrap (lg : Int) = lg := w64 (by omega)
    have w7 : IntKind.i64.wrap (x + (lg : Int)) = x + lg := w64 (by omega)
    by_cases hS : S = []
    · subst hS
      obtain rfl : k = 0 := by simpa using hSk.symm
      obtain rfl : E = [] := by simpa using hTB.1.symm
      obtain rfl : p = 0 := by omega
      simp only [Nat.lt_irrefl, if_false, Int.add_zero] at hx
      subst hx
      have i1 : IntKind.i64.wrap 1 = 1 := w64 (by omega)
      have hqg : ∀ hh : 0 < L.length, L[0]'hh = _ := fun _ => (List.getElem?_eq_some_iff.1 hq).2
      have hL' : ∀ h, V.toL h (.lst 11 L) = some L := fun h => rfl
      simp -implicitDefEqProofs [hB, zhy_, g1, g2, g3, g4, hL', hlen, hk, hq, hqg, e1, e2, e3, e4, w1, w2, w3, w4, w5, w6, w7, i1]
      refine K _ _ ⟨[1000 + (m : Int)], [1000 + (m : Int) + lg], _, [], hg, rfl, hTB', rfl, ?_⟩
      simp [g1]
    · have hk1 : 0 < k := by
        rcases Nat.eq_zero_or_pos k with h0 | h0
        · rw [h0] at hSk
          exact absurd (by simpa using hSk) hS
        · exact h0
      have hE : E ≠ [] := by rintro rfl; exact hS (by simpa using hTB.1)
      have hk2 : 0 < (k : Int) := by omega
      rw [if_pos hk1] at hx
      have hSl : (S.map vi).length = k := by simp [hSk]
      have hEl : (E.map vi).length = k := by simp [← hTB.1, hSk]
      rw [if_neg hS] at g2 g3 ⊢
      have hSq : p < k → (S.map vi)[p]? = some (vi (S.getD p 0)) := fun hp => by
        rw [List.getElem?_map, List.getD_eq_getElem?_getD, List.getElem?_eq_getElem (by omega)]
        rfl
      have hL' : ∀ h, V.toL h (.lst 11 L) = some L := fun h => rfl
      have hqg : ∀ hh : k < L.length, L[k]'hh = _ := fun _ => (List.getElem?_eq_some_iff.1 hq).2
      have hap : ∀ y : Int, S.map vi ++ [vi y] = (S ++ [y]).map vi := fun y => by simp
      have hap2 : ∀ y : Int, E.map vi ++ [vi y] = (E ++ [y]).map vi := fun y => by simp
      have hkl : k ≤ 17592186044415 := by omega
      have hcS := zng_ S
      have hcE := zng_ E
      by_cases hp : p < k
      · have hp' : (p : Int) < k := by omega
        have hSq' := hSq hp
        rw [if_pos hp] at hx
        generalize S.getD p 0 = y at *
        have w8' : IntKind.i64.wrap (y + (wt : Int)) = y + wt := w64 (by omega)
        subst hx
        generalize hSS : S.map vi = SS at *
        generalize hEE : E.map vi = EE at *
        have hSg : ∀ hh : p < SS.length, SS[p]'hh = _ := fun _ => (List.getElem?_eq_some_iff.1 hSq').2
        simp -implicitDefEqProofs [hB, zhy_, g1, g2, g3, g4, hL', hlen, hlt, hq, hqg, e1, e2, e3, e4, w1, w2, w3, w4, w5, w6, w7, w8', hp, hk0, hk1, hSq', hSg, hSl, hEl, hkl]
        subst hSS hEE
        refine K _ _ ⟨S ++ [y + wt], E ++ [y + wt + lg], c0, tl ++ [.box false c.v.cells], hg, by simp [hSk], hTB', ?_, ?_⟩
        · simp [CL.v, V.cells]
        · simp [g1, hSk, ← hTB.1]
      · rw [if_neg hp] at hx
        have hp2 : ¬ (p : Int) < k := by omega
        have w8' : IntKind.i64.wrap (1000 + (m : Int) + (wt : Int)) = 1000 + (m : Int) + wt := w64 (by omega)
        subst hx
        generalize hSS : S.map vi = SS at *
        generalize hEE : E.map vi = EE at *
        simp -implicitDefEqProofs [hB, zhy_, g1, g2, g3, g4, hL', hlen, hlt, hq, hqg, e1, e2, e3, e4, w1, w2, w3, w4, w5, w6, w7, w8', hp, hk0, hk1, hSl, hEl, hkl]
        subst hSS hEE
        refine K _ _ ⟨S ++ [1000 + (m : Int) + wt], E ++ [1000 + (m : Int) + wt + lg], c0, tl ++ [.box false c.v.cells], hg, by simp [hSk], hTB', ?_, ?_⟩
        · simp [CL.v, V.cells]
        · simp [g1, hSk, ← hTB.1]
  · rintro B hB s h' ⟨S, E, c0, tl, hg, hSk, hTB, rfl, ⟨g1, g2, g3, g4, -⟩⟩
    rw [List.drop_of_length_le (Nat.le_refl _)] at hg
    have hend' := hend S E c0 tl
    have hg' : goS t.st 0 t.cs [] [] = (S, E) := hg.symm
    simp -implicitDefEqProofs [hB, zhy_, g1, g4, sC, hL]
    refine hend' _ hg' ?_
    simp [g1, g2, g3]
  · exact ⟨[], [], .dead, [], rfl, rfl, ⟨rfl, fun i x y hx => by simp at hx⟩, by simp, by simpa using h1⟩
end Go.Proofs.Sl
namespace Go.Proofs.Sl
def upE (cs : List CL) (i : Nat) (E : List Int) : List Int :=
  match cs[i]? with
  | none => E
  | some c => match cs[c.pa % (i + 1)]? with
    | none => E
    | some d => if c.pa % (i + 1) < i ∧ c.kind = 3 ∧ d.kind = 2 ∧ d.fl = false then E.set (c.pa % (i + 1)) (max (E.getD (c.pa % (i + 1)) 0) (E.getD i 0)) else E
def goE (cs : List CL) : Nat → List Int → List Int
  | 0, E => E
  | i + 1, E => goE cs i (if 0 < i then upE cs i E else E)
theorem zcsc_ (cs : List CL) (i : Nat) (E : List Int) : (upE cs i E).length = E.length := by
  unfold upE
  repeat' split
  all_goals simp
theorem upE_TB {cs : List CL} {i : Nat} {S E : List Int} (h : TB S E) (hi : i < S.length) : TB S (upE cs i E) := by
  unfold upE
  split
  · exact h
  · split
    · exact h
    · split
      · rename_i c _ _ d _ hc
        have h1 : c.pa % (i + 1) < E.length := by rw [← h.1]; omega
        have h2 : i < E.length := by rw [← h.1]; omega
        have e1 := List.getElem?_eq_getElem h1
        have e2 := List.getElem?_eq_getElem h2
        have t1 := h.top e1
        have t2 := h.top e2
        rw [List.getD_eq_getElem?_getD, List.getD_eq_getElem?_getD, e1, e2, Option.getD_some, Option.getD_some]
        exact h.raise e1 (by omega) (by omega)
      · exact h
theorem goE_TB {cs : List CL} : ∀ (a : Nat) {S E : List Int}, TB S E → a ≤ S.length → TB S (goE cs a E)
  | 0, S, E, h, _ => h
  | i + 1, S, E, h, hl => by
    rw [goE]
    refine goE_TB i ?_ (by omega)
    split
    · exact upE_TB h (by omega)
    · exact h
set_option maxHeartbeats 4000000 in
theorem zcsd_ {t : TR} (ht : t.Ok) {h : H} {L : List V} (hLL : t.cs.map CL.v = L) {S : List Int} {c0 : O} {tl : H} {n : Nat} (hn : t.cs.length = n) {f : Ex × St → Option (V × H)} {w : Option (V × H)} {X : V} {a0 : Nat} {E0 : List Int} (hE0 : E0.length = n) (ha0 : 1 ≤ a0 ∧ a0 ≤ n)
    (hend : ∀ s, Sees s [(2, X), (3, .ref (h.length + 3) n)] →
      f (.exit 2, ⟨s, h ++ [.box false [v8 t.sl, v8 t.st, .lst 11 L], c0, .arr false 1 (S.map vi), .arr false 1 ((goE t.cs a0 E0).map vi)] ++ tl⟩) = w)
    (s0 : Sl) (h1 : Sees s0 [(1, .ptr h.length 0), (2, X), (3, .ref (h.length + 3) n), (8, vi ((a0 : Int) - 1))]) :
    ob (loopW (xcode (run XP) loopW h.length zdp_) ⟨s0, h ++ [.box false [v8 t.sl, v8 t.st, .lst 11 L], c0, .arr false 1 (S.map vi), .arr false 1 (E0.map vi)] ++ tl⟩) f = w := by
  refine zeh_ (σ := Nat) id (fun a s h' => ∃ E, goE t.cs a E = goE t.cs a0 E0 ∧ E.length = n ∧ 1 ≤ a ∧ a ≤ n ∧ h' = h ++ [.box false [v8 t.sl, v8 t.st, .lst 11 L], c0, .arr false 1 (S.map vi), .arr false 1 (E.map vi)] ++ tl ∧
    Sees s [(1, .ptr h.length 0), (2, X), (3, .ref (h.length + 3) n), (8, vi ((a : Int) - 1))]) ?_ a0 _ _ ⟨E0, rfl, hE0, ha0.1, ha0.2, rfl, h1⟩
  rintro B f' hB hf a s h' ⟨E, hg, hE, h1a, han, rfl, ⟨g1, g2, g3, g8, -⟩⟩ K
  have hl8 := ht.l
  by_cases ha1 : a = 1
  · subst ha1
    have hg' : E = goE t.cs a0 E0 := by rw [← hg]; rfl
    subst hg'
    simp -implicitDefEqProofs [hB, hf, zdp_, g1, g8]
    have := hend (upd (upd s 65 (vi 0)) 66 (vb false)) (by simp [g2, g3])
    simpa using this
  · obtain ⟨i, rfl⟩ : ∃ i, a = i + 2 := ⟨a - 2, by omega⟩
    obtain ⟨c, hc⟩ : ∃ c, t.cs[i + 1]? = some c := ⟨_, List.getElem?_eq_getElem (by omega)⟩
    have hcok := ht.cs c (List.mem_of_getElem? hc)
    have ha := hcok.a
    simp only [List.mem_cons, List.not_mem_nil, or_false, forall_eq_or_imp, forall_eq] at ha
    have hpl : c.pa % (i + 2) ≤ i + 1 := by have := Nat.mod_lt c.pa (show 0 < i + 2 by omega); omega
    obtain ⟨d, hd⟩ : ∃ d, t.cs[c.pa % (i + 2)]? = some d := ⟨_, List.getElem?_eq_getElem (by omega)⟩
    have hdok := ht.cs d (List.mem_of_getElem? hd)
    have hg2 : goE t.cs (i + 1) (upE t.cs (i + 1) E) = goE t.cs a0 E0 := by
      rw [← hg]
      show _ = goE t.cs (i + 1) (if 0 < i + 1 then upE t.cs (i + 1) E else E)
      rw [if_pos (Nat.succ_pos i)]
    have hul := zcsc_ t.cs (i + 1) E
    unfold upE at hg2 hul
    rw [hc] at hg2 hul
    simp only [hd] at hg2 hul
    have hK1 := fun h => zwm_ hcok h
    have hK2 := fun h => zwm_ hdok h
    have hq : L[i + 1]? = some c.v := by rw [← hLL, List.getElem?_map, hc]; rfl
    have hq2 : L[c.pa % (i + 2)]? = some d.v := by rw [← hLL, List.getElem?_map, hd]; rfl
    have hlen : L.length = n := by rw [← hLL]; simp [hn]
    have e2 : (c.pa : Int).tmod ((i : Int) + 1 + 1) = ((c.pa % (i + 2) : Nat) : Int) := tmodN c.pa (i + 2)
    have hEa : (E.map vi)[i + 1]? = some (vi (E.getD (i + 1) 0)) := by
      rw [List.getElem?_map, List.getD_eq_getElem?_getD, List.getElem?_eq_getElem (by omega)]
      rfl
    have hEb : (E.map vi)[c.pa % (i + 2)]? = some (vi (E.getD (c.pa % (i + 2)) 0)) := by
      rw [List.getElem?_map, List.getD_eq_getElem?_getD, List.getElem?_eq_getElem (by omega)]
      rfl
    have hEs : ∀ y : Int, (E.map vi).set (c.pa % (i + 2)) (vi y) = (E.set (c.pa % (i + 2)) y).map vi := fun y => by rw [List.map_set]
    have hEl : (E.map vi).length = n := by simp [hE]
    simp only [CL.v] at hK1 hK2 hq hq2
    generalize c.pa % (i + 2) = p at *
    generalize c.kind = kc at *
    generalize d.kind = kd at *
    generalize E.getD (i + 1) 0 = y1 at *
    generalize E.getD p 0 = y2 at *
    have w0 : IntKind.i64.wrap (c.pa : Int) = c.pa := w64 (by omega)
    have w1 : IntKind.i64.wrap ((i : Int) + 1 + 1) = (i : Int) + 1 + 1 := w64 (by omega)
    have hi1 : (((i + 2 : Nat) : Int) - 1) = (i : Int) + 1 := by omega
    rw [hi1] at g8
    have hi0 : 0 < (i : Int) + 1 := by omega
    have hi9 : 0 ≤ (i : Int) + 1 := by omega
    have hne : ¬ ((i : Int) + 1 + 1 = 0) := by omega
    have hnt : ((i : Int) + 1).toNat = i + 1 := by omega
    have hin : i + 1 < n := by omega
    have hwi : IntKind.i64.wrap (i : Int) = i := w64 (by omega)
    have hsub : IntKind.i64.wrap ((i : Int) + 1 - 1) = i := by rw [Int.add_sub_cancel]; exact w64 (by omega)
    by_cases hp : p < i + 1
    · have hp' : (p : Int) < (i : Int) + 1 := by omega
      have hpn : p < n := by omega
      by_cases hk1 : kc = 3
      · subst hk1
        by_cases hk2 : kd = 2
        · subst hk2
          cases hfl : d.fl with
          | false =>
            rw [hfl] at hq2 hK2
            rw [if_pos ⟨hp, rfl, rfl, hfl⟩] at hg2 hul
            have q1 : ∀ hh : i + 1 < L.length, L[i + 1]'hh = _ := fun _ => (List.getElem?_eq_some_iff.1 hq).2
            have q2 : ∀ hh : p < L.length, L[p]'hh = _ := fun _ => (List.getElem?_eq_some_iff.1 hq2).2
            generalize hEE : E.map vi = EE at *
            have q3 : ∀ hh : i + 1 < EE.length, EE[i + 1]'hh = _ := fun _ => (List.getElem?_eq_some_iff.1 hEa).2
            have q4 : ∀ hh : p < EE.length, EE[p]'hh = _ := fun _ => (List.getElem?_eq_some_iff.1 hEb).2
            simp -implicitDefEqProofs [hB, zdp_, g1, g3, g8, hq, hq2, hlen, e2, w0, w1, hi0, hi9, hne, hnt, hsub, hp, hp', hK1, hK2, hfl, hEa, hEb, hEs, hEl, hpn, hin, q1, q2, q3, q4]
            refine K (i + 1) _ _ (by simp) ⟨E.set p (max y2 y1), hg2, by rw [← hE, hul], by omega, by omega, ?_, ?_⟩
            · have hm : (if y2 < y1 then y1 else y2) = max y2 y1 := by split <;> omega
              simp
              rw [hm, hEE]
              rfl
            · simp [g1, g2, g3, hwi]
          | true =>
            rw [hfl] at hK2 hq2
            rw [if_neg (fun q => by simp [hfl] at q)] at hg2
            simp -implicitDefEqProofs [hB, zdp_, g1, g3, g8, hq, hq2, hlen, e2, w0, w1, hi0, hi9, hne, hnt, hsub, hp, hp', hK1, hK2, hfl]
            refine K (i + 1) _ _ (by simp) ⟨E, hg2, hE, by omega, by omega, by simp, ?_⟩
            simp [g1, g2, g3, hwi]
        · have hk2' : (kd == 2) = false := by simpa using hk2
          rw [if_neg (fun q => hk2 q.2.2.1)] at hg2
          simp -implicitDefEqProofs [hB, zdp_, g1, g3, g8, hq, hq2, hlen, e2, w0, w1, hi0, hi9, hne, hnt, hsub, hp, hp', hK1, hK2, hk2, hk2']
          refine K (i + 1) _ _ (by simp) ⟨E, hg2, hE, by omega, by omega, by simp, ?_⟩
          simp [g1, g2, g3, hwi]
      · have hk1' : (kc == 3) = false := by simpa using hk1
        rw [if_neg (fun q => hk1 q.2.1)] at hg2
        simp -implicitDefEqProofs [hB, zdp_, g1, g3, g8, hq, hq2, hlen, e2, w0, w1, hi0, hi9, hne, hnt, hsub, hp, hp', hK1, hK2, hk1, hk1']
        refine K (i + 1) _ _ (by simp) ⟨E, hg2, hE, by omega, by omega, by simp, ?_⟩
        simp [g1, g2, g3, hwi]
    · have hp' : ¬ (p : Int) < (i : Int) + 1 := by omega
      rw [if_neg (fun q => hp q.1)] at hg2
      simp -implicitDefEqProofs [hB, zdp_, g1, g8, hq, hlen, e2, w0, w1, hi0, hi9, hne, hnt, hsub, hp, hp']
      refine K (i + 1) _ _ (by simp) ⟨E, hg2, hE, by omega, by omega, by simp, ?_⟩
      simp [g1, g2, g3, hwi]
end Go.Proofs.Sl
namespace Go.Proofs.Sl
theorem TR.lst {t : TR} (ht : t.Ok) (hne : t.cs ≠ []) : lv 11 (slc CL.v t.cs t.cn) = .lst 11 (t.cs.map CL.v) := by
  cases hn : t.cn with
  | true => exact absurd (ht.n hn) hne
  | false => rfl
def TR.S (t : TR) : List Int := (goS t.st 0 t.cs [] []).1
def TR.E (t : TR) : List Int := goE t.cs t.cs.length (goS t.st 0 t.cs [] []).2
set_option maxHeartbeats 2000000 in
theorem zben_ {t : TR} (ht : t.Ok) (h : H) : TB t.S t.E ∧ t.S.length = t.cs.length ∧ run XP zul_ [t.v] h = some (.tup [ilv t.S, ilv t.E], h) := by
  unfold TR.S TR.E
  obtain ⟨hTB, hlen⟩ := goS_TB t.st 0 t.cs [] [] ⟨rfl, fun i x y hx => by simp at hx⟩ rfl (by have := ht.l; omega)
  rw [Nat.zero_add] at hlen
  have hTB2 := goE_TB (cs := t.cs) t.cs.length hTB (by omega)
  refine ⟨hTB2, hlen, ?_⟩
  have sC : (lv 11 (slc CL.v t.cs t.cn)).plain = true := zan_ _ _
  have hL := zcb_ (v := CL.v) (k := 11) ht.n
  have hC := TR.lst ht
  rw [run_eq, zcao_]
  unfold TR.v
  generalize lv 11 (slc CL.v t.cs t.cn) = C at *
  simp -implicitDefEqProofs [zlz_, sC]
  refine zcsb_ ht hC hL sC ?_ _ (by simp)
  rintro S E c0 tl s hg ⟨g1, g2, g3, -⟩
  rw [hg] at hTB hlen hTB2 ⊢
  simp only at hTB hlen hTB2 ⊢
  by_cases hS : S = []
  · subst hS
    have hn : t.cs = [] := List.eq_nil_of_length_eq_zero hlen.symm
    obtain rfl : E = [] := by simpa using hTB.1.symm
    rw [if_pos rfl] at g2 g3
    rw [hn] at hL ⊢
    have i1 : IntKind.i64.wrap (-1) = -1 := w64 (by omega)
    have hgo : goE ([] : List CL) ([] : List CL).length [] = [] := rfl
    rw [hgo]
    simp -implicitDefEqProofs [g1, g2, g3, sC, hL, i1, ilv]
    rw [zbv_]
    simp -implicitDefEqProofs [zdp_, g2, g3]
  · have hE : E ≠ [] := by rintro rfl; exact hS (by simpa using hTB.1)
    have hne : t.cs ≠ [] := by rintro e; rw [e] at hlen; exact hS (List.eq_nil_of_length_eq_zero hlen)
    rw [if_neg hS] at g2 g3 ⊢
    obtain rfl := hC hne
    have hl1 : 1 ≤ t.cs.length := by
      have : t.cs.length ≠ 0 := fun e => hne (List.eq_nil_of_length_eq_zero e)
      omega
    have hl8 := ht.l
    have hw : IntKind.i64.wrap ((t.cs.length : Int) - 1) = (t.cs.length : Int) - 1 := w64 (by omega)
    have hEl : (E.map vi).length = t.cs.length := by simp [← hTB.1, hlen]
    have hSl : (S.map vi).length = t.cs.length := by simp [hlen]
    rw [hEl] at g3
    rw [hSl] at g2
    simp -implicitDefEqProofs [g1, g2, g3, hw]
    have hh : h ++ (.box false [v8 t.sl, v8 t.st, .lst 11 (t.cs.map CL.v)] :: c0 :: .arr false 1 (S.map vi) :: .arr false 1 (E.map vi) :: tl) = h ++ [.box false [v8 t.sl, v8 t.st, .lst 11 (t.cs.map CL.v)], c0, .arr false 1 (S.map vi), .arr false 1 (E.map vi)] ++ tl := by simp
    rw [hh]
    refine zcsd_ (X := .ref (h.length + 2) t.cs.length) ht rfl rfl (by rw [← hTB.1, hlen]) ⟨hl1, Nat.le_refl _⟩ ?_ _ (by simp [g1, g2, g3])
    rintro s2 ⟨q2, q3, -⟩
    simp -implicitDefEqProofs [q2, q3]
    have hF : goE t.cs t.cs.length E ≠ [] := by
      intro e
      rw [e] at hTB2
      exact hS (by simpa using hTB2.1)
    have hFl : (goE t.cs t.cs.length E).length = t.cs.length := by rw [← hTB2.1, hlen]
    rw [if_neg (by omega), if_pos hlen, if_pos (zng_ _), if_neg (by omega), if_pos hFl, if_pos (zng_ _), ilv, ilv, if_neg hS, if_neg hF]
end Go.Proofs.Sl
namespace Go.Proofs.Sl
def sv4 : List ByteArray := [⟨#[97, 112, 105]⟩, ⟨#[100, 98]⟩, ⟨#[119, 101, 98]⟩, ⟨#[99, 97, 99, 104, 101]⟩]
def vr3 : List ByteArray := [⟨#[118, 49]⟩, ⟨#[118, 50]⟩, ⟨#[]⟩]
def op3 : List ByteArray := [⟨#[103, 101, 116]⟩, ⟨#[112, 117, 116]⟩, ⟨#[108, 105, 115, 116]⟩]
def mdS (id : Int) (i : Nat) (c : CL) (S : List Int) (a b : Int) : SP :=
  ⟨id, (i : Int) + 1, if c.pa % (i + 1) < i then ((c.pa % (i + 1) : Nat) : Int) + 1 else if 0 < i then 100 else 0, 0, 1 + ((c.ck % 4 : Nat) : Int), c.kind, tbl sv4 (c.sv % 4), tbl vr3 (c.vr % 3), tbl op3 (c.op % 3), a, b, c.fl, c.ats,
    if c.lk % 16 < i ∧ S.getD (c.lk % 16) 0 ≤ a then [⟨id, ((c.lk % 16 : Nat) : Int) + 1⟩] else [], false, !decide (c.lk % 16 < i ∧ S.getD (c.lk % 16) 0 ≤ a)⟩
set_option maxHeartbeats 8000000 in
theorem zcse_ {s : ST} (hs : s.Ok) {k i : Nat} {t : TR} {c : CL} (hk : s.ts[k]? = some t) (hi : t.cs[i]? = some c) {S E : List Int} {a b : Int} (ha : S[i]? = some a) (hb : E[i]? = some b) (hSl : S.length = t.cs.length) (h : H) :
    run XP zum_ [s.v, vi k, vi i, .lst 1 (S.map vi), .lst 1 (E.map vi)] h = some ((mdS (t.id k) i c S a b).v, h) := by
  have htok := hs.ts t (List.mem_of_getElem? hk)
  have hcok := htok.cs c (List.mem_of_getElem? hi)
  have hl := hs.l
  have hl8 := htok.l
  have hkl : k < s.ts.length := (List.getElem?_eq_some_iff.1 hk).1
  have hil : i < t.cs.length := (List.getElem?_eq_some_iff.1 hi).1
  have hn := hcok.a
  simp only [List.mem_cons, List.not_mem_nil, or_false, forall_eq_or_imp, forall_eq] at hn
  have hT := fun h => zwp_ hs hk h
  have hK := fun h => zwm_ hcok h
  have hA := fun h => zcrz_ hcok h
  have hCl := TR.lst htok (by rintro e; rw [e] at hi; simp at hi)
  simp only [ST.v, ST.lst hs hk] at hT
  have sY : (lv 5 (slc SY.v s.ys s.yn)).plain = true := zan_ _ _
  have hq : (s.ts.map TR.v)[k]? = some t.v := by rw [List.getElem?_map, hk]; rfl
  have hq2 : (t.cs.map CL.v)[i]? = some c.v := by rw [List.getElem?_map, hi]; rfl
  have hSa : (S.map vi)[i]? = some (vi a) := by rw [List.getElem?_map, ha]; rfl
  have hEb : (E.map vi)[i]? = some (vi b) := by rw [List.getElem?_map, hb]; rfl
  have e1 : (c.ck : Int).tmod 4 = ((c.ck % 4 : Nat) : Int) := tmodN _ 4
  have e2 : (c.sv : Int).tmod 4 = ((c.sv % 4 : Nat) : Int) := tmodN _ 4
  have e3 : (c.vr : Int).tmod 3 = ((c.vr % 3 : Nat) : Int) := tmodN _ 3
  have e4 : (c.op : Int).tmod 3 = ((c.op % 3 : Nat) : Int) := tmodN _ 3
  have e5 : (c.pa : Int).tmod ((i : Int) + 1) = ((c.pa % (i + 1) : Nat) : Int) := tmodN c.pa (i + 1)
  have e6 : (c.lk : Int).tmod 16 = ((c.lk % 16 : Nat) : Int) := tmodN _ 16
  have s1 : (sv4.map vs)[c.sv % 4]? = some (vs (tbl sv4 (c.sv % 4))) := tbl_at (by show _ < 4; omega)
  have s2 : (vr3.map vs)[c.vr % 3]? = some (vs (tbl vr3 (c.vr % 3))) := tbl_at (by show _ < 3; omega)
  have s3 : (op3.map vs)[c.op % 3]? = some (vs (tbl op3 (c.op % 3))) := tbl_at (by show _ < 3; omega)
  have hpl : c.pa % (i + 1) ≤ i := by have := Nat.mod_lt c.pa (show 0 < i + 1 by omega); omega
  have hj : c.lk % 16 < i → (S.map vi)[c.lk % 16]? = some (vi (S.getD (c.lk % 16) 0)) := fun hj => by
    rw [List.getElem?_map, List.getD_eq_getElem?_getD, List.getElem?_eq_getElem (by omega)]
    rfl
  have hck : c.ck % 4 < 4 := by omega
  have hjl : c.lk % 16 < 16 := by omega
  unfold mdS
  simp only [ST.v, ST.lst hs hk]
  generalize lv 5 (slc SY.v s.ys s.yn) = Y at *
  simp only [SP.v, slc, Bool.false_eq_true, if_false]
  generalize hats : c.ats.map AT.v = ats at *
  generalize tbl sv4 (c.sv % 4) = sv at *
  generalize tbl vr3 (c.vr % 3) = vr at *
  generalize tbl op3 (c.op % 3) = op at *
  simp only [sv4, vr3, op3, List.map_cons, List.map_nil] at s1 s2 s3
  generalize c.sv % 4 = i1 at *
  generalize c.vr % 3 = i2 at *
  generalize c.op % 3 = i3 at *
  generalize c.ck % 4 = ck at *
  generalize c.pa % (i + 1) = p at *
  generalize c.lk % 16 = j at *
  generalize S.getD j 0 = y at *
  generalize c.kind = kd at *
  generalize t.id k = tid at *
  generalize s.ts.map TR.v = L at *
  unfold TR.v at hq
  rw [hCl] at hq
  generalize t.cs.map CL.v = LC at *
  simp only [CL.v] at hK hA hq2
  generalize S.map vi = SS at *
  generalize E.map vi = EE at *
  have w1 : IntKind.i64.wrap ((i : Int) + 1) = (i : Int) + 1 := w64 (by omega)
  have w2 : IntKind.i64.wrap (ck : Int) = ck := w64 (by omega)
  have w3 : IntKind.i64.wrap (1 + (ck : Int)) = 1 + (ck : Int) := w64 (by omega)
  have w4 : IntKind.i64.wrap (c.pa : Int) = c.pa := w64 (by omega)
  have w5 : IntKind.i64.wrap ((p : Int) + 1) = (p : Int) + 1 := w64 (by omega)
  have w6 : IntKind.i64.wrap (j : Int) = j := w64 (by omega)
  have w7 : IntKind.i64.wrap ((j : Int) + 1) = (j : Int) + 1 := w64 (by omega)
  have hne : ¬ ((i : Int) + 1 = 0) := by omega
  rw [run_eq, zcap_]
  by_cases hp : p < i
  · by_cases hj1 : j < i
    · have hjq := hj hj1
      by_cases hy : y ≤ a
      · simp (maxSteps := 1000000) -implicitDefEqProofs [zct_, zav_, optEq, sY, hq, hq2, hT, hK, hA, hSa, hEb, e1, e2, e3, e4, e5, e6, s1, s2, s3, w1, w2, w3, w4, w5, w6, w7, hne, hp, hj1, hjq, hy, RF.v]
        exact ⟨rfl, rfl⟩
      · simp (maxSteps := 1000000) -implicitDefEqProofs [zct_, zav_, optEq, sY, hq, hq2, hT, hK, hA, hSa, hEb, e1, e2, e3, e4, e5, e6, s1, s2, s3, w1, w2, w3, w4, w5, w6, w7, hne, hp, hj1, hjq, hy, RF.v]
        exact ⟨rfl, rfl⟩
    · simp (maxSteps := 1000000) -implicitDefEqProofs [zct_, zav_, optEq, sY, hq, hq2, hT, hK, hA, hSa, hEb, e1, e2, e3, e4, e5, e6, s1, s2, s3, w1, w2, w3, w4, w5, w6, w7, hne, hp, hj1, RF.v]
      exact ⟨rfl, rfl⟩
  · by_cases hi0 : 0 < i
    · by_cases hj1 : j < i
      · have hjq := hj hj1
        by_cases hy : y ≤ a
        · simp (maxSteps := 1000000) -implicitDefEqProofs [zct_, zav_, optEq, sY, hq, hq2, hT, hK, hA, hSa, hEb, e1, e2, e3, e4, e5, e6, s1, s2, s3, w1, w2, w3, w4, w5, w6, w7, hne, hp, hi0, hj1, hjq, hy, RF.v]
          exact ⟨rfl, rfl⟩
        · simp (maxSteps := 1000000) -implicitDefEqProofs [zct_, zav_, optEq, sY, hq, hq2, hT, hK, hA, hSa, hEb, e1, e2, e3, e4, e5, e6, s1, s2, s3, w1, w2, w3, w4, w5, w6, w7, hne, hp, hi0, hj1, hjq, hy, RF.v]
          exact ⟨rfl, rfl⟩
      · simp (maxSteps := 1000000) -implicitDefEqProofs [zct_, zav_, optEq, sY, hq, hq2, hT, hK, hA, hSa, hEb, e1, e2, e3, e4, e5, e6, s1, s2, s3, w1, w2, w3, w4, w5, w6, w7, hne, hp, hi0, hj1, RF.v]
        exact ⟨rfl, rfl⟩
    · obtain rfl : i = 0 := by omega
      obtain rfl : p = 0 := by omega
      have hjn : ¬ (j : Int) < 0 := by omega
      have i1' : IntKind.i64.wrap 1 = 1 := w64 (by omega)
      simp (maxSteps := 1000000) -implicitDefEqProofs [zct_, zav_, optEq, sY, hq, hq2, hT, hK, hA, hSa, hEb, e1, e2, e3, e4, e5, e6, s1, s2, s3, w1, w2, w3, w4, w5, w6, w7, hne, i1', hjn, RF.v]
      exact ⟨rfl, rfl⟩
end Go.Proofs.Sl
namespace Go.Proofs.Sl
def atsN (tg : Nat) : List AT := (mats (tg / 4 % 2) ((tg : Int) - 100) (tbl zns (tg / 8 % 3))).take (tg % 4)
theorem zcsf_ : ∀ tg : Nat, tg < 256 → chkAL (atsN tg) = 0 := by decide +kernel
theorem sv4_ok : ∀ n : Nat, n < 4 → isNm (tbl sv4 n) = true := by decide +kernel
theorem vr3_ok : ∀ n : Nat, n < 3 → (decide (tbl vr3 n = eS) || isNm (tbl vr3 n)) = true := by decide +kernel
theorem op3_ok : ∀ n : Nat, n < 3 → isNm (tbl op3 n) = true := by decide +kernel
theorem sv4_sz : ∀ n : Nat, n < 4 → (tbl sv4 n).size ≤ 9223372036854775807 := by decide +kernel
theorem vr3_sz : ∀ n : Nat, n < 3 → (tbl vr3 n).size ≤ 9223372036854775807 := by decide +kernel
theorem op3_sz : ∀ n : Nat, n < 3 → (tbl op3 n).size ≤ 9223372036854775807 := by decide +kernel
structure SP.Sto (a : SP) : Prop where
  tr : 1 ≤ a.tr ∧ a.tr ≤ 64 * 1048576
  id : 1 ≤ a.id ∧ a.id ≤ 8
  par : 0 ≤ a.par ∧ a.par ≤ 100
  rev : 0 ≤ a.rev ∧ a.rev ≤ 1
  clk : 1 ≤ a.clk ∧ a.clk ≤ 4
  kind : 1 ≤ a.kind ∧ a.kind ≤ 5
  sv : isNm a.sv = true ∧ a.sv.size ≤ 9223372036854775807
  op : isNm a.op = true ∧ a.op.size ≤ 9223372036854775807
  vr : (decide (a.vr = eS) || isNm a.vr) = true ∧ a.vr.size ≤ 9223372036854775807
  tm : 900 ≤ a.st ∧ a.st ≤ a.en ∧ a.en ≤ 2000
  ats : chkAL a.ats = 0
  lks : chkLL a.lks = 0
  al : a.ats.length ≤ 3
  ll : a.lks.length ≤ 1
  an : a.an = true → a.ats = []
  ln : a.ln = true → a.lks = []
  az : ∀ e ∈ a.ats, e.Sz
theorem SP.Sto.va {a : SP} (h : a.Sto) : a.Va := by
  refine ⟨⟨h.sv.2, h.vr.2, h.op.2, h.az, h.an, h.ln⟩, ?_⟩
  obtain ⟨t1, t2⟩ := h.tr
  obtain ⟨i1, i2⟩ := h.id
  obtain ⟨p1, p2⟩ := h.par
  obtain ⟨r1, r2⟩ := h.rev
  obtain ⟨c1, c2⟩ := h.clk
  obtain ⟨k1, k2⟩ := h.kind
  obtain ⟨m1, m2, m3⟩ := h.tm
  have q1 : rngd a.tr 1 1099511627776 = true := by unfold rngd; simp; omega
  have q2 : rngd a.id 1 1099511627776 = true := by unfold rngd; simp; omega
  have q3 : rngd a.par 0 1099511627776 = true := by unfold rngd; simp; omega
  have q4 : rngd a.rev 0 1048576 = true := by unfold rngd; simp; omega
  have q5 : rngd a.clk 1 1048576 = true := by unfold rngd; simp; omega
  have q6 : rngd a.kind 1 5 = true := by unfold rngd; simp; omega
  have q7 : rngd a.st (-1099511627776) 1099511627776 = true := by unfold rngd; simp; omega
  have q8 : rngd a.en (-1099511627776) 1099511627776 = true := by unfold rngd; simp; omega
  unfold chkSp
  rw [q1, q2, q3, q4, q5, q6, q7, q8, h.sv.1, h.op.1, h.vr.1, h.ats, h.lks]
  rw [if_neg (by decide), if_neg (by decide), if_neg (by decide), if_neg (by decide), if_neg (by omega), if_neg (by omega)]
  rfl
end Go.Proofs.Sl
namespace Go.Proofs.Sl
theorem zcsg_ {r : RF} (h : okR r = true) : chkLL [r] = 0 := by
  unfold chkLL
  rw [if_neg (by simp), zvz_, zbde_, if_neg (by simp [h])]
  rfl
theorem zbeo_ : ∀ tg : Nat, tg < 256 → ∀ e ∈ atsN tg, e.key.size ≤ 9223372036854775807 ∧ e.val.t.size ≤ 9223372036854775807 := by decide +kernel
theorem zcsh_ {id : Int} {i : Nat} {c : CL} {S : List Int} {a b d : Int} (hid : 1 ≤ id ∧ id ≤ 64 * 1048576) (hi : i < 8) (hc : c.Ok) (h1 : 900 ≤ a + d) (h2 : a ≤ b) (h3 : b + d ≤ 2000)
    (hr : ∀ j : Nat, j < 16 → okR ⟨id, (j : Int) + 1⟩ = true) : ({ mdS id i c S a b with st := a + d, en := b + d } : SP).Sto := by
  have hn := hc.a
  simp only [List.mem_cons, List.not_mem_nil, or_false, forall_eq_or_imp, forall_eq] at hn
  have htg : c.tg < 256 := hc.a _ (by simp)
  have hp : c.pa % (i + 1) ≤ i := by have := Nat.mod_lt c.pa (show 0 < i + 1 by omega); omega
  have hal : (atsN c.tg).length ≤ 3 := by
    unfold atsN
    rw [List.length_take]
    exact Nat.le_trans (Nat.min_le_right _ _) (Nat.le_refl _)
  constructor
  · exact hid
  · show 1 ≤ (i : Int) + 1 ∧ (i : Int) + 1 ≤ 8
    omega
  · show 0 ≤ (if c.pa % (i + 1) < i then ((c.pa % (i + 1) : Nat) : Int) + 1 else if 0 < i then 100 else 0) ∧ (if c.pa % (i + 1) < i then ((c.pa % (i + 1) : Nat) : Int) + 1 else if 0 < i then 100 else 0) ≤ 100
    generalize c.pa % (i + 1) = p at *
    split
    · omega
    · split <;> omega
  · exact ⟨Int.le_refl _, by show (0 : Int) ≤ 1; decide⟩
  · show 1 ≤ 1 + ((c.ck % 4 : Nat) : Int) ∧ 1 + ((c.ck % 4 : Nat) : Int) ≤ 4
    omega
  · show 1 ≤ 1 + ((c.kd % 5 : Nat) : Int) ∧ 1 + ((c.kd % 5 : Nat) : Int) ≤ 5
    omega
  · exact ⟨sv4_ok _ (by omega), sv4_sz _ (by omega)⟩
  · exact ⟨op3_ok _ (by omega), op3_sz _ (by omega)⟩
  · exact ⟨vr3_ok _ (by omega), vr3_sz _ (by omega)⟩
  · exact ⟨h1, by show a + d ≤ b + d; omega, h3⟩
  · exact zcsf_ _ htg
  · show chkLL (if c.lk % 16 < i ∧ S.getD (c.lk % 16) 0 ≤ a then [⟨id, ((c.lk % 16 : Nat) : Int) + 1⟩] else []) = 0
    split
    · exact zcsg_ (hr _ (by omega))
    · rfl
  · exact hal
  · show (if c.lk % 16 < i ∧ S.getD (c.lk % 16) 0 ≤ a then [(⟨id, ((c.lk % 16 : Nat) : Int) + 1⟩ : RF)] else []).length ≤ 1
    split <;> simp
  · intro h
    cases h
  · intro h
    have h' : (!decide (c.lk % 16 < i ∧ S.getD (c.lk % 16) 0 ≤ a)) = true := h
    rw [Bool.not_eq_true'] at h'
    have h'' : ¬ (c.lk % 16 < i ∧ S.getD (c.lk % 16) 0 ≤ a) := of_decide_eq_false h'
    show (if c.lk % 16 < i ∧ S.getD (c.lk % 16) 0 ≤ a then [(⟨id, ((c.lk % 16 : Nat) : Int) + 1⟩ : RF)] else []) = []
    rw [if_neg h'']
  · intro e he
    have he : e ∈ atsN c.tg := he
    exact ⟨(zbeo_ _ htg e he).1, (zbeo_ _ htg e he).2⟩
end Go.Proofs.Sl
namespace Go.Proofs.Sl
def trD (s : ST) (k i : Nat) (c : CL) : Int := s.off (c.ck % 4) + (if 0 < s.wr ∧ s.wr % 8 = i ∧ s.wr / 8 % 3 = k then 500 else 0)
def trS (s : ST) (t : TR) (k : Nat) (S E : List Int) (i : Nat) (c : CL) : SP := { mdS (t.id k) i c S (S.getD i 0) (E.getD i 0) with st := S.getD i 0 + trD s k i c, en := E.getD i 0 + trD s k i c }
def trL (s : ST) (t : TR) (k : Nat) (S E : List Int) : Nat → List CL → List SP
  | _, [] => []
  | i, c :: r => trS s t k S E i c :: trL s t k S E (i + 1) r
theorem trD_b (s : ST) (k i : Nat) (c : CL) : -20 ≤ trD s k i c ∧ trD s k i c ≤ 520 := by
  have := s.off_le (c.ck % 4)
  unfold trD
  split <;> omega
theorem TR.id_b (t : TR) {k : Nat} (hk : k < 3) : 1 ≤ t.id k ∧ t.id k ≤ 64 * 1048576 := by
  unfold TR.id
  omega
theorem zbep_ {s : ST} {t : TR} {k : Nat} (hk : k < 3) {S E : List Int} (hTB : TB S E) (hl : S.length ≤ 8) {i : Nat} (hi : i < S.length) {c : CL} (hc : c.Ok) : (trS s t k S E i c).Sto := by
  obtain ⟨d1, d2⟩ := trD_b s k i c
  have hiE : i < E.length := by rw [← hTB.1]; exact hi
  obtain ⟨b1, b2, b3, b4⟩ := hTB.2 i _ _ (List.getElem?_eq_getElem hi) (List.getElem?_eq_getElem hiE)
  have e1 : S.getD i 0 = S[i] := by rw [List.getD_eq_getElem?_getD, List.getElem?_eq_getElem hi]; rfl
  have e2 : E.getD i 0 = E[i] := by rw [List.getD_eq_getElem?_getD, List.getElem?_eq_getElem hiE]; rfl
  obtain ⟨t1, t2⟩ := t.id_b hk
  unfold trS
  rw [e1, e2]
  refine zcsh_ ⟨t1, t2⟩ (by omega) hc (by omega) b3 (by omega) fun j hj => ?_
  unfold okR rngd
  simp
  omega
theorem zbeq_ (s : ST) (t : TR) (k : Nat) (S E : List Int) : ∀ (r : List CL) (i : Nat), (trL s t k S E i r).length = r.length
  | [], _ => rfl
  | c :: r, i => by rw [trL, List.length_cons, zbeq_ s t k S E r (i + 1), List.length_cons]
end Go.Proofs.Sl
namespace Go.Proofs.Sl
theorem ilv_eq {S : List Int} (h : S ≠ []) : ilv S = .lst 1 (S.map vi) := by rw [ilv, if_neg h]
set_option maxHeartbeats 8000000 in
theorem zcsi_ {s : ST} (hs : s.Ok) {k : Nat} {t : TR} (hk : s.ts[k]? = some t) (h : H) : run XP zph_ [s.v, vi k, vb false] h = some (ow (trL s t k t.S t.E 0 t.cs), h) := by
  have htok := hs.ts t (List.mem_of_getElem? hk)
  obtain ⟨hTB, hSl, hTm⟩ := zben_ htok (h ++ [.box false s.v.cells])
  generalize t.S = S at *
  generalize t.E = E at *
  have hl := hs.l
  have hl8 := htok.l
  have hkl : k < s.ts.length := (List.getElem?_eq_some_iff.1 hk).1
  have hlst := ST.lst hs hk
  have hM := fun {i c a b} (hi : t.cs[i]? = some c) (ha : S[i]? = some a) (hb : E[i]? = some b) h => zcse_ hs hk hi ha hb hSl h
  have hO := fun {c} (hc : c < 4) h => zbel_ hs hc h
  have hq : (s.ts.map TR.v)[k]? = some t.v := by rw [List.getElem?_map, hk]; rfl
  have sC : (lv 11 (slc CL.v t.cs t.cn)).plain = true := zan_ _ _
  have hCl := zcb_ (v := CL.v) (k := 11) htok.n
  have sY : (lv 5 (slc SY.v s.ys s.yn)).plain = true := zan_ _ _
  rw [run_eq, zcan_]
  simp only [ST.v, hlst, V.cells] at hTm hM hO ⊢
  generalize lv 5 (slc SY.v s.ys s.yn) = Y at *
  generalize s.ts.map TR.v = L at *
  unfold TR.v at hq hTm
  generalize lv 11 (slc CL.v t.cs t.cn) = C at *
  simp -implicitDefEqProofs [zly_, sY, hq, sC, hTm]
  refine zak_ t.cs (fun i s' h' => ∃ pre, OutV (s' 7) h' (h.length + 1) 14 (pre.map SP.v) ∧ pre ++ trL s t k S E i (t.cs.drop i) = trL s t k S E 0 t.cs ∧ pre.length = i ∧
    h'.take (h.length + 1) = h ++ [.box false [.lst 3 L, .s (.int .i8 s.o0), .s (.int .i8 s.o1), .s (.int .i8 s.o2), .s (.int .i8 s.o3), Y, v8 s.wr]] ∧ h.length + 1 ≤ h'.length ∧
    Sees s' [(1, vi k), (2, vb false), (3, .ptr h.length 0), (8, ilv S), (9, ilv E), (10, vi i)]) ?_ ?_ _ _ ?_
  rotate_left
  · rintro B hB s' h' ⟨pre, ho, hp, hpl, htk, hle, ⟨g1, g2, g3, g8, g9, g10, -⟩⟩
    rw [List.drop_of_length_le (Nat.le_refl _), trL, List.append_nil] at hp
    have hget : h'[h.length]? = some (.box false [.lst 3 L, .s (.int .i8 s.o0), .s (.int .i8 s.o1), .s (.int .i8 s.o2), .s (.int .i8 s.o3), Y, v8 s.wr]) := by
      have := congrArg (fun l => l[h.length]?) htk
      simpa [List.getElem?_take] using this
    have htk2 : h'.take h.length = h := by
      have := congrArg (fun l => l.take h.length) htk
      simpa [List.take_take] using this
    simp -implicitDefEqProofs [hB, zhx_, g1, g3, g10, sY, sC, hget, hq, hCl]
    have ho2 : OutV (s' 7) h' h.length 14 (pre.map SP.v) := by
      rcases ho with o | ⟨q, o1, o2, o3⟩
      · exact .inl o
      · exact .inr ⟨q, o1, by omega, o3⟩
    rw [ho2.ret (zaq_ pre), zac_, htk2, hp, ow]
    simp
  · refine ⟨[], .inl ⟨rfl, rfl⟩, rfl, rfl, ?_, ?_, ?_⟩
    · rw [List.take_of_length_le (by simp)]
    · simp
    · simp
  · rintro B f hB hf i c s' h' hc hi ⟨pre, ho, hp, hpl, htk, hle, ⟨g1, g2, g3, g8, g9, g10, -⟩⟩ K
    have hlt : (i : Int) < t.cs.length := by omega
    have hcok := htok.cs c (List.mem_of_getElem? hc)
    have hget0 : h'[h.length]? = some (.box false [.lst 3 L, .s (.int .i8 s.o0), .s (.int .i8 s.o1), .s (.int .i8 s.o2), .s (.int .i8 s.o3), Y, v8 s.wr]) := by
      have := congrArg (fun l => l[h.length]?) htk
      simpa [List.getElem?_take] using this
    have hget : ∀ tt, (h' ++ tt)[h.length]? = some (.box false [.lst 3 L, .s (.int .i8 s.o0), .s (.int .i8 s.o1), .s (.int .i8 s.o2), .s (.int .i8 s.o3), Y, v8 s.wr]) := fun tt => by
      rw [List.getElem?_append_left (by omega)]
      exact hget0
    have hSi : S[i]? = some (S.getD i 0) := by rw [List.getD_eq_getElem?_getD, List.getElem?_eq_getElem (by omega)]; rfl
    have hEi : E[i]? = some (E.getD i 0) := by rw [List.getD_eq_getElem?_getD, List.getElem?_eq_getElem (by rw [← hTB.1]; omega)]; rfl
    have hSne : S ≠ [] := by rintro rfl; simp at hSi
    have hEne : E ≠ [] := by rintro rfl; exact hSne (by simpa using hTB.1)
    have hmk := hM hc hSi hEi
    have hof := hO (c := c.ck % 4) (by omega)
    rw [ilv_eq hSne] at g8
    rw [ilv_eq hEne] at g9
    have hw8 : s.wr < 256 := hs.wr
    have e1 : (s.wr : Int).tmod 8 = ((s.wr % 8 : Nat) : Int) := tmodN _ 8
    have e2 : (s.wr : Int).tdiv 8 = ((s.wr / 8 : Nat) : Int) := tdivN _ 8
    have e3 : ((s.wr / 8 : Nat) : Int).tmod 3 = ((s.wr / 8 % 3 : Nat) : Int) := tmodN _ 3
    have w1 : IntKind.i64.wrap (s.wr : Int) = s.wr := w64 (by omega)
    have w2 : IntKind.i64.wrap ((s.wr / 8 : Nat) : Int) = ((s.wr / 8 : Nat) : Int) := w64 (by omega)
    have w3 : IntKind.i64.wrap ((i : Int) + 1) = (i : Int) + 1 := w64 (by omega)
    obtain ⟨d1, d2⟩ := trD_b s k i c
    obtain ⟨o1, o2⟩ := s.off_le (c.ck % 4)
    obtain ⟨b1, b2, b3, b4⟩ := hTB.2 i _ _ hSi hEi
    have hst := zbep_ (s := s) (t := t) (k := k) (i := i) (by omega) hTB (by omega) (by omega) hcok
    have hpx : pre ++ [trS s t k S E i c] ++ trL s t k S E (i + 1) (t.cs.drop (i + 1)) = trL s t k S E 0 t.cs := by
      rw [← hp, zau_ hc, trL]
      simp
    have htr : trS s t k S E i c = { mdS (t.id k) i c S (S.getD i 0) (E.getD i 0) with st := S.getD i 0 + trD s k i c, en := E.getD i 0 + trD s k i c } := rfl
    have x4 : (mdS (t.id k) i c S (S.getD i 0) (E.getD i 0)).clk = 1 + ((c.ck % 4 : Nat) : Int) := rfl
    have x9 : (mdS (t.id k) i c S (S.getD i 0) (E.getD i 0)).st = S.getD i 0 := rfl
    have x10 : (mdS (t.id k) i c S (S.getD i 0) (E.getD i 0)).en = E.getD i 0 := rfl
    generalize mdS (t.id k) i c S (S.getD i 0) (E.getD i 0) = x at *
    generalize trS s t k S E i c = z at *
    unfold trD at htr d1 d2
    generalize S.getD i 0 = a at *
    generalize E.getD i 0 = b at *
    generalize s.off (c.ck % 4) = of at *
    generalize c.ck % 4 = ck at *
    generalize s.wr % 8 = m8 at *
    generalize s.wr / 8 % 3 = m3 at *
    generalize s.wr / 8 = q8 at *
    obtain ⟨x', h'', hap, ho', htk', hle'⟩ := (ho.app [.box false z.v.cells]).grow (e := z.v) (lim := 837723144972) (by simp; omega) (zeo_ [z]) (zaq_ [z]) (by simp; omega)
    have htk3 : h''.take (h.length + 1) = h'.take (h.length + 1) := by rw [htk', List.take_append_of_le_length hle]
    have ho2 : OutV x' h'' (h.length + 1) 14 ((pre ++ [z]).map SP.v) := by rw [List.map_append]; exact ho'
    rw [htr] at hap
    simp only [SP.v, zoj_] at hap
    obtain ⟨xtr, xid, xpar, xrev, xclk, xkind, xsv, xvr, xop, xst, xen, xer, xats, xlks, xan, xln⟩ := x
    simp only at x4 x9 x10
    subst x4 x9 x10
    simp only [SP.v] at hmk
    by_cases hw0 : 0 < s.wr
    · by_cases hw1 : m8 = i
      · have hw1' : ((m8 : Int) == (i : Int)) = true := by simp [hw1]
        by_cases hw2 : m3 = k
        · have hw2' : ((m3 : Int) == (k : Int)) = true := by simp [hw2]
          rw [if_pos ⟨hw0, hw1, hw2⟩] at hap d1 d2
          have w4 : IntKind.i64.wrap (xst + (of + 500)) = xst + (of + 500) := w64 (by omega)
          have w5 : IntKind.i64.wrap (xen + (of + 500)) = xen + (of + 500) := w64 (by omega)
          have w6 : IntKind.i64.wrap (of + 500) = of + 500 := w64 (by omega)
          simp -implicitDefEqProofs [hB, zhx_, g1, g2, g3, g8, g9, g10, sY, sC, hget, hget0, hq, hCl, hlt, hmk, hof, e1, e2, e3, w1, w2, hw0, hw1', hw2', w4, w5, w6, hap]
          refine K _ _ ⟨pre ++ [z], ?_, hpx, by simp [hpl], by rw [htk3, htk], hle', ?_⟩
          · simpa using ho2
          · simp [g1, g2, g3, g8, g9, w3, ilv_eq hSne, ilv_eq hEne]
        · have hw2' : ((m3 : Int) == (k : Int)) = false := by simp; omega
          rw [if_neg (fun q => hw2 q.2.2)] at hap d1 d2
          have w4 : IntKind.i64.wrap (xst + of) = xst + of := w64 (by omega)
          have w5 : IntKind.i64.wrap (xen + of) = xen + of := w64 (by omega)
          simp only [Int.add_zero] at hap
          simp -implicitDefEqProofs [hB, zhx_, g1, g2, g3, g8, g9, g10, sY, sC, hget, hget0, hq, hCl, hlt, hmk, hof, e1, e2, e3, w1, w2, hw0, hw1', hw2', w4, w5, hap]
          refine K _ _ ⟨pre ++ [z], ?_, hpx, by simp [hpl], by rw [htk3, htk], hle', ?_⟩
          · simpa using ho2
          · simp [g1, g2, g3, g8, g9, w3, ilv_eq hSne, ilv_eq hEne]
      · have hw1' : ((m8 : Int) == (i : Int)) = false := by simp; omega
        rw [if_neg (fun q => hw1 q.2.1)] at hap d1 d2
        have w4 : IntKind.i64.wrap (xst + of) = xst + of := w64 (by omega)
        have w5 : IntKind.i64.wrap (xen + of) = xen + of := w64 (by omega)
        simp only [Int.add_zero] at hap
        simp -implicitDefEqProofs [hB, zhx_, g1, g2, g3, g8, g9, g10, sY, sC, hget, hget0, hq, hCl, hlt, hmk, hof, e1, e2, e3, w1, w2, hw0, hw1', w4, w5, hap]
        refine K _ _ ⟨pre ++ [z], ?_, hpx, by simp [hpl], by rw [htk3, htk], hle', ?_⟩
        · simpa using ho2
        · simp [g1, g2, g3, g8, g9, w3, ilv_eq hSne, ilv_eq hEne]
    · rw [if_neg (fun q => hw0 q.1)] at hap d1 d2
      have w4 : IntKind.i64.wrap (xst + of) = xst + of := w64 (by omega)
      have w5 : IntKind.i64.wrap (xen + of) = xen + of := w64 (by omega)
      simp only [Int.add_zero] at hap
      simp -implicitDefEqProofs [hB, zhx_, g1, g2, g3, g8, g9, g10, sY, sC, hget, hget0, hq, hCl, hlt, hmk, hof, e1, e2, e3, w1, w2, hw0, w4, w5, hap]
      refine K _ _ ⟨pre ++ [z], ?_, hpx, by simp [hpl], by rw [htk3, htk], hle', ?_⟩
      · simpa using ho2
      · simp [g1, g2, g3, g8, g9, w3, ilv_eq hSne, ilv_eq hEne]
end Go.Proofs.Sl
namespace Go.Proofs.Sl
def TQ (q : Int × List SP) : V := .agg [vi q.1, vi 1, nl q.2]
theorem zcsj_ (es : List SP) : (nl es).cell = true := by unfold nl; split <;> rfl
theorem zcsk_ (x : Int × List SP) : wide 3 [TQ x] = true := by
  have := zcsj_ x.2
  unfold TQ
  show ((true && (true && (true && ((nl x.2).cell && true)))) && true) = true
  rw [this]; rfl
theorem zqp_ : ∀ l : List (Int × List SP), wide 3 (l.map TQ) = true
  | [] => rfl
  | x :: l => by
    have := zcsk_ x
    rw [wide, wide, Bool.and_true] at this
    rw [List.map_cons, wide, zqp_ l, this]; rfl
theorem zcsl_ (q : Int × List SP) : (TQ q).closed = true := by
  unfold TQ
  simp only [V.closed, V.closed.closeds, zbdh_]
  rfl
theorem znh_ : ∀ l : List (Int × List SP), V.closed.closeds (l.map TQ) = true
  | [] => rfl
  | x :: l => by rw [List.map_cons, V.closed.closeds, znh_ l, zcsl_]; rfl
def ST.tr (s : ST) (k : Nat) (t : TR) : List SP := trL s t k t.S t.E 0 t.cs
def posT (id : Int) (L : List (Int × List SP)) : Nat → Nat
  | 0 => 0
  | n + 1 => if id < (L.getD n (0, [])).1 then posT id L n else n + 1
theorem zwq_ (id : Int) (L : List (Int × List SP)) : ∀ n, posT id L n ≤ n
  | 0 => Nat.le_refl _
  | n + 1 => by
    rw [posT]
    split
    · exact Nat.le_succ_of_le (zwq_ id L n)
    · exact Nat.le_refl _
def insT (L : List (Int × List SP)) (q : Int × List SP) : List (Int × List SP) := L.take (posT q.1 L L.length) ++ q :: L.drop (posT q.1 L L.length)
theorem zber_ (L : List (Int × List SP)) (q : Int × List SP) : (insT L q).length = L.length + 1 := by
  have := zwq_ q.1 L L.length
  unfold insT
  simp
  omega
theorem zcsm_ {L : List (Int × List SP)} {q x : Int × List SP} : x ∈ insT L q ↔ x = q ∨ x ∈ L := by
  unfold insT
  rw [List.mem_append, List.mem_cons]
  have : x ∈ L ↔ x ∈ L.take (posT q.1 L L.length) ∨ x ∈ L.drop (posT q.1 L L.length) := by
    rw [← List.mem_append, List.take_append_drop]
  rw [this]
  constructor
  · rintro (a | a | a) <;> simp [a]
  · rintro (a | a | a) <;> simp [a]
def trcs (s : ST) : Nat → List TR → List (Int × List SP) → List (Int × List SP)
  | _, [], L => L
  | k, t :: r, L => trcs s (k + 1) r (if t.cs = [] then L else insT L (t.id k, s.tr k t))
def ST.trcs (s : ST) : List (Int × List SP) := Sl.trcs s 0 s.ts []
theorem zbes_ (s : ST) : ∀ (k : Nat) (r : List TR) (L : List (Int × List SP)), (trcs s k r L).length ≤ r.length + L.length
  | _, [], L => by simp [trcs]
  | k, t :: r, L => by
    rw [trcs]
    refine Nat.le_trans (zbes_ s (k + 1) r _) ?_
    split
    · simp only [List.length_cons]; omega
    · rw [zber_]; simp only [List.length_cons]; omega
theorem zbet_ (s : ST) {q : Int × List SP} : ∀ (k : Nat) (r : List TR) (L : List (Int × List SP)), q ∈ trcs s k r L → q ∈ L ∨ ∃ j t, r[j]? = some t ∧ t.cs ≠ [] ∧ q = (t.id (k + j), s.tr (k + j) t)
  | _, [], L, h => .inl h
  | k, t :: r, L, h => by
    rw [trcs] at h
    rcases zbet_ s (k + 1) r _ h with h | ⟨j, t', h1, h2, h3⟩
    · split at h
      · exact .inl h
      · rename_i hc
        rcases zcsm_.1 h with rfl | h
        · exact .inr ⟨0, t, rfl, hc, rfl⟩
        · exact .inl h
    · exact .inr ⟨j + 1, t', by simpa using h1, h2, by rw [h3]; congr 2 <;> omega⟩
theorem zcsn_ {β : Type} {f : Ex × St → Option β} {w : Option β} {base : Nat} {h : H} {x x1 i : V} {L : List (Int × List SP)} {M : List V} (hM : L.map TQ = M) {p : Nat} {id : Int} {c1 c2 : V}
    (hx : (L = [] ∧ x = vnil) ∨ ∃ q, x = .ref q L.length ∧ h[q]? = some (.arr false 3 M)) (hl : L.length ≤ 1000)
    (h5 : h[p]? = some (.box false [vi id, c1, c2]))
    (hend : ∀ s, Sees s [(1, x1), (3, x), (4, i), (5, .ptr p 0), (6, vi (posT id L L.length))] → f (.exit 2, ⟨s, h⟩) = w)
    (s0 : Sl) (g : Sees s0 [(1, x1), (3, x), (4, i), (5, .ptr p 0), (6, vi L.length)]) : ob (loopW (xcode (run XP) loopW base zlw_) ⟨s0, h⟩) f = w := by
  have hML : M.length = L.length := by rw [← hM]; simp
  refine zeh_ (σ := Nat) (fun n => n) (fun n s h' => h' = h ∧ n ≤ L.length ∧ posT id L n = posT id L L.length ∧ Sees s [(1, x1), (3, x), (4, i), (5, .ptr p 0), (6, vi (n : Int))]) ?_ L.length _ _ ⟨rfl, Nat.le_refl _, rfl, g⟩
  rintro B f' hB hf n s h' ⟨rfl, hn, hp, g1, g3, g4, g5, g6, -⟩ K
  cases n with
  | zero =>
    rw [posT] at hp
    rw [← hp] at hend
    simp -implicitDefEqProofs [hB, hf, zlw_, g1, g3, g4, g5, g6]
    refine hend _ ?_
    simp [g1, g3, g4, g5, g6]
  | succ m =>
    have w1 : IntKind.i64.wrap (((m + 1 : Nat) : Int) - 1) = m := by rw [w64 (by omega)]; omega
    have w2 : IntKind.i64.wrap (m : Int) = m := w64 (by omega)
    have c0 : (0 : Int) < (m : Int) + 1 := by omega
    obtain ⟨a, ha⟩ : ∃ a, L[m]? = some a := ⟨_, List.getElem?_eq_getElem (by omega)⟩
    have hm : M[m]? = some (TQ a) := by rw [← hM, List.getElem?_map, ha]; rfl
    have ea : (L.getD m (0, [])).1 = a.1 := by rw [List.getD_eq_getElem?_getD, ha]; rfl
    rw [posT, ea] at hp
    unfold TQ at hm
    have hm' : ∀ hh, M[m]'hh = .agg [vi a.1, vi 1, nl a.2] := fun hh => by
      rw [List.getElem?_eq_getElem hh] at hm
      exact Option.some.inj hm
    have n1 := zcw_ a.2
    generalize nl a.2 = A at *
    have hmn : m < L.length := by omega
    generalize hn' : L.length = n' at *
    rcases hx with ⟨rfl, rfl⟩ | ⟨q, rfl, hq⟩
    · simp at ha
    · by_cases hc : id < a.1
      · rw [if_pos hc] at hp
        simp -implicitDefEqProofs [hB, hf, zlw_, g1, g3, g4, g5, g6, w1, w2, c0, hq, hML, hm, hm', hmn, hc, h5]
        refine K m _ _ (by omega) ⟨rfl, by omega, hp, ?_⟩
        simp [g1, g3, g4, g5, w1, w2]
      · rw [if_neg hc] at hp
        rw [← hp] at hend
        simp -implicitDefEqProofs [hB, hf, zlw_, g1, g3, g4, g5, g6, w1, w2, c0, hq, hML, hm, hm', hmn, hc, h5]
        refine hend _ ?_
        simp [g1, g3, g4, g5, g6]
end Go.Proofs.Sl
namespace Go.Proofs.Sl
theorem zwr_ {h : H} {k lim : Nat} {es ys : List V} {y : V} {n : Nat} (hn : es.length = n) (ey : appEls (h ++ [.arr false k es]) y = some ys) (hw : wide k ys = true) (hc : V.closed.closeds ys = true) (hl : es.length + ys.length ≤ lim) :
    zay_ (h ++ [.arr false k es]) k lim (.ref h.length n) y = some (.ref h.length (n + ys.length), h ++ [.arr false k (es ++ ys)]) := by
  subst hn
  rw [zjc_, ey, zac_, if_pos ⟨hw, hc⟩]
  simp [hl]
theorem zcso_ {h : H} {l n a b k : Nat} {z : Bool} {ws : List V} (e : h[l]? = some (.arr z k ws)) (hn : ws.length = n) (hb : b ≤ n) : V.toL h (.win l n a b) = some ((ws.take b).drop a) := by
  show (match h[l]? with
    | some (.arr _ _ es) => if es.length = n ∧ b ≤ n then some ((es.take b).drop a) else none
    | _ => none) = _
  rw [e]
  exact if_pos ⟨hn, hb⟩
theorem OutV.partK {x : V} {h : H} {b k : Nat} {es : List V} (o : OutV x h b k es) (lo hi : Option V) {p : Nat × Nat} (hb : bounds es.length lo hi = some p) (hp : p.2 ≤ es.length) : ∃ y, (∀ t, slV (h ++ t) k x lo hi = some y) ∧ ∀ t, appEls (h ++ t) y = some ((es.take p.2).drop p.1) := by
  rcases o with ⟨rfl, rfl⟩ | ⟨q, h0, h1, rfl, h3⟩
  · refine ⟨vnil, fun t => by rw [zbac_]; simp only [List.length_nil] at hb; rw [hb]; rfl, fun t => by simp⟩
  · have hq := (List.getElem?_eq_some_iff.1 h3).1
    have h4 : ∀ t, (h ++ t)[q]? = some (.arr false k es) := fun t => by rw [List.getElem?_append_left hq]; exact h3
    refine ⟨.win q es.length p.1 p.2, fun t => ?_, fun t => ?_⟩
    · have : arrN (h ++ t) q es.length = some (false, k, es) := by simp [arrN, arrAt, h4 t, zac_]
      rw [zbad_, this, zac_, if_pos rfl, hb, zac_]
    · rw [zbam_]
      exact zcso_ (h4 t) rfl hp
def owT (L : List (Int × List SP)) : V := if L = [] then vnil else .own 3 (L.map TQ)
set_option maxHeartbeats 8000000 in
theorem zcsp_ {s : ST} (hs : s.Ok) (h : H) : run XP zuj_ [s.v] h = some (owT s.trcs, h) := by
  have hl := hs.l
  have hT := zcb_ (v := TR.v) (k := 3) hs.n
  have hID : ∀ (k : Nat) (t : TR), s.ts[k]? = some t → ∀ h, run XP zek_ [s.v, vi k] h = some (vi (t.id k), h) := fun k t hk h => zwp_ hs hk h
  have hTR : ∀ (k : Nat) (t : TR), s.ts[k]? = some t → ∀ h, run XP zph_ [s.v, vi k, vb false] h = some (ow (s.tr k t), h) := fun k t hk h => zcsi_ hs hk h
  have sT : (lv 3 (slc TR.v s.ts s.tn)).plain = true := zan_ _ _
  have sY : (lv 5 (slc SY.v s.ys s.yn)).plain = true := zan_ _ _
  have hlst : s.ts ≠ [] → lv 3 (slc TR.v s.ts s.tn) = .lst 3 (s.ts.map TR.v) := fun hne => by
    cases hn : s.tn with
    | true => exact absurd (hs.n hn) hne
    | false => rfl
  rw [run_eq, zcal_]
  simp only [ST.v] at hID hTR ⊢
  generalize lv 3 (slc TR.v s.ts s.tn) = T at *
  generalize lv 5 (slc SY.v s.ys s.yn) = Y at *
  simp -implicitDefEqProofs [zlx_, sT, sY]
  refine zak_ s.ts (fun k s' h' => ∃ L, Sees s' [(1, .ptr h.length 0), (4, vi k)] ∧ h'.take (h.length + 1) = h ++ [.box false [T, .s (.int .i8 s.o0), .s (.int .i8 s.o1), .s (.int .i8 s.o2), .s (.int .i8 s.o3), Y, v8 s.wr]] ∧ h.length + 1 ≤ h'.length ∧ OutV (s' 3) h' (h.length + 1) 3 (L.map TQ) ∧ trcs s k (s.ts.drop k) L = s.trcs ∧ L.length ≤ k) ?_ ?_ _ _ ?_
  rotate_left
  · rintro B hB s' h' ⟨L, ⟨g1, g4, -⟩, htk, hle, ho, hx, hLl⟩
    rw [List.drop_of_length_le (Nat.le_refl _), trcs] at hx
    have hget : h'[h.length]? = some (.box false [T, .s (.int .i8 s.o0), .s (.int .i8 s.o1), .s (.int .i8 s.o2), .s (.int .i8 s.o3), Y, v8 s.wr]) := by
      have := congrArg (fun l => l[h.length]?) htk
      simpa [List.getElem?_take] using this
    have htk2 : h'.take h.length = h := by
      have := congrArg (fun l => l.take h.length) htk
      simpa [List.take_take] using this
    simp -implicitDefEqProofs [hB, zpu_, g1, g4, sT, sY, hget, hT]
    have ho2 : OutV (s' 3) h' h.length 3 (L.map TQ) := by
      rcases ho with o | ⟨q, o1, o2, o3⟩
      · exact .inl o
      · exact .inr ⟨q, o1, by omega, o3⟩
    rw [ho2.ret (znh_ L), zac_, htk2, ← hx, owT]
    simp
  · exact ⟨[], by simp, by rw [List.take_of_length_le (by simp)], by simp, .inl ⟨rfl, by simp⟩, rfl, by simp⟩
  · rintro B f hB hf k t s' h' ht hk ⟨L, ⟨g1, g4, -⟩, htk, hle, ho, hx, hLl⟩ K
    have hlt : (k : Int) < s.ts.length := by omega
    have htok := hs.ts t (List.mem_of_getElem? ht)
    have hne : s.ts ≠ [] := by rintro e; rw [e] at hk; simp at hk
    obtain rfl := hlst hne
    have hget0 : h'[h.length]? = some (.box false [.lst 3 (s.ts.map TR.v), .s (.int .i8 s.o0), .s (.int .i8 s.o1), .s (.int .i8 s.o2), .s (.int .i8 s.o3), Y, v8 s.wr]) := by
      have := congrArg (fun l => l[h.length]?) htk
      simpa [List.getElem?_take] using this
    have hget : ∀ tt, (h' ++ tt)[h.length]? = some (.box false [.lst 3 (s.ts.map TR.v), .s (.int .i8 s.o0), .s (.int .i8 s.o1), .s (.int .i8 s.o2), .s (.int .i8 s.o3), Y, v8 s.wr]) := fun tt => by
      rw [List.getElem?_append_left (by omega)]
      exact hget0
    have hq : (s.ts.map TR.v)[k]? = some t.v := by rw [List.getElem?_map, ht]; rfl
    have hC := zcb_ (v := CL.v) (k := 11) htok.n
    have sC : (lv 11 (slc CL.v t.cs t.cn)).plain = true := zan_ _ _
    have hw : IntKind.i64.wrap ((k : Int) + 1) = (k : Int) + 1 := w64 (by omega)
    have hid := hID k t ht
    have htr := hTR k t ht
    have hlen : (s.ts.map TR.v).length = s.ts.length := by simp
    have hxl := ho.rd.toL
    rw [zau_ ht, trcs] at hx
    generalize hX : s.tr k t = X at *
    generalize hI : t.id k = I at *
    generalize s.ts.map TR.v = M at *
    unfold TR.v at hq
    generalize lv 11 (slc CL.v t.cs t.cn) = C at *
    by_cases hc : t.cs = []
    · have h0 : ((t.cs.length : Int) == 0) = true := by rw [hc]; rfl
      rw [if_pos hc] at hx
      have h0' : t.cs.length = 0 := by rw [hc]; rfl
      simp -implicitDefEqProofs [hB, zpu_, g1, g4, hget0, hT, hlen, hlt, hq, hC, h0, h0', sC, hw, hc]
      refine K _ _ ⟨L, ?_, htk, hle, ?_, hx, by omega⟩
      · simp [g1, hw]
      · simpa using ho
    · rw [if_neg hc] at hx
      have h0 : ((t.cs.length : Int) == 0) = false := by
        have : t.cs.length ≠ 0 := by simpa using hc
        simp only [beq_eq_false_iff_ne, ne_eq]
        omega
      generalize hx3 : s' 3 = x at *
      have ho1 := ho.app [.box false [vi I, vi 1, nl X]]
      have hxl1 := ho1.rd.toL
      have hpl := zwq_ I L L.length
      have hin := fun (f : Ex × St → Option (V × H)) (w : Option (V × H)) hend s0 => zcsn_ (base := h.length) (f := f) (w := w) (h := h' ++ [.box false [vi I, vi 1, nl X]]) (x := x) (x1 := .ptr h.length 0) (i := vi k) (L := L) rfl (p := h'.length) (id := I) (c1 := vi 1) (c2 := nl X) (by
        rcases ho1 with ⟨o1, o2⟩ | ⟨q, o1, o2, o3, o4⟩
        · exact .inl ⟨by simpa using o1, o2⟩
        · exact .inr ⟨q, by simpa using o3, o4⟩) (by omega) (by simp) hend s0
      have jle : posT I L L.length ≤ (L.map TQ).length := by simpa using hpl
      have b1 : bounds (L.map TQ).length none (some (vi (posT I L L.length))) = some (0, posT I L L.length) := by simp [bounds, optNat, asNat, jle, zac_]; omega
      have b2 : bounds (L.map TQ).length (some (vi (posT I L L.length))) none = some (posT I L L.length, (L.map TQ).length) := by simp [bounds, optNat, asNat, jle, zac_]; omega
      obtain ⟨y1, sl1, ap1⟩ := ho1.partK none (some (vi (posT I L L.length))) b1 jle
      obtain ⟨y2, sl2, ap2⟩ := ho1.partK (some (vi (posT I L L.length))) none b2 (Nat.le_refl _)
      simp only [List.drop_zero, List.take_length] at ap1 ap2
      have hins : (insT L (I, X)).map TQ = (L.map TQ).take (posT I L L.length) ++ TQ (I, X) :: (L.map TQ).drop (posT I L L.length) := by
        rw [insT, List.map_append, List.map_cons, List.map_take, List.map_drop]
      have hw1 : wide 3 ((L.map TQ).take (posT I L L.length)) = true := by rw [← List.map_take]; exact zqp_ _
      have hw2 : wide 3 ((L.map TQ).drop (posT I L L.length)) = true := by rw [← List.map_drop]; exact zqp_ _
      have hc1 : V.closed.closeds ((L.map TQ).take (posT I L L.length)) = true := by rw [← List.map_take]; exact znh_ _
      have hc2 : V.closed.closeds ((L.map TQ).drop (posT I L L.length)) = true := by rw [← List.map_drop]; exact znh_ _
      have hl1 : ((L.map TQ).take (posT I L L.length)).length = posT I L L.length := by rw [List.length_take]; omega
      have hl2 : ((L.map TQ).drop (posT I L L.length)).length = L.length - posT I L L.length := by simp
      have hil := zber_ L (I, X)
      generalize posT I L L.length = P at *
      generalize (L.map TQ).take P = P1 at *
      generalize (L.map TQ).drop P = P2 at *
      have A1 := zwr_ (h := h' ++ [.box false [vi I, vi 1, nl X]]) (k := 3) (lim := 3518437208883) (es := []) (n := 0) rfl (ap1 _) hw1 hc1 (by simp; omega)
      have A2 := zwr_ (h := h' ++ [.box false [vi I, vi 1, nl X]]) (k := 3) (lim := 3518437208883) (es := P1) (y := .lst 3 [TQ (I, X)]) (ys := [TQ (I, X)]) (n := P) hl1 rfl (zqp_ [(I, X)]) (znh_ [(I, X)]) (by simp; omega)
      have A3 := zwr_ (h := h' ++ [.box false [vi I, vi 1, nl X]]) (k := 3) (lim := 3518437208883) (es := P1 ++ [TQ (I, X)]) (n := P + 1) (by simp [hl1]) (ap2 _) hw2 hc2 (by simp; omega)
      have sl3 := sl1 []
      have sl4 := sl2 []
      rw [List.append_nil] at sl3 sl4
      simp only [List.nil_append, Nat.zero_add, hl1, List.length_cons, List.length_nil, List.append_assoc, List.cons_append, List.length_append] at A1 A2 A3 sl1 sl2
      have hO : OutV (.ref (h'.length + 1) (P + 1 + P2.length)) (h' ++ [.box false [vi I, vi 1, nl X], .arr false 3 (P1 ++ TQ (I, X) :: P2)]) (h.length + 1) 3 (P1 ++ TQ (I, X) :: P2) :=
        .inr ⟨h'.length + 1, by simp, by omega, by simp [hl1]; omega, by simp⟩
      have htk2 : (h' ++ [O.box false [vi I, vi 1, nl X], .arr false 3 (P1 ++ TQ (I, X) :: P2)]).take (h.length + 1) = h ++ [.box false [.lst 3 M, .s (.int .i8 s.o0), .s (.int .i8 s.o1), .s (.int .i8 s.o2), .s (.int .i8 s.o3), Y, v8 s.wr]] := by
        rw [List.take_append_of_le_length hle, htk]
      rw [← hins] at hO htk2 A3
      generalize hP3 : (insT L (I, X)).map TQ = P3 at *
      have n1 := zcw_ X
      have n2 := zbt_ X
      have n3 := zds_ X
      unfold TQ at A2 A3
      simp -implicitDefEqProofs [hB, zpu_, g1, g4, hget0, hget, hT, hlen, hlt, hq, hC, h0, sC, sY, hw, hc, hid, htr, n1, n2, n3, zav_, optEq, hx3, hxl1]
      refine hin _ _ (fun st2 hu => ?_) _ ?_
      · obtain ⟨u1, u3, u4, u5, u6, -⟩ := hu
        simp -implicitDefEqProofs [-xread, -zjc_, -zbaq_, zcqg_, zcqh_, zcqi_, zcqk_, u1, u3, u4, u5, u6, sl1, sl2, sl3, sl4, A1, A2, A3, n1, n2, zav_, optEq]
        refine K _ _ ⟨insT L (I, X), ?_, htk2, by simp; omega, ?_, hx, by omega⟩
        · simp [u1, u4, hw]
        · rw [hP3]
          simpa using hO
      · simp [g1, g4, hx3]
end Go.Proofs.Sl
namespace Go.Proofs.Sl
def nlT (L : List (Int × List SP)) : V := if L = [] then vnil else .lst 3 (L.map TQ)
theorem zcsq_ (L : List (Int × List SP)) : res0 (owT L) = nlT L := by unfold owT nlT; split <;> rfl
theorem nlT_rd (L : List (Int × List SP)) (h : H) : Rd h 3 (nlT L) (L.map TQ) := by
  unfold nlT
  split
  · rename_i e; rw [e]; exact .nil
  · exact .lst _
theorem nlT_at {L : List (Int × List SP)} {k : Nat} {a : Int × List SP} (ha : L[k]? = some a) (h : H) : iaddrV h 3 (nlT L) k = some (.fptr (TQ a) 0) := by
  have : L ≠ [] := by rintro rfl; simp at ha
  rw [nlT, if_neg this]
  have h2 : (L.map TQ)[k]? = some (TQ a) := by rw [List.getElem?_map, ha]; rfl
  rw [zgt_, if_pos rfl, h2, zac_]
def ST.spans (s : ST) : List SP := (s.trcs.map Prod.snd).flatten
theorem zbeu_ {s : ST} (hs : s.Ok) {q : Int × List SP} (h : q ∈ s.trcs) : ∃ k t, k < 3 ∧ s.ts[k]? = some t ∧ t.cs ≠ [] ∧ q = (t.id k, s.tr k t) := by
  rcases zbet_ s 0 s.ts [] h with h | ⟨j, t, h1, h2, h3⟩
  · simp at h
  · have := (List.getElem?_eq_some_iff.1 h1).1
    have := hs.l
    rw [Nat.zero_add] at h3
    exact ⟨j, t, by omega, h1, h2, h3⟩
theorem tr_len (s : ST) (k : Nat) (t : TR) : (s.tr k t).length = t.cs.length := zbeq_ _ _ _ _ _ _ _
theorem zbev_ {s : ST} (hs : s.Ok) : s.trcs.length ≤ 3 := by
  have h1 := zbes_ s 0 s.ts []
  have h2 := hs.l
  simp only [List.length_nil] at h1
  unfold ST.trcs
  omega
theorem flat8 : ∀ {l : List (List SP)}, (∀ e ∈ l, e.length ≤ 8) → l.flatten.length ≤ 8 * l.length
  | [], _ => by simp
  | a :: l, h => by
    have h1 := h a (by simp)
    have h2 := flat8 (l := l) fun e he => h e (by simp [he])
    simp only [List.flatten_cons, List.length_append, List.length_cons]
    omega
theorem zws_ {s : ST} (hs : s.Ok) : s.spans.length ≤ 24 := by
  have h1 : ∀ e ∈ s.trcs.map Prod.snd, e.length ≤ 8 := fun e he => by
    obtain ⟨q, hq, rfl⟩ := List.mem_map.1 he
    obtain ⟨k, t, h1, h2, h3, rfl⟩ := zbeu_ hs hq
    show (s.tr k t).length ≤ 8
    rw [tr_len]
    exact (hs.ts t (List.mem_of_getElem? h2)).l
  have h2 := flat8 h1
  have h3 := zbev_ hs
  rw [List.length_map] at h2
  unfold ST.spans
  omega
set_option maxHeartbeats 4000000 in
theorem zcsr_ {s : ST} (hs : s.Ok) (h : H) : run XP zuh_ [s.v] h = some (ow s.spans, h) := by
  have hT := fun h => zcsp_ hs h
  have hle := zbev_ hs
  have hsl := zws_ hs
  have sT : (lv 3 (slc TR.v s.ts s.tn)).plain = true := zan_ _ _
  have sY : (lv 5 (slc SY.v s.ys s.yn)).plain = true := zan_ _ _
  rw [run_eq, zcag_]
  simp only [ST.v] at hT ⊢
  generalize lv 3 (slc TR.v s.ts s.tn) = T at *
  generalize lv 5 (slc SY.v s.ys s.yn) = Y at *
  unfold ST.spans at *
  generalize s.trcs = L at *
  have hL := fun h => (nlT_rd L h).toL
  simp -implicitDefEqProofs [zlt_, sT, sY, hT, zcsq_]
  refine zak_ L (fun k s' h' => ∃ t, Sees s' [(4, nlT L), (5, vi k)] ∧ h' = h ++ t ∧ OutV (s' 3) h' h.length 14 (((L.map Prod.snd).take k).flatten.map SP.v)) ?_ ?_ _ _ ?_
  rotate_left
  · rintro B hB s' h' ⟨t, ⟨g4, g5, -⟩, rfl, ho⟩
    rw [List.take_of_length_le (by simp)] at ho
    have hr := ho.ret (zaq_ _)
    generalize (L.map Prod.snd).flatten = Z at *
    simp -implicitDefEqProofs [hB, zuu_, g4, g5, hL]
    simp only [hr, ow]
    simp
  · exact ⟨_, by simp, rfl, .inl ⟨by simp, by simp⟩⟩
  · rintro B f hB hf k q s' h' hq hk ⟨t, ⟨g4, g5, -⟩, rfl, ho⟩ K
    have hlt : (k : Int) < L.length := by omega
    have hat := nlT_at hq (h ++ t)
    have hqs : (L.map Prod.snd)[k]? = some q.2 := by rw [List.getElem?_map, hq]; rfl
    have hf := zga_ hqs
    have hfl := zii_ (xs := L.map Prod.snd) (k + 1)
    rw [hf, List.length_append] at hfl
    have hw : IntKind.i64.wrap ((k : Int) + 1) = (k : Int) + 1 := w64 (by omega)
    obtain ⟨x', h'', hap, ho', htk, hbl⟩ := ho.grows (lim := 837723144972) (y := nl q.2) ((nl_LV q.2).rd _).appEls (by simp) (zeo_ q.2) (zaq_ q.2) (by simp only [List.length_map]; omega)
    have htk' : ∃ t', h'' = h ++ t' := ⟨h''.drop h.length, by
      have := List.take_append_drop h.length h''
      rw [htk, List.take_left] at this
      exact this.symm⟩
    obtain ⟨t', rfl⟩ := htk'
    have n1 := zcw_ q.2
    unfold TQ at hat
    generalize nl q.2 = A at *
    simp -implicitDefEqProofs [hB, zuu_, g4, g5, hL, hlt, hat, n1, hap]
    refine K _ _ ⟨t', ?_, rfl, ?_⟩
    · simp [g4, hw]
    · rw [hf, List.map_append]
      simpa using ho'
end Go.Proofs.Sl
namespace Go.Proofs.Sl
def finB (a : SP) : Nat → List TR → Bool
  | _, [] => false
  | k, t :: r => (decide (t.cs ≠ []) && (decide (t.id k = a.tr) && (match t.cs[(a.id - 1).toNat]? with
    | some c => decide (c.tg % 2 = 1)
    | none => false))) || finB a (k + 1) r
def revd (b : Bool) (a : SP) : SP := if b = true then { a with rev := 1 } else a
theorem zbew_ (b : Bool) (a : SP) : (revd b a).tr = a.tr := by cases b <;> rfl
theorem zcss_ (b : Bool) (a : SP) : (revd b a).id = a.id := by cases b <;> rfl
theorem zcst_ (b : Bool) (a : SP) : { revd b a with rev := 1 } = revd true a := by cases b <;> rfl
set_option maxHeartbeats 8000000 in
theorem zcsu_ {β : Type} {f : Ex × St → Option β} {w : Option β} {base : Nat} {s : ST} (hs : s.Ok) {H0 : H} {T Y : V} {M : List V} {i n : Nat} (hi : i < M.length) (hn : M.length = n) (hn2 : n ≤ 1000) {a : SP}
    (hT : ∀ h, T.toL h = some (s.ts.map TR.v)) (hTl : s.ts ≠ [] → T = .lst 3 (s.ts.map TR.v)) (sT : T.plain = true) (sY : Y.plain = true)
    (hID : ∀ (k : Nat) (t : TR), s.ts[k]? = some t → ∀ h, run XP zek_ [.agg [T, .s (.int .i8 s.o0), .s (.int .i8 s.o1), .s (.int .i8 s.o2), .s (.int .i8 s.o3), Y, v8 s.wr], vi k] h = some (vi (t.id k), h))
    (hid : ∀ (k : Nat) (t : TR), s.ts[k]? = some t → t.id k = a.tr → ∃ j c, a.id = ((j : Nat) : Int) + 1 ∧ j < 8 ∧ t.cs[j]? = some c)
    (hend : ∀ st, Sees st [(1, .ptr H0.length 0), (3, .ref (H0.length + 1) n), (4, vi i)] → f (.exit 2, ⟨st, H0 ++ [.box false [T, .s (.int .i8 s.o0), .s (.int .i8 s.o1), .s (.int .i8 s.o2), .s (.int .i8 s.o3), Y, v8 s.wr], .arr false 14 (M.set i (revd (finB a 0 s.ts) a).v)]⟩) = w)
    (s0 : Sl) (g : Sees s0 [(1, .ptr H0.length 0), (3, .ref (H0.length + 1) n), (4, vi i), (5, vi 0)]) :
    ob (loopW (xcode (run XP) loopW base zfs_) ⟨s0, H0 ++ [.box false [T, .s (.int .i8 s.o0), .s (.int .i8 s.o1), .s (.int .i8 s.o2), .s (.int .i8 s.o3), Y, v8 s.wr], .arr false 14 (M.set i (revd false a).v)]⟩) f = w := by
  have hl := hs.l
  refine zak_ s.ts (fun k st h' => ∃ b, h' = H0 ++ [.box false [T, .s (.int .i8 s.o0), .s (.int .i8 s.o1), .s (.int .i8 s.o2), .s (.int .i8 s.o3), Y, v8 s.wr], .arr false 14 (M.set i (revd b a).v)] ∧ Sees st [(1, .ptr H0.length 0), (3, .ref (H0.length + 1) n), (4, vi i), (5, vi k)] ∧ (b || finB a k (s.ts.drop k)) = finB a 0 s.ts) ?_ ?_ _ _ ?_
  rotate_left
  · rintro B hB st h' ⟨b, rfl, ⟨g1, g3, g4, g5, -⟩, hx⟩
    rw [List.drop_of_length_le (Nat.le_refl _), finB, Bool.or_false] at hx
    subst hx
    simp -implicitDefEqProofs [hB, zfs_, g1, g3, g4, g5, sT, sY, hT]
    refine hend _ ?_
    simp [g1, g3, g4]
  · exact ⟨false, rfl, by simpa using g, by simp⟩
  · rintro B f' hB hf k t st h' ht hk ⟨b, rfl, ⟨g1, g3, g4, g5, -⟩, hx⟩ K
    have hlt : (k : Int) < s.ts.length := by omega
    have htok := hs.ts t (List.mem_of_getElem? ht)
    have hne : s.ts ≠ [] := by rintro e; rw [e] at hk; simp at hk
    obtain rfl := hTl hne
    have hq : (s.ts.map TR.v)[k]? = some t.v := by rw [List.getElem?_map, ht]; rfl
    have hC := zcb_ (v := CL.v) (k := 11) htok.n
    have hCl := TR.lst htok
    have sC : (lv 11 (slc CL.v t.cs t.cn)).plain = true := zan_ _ _
    have hw : IntKind.i64.wrap ((k : Int) + 1) = (k : Int) + 1 := w64 (by omega)
    have hidt := hID k t ht
    have hj := hid k t ht
    have hlen : (s.ts.map TR.v).length = s.ts.length := by simp
    rw [zau_ ht, finB] at hx
    have sA : (lv 4 (slc AT.v (revd b a).ats (revd b a).an)).plain = true := zan_ _ _
    have sL : (lv 2 (slc RF.v (revd b a).lks (revd b a).ln)).plain = true := zan_ _ _
    have hNi : (M.set i (revd b a).v)[i]? = some (revd b a).v := List.getElem?_set_self hi
    have hNl : (M.set i (revd b a).v).length = n := by rw [List.length_set, hn]
    have hNs : (M.set i (revd b a).v).set i (revd true a).v = M.set i (revd true a).v := List.set_set ..
    have hNs0 : b = true → M.set i (revd b a).v = M.set i (revd true a).v := fun e => by rw [e]
    have hrv : (revd true a).v = V.agg [vi (revd b a).tr, vi (revd b a).id, vi (revd b a).par, vi 1, vi (revd b a).clk, vi (revd b a).kind, vs (revd b a).sv, vs (revd b a).vr, vs (revd b a).op, vi (revd b a).st, vi (revd b a).en, vb (revd b a).er, lv 4 (slc AT.v (revd b a).ats (revd b a).an), lv 2 (slc RF.v (revd b a).lks (revd b a).ln)] := by
      rw [← zcst_ b a]
      rfl
    have etr := zbew_ b a
    have eid := zcss_ b a
    have hin : (i : Int) < n := by omega
    generalize hN : M.set i (revd b a).v = N at *
    generalize t.id k = I at *
    generalize s.ts.map TR.v = LT at *
    unfold TR.v at hq
    generalize hcu : revd b a = cu at *
    unfold SP.v at hNi
    have hNi' : ∀ hh, N[i]'hh = V.agg [vi cu.tr, vi cu.id, vi cu.par, vi cu.rev, vi cu.clk, vi cu.kind, vs cu.sv, vs cu.vr, vs cu.op, vi cu.st, vi cu.en, vb cu.er, lv 4 (slc AT.v cu.ats cu.an), lv 2 (slc RF.v cu.lks cu.ln)] := fun hh => by
      have h2 := hNi
      rw [List.getElem?_eq_getElem hh] at h2
      exact Option.some.inj h2
    have hin' : i < n := by omega
    generalize lv 4 (slc AT.v cu.ats cu.an) = A at *
    generalize lv 2 (slc RF.v cu.lks cu.ln) = Lk at *
    by_cases hc : t.cs = []
    · have h0 : ¬ (0 : Int) < t.cs.length := by rw [hc]; simp
      have hc0 : t.cs.length = 0 := by rw [hc]; rfl
      generalize lv 11 (slc CL.v t.cs t.cn) = C at *
      rw [decide_eq_false (by simpa using hc), Bool.false_and, Bool.false_or] at hx
      simp -implicitDefEqProofs [hB, zfs_, g1, g3, g4, g5, sY, hT, hlen, hlt, hq, hC, h0, hc0, hc, sC, hw, zav_, optEq]
      refine K _ _ ⟨b, ?_, ?_, hx⟩
      · rw [hcu, hN]
      · simp [g1, g3, g4, hw]
    · have h0 : (0 : Int) < t.cs.length := by
        have : t.cs.length ≠ 0 := by simpa using hc
        omega
      have h0' : 0 < t.cs.length := by omega
      obtain hCe := hCl hc
      generalize lv 11 (slc CL.v t.cs t.cn) = C at *
      subst hCe
      rw [decide_eq_true (by simpa using hc), Bool.true_and] at hx
      by_cases hI : I = a.tr
      · obtain ⟨j, c, e1, e2, e3⟩ := hj hI
        have hcv : (t.cs.map CL.v)[j]? = some c.v := by rw [List.getElem?_map, e3]; rfl
        have hI2 : (I == cu.tr) = true := by rw [etr, hI]; simp
        have e4 : (a.id - 1).toNat = j := by omega
        have e5 : IntKind.i64.wrap (cu.id - 1) = j := by rw [w64 (by omega)]; omega
        have e6 : (c.tg : Int).tmod 2 = ((c.tg % 2 : Nat) : Int) := tmodN _ 2
        rw [decide_eq_true hI, Bool.true_and, e4, e3] at hx
        simp only at hx
        have hcl : (t.cs.map CL.v).length = t.cs.length := by simp
        generalize t.cs.map CL.v = LC at *
        unfold CL.v at hcv
        by_cases hg : c.tg % 2 = 1
        · have hg2 : (((c.tg % 2 : Nat) : Int) == 1) = true := by rw [hg]; rfl
          rw [decide_eq_true hg, Bool.true_or, Bool.or_true] at hx
          generalize c.tg % 2 = g2 at *
          simp -implicitDefEqProofs [hB, zfs_, g1, g3, g4, g5, sY, hT, hlen, hlt, hq, hC, h0, h0', hcl, sC, hw, hidt, hNi, hNi', hin', hNl, hI2, e5, e6, hcv, hg2, zav_, optEq]
          refine K _ _ ⟨true, ?_, ?_, ?_⟩
          · have hNs2 : N.set i (putEl 3 [V.s (Value.int IntKind.i64 1)] (V.agg [vi cu.tr, vi cu.id, vi cu.par, vi cu.rev, vi cu.clk, vi cu.kind, vs cu.sv, vs cu.vr, vs cu.op, vi cu.st, vi cu.en, vb cu.er, A, Lk])) = M.set i (revd true a).v := by
              rw [← hNs, hrv]
              rfl
            rw [hNs2]
          · simp [g1, g3, g4, hw]
          · rw [← hx]; rfl
        · have hg2 : (((c.tg % 2 : Nat) : Int) == 1) = false := by simp; omega
          rw [decide_eq_false hg, Bool.false_or] at hx
          generalize c.tg % 2 = g2 at *
          simp -implicitDefEqProofs [hB, zfs_, g1, g3, g4, g5, sY, hT, hlen, hlt, hq, hC, h0, h0', hcl, sC, hw, hidt, hNi, hNi', hin', hNl, hI2, e5, e6, hcv, hg2, zav_, optEq]
          refine K _ _ ⟨b, ?_, ?_, hx⟩
          · rw [hcu, hN]
          · simp [g1, g3, g4, hw]
      · have hI2 : (I == cu.tr) = false := by rw [etr]; simpa using hI
        rw [decide_eq_false hI, Bool.false_and, Bool.false_or] at hx
        simp -implicitDefEqProofs [hB, zfs_, g1, g3, g4, g5, sY, hT, hlen, hlt, hq, hC, h0, h0', sC, hw, hidt, hNi, hNi', hin', hNl, hI2, zav_, optEq]
        refine K _ _ ⟨b, ?_, ?_, hx⟩
        · rw [hcu, hN]
        · simp [g1, g3, g4, hw]
end Go.Proofs.Sl
namespace Go.Proofs.Sl
theorem zbex_ {s : ST} {t : TR} {k : Nat} {S E : List Int} {a : SP} : ∀ (r : List CL) (i : Nat), a ∈ trL s t k S E i r → ∃ j c, r[j]? = some c ∧ a = trS s t k S E (i + j) c
  | [], i, h => by simp [trL] at h
  | c :: r, i, h => by
    rw [trL, List.mem_cons] at h
    rcases h with rfl | h
    · exact ⟨0, c, rfl, rfl⟩
    · obtain ⟨j, c', h1, h2⟩ := zbex_ r (i + 1) h
      exact ⟨j + 1, c', by simpa using h1, by rw [h2]; congr 1; omega⟩
theorem zbey_ {s : ST} (hs : s.Ok) {a : SP} (h : a ∈ s.spans) : ∃ k t j c, k < 3 ∧ s.ts[k]? = some t ∧ t.cs[j]? = some c ∧ a = trS s t k t.S t.E j c := by
  unfold ST.spans at h
  obtain ⟨l, hl, ha⟩ := List.mem_flatten.1 h
  obtain ⟨q, hq, rfl⟩ := List.mem_map.1 hl
  obtain ⟨k, t, h1, h2, h3, rfl⟩ := zbeu_ hs hq
  obtain ⟨j, c, h4, h5⟩ := zbex_ _ _ ha
  exact ⟨k, t, j, c, h1, h2, h4, by rw [h5, Nat.zero_add]⟩
theorem trS_tr (s : ST) (t : TR) (k : Nat) (S E : List Int) (i : Nat) (c : CL) : (trS s t k S E i c).tr = t.id k ∧ (trS s t k S E i c).id = (i : Int) + 1 ∧ (trS s t k S E i c).rev = 0 ∧ (trS s t k S E i c).clk = 1 + ((c.ck % 4 : Nat) : Int) := ⟨rfl, rfl, rfl, rfl⟩
theorem id_inj {s : ST} {k j : Nat} {t u : TR} (hk : k < 3) (hj : j < 3) (h1 : s.ts[k]? = some t) (h2 : s.ts[j]? = some u) (e : t.id k = u.id j) : k = j ∧ t = u := by
  unfold TR.id at e
  have : k = j := by omega
  subst this
  rw [h1] at h2
  exact ⟨rfl, Option.some.inj h2⟩
def ST.final (s : ST) : List SP := s.spans.map fun a => revd (finB a 0 s.ts) a
def finM (ts : List TR) (L : List SP) (k : Nat) : List V := ((L.take k).map (fun a => revd (finB a 0 ts) a) ++ L.drop k).map SP.v
theorem zbez_ (ts : List TR) (L : List SP) (k : Nat) : (finM ts L k).length = L.length := by
  unfold finM
  simp only [List.length_map, List.length_append, List.length_take, List.length_drop]
  omega
theorem zcsv_ {ts : List TR} {L : List SP} {k : Nat} {a : SP} (h : L[k]? = some a) : (finM ts L k).set k (revd false a).v = finM ts L k ∧ (finM ts L k).set k (revd (finB a 0 ts) a).v = finM ts L (k + 1) := by
  have hk := (List.getElem?_eq_some_iff.1 h).1
  have e : ∀ x : V, (finM ts L k).set k x = ((L.take k).map (fun a => revd (finB a 0 ts) a)).map SP.v ++ x :: (L.drop (k + 1)).map SP.v := fun x => by
    unfold finM
    have hl : (((L.take k).map (fun a => revd (finB a 0 ts) a)).map SP.v).length = k := by simp; omega
    rw [zau_ h, List.map_append, List.map_cons, List.set_append_right _ _ (by omega), hl, Nat.sub_self, List.set_cons_zero]
  refine ⟨?_, ?_⟩
  · rw [e]
    unfold finM
    rw [zau_ h, List.map_append, List.map_cons]
    rfl
  · rw [e]
    unfold finM
    rw [zfy_ h, List.map_append, List.map_append, List.map_append]
    simp
set_option maxHeartbeats 8000000 in
theorem zcsw_ {s : ST} (hs : s.Ok) (h : H) : run XP zuc_ [s.v] h = some (ow s.final, h) := by
  have hSp := fun h => zcsr_ hs h
  have hsl := zws_ hs
  have hok := fun a ha => zbey_ hs (a := a) ha
  have hT := zcb_ (v := TR.v) (k := 3) hs.n
  have hID : ∀ (k : Nat) (t : TR), s.ts[k]? = some t → ∀ h, run XP zek_ [s.v, vi k] h = some (vi (t.id k), h) := fun k t hk h => zwp_ hs hk h
  have sT : (lv 3 (slc TR.v s.ts s.tn)).plain = true := zan_ _ _
  have sY : (lv 5 (slc SY.v s.ys s.yn)).plain = true := zan_ _ _
  have hlst : s.ts ≠ [] → lv 3 (slc TR.v s.ts s.tn) = .lst 3 (s.ts.map TR.v) := fun hne => by
    cases hn : s.tn with
    | true => exact absurd (hs.n hn) hne
    | false => rfl
  rw [run_eq, zbzz_]
  simp only [ST.v] at hID hSp ⊢
  generalize lv 3 (slc TR.v s.ts s.tn) = T at *
  generalize lv 5 (slc SY.v s.ys s.yn) = Y at *
  unfold ST.final
  generalize s.spans = L at *
  by_cases hL : L = []
  · subst hL
    have e1 : ow ([] : List SP) = vnil := rfl
    rw [e1] at hSp
    simp -implicitDefEqProofs [zhw_, sT, sY, hSp, e1]
    rw [zbv_]
    simp -implicitDefEqProofs [zps_]
  · have e1 : ow L = .own 14 (L.map SP.v) := by rw [ow, if_neg hL]
    rw [e1] at hSp
    have hm0 : finM s.ts L 0 = L.map SP.v := rfl
    simp -implicitDefEqProofs [zhw_, sT, sY, hSp]
    refine zak_ L (fun k st h' => h' = h ++ [.box false [T, .s (.int .i8 s.o0), .s (.int .i8 s.o1), .s (.int .i8 s.o2), .s (.int .i8 s.o3), Y, v8 s.wr], .arr false 14 (finM s.ts L k)] ∧ Sees st [(1, .ptr h.length 0), (3, .ref (h.length + 1) L.length), (4, vi k)]) ?_ ?_ _ _ ?_
    rotate_left
    · rintro B hB st h' ⟨rfl, ⟨g1, g3, g4, -⟩⟩
      have hfl := zbez_ s.ts L L.length
      have hF : finM s.ts L L.length = (L.map fun a => revd (finB a 0 s.ts) a).map SP.v := by
        unfold finM
        rw [List.take_length, List.drop_length, List.append_nil]
      have hcl := zaq_ (L.map fun a => revd (finB a 0 s.ts) a)
      rw [← hF] at hcl
      have hne : L.map (fun a => revd (finB a 0 s.ts) a) ≠ [] := by simpa using hL
      rw [ow, if_neg hne, ← hF]
      simp -implicitDefEqProofs [hB, zps_, g1, g3, g4, hfl, hcl]
    · exact ⟨by simp [hm0], by simp⟩
    · rintro B f hB hf k a st h' ha hk ⟨rfl, ⟨g1, g3, g4, -⟩⟩ K
      have hlt : (k : Int) < L.length := by omega
      have hw : IntKind.i64.wrap ((k : Int) + 1) = (k : Int) + 1 := w64 (by omega)
      have hfl := zbez_ s.ts L k
      obtain ⟨q1, q2⟩ := zcsv_ (ts := s.ts) ha
      obtain ⟨k0, t0, j, c, p1, p2, p3, p4⟩ := hok a (List.mem_of_getElem? ha)
      obtain ⟨r1, r2, r3, -⟩ := trS_tr s t0 k0 t0.S t0.E j c
      rw [← p4] at r1 r2 r3
      have hin := fun (f : Ex × St → Option (V × H)) (w : Option (V × H)) hend s0 => zcsu_ (base := h.length) (f := f) (w := w) hs (H0 := h) (M := finM s.ts L k) (i := k) (n := L.length) (by omega) hfl (by omega) (a := a) hT hlst sT sY hID (fun k' t' ht' e => by
        have := hs.l
        have hk' := (List.getElem?_eq_some_iff.1 ht').1
        obtain ⟨rfl, rfl⟩ := id_inj (s := s) (by omega) p1 ht' p2 (e.trans r1)
        have := (hs.ts t' (List.mem_of_getElem? ht')).l
        have hj := (List.getElem?_eq_some_iff.1 p3).1
        exact ⟨j, c, r2, by omega, p3⟩) hend s0
      rw [q1, q2] at hin
      generalize finM s.ts L (k + 1) = M2 at *
      generalize finM s.ts L k = M1 at *
      simp -implicitDefEqProofs [hB, zps_, g1, g3, g4, hfl, hlt]
      refine hin _ _ (fun st2 ⟨u1, u3, u4, _⟩ => ?_) _ ?_
      · simp -implicitDefEqProofs [u1, u3, u4]
        refine K _ _ ⟨rfl, ?_⟩
        simp [u1, u3, hw]
      · simp [g1, g3, g4]
end Go.Proofs.Sl
namespace Go.Proofs.Sl
def ST.ex (s : ST) (y : SY) : EX := ⟨1 + ((y.fr % 4 : Nat) : Int), 1 + ((y.to % 4 : Nat) : Int), 1000 + ((y.at' % 64 : Nat) : Int) + s.off (y.fr % 4), 1000 + ((y.at' % 64 : Nat) : Int) + ((y.dl % 16 : Nat) : Int) + s.off (y.to % 4), if y.sk % 4 < y.dl % 16 then ((y.dl % 16 : Nat) : Int) - ((y.sk % 4 : Nat) : Int) else 0⟩
def ST.exs (s : ST) : List EX := s.ys.map s.ex
def owE (L : List EX) : V := if L = [] then vnil else .own 5 (L.map EX.v)
theorem zwt_ : ∀ l : List EX, wide 5 (l.map EX.v) = true
  | [] => rfl
  | x :: l => by rw [List.map_cons, wide, zwt_ l]; rfl
set_option maxHeartbeats 8000000 in
theorem zcsx_ {s : ST} (hs : s.Ok) (h : H) : run XP zud_ [s.v] h = some (owE s.exs, h) := by
  have hyl := hs.yl
  have hY := zcb_ (v := SY.v) (k := 5) hs.y
  have hO : ∀ c : Nat, c < 4 → ∀ h, run XP zha_ [s.v, vi (1 + c)] h = some (vi (s.off c), h) := fun c hc h => zbel_ hs hc h
  have sT : (lv 3 (slc TR.v s.ts s.tn)).plain = true := zan_ _ _
  have sY : (lv 5 (slc SY.v s.ys s.yn)).plain = true := zan_ _ _
  have hlst : s.ys ≠ [] → lv 5 (slc SY.v s.ys s.yn) = .lst 5 (s.ys.map SY.v) := fun hne => by
    cases hn : s.yn with
    | true => exact absurd (hs.y hn) hne
    | false => rfl
  rw [run_eq, zcaa_]
  simp only [ST.v] at hO ⊢
  generalize lv 3 (slc TR.v s.ts s.tn) = T at *
  generalize lv 5 (slc SY.v s.ys s.yn) = Y at *
  simp -implicitDefEqProofs [zlr_, sT, sY]
  refine zak_ s.ys (fun k st h' => Sees st [(1, .ptr h.length 0), (4, vi k)] ∧ h'.take (h.length + 1) = h ++ [.box false [T, .s (.int .i8 s.o0), .s (.int .i8 s.o1), .s (.int .i8 s.o2), .s (.int .i8 s.o3), Y, v8 s.wr]] ∧ h.length + 1 ≤ h'.length ∧ OutV (st 3) h' (h.length + 1) 5 (((s.ys.take k).map s.ex).map EX.v)) ?_ ?_ _ _ ?_
  rotate_left
  · rintro B hB st h' ⟨⟨g1, g4, -⟩, htk, hle, ho⟩
    rw [List.take_of_length_le (Nat.le_refl _)] at ho
    have hget : h'[h.length]? = some (.box false [T, .s (.int .i8 s.o0), .s (.int .i8 s.o1), .s (.int .i8 s.o2), .s (.int .i8 s.o3), Y, v8 s.wr]) := by
      have := congrArg (fun l => l[h.length]?) htk
      simpa [List.getElem?_take] using this
    have htk2 : h'.take h.length = h := by
      have := congrArg (fun l => l.take h.length) htk
      simpa [List.take_take] using this
    simp -implicitDefEqProofs [hB, zut_, g1, g4, sT, sY, hget, hY]
    have ho2 : OutV (st 3) h' h.length 5 ((s.ys.map s.ex).map EX.v) := by
      rcases ho with o | ⟨q, o1, o2, o3⟩
      · exact .inl o
      · exact .inr ⟨q, o1, by omega, o3⟩
    rw [ho2.ret (zmw_ _), zac_, htk2, ST.exs, owE]
    simp
  · exact ⟨by simp, by rw [List.take_of_length_le (by simp)], by simp, .inl ⟨rfl, by simp⟩⟩
  · rintro B f hB hf k y st h' hy hk ⟨⟨g1, g4, -⟩, htk, hle, ho⟩ K
    have hlt : (k : Int) < s.ys.length := by omega
    have hyok := (hs.ys y (List.mem_of_getElem? hy)).a
    simp only [List.mem_cons, List.not_mem_nil, or_false, forall_eq_or_imp, forall_eq] at hyok
    obtain ⟨b1, b2, b3, b4, b5⟩ := hyok
    have hne : s.ys ≠ [] := by rintro e; rw [e] at hk; simp at hk
    obtain rfl := hlst hne
    have hget0 : h'[h.length]? = some (.box false [T, .s (.int .i8 s.o0), .s (.int .i8 s.o1), .s (.int .i8 s.o2), .s (.int .i8 s.o3), .lst 5 (s.ys.map SY.v), v8 s.wr]) := by
      have := congrArg (fun l => l[h.length]?) htk
      simpa [List.getElem?_take] using this
    have hget : ∀ tt, (h' ++ tt)[h.length]? = some (.box false [T, .s (.int .i8 s.o0), .s (.int .i8 s.o1), .s (.int .i8 s.o2), .s (.int .i8 s.o3), .lst 5 (s.ys.map SY.v), v8 s.wr]) := fun tt => by
      rw [List.getElem?_append_left (by omega)]
      exact hget0
    have hq : (s.ys.map SY.v)[k]? = some y.v := by rw [List.getElem?_map, hy]; rfl
    have hw : IntKind.i64.wrap ((k : Int) + 1) = (k : Int) + 1 := w64 (by omega)
    have hO1 := hO (y.fr % 4) (by omega)
    have hO2 := hO (y.to % 4) (by omega)
    obtain ⟨o1, o2⟩ := s.off_le (y.fr % 4)
    obtain ⟨o3, o4⟩ := s.off_le (y.to % 4)
    have e1 : (y.fr : Int).tmod 4 = ((y.fr % 4 : Nat) : Int) := tmodN _ 4
    have e2 : (y.to : Int).tmod 4 = ((y.to % 4 : Nat) : Int) := tmodN _ 4
    have e3 : (y.at' : Int).tmod 64 = ((y.at' % 64 : Nat) : Int) := tmodN _ 64
    have e4 : (y.dl : Int).tmod 16 = ((y.dl % 16 : Nat) : Int) := tmodN _ 16
    have e5 : (y.sk : Int).tmod 4 = ((y.sk % 4 : Nat) : Int) := tmodN _ 4
    have m1 : y.fr % 4 < 4 := by omega
    have m2 : y.to % 4 < 4 := by omega
    have m3 : y.at' % 64 < 64 := by omega
    have m4 : y.dl % 16 < 16 := by omega
    have m5 : y.sk % 4 < 4 := by omega
    have tk : (s.ys.take (k + 1)).map s.ex = (s.ys.take k).map s.ex ++ [s.ex y] := by rw [zfy_ hy, List.map_append]; rfl
    obtain ⟨x', h'', hap, ho', htk', hle'⟩ := (ho.app [.box false (SY.v y).cells, .box false (s.ex y).v.cells]).grow (e := (s.ex y).v) (lim := 3518437208883) (by simp; omega) (zwt_ [_]) (zmw_ [_]) (by simp; omega)
    have htk3 : h''.take (h.length + 1) = h'.take (h.length + 1) := by rw [htk', List.take_append_of_le_length hle]
    have ho2 : OutV x' h'' (h.length + 1) 5 (((s.ys.take (k + 1)).map s.ex).map EX.v) := by rw [tk, List.map_append]; exact ho'
    have hlen : (s.ys.map SY.v).length = s.ys.length := by simp
    generalize s.ys.map SY.v = M at *
    unfold SY.v at hq hap
    unfold ST.ex EX.v at hap
    simp only [zoj_] at hap
    generalize s.off (y.fr % 4) = f1 at *
    generalize s.off (y.to % 4) = f2 at *
    generalize y.fr % 4 = n1 at *
    generalize y.to % 4 = n2 at *
    generalize y.at' % 64 = n3 at *
    generalize y.dl % 16 = n4 at *
    generalize y.sk % 4 = n5 at *
    have w1 : IntKind.i64.wrap (n1 : Int) = n1 := w64 (by omega)
    have w2 : IntKind.i64.wrap (n2 : Int) = n2 := w64 (by omega)
    have w3 : IntKind.i64.wrap (n3 : Int) = n3 := w64 (by omega)
    have w4 : IntKind.i64.wrap (n4 : Int) = n4 := w64 (by omega)
    have w5 : IntKind.i64.wrap (n5 : Int) = n5 := w64 (by omega)
    have w6 : IntKind.i64.wrap (1 + (n1 : Int)) = 1 + n1 := w64 (by omega)
    have w7 : IntKind.i64.wrap (1 + (n2 : Int)) = 1 + n2 := w64 (by omega)
    have w8 : IntKind.i64.wrap (1000 + (n3 : Int)) = 1000 + n3 := w64 (by omega)
    have w9 : IntKind.i64.wrap (1000 + (n3 : Int) + f1) = 1000 + n3 + f1 := w64 (by omega)
    have wa : IntKind.i64.wrap (1000 + (n3 : Int) + n4) = 1000 + n3 + n4 := w64 (by omega)
    have wb : IntKind.i64.wrap (1000 + (n3 : Int) + n4 + f2) = 1000 + n3 + n4 + f2 := w64 (by omega)
    have wc : IntKind.i64.wrap ((n4 : Int) - n5) = n4 - n5 := w64 (by omega)
    simp -implicitDefEqProofs [hB, zut_, g1, g4, sT, hget, hget0, hlen, hlt, hq, hO1, hO2, e1, e2, e3, e4, e5, w1, w2, w3, w4, w5, w6, w7, w8, w9, wa, wb, wc, hap, zav_, optEq]
    refine K _ _ ⟨?_, by rw [htk3, htk], hle', ?_⟩
    · simp [g1, hw]
    · simpa using ho2
end Go.Proofs.Sl
namespace Go.Proofs.Sl
def SP.early (a : SP) : SP := { a with rev := 0, en := a.st, er := false }
def mine1 (c : Int) (a : SP) : List SP := if a.clk = c then (if 0 < a.rev then [a.early, a] else [a]) else []
def mineS (c : Int) (L : List SP) : List SP := L.flatMap (mine1 c)
theorem zcsy_ {c : Int} {L : List SP} {k : Nat} {a : SP} (h : L[k]? = some a) : mineS c (L.take (k + 1)) = mineS c (L.take k) ++ mine1 c a := by
  unfold mineS
  rw [zfy_ h, List.flatMap_append]
  simp
theorem zcsz_ (c : Int) (a : SP) : (mine1 c a).length ≤ 2 := by
  unfold mine1
  repeat' split
  all_goals simp
theorem zni_ (c : Int) : ∀ L : List SP, (mineS c L).length ≤ 2 * L.length
  | [] => by simp [mineS]
  | a :: r => by
    have h1 := zcsz_ c a
    have h2 := zni_ c r
    unfold mineS at *
    rw [List.flatMap_cons, List.length_append, List.length_cons]
    omega
set_option maxHeartbeats 8000000 in
theorem zcta_ {β : Type} {f : Ex × St → Option β} {w : Option β} {base : Nat} {h : H} {x1 x2 x5 x7 : V} {F : List SP} {c : Int} (hl : F.length ≤ 1000)
    (hend : ∀ st t, Sees st [(1, x1), (2, x2), (5, x5), (6, nl F), (7, x7), (8, vi c)] → OutV (st 9) (h ++ t) h.length 14 ((mineS c F).map SP.v) → f (.exit 2, ⟨st, h ++ t⟩) = w)
    (s0 : Sl) (g : Sees s0 [(1, x1), (2, x2), (5, x5), (6, nl F), (7, x7), (8, vi c), (9, vnil), (10, vi 0)]) : ob (loopW (xcode (run XP) loopW base zhs_) ⟨s0, h⟩) f = w := by
  have hF := fun h => ((nl_LV F).rd h).toL
  refine zak_ F (fun k st h' => Sees st [(1, x1), (2, x2), (5, x5), (6, nl F), (7, x7), (8, vi c), (10, vi k)] ∧ h'.take h.length = h ∧ h.length ≤ h'.length ∧ OutV (st 9) h' h.length 14 ((mineS c (F.take k)).map SP.v)) ?_ ?_ _ _ ?_
  rotate_left
  · rintro B hB st h' ⟨⟨g1, g2, g5, g6, g7, g8, g10, -⟩, htk, hle, ho⟩
    obtain ⟨t, rfl⟩ := zcqj_ htk
    rw [List.take_of_length_le (Nat.le_refl _)] at ho
    simp -implicitDefEqProofs [hB, zhs_, g6, g10, hF]
    refine hend _ t ?_ ?_
    · simp [g1, g2, g5, g6, g7, g8]
    · simpa using ho
  · obtain ⟨g1, g2, g5, g6, g7, g8, g9, g10, -⟩ := g
    exact ⟨by simp [g1, g2, g5, g6, g7, g8, g10], by simp, by simp, .inl ⟨rfl, g9⟩⟩
  · rintro B f' hB hf k a st h' ha hk ⟨⟨g1, g2, g5, g6, g7, g8, g10, -⟩, htk, hle, ho⟩ K
    have hlt : (k : Int) < F.length := by omega
    have hw : IntKind.i64.wrap ((k : Int) + 1) = (k : Int) + 1 := w64 (by omega)
    have hat := fun h => nl_at ha h
    have hup := zcsy_ (c := c) ha
    have hml := zni_ c (F.take k)
    rw [List.length_take] at hml
    have sA : (lv 4 (slc AT.v a.ats a.an)).plain = true := zan_ _ _
    have sL : (lv 2 (slc RF.v a.lks a.ln)).plain = true := zan_ _ _
    generalize hx9 : st 9 = x9 at *
    by_cases hc : a.clk = c
    · have hc2 : (a.clk != c) = false := by simpa using hc
      by_cases hr : 0 < a.rev
      · have e1 : mine1 c a = [a.early, a] := by rw [mine1, if_pos hc, if_pos hr]
        rw [e1] at hup
        obtain ⟨x', h1, hap, ho1, htk1, hle1⟩ := (ho.app [.box false a.early.v.cells]).grow (e := a.early.v) (lim := 837723144972) (by simp; omega) (zdr_ _) (zaq_ [_]) (by simp only [List.length_map]; omega)
        obtain ⟨x'', h2, hap2, ho2, htk2, hle2⟩ := ho1.grow (e := a.v) (lim := 837723144972) hle1 (zdr_ _) (zaq_ [_]) (by simp only [List.length_map, List.length_append, List.length_cons, List.length_nil]; omega)
        have htk3 : h2.take h.length = h := by rw [htk2, htk1, List.take_append_of_le_length hle, htk]
        have ho3 : OutV x'' h2 h.length 14 ((mineS c (F.take (k + 1))).map SP.v) := by
          rw [hup, List.map_append]
          simpa using ho2
        unfold SP.early at hap
        unfold SP.v at hat hap hap2
        simp only [zoj_] at hap
        generalize lv 4 (slc AT.v a.ats a.an) = A at *
        generalize lv 2 (slc RF.v a.lks a.ln) = Lk at *
        simp -implicitDefEqProofs [hB, zhs_, g1, g2, g5, g6, g7, g8, g10, hx9, hF, hlt, hat, sA, sL, hc2, hr, hap, hap2]
        refine K _ _ ⟨?_, htk3, hle2, ho3⟩
        simp [g1, g2, g5, g6, g7, g8, hw]
      · have e1 : mine1 c a = [a] := by rw [mine1, if_pos hc, if_neg hr]
        rw [e1] at hup
        obtain ⟨x'', h2, hap2, ho2, htk2, hle2⟩ := ho.grow (e := a.v) (lim := 837723144972) hle (zdr_ _) (zaq_ [_]) (by simp only [List.length_map]; omega)
        have htk3 : h2.take h.length = h := by rw [htk2, htk]
        have ho3 : OutV x'' h2 h.length 14 ((mineS c (F.take (k + 1))).map SP.v) := by
          rw [hup, List.map_append]
          simpa using ho2
        unfold SP.v at hat hap2
        generalize lv 4 (slc AT.v a.ats a.an) = A at *
        generalize lv 2 (slc RF.v a.lks a.ln) = Lk at *
        simp -implicitDefEqProofs [hB, zhs_, g1, g2, g5, g6, g7, g8, g10, hx9, hF, hlt, hat, sA, sL, hc2, hr, hap2]
        refine K _ _ ⟨?_, htk3, hle2, ho3⟩
        simp [g1, g2, g5, g6, g7, g8, hw]
    · have hc2 : (a.clk != c) = true := by simpa using hc
      have e1 : mine1 c a = [] := by rw [mine1, if_neg hc]
      rw [e1, List.append_nil] at hup
      unfold SP.v at hat
      generalize lv 4 (slc AT.v a.ats a.an) = A at *
      generalize lv 2 (slc RF.v a.lks a.ln) = Lk at *
      simp -implicitDefEqProofs [hB, zhs_, g1, g2, g5, g6, g7, g8, g10, hx9, hF, hlt, hat, sA, sL, hc2]
      refine K _ _ ⟨?_, htk, hle, ?_⟩
      · simp [g1, g2, g5, g6, g7, g8, hw]
      · rw [hup]
        simpa [hx9] using ho
end Go.Proofs.Sl
namespace Go.Proofs.Sl
theorem zwu_ (k : Nat) (o : Option (List V)) : (lv k o).cell = true := by cases o <;> rfl
theorem zwv_ : ∀ l : List FR, wide 4 (l.map FR.v) = true
  | [] => rfl
  | x :: l => by
    rw [List.map_cons, wide, zwv_ l]
    unfold FR.v
    show ((true && (true && (true && ((lv 14 _).cell && ((lv 5 _).cell && true))))) && true) = true
    rw [zwu_, zwu_]
    rfl
theorem zww_ (k : Nat) (o : Option (List V)) : (lv k o).closed = true := by cases o <;> rfl
theorem zctb_ (a : FR) : a.v.closed = true := by
  unfold FR.v
  simp only [V.closed, V.closed.closeds, zww_]
  rfl
theorem zqq_ : ∀ l : List FR, V.closed.closeds (l.map FR.v) = true
  | [] => rfl
  | x :: l => by rw [List.map_cons, V.closed.closeds, zqq_ l, zctb_]; rfl
def chunk (w : Nat) (c : Int) (M : List SP) (a q : Nat) : List FR :=
  if a < M.length then ⟨c, q, (M.take (min M.length (a + 1 + w))).drop a, [], false, true⟩ :: chunk w c M (a + 1 + w) (q + 1) else []
termination_by M.length - a
theorem zbfa_ (w : Nat) (c : Int) (M : List SP) (a q : Nat) : ((chunk w c M a q).map FR.sps).flatten = M.drop a := by
  rw [chunk]
  split
  · rename_i h
    rw [List.map_cons, List.flatten_cons, zbfa_ w c M (a + 1 + w) (q + 1)]
    show (M.take (min M.length (a + 1 + w))).drop a ++ _ = _
    rw [Nat.min_comm, ← List.take_eq_take_min]
    have := List.take_append_drop (1 + w) (M.drop a)
    rw [List.drop_drop] at this
    rw [List.drop_take, show a + 1 + w - a = 1 + w by omega, show a + 1 + w = a + (1 + w) by omega]
    exact this
  · rename_i h
    rw [List.drop_of_length_le (by omega)]
    rfl
termination_by M.length - a
theorem zwx_ (w : Nat) (c : Int) (M : List SP) (a q : Nat) : (chunk w c M a q).length ≤ M.length - a := by
  rw [chunk]
  split
  · rename_i h
    have := zwx_ w c M (a + 1 + w) (q + 1)
    rw [List.length_cons]
    omega
  · simp
termination_by M.length - a
theorem OutV.grow2 {x : V} {h : H} {b k lim : Nat} {es : List V} (o : OutV x h b k es) {e : V} (hb : b ≤ h.length) (hw : wide k [e] = true) (hc : V.closed.closeds [e] = true) (hl : es.length + 1 ≤ lim) {q' : Nat} {o' : O} (hq' : h[q']? = some o') (hne : ∀ es, o' ≠ .arr false k es) :
    ∃ x' h', zay_ h k lim x (.lst k [e]) = some (x', h') ∧ OutV x' h' b k (es ++ [e]) ∧ h'.take b = h.take b ∧ b ≤ h'.length ∧ h'[q']? = some o' := by
  have ea : appEls h (.lst k [e]) = some [e] := rfl
  have hql := (List.getElem?_eq_some_iff.1 hq').1
  rcases o with ⟨rfl, rfl⟩ | ⟨q, h0, h1, rfl, h3⟩
  · have hl' : 1 ≤ lim := by simpa using hl
    refine ⟨.ref h.length 1, h ++ [.arr false k [e]], ?_, .inr ⟨h.length, by simp, hb, rfl, by simp⟩, by rw [List.take_append_of_le_length hb], by simp; omega, by rw [List.getElem?_append_left hql]; exact hq'⟩
    simp only [zay_, ea, zac_, hw, hc, and_self, if_true, List.length_cons, List.length_nil, Nat.zero_add, Nat.one_ne_zero, if_false, hl']
  · have hq := (List.getElem?_eq_some_iff.1 h3).1
    have hqq : q ≠ q' := by
      rintro rfl
      rw [hq'] at h3
      exact hne es (Option.some.inj h3)
    refine ⟨.ref q (es.length + 1), h.set q (.arr false k (es ++ [e])), ?_, .inr ⟨q, by simp, h1, by simp, by rw [List.getElem?_set_self hq]⟩, ?_, by simpa using hb, by rw [List.getElem?_set_ne hqq]; exact hq'⟩
    · have : arrN h q es.length = some (false, k, es) := by simp [arrN, arrAt, h3, zac_]
      simp only [zay_, ea, zac_, hw, hc, and_self, if_true, this, List.length_cons, List.length_nil, Nat.zero_add, true_and, hl]
    · rw [List.take_set, List.set_eq_of_length_le (by simp; omega)]
set_option maxHeartbeats 8000000 in
theorem zctc_ {β : Type} {f : Ex × St → Option β} {w : Option β} {base : Nat} {h : H} {x2 x5 x6 x7 : V} {b0 q9 sz : Nat} {c : Int} {M : List SP} {pre : List FR} {z : Bool} (hsz : sz < 256)
    (hq : h[q9]? = some (.arr z 14 (M.map SP.v))) (hb : b0 ≤ q9) (ho : OutV x5 h b0 4 (pre.map FR.v)) (hl : M.length ≤ 1000) (hpl : pre.length ≤ 100000)
    (hend : ∀ st h', Sees st [(1, v8 sz), (2, x2), (6, x6), (7, x7), (8, vi c), (12, vi (chunk (sz % 4) c M 0 0).length)] → h'.take b0 = h.take b0 → b0 ≤ h'.length → OutV (st 5) h' b0 4 ((pre ++ chunk (sz % 4) c M 0 0).map FR.v) → f (.exit 4, ⟨st, h'⟩) = w)
    (s0 : Sl) (g : Sees s0 [(1, v8 sz), (2, x2), (5, x5), (6, x6), (7, x7), (8, vi c), (9, .ref q9 M.length), (12, vi 0), (13, vi 0)]) : ob (loopW (xcode (run XP) loopW base zht_) ⟨s0, h⟩) f = w := by
  have hqh := (List.getElem?_eq_some_iff.1 hq).1
  refine zeh_ (σ := Nat) (fun a => M.length + 10 - a) (fun a st h' => a ≤ M.length + 4 ∧ ∃ (z : Bool) (p1 : List FR) (q : Nat), Sees st [(1, v8 sz), (2, x2), (6, x6), (7, x7), (8, vi c), (9, .ref q9 M.length), (12, vi (q : Int)), (13, vi (a : Int))] ∧ h'[q9]? = some (.arr z 14 (M.map SP.v)) ∧ h'.take b0 = h.take b0 ∧ OutV (st 5) h' b0 4 ((pre ++ p1).map FR.v) ∧ p1.length = q ∧ q ≤ a ∧ p1 ++ chunk (sz % 4) c M a q = chunk (sz % 4) c M 0 0) ?_ 0 _ _ ?_
  rotate_left
  · obtain ⟨g1, g2, g5, g6, g7, g8, g9, g12, g13, -⟩ := g
    exact ⟨by omega, z, [], 0, by simp [g1, g2, g6, g7, g8, g9, g12, g13], hq, rfl, by simpa [g5] using ho, rfl, by omega, rfl⟩
  · rintro B f' hB hf a st h' ⟨ha, z, p1, q, ⟨g1, g2, g6, g7, g8, g9, g12, g13, -⟩, hq, htk, ho, hpq, hqa, hx⟩ K
    have hqh := (List.getElem?_eq_some_iff.1 hq).1
    have hb0 : b0 ≤ h'.length := by omega
    have hlen : (M.map SP.v).length = M.length := by simp
    by_cases hc : a < M.length
    · have hc2 : (a : Int) < M.length := by omega
      rw [chunk, if_pos hc] at hx
      generalize hx5 : st 5 = y5 at *
      have e1 : (sz : Int).tmod 4 = ((sz % 4 : Nat) : Int) := tmodN _ 4
      have m1 : sz % 4 < 4 := by omega
      have hmin : (if (a : Int) + 1 + ((sz % 4 : Nat) : Int) < M.length then (a : Int) + 1 + ((sz % 4 : Nat) : Int) else M.length) = ((min M.length (a + 1 + sz % 4) : Nat) : Int) := by split <;> omega
      have hm2 : a ≤ min M.length (a + 1 + sz % 4) := by omega
      have hm3 : min M.length (a + 1 + sz % 4) ≤ M.length := by omega
      have hcl := zaq_ M
      have hne : ∀ n es, y5 = .ref n es → n ≠ q9 := by
        rintro n es rfl rfl
        rcases ho with ⟨o1, o2⟩ | ⟨q', o1, o2, o3, o4⟩
        · cases o2
        · injection o3 with o3 _
          subst o3
          rw [hq] at o4
          cases o4
      have ho1 : OutV y5 (h'.set q9 (.arr true 14 (M.map SP.v))) b0 4 ((pre ++ p1).map FR.v) := by
        rcases ho with ho | ⟨q', o1, o2, o3, o4⟩
        · exact .inl ho
        · exact .inr ⟨q', o1, o2, o3, by rw [List.getElem?_set_ne (hne _ _ o3).symm]; exact o4⟩
      have hFv : (⟨c, q, (M.take (min M.length (a + 1 + sz % 4))).drop a, [], false, true⟩ : FR).v = .agg [vi c, vi q, .lst 14 (((M.map SP.v).take (min M.length (a + 1 + sz % 4))).drop a), vnil] := by
        rw [← List.map_take, ← List.map_drop]
        rfl
      obtain ⟨x', h2, hap, ho2, htk2, hle2, hq2⟩ := (ho1.app [.box false [vi c, vi q, .lst 14 (((M.map SP.v).take (min M.length (a + 1 + sz % 4))).drop a), vnil]]).grow2 (e := (⟨c, q, (M.take (min M.length (a + 1 + sz % 4))).drop a, [], false, true⟩ : FR).v) (lim := 2199023255552) (by simp; omega) (zwv_ [_]) (zqq_ [_]) (by simp only [List.length_map, List.length_append]; omega) (q' := q9) (o' := .arr true 14 (M.map SP.v)) (by rw [List.getElem?_append_left (by simpa using hqh), List.getElem?_set_self hqh]) (by simp)
      have hset : (h'.set q9 (.arr true 14 (M.map SP.v)) ++ [O.box false [vi c, vi q, .lst 14 (((M.map SP.v).take (min M.length (a + 1 + sz % 4))).drop a), vnil]]).take b0 = h'.take b0 := by
        rw [List.take_append_of_le_length (by simp; omega), List.take_set, List.set_eq_of_length_le (by simp; omega)]
      rw [hFv] at hap
      generalize hmm : min M.length (a + 1 + sz % 4) = mm at *
      generalize sz % 4 = m4 at *
      have w1 : IntKind.i64.wrap (m4 : Int) = m4 := w64 (by omega)
      have w2 : IntKind.i64.wrap ((a : Int) + 1) = (a : Int) + 1 := w64 (by omega)
      have w3 : IntKind.i64.wrap ((a : Int) + 1 + m4) = (a : Int) + 1 + m4 := w64 (by omega)
      have w4 : IntKind.i64.wrap ((q : Int) + 1) = (q : Int) + 1 := w64 (by omega)
      simp -implicitDefEqProofs [hB, zht_, g1, g2, g6, g7, g8, g9, g12, g13, hx5, hq, hlen, hc, hc2, e1, w1, w2, w3, w4, hmin, hm2, hm3, hcl, hap]
      refine K (a + 1 + m4) _ _ (by omega) ⟨by omega, true, p1 ++ [_], q + 1, ?_, hq2, by rw [htk2, hset, htk], ?_, by simp [hpq], by omega, by rw [List.append_assoc]; exact hx⟩
      · simp [g1, g2, g6, g7, g8, g9, w4]
      · rw [← List.append_assoc, List.map_append]
        simpa using ho2
    · have hc2 : ¬ (a : Int) < M.length := by omega
      rw [chunk, if_neg hc, List.append_nil] at hx
      subst hx
      simp -implicitDefEqProofs [hB, hf, zht_, g1, g9, g13, hq, hlen, hc, hc2]
      refine hend _ _ ?_ htk hb0 ho
      simp [g1, g2, g6, g7, g8, g12, hpq]
end Go.Proofs.Sl
