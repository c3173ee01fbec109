/- A part of the proof. -/
import Derived.Test.YtaepkcjcmejfcaaGreatSlL0
set_option linter.unusedVariables false
set_option linter.unusedSimpArgs false
set_option linter.unnecessarySimpa false
namespace Go.Proofs.Sl
theorem zbba_ (s : Sl) (h : H) (k : Nat) (x i : Opd) : xread s h (.iaddr k x i) = ob (asNat (i.ev s)) fun i => iaddrV h k (x.ev s) i := Eq.trans rfl rfl
theorem zbbb_ (s : Sl) (h : H) (n : Nat) (g : Bool) (x : Opd) : xread s h (.load n g x) = xload h n g (x.ev s) := Eq.trans rfl rfl
theorem zbbc_ (s : Sl) (h : H) (x : Opd) : xread s h (.len false x) = ob ((x.ev s).toL h) fun es => some (vi es.length) := Eq.trans rfl rfl
section
variable {H0 : H} {n base : Nat} {ca cb : List V} {f : Ex × St → Option (V × H)} {w : Option (V × H)} {ns : List Int}
set_option maxHeartbeats 1000000 in
theorem cmp_l0 {xs ys : List AT} {p q : Bool} (hp : p = true → xs = []) (hq : q = true → ys = []) (ca12 : ca[12]? = some (lv 4 (slc AT.v xs p))) (cb12 : cb[12]? = some (lv 4 (slc AT.v ys q))) (hx : xs.length ≤ 1000) (hy : ys.length ≤ 1000) (hn : ns.length ≤ 1000)
    (A0 : At3 H0 n ca cb ns) (hb : base ≤ n)
    (hend : ∀ s h', s 2 = .ptr n 0 → s 3 = .ptr (n + 1) 0 → At3 h' n ca cb (ns ++ zipA xs ys) → s 5 = .ref (n + 2) (ns ++ zipA xs ys).length → h'.take n = H0.take n → f (.exit 0, ⟨s, h'⟩) = w)
    (s0 : Sl) (h2 : s0 2 = .ptr n 0) (h3 : s0 3 = .ptr (n + 1) 0) (h5 : s0 5 = .ref (n + 2) ns.length) (h6 : s0 6 = vi 0) :
    ob (loopW (xcode (run XP) loopW base zkx_) ⟨s0, H0⟩) f = w := by
  have t1 : (slc AT.v xs p).getD [] = xs.map AT.v := zeg_ hp
  have t2 : (slc AT.v ys q).getD [] = ys.map AT.v := zeg_ hq
  have rl := fun l o (k : Nat) (x : Option (List V)) => zud_ l o k x
  refine zrv_ (min xs.length ys.length) (fun k s h' => Sees s [(2, .ptr n 0), (3, .ptr (n + 1) 0), (6, vi k), (5, .ref (n + 2) (ns ++ zipA (xs.take k) (ys.take k)).length)] ∧ At3 h' n ca cb (ns ++ zipA (xs.take k) (ys.take k)) ∧ h'.take n = H0.take n) ?_ ?_ _ _
    ⟨by simp [h2, h3, h5, h6, zipA], by simpa [zipA] using A0, rfl⟩
  · rintro B f2 hB hf k s h' hk ⟨⟨h2, h3, h6, h5, -⟩, A, htk⟩ K
    have hk1 : k < xs.length := by omega
    have hk2 : k < ys.length := by omega
    obtain ⟨e, he⟩ : ∃ e, xs[k]? = some e := ⟨_, List.getElem?_eq_getElem hk1⟩
    obtain ⟨d, hd⟩ : ∃ d, ys[k]? = some d := ⟨_, List.getElem?_eq_getElem hk2⟩
    have i1 := fun H => zgr_ (f := AT.v) hp he H 4
    have i2 := fun H => zgr_ (f := AT.v) hq hd H 4
    have hw : IntKind.i64.wrap ((k : Int) + 1) = (k : Int) + 1 := zan_ (by omega) (by omega)
    have hl1 := zue_ (xs.take k) (ys.take k)
    rw [List.length_take, List.length_take] at hl1
    have hap := (A.app [.box false e.v.cells, .box false d.v.cells]).grow (att4 e d) (by rw [List.length_append, hl1]; simp [att4]; omega)
    have Aa := fun t => (A.app t).a
    have Ab := fun t => (A.app t).b
    have A1 := A.a
    have A2 := A.b
    have w1 := fun h => zmr_ h e.key d.key
    have w2 := fun h => zck_ h e.val.k d.val.k
    have w3 := fun h => zmr_ h e.val.t d.val.t
    have w4 := fun h => zck_ h e.val.n d.val.n
    have hz := zbar_ he hd
    have hlen : (ns ++ zipA (xs.take k) (ys.take k)) ++ att4 e d = ns ++ zipA (xs.take (k + 1)) (ys.take (k + 1)) := by rw [hz, List.append_assoc]
    have A' := (A.app [.box false e.v.cells, .box false d.v.cells]).set (ns ++ zipA (xs.take (k + 1)) (ys.take (k + 1)))
    have hn2 := A.len
    rw [hlen] at hap
    have htk2 := At3.takeSet (h := h' ++ [.box false e.v.cells, .box false d.v.cells]) (n := n) (.arr false 1 (il (ns ++ zipA (xs.take (k + 1)) (ys.take (k + 1))))) (by simp; omega)
    rw [List.take_append_of_le_length (by omega), htk] at htk2
    generalize (ns ++ zipA (xs.take k) (ys.take k)).length = L at h5 hap
    generalize hms : ns ++ zipA (xs.take (k + 1)) (ys.take (k + 1)) = ms at hap A' htk2 K
    simp only [AT.v, V.cells, att4, il, List.map_cons, List.map_nil] at i1 i2 hap A' htk2
    simp -implicitDefEqProofs [-xread, zbba_, zbbb_, zbbc_, hB, zkx_, h2, h3, h5, h6, A1, A2, Aa, Ab, ca12, cb12, rl, t1, t2, hk1, hk2, i1, i2, w1, w2, w3, w4, hap, zcq_, optEq]
    refine K _ _ ⟨?_, A', htk2⟩
    simp [h2, h3, hw, hms]
  · rintro B hB s h' ⟨⟨h2, h3, h6, h5, -⟩, A, htk⟩
    have A1 := A.a
    have A2 := A.b
    rw [zbat_] at A h5
    by_cases hm : xs.length ≤ ys.length
    · rw [Nat.min_eq_left hm] at h6
      simp -implicitDefEqProofs [hB, zkx_, h2, h3, h6, A1, A2, ca12, cb12, rl, t1, t2]
      exact hend _ _ (by simp [h2]) (by simp [h3]) A (by simpa using h5) htk
    · rw [Nat.min_eq_right (by omega)] at h6
      have hlt : ys.length < xs.length := by omega
      simp -implicitDefEqProofs [hB, zkx_, h2, h3, h6, A1, A2, ca12, cb12, rl, t1, t2, hlt]
      exact hend _ _ (by simp [h2]) (by simp [h3]) A (by simpa using h5) htk
theorem cmp_l1 {xs ys : List RF} {p q : Bool} (hp : p = true → xs = []) (hq : q = true → ys = []) (ca13 : ca[13]? = some (lv 2 (slc RF.v xs p))) (cb13 : cb[13]? = some (lv 2 (slc RF.v ys q))) (hx : xs.length ≤ 1000) (hy : ys.length ≤ 1000) (hn : ns.length ≤ 10000)
    (A0 : At3 H0 n ca cb ns) (hb : base ≤ n)
    (hend : ∀ s h', s 2 = .ptr n 0 → s 3 = .ptr (n + 1) 0 → At3 h' n ca cb (ns ++ zipR xs ys) → s 5 = .ref (n + 2) (ns ++ zipR xs ys).length → h'.take n = H0.take n → f (.exit 2, ⟨s, h'⟩) = w)
    (s0 : Sl) (h2 : s0 2 = .ptr n 0) (h3 : s0 3 = .ptr (n + 1) 0) (h5 : s0 5 = .ref (n + 2) ns.length) (h9 : s0 9 = vi 0) :
    ob (loopW (xcode (run XP) loopW base zky_) ⟨s0, H0⟩) f = w := by
  have t1 : (slc RF.v xs p).getD [] = xs.map RF.v := zeg_ hp
  have t2 : (slc RF.v ys q).getD [] = ys.map RF.v := zeg_ hq
  have rl := fun l o (k : Nat) (x : Option (List V)) => zud_ l o k x
  refine zrv_ (min xs.length ys.length) (fun k s h' => Sees s [(2, .ptr n 0), (3, .ptr (n + 1) 0), (9, vi k), (5, .ref (n + 2) (ns ++ zipR (xs.take k) (ys.take k)).length)] ∧ At3 h' n ca cb (ns ++ zipR (xs.take k) (ys.take k)) ∧ h'.take n = H0.take n) ?_ ?_ _ _
    ⟨by simp [h2, h3, h5, h9, zipR], by simpa [zipR] using A0, rfl⟩
  · rintro B f2 hB hf k s h' hk ⟨⟨h2, h3, h9, h5, -⟩, A, htk⟩ K
    have hk1 : k < xs.length := by omega
    have hk2 : k < ys.length := by omega
    obtain ⟨e, he⟩ : ∃ e, xs[k]? = some e := ⟨_, List.getElem?_eq_getElem hk1⟩
    obtain ⟨d, hd⟩ : ∃ d, ys[k]? = some d := ⟨_, List.getElem?_eq_getElem hk2⟩
    have i1 := fun H => zgr_ (f := RF.v) hp he H 2
    have i2 := fun H => zgr_ (f := RF.v) hq hd H 2
    have hw : IntKind.i64.wrap ((k : Int) + 1) = (k : Int) + 1 := zan_ (by omega) (by omega)
    have hl1 := zuf_ (xs.take k) (ys.take k)
    rw [List.length_take, List.length_take] at hl1
    have hap := A.grow [cmpR e d] (by rw [List.length_append, hl1]; simp; omega)
    have A1 := A.a
    have A2 := A.b
    have w1 := fun h => zcht_ h e d
    have hz := zbas_ he hd
    have hlen : (ns ++ zipR (xs.take k) (ys.take k)) ++ [cmpR e d] = ns ++ zipR (xs.take (k + 1)) (ys.take (k + 1)) := by rw [hz, List.append_assoc]
    have A' := A.set (ns ++ zipR (xs.take (k + 1)) (ys.take (k + 1)))
    have hn2 := A.len
    rw [hlen] at hap
    have htk2 := At3.takeSet (h := h') (n := n) (.arr false 1 (il (ns ++ zipR (xs.take (k + 1)) (ys.take (k + 1))))) (by omega)
    rw [htk] at htk2
    generalize (ns ++ zipR (xs.take k) (ys.take k)).length = L at h5 hap
    generalize hms : ns ++ zipR (xs.take (k + 1)) (ys.take (k + 1)) = ms at hap A' htk2 K
    simp only [RF.v, V.cells, il, List.map_cons, List.map_nil] at i1 i2 hap A' htk2 w1
    simp -implicitDefEqProofs [-xread, zbba_, zbbb_, zbbc_, hB, zky_, h2, h3, h5, h9, A1, A2, ca13, cb13, rl, t1, t2, hk1, hk2, i1, i2, w1, hap, zcq_, optEq]
    refine K _ _ ⟨?_, A', htk2⟩
    simp [h2, h3, hw, hms]
  · rintro B hB s h' ⟨⟨h2, h3, h9, h5, -⟩, A, htk⟩
    have A1 := A.a
    have A2 := A.b
    rw [zbau_] at A h5
    by_cases hm : xs.length ≤ ys.length
    · rw [Nat.min_eq_left hm] at h9
      simp -implicitDefEqProofs [hB, zky_, h2, h3, h9, A1, A2, ca13, cb13, rl, t1, t2]
      exact hend _ _ (by simp [h2]) (by simp [h3]) A (by simpa using h5) htk
    · rw [Nat.min_eq_right (by omega)] at h9
      have hlt : ys.length < xs.length := by omega
      simp -implicitDefEqProofs [hB, zky_, h2, h3, h9, A1, A2, ca13, cb13, rl, t1, t2, hlt]
      exact hend _ _ (by simp [h2]) (by simp [h3]) A (by simpa using h5) htk
theorem cmp_l2 (A : At3 H0 n ca cb ns) (hl : ns.length ≤ 100000) (hret : ∀ s, s 4 = vi (orl ns) → f (.ret, ⟨s, H0⟩) = w) (hend : orl ns = 0 → ∀ s, f (.exit 4, ⟨s, H0⟩) = w) (s0 : Sl) (h5 : s0 5 = .ref (n + 2) ns.length) (h10 : s0 10 = vi 0) :
    ob (loopW (xcode (run XP) loopW base zkz_) ⟨s0, H0⟩) f = w := by
  have hv : Rd H0 1 (.ref (n + 2) ns.length) (il ns) := by
    have := Rd.ref (n + 2) false (il ns) A.l
    rwa [zcx_] at this
  have htl := hv.toL
  refine zbo_ ns (fun k s h' => Sees s [(5, .ref (n + 2) ns.length), (10, vi k)] ∧ h' = H0 ∧ orl ns = orl (ns.drop k)) ?_ ?_ _ _ ⟨by simp [h5, h10], rfl, rfl⟩
  · rintro B f2 hB hf k e s h' he hk ⟨⟨h5, h10, -⟩, rfl, hx⟩ K
    obtain ⟨p, hp, hld⟩ := hv.at1 (il_at he) rfl
    have hlt : (k : Int) < ns.length := by omega
    rw [zbq_ he, orl] at hx
    by_cases h0 : e = 0
    · rw [if_neg (by simpa using h0)] at hx
      simp -implicitDefEqProofs [hB, zkz_, h5, h10, htl, zcx_, hlt, hk, hp, hld, h0]
      refine K _ _ ⟨?_, rfl, hx⟩
      simp [h5, zhw_ (by omega : k < 100000000000)]
    · rw [if_pos h0] at hx
      rw [hx] at hret
      have h0' : (e != 0) = true := by simpa using h0
      simp -implicitDefEqProofs [hB, hf, zkz_, h5, h10, htl, zcx_, hlt, hk, hp, hld, h0', hret]
  · rintro B hB s h' ⟨⟨h5, h10, -⟩, rfl, hx⟩
    rw [List.drop_of_length_le (Nat.le_refl _), orl] at hx
    simp -implicitDefEqProofs [hB, zkz_, h5, h10, htl, zcx_, hend hx]
end
theorem zclo_ (h : H) {a b : SP} (ha1 : a.an = true → a.ats = []) (ha2 : a.ln = true → a.lks = []) (hb1 : b.an = true → b.ats = []) (hb2 : b.ln = true → b.lks = []) (la1 : a.ats.length ≤ 1000) (la2 : a.lks.length ≤ 1000) (lb1 : b.ats.length ≤ 1000) (lb2 : b.lks.length ≤ 1000) :
    run XP zsc_ [a.v, b.v] h = some (vi (cmpS a b), h) := by
  have hfl := zclm_ a b
  have zl := zue_ a.ats b.ats
  have zr := zuf_ a.lks b.lks
  obtain ⟨tr, id, par, rev, clk, kind, sv, vr, op, st, en, er, ats, lks, an, ln⟩ := a
  obtain ⟨tr', id', par', rev', clk', kind', sv', vr', op', st', en', er', ats', lks', an', ln'⟩ := b
  simp only at ha1 ha2 hb1 hb2 la1 la2 lb1 lb2 zl zr
  have s0 := fun h => zck_ h tr tr'
  have s1 := fun h => zck_ h id id'
  have s2 := fun h => zck_ h rev rev'
  have s3 := fun h => zck_ h par par'
  have s4 := fun h => zck_ h clk clk'
  have s5 := fun h => zck_ h kind kind'
  have s6 := fun h => zmr_ h sv sv'
  have s7 := fun h => zmr_ h vr vr'
  have s8 := fun h => zmr_ h op op'
  have s9 := fun h => zck_ h st st'
  have s10 := fun h => zck_ h en en'
  have f1 := fun h => zps_ h er
  have f2 := fun h => zps_ h er'
  have s11 := fun h => zck_ h (flg er) (flg er')
  have t1 : (slc AT.v ats an).getD [] = ats.map AT.v := zeg_ ha1
  have t2 : (slc AT.v ats' an').getD [] = ats'.map AT.v := zeg_ hb1
  have t3 : (slc RF.v lks ln).getD [] = lks.map RF.v := zeg_ ha2
  have t4 : (slc RF.v lks' ln').getD [] = lks'.map RF.v := zeg_ hb2
  have rl := fun l o (k : Nat) (x : Option (List V)) => zud_ l o k x
  have sA := fun h => zck_ h (ats.length : Int) (ats'.length : Int)
  have sR := fun h => zck_ h (lks.length : Int) (lks'.length : Int)
  rw [run_eq, zbun_]
  have q12 : sp12 ⟨tr, id, par, rev, clk, kind, sv, vr, op, st, en, er, ats, lks, an, ln⟩ ⟨tr', id', par', rev', clk', kind', sv', vr', op', st', en', er', ats', lks', an', ln'⟩ = [sgn tr tr', sgn id id', sgn rev rev', sgn par par', sgn clk clk', sgn kind kind', wrd sv sv', wrd vr vr', wrd op op', sgn st st', sgn en en', sgn (flg er) (flg er')] := rfl
  rw [q12] at hfl
  simp only at hfl
  generalize cmpS _ _ = R at hfl ⊢
  simp -implicitDefEqProofs [zla_, SP.v, s0, s1, s2, s3, s4, s5, s6, s7, s8, s9, s10, f1, f2, s11, zcq_, optEq]
  refine cmp_l0 (ca := [vi tr, vi id, vi par, vi rev, vi clk, vi kind, vs sv, vs vr, vs op, vi st, vi en, vb er, lv 4 (slc AT.v ats an), lv 2 (slc RF.v lks ln)]) (cb := [vi tr', vi id', vi par', vi rev', vi clk', vi kind', vs sv', vs vr', vs op', vi st', vi en', vb er', lv 4 (slc AT.v ats' an'), lv 2 (slc RF.v lks' ln')]) (ns := [sgn tr tr', sgn id id', sgn rev rev', sgn par par', sgn clk clk', sgn kind kind', wrd sv sv', wrd vr vr', wrd op op', sgn st st', sgn en en', sgn (flg er) (flg er')]) (p := an) (q := an') ha1 hb1 rfl rfl la1 lb1 (by simp) ⟨by simp, by simp, by simp [il]⟩ (Nat.le_refl _) ?_ _ (by simp) (by simp) (by simp) (by simp)
  have hn12 : [sgn tr tr', sgn id id', sgn rev rev', sgn par par', sgn clk clk', sgn kind kind', wrd sv sv', wrd vr vr', wrd op op', sgn st st', sgn en en', sgn (flg er) (flg er')].length = 12 := rfl
  generalize [sgn tr tr', sgn id id', sgn rev rev', sgn par par', sgn clk clk', sgn kind kind', wrd sv sv', wrd vr vr', wrd op op', sgn st st', sgn en en', sgn (flg er) (flg er')] = n12 at hn12 hfl ⊢
  rintro p1 h1 g2 g3 A1 g5 k1
  rw [List.take_left] at k1
  generalize hz1 : zipA ats ats' = z1 at zl A1 g5 hfl
  have a1 := A1.a
  have a2 := A1.b
  have ap1 := A1.grow [sgn ats.length ats'.length] (by simp [hn12, zl]; omega)
  have B1 := A1.set ((n12 ++ z1) ++ [sgn ats.length ats'.length])
  have k2 := At3.takeSet (h := h1) (n := h.length) (.arr false 1 (il ((n12 ++ z1) ++ [sgn ats.length ats'.length]))) (by have := A1.len; omega)
  rw [k1] at k2
  have hm2 : ((n12 ++ z1) ++ [sgn (ats.length : Int) (ats'.length : Int)]).length ≤ 10000 := by simp [hn12, zl]; omega
  generalize hm : (n12 ++ z1) ++ [sgn (ats.length : Int) (ats'.length : Int)] = m2 at ap1 B1 k2 hm2
  generalize (n12 ++ z1).length = L1 at g5 ap1
  generalize hh2 : h1.set (h.length + 2) (.arr false 1 (il m2)) = h2 at ap1 B1 k2
  simp only [il, List.map_cons, List.map_nil] at ap1
  simp -implicitDefEqProofs [g2, g3, g5, a1, a2, rl, t1, t2, sA, ap1]
  refine cmp_l1 (ca := [vi tr, vi id, vi par, vi rev, vi clk, vi kind, vs sv, vs vr, vs op, vi st, vi en, vb er, lv 4 (slc AT.v ats an), lv 2 (slc RF.v lks ln)]) (cb := [vi tr', vi id', vi par', vi rev', vi clk', vi kind', vs sv', vs vr', vs op', vi st', vi en', vb er', lv 4 (slc AT.v ats' an'), lv 2 (slc RF.v lks' ln')]) (ns := m2) (p := ln) (q := ln') ha2 hb2 rfl rfl la2 lb2 hm2 B1 (Nat.le_refl _) ?_ _ (by simp [g2]) (by simp [g3]) (by simp) (by simp)
  rintro p3 h3 e2 e3 A3 e5 k3
  rw [k2] at k3
  generalize hz2 : zipR lks lks' = z2 at zr A3 e5 hfl
  have a3 := A3.a
  have a4 := A3.b
  have ap3 := A3.grow [sgn lks.length lks'.length] (by simp [zr]; omega)
  have B3 := A3.set ((m2 ++ z2) ++ [sgn lks.length lks'.length])
  have k4 := At3.takeSet (h := h3) (n := h.length) (.arr false 1 (il ((m2 ++ z2) ++ [sgn lks.length lks'.length]))) (by have := A3.len; omega)
  rw [k3] at k4
  have hm4 : ((m2 ++ z2) ++ [sgn (lks.length : Int) (lks'.length : Int)]).length ≤ 100000 := by simp [zr]; omega
  have hor : R = orl ((m2 ++ z2) ++ [sgn (lks.length : Int) (lks'.length : Int)]) := by rw [hfl, ← hm]; simp only [List.append_assoc]
  rw [hor]
  clear hfl hor
  generalize hm' : (m2 ++ z2) ++ [sgn (lks.length : Int) (lks'.length : Int)] = m4 at ap3 B3 k4 hm4 ⊢
  generalize (m2 ++ z2).length = L3 at e5 ap3
  generalize hh4 : h3.set (h.length + 2) (.arr false 1 (il m4)) = h4 at ap3 B3 k4
  simp only [il, List.map_cons, List.map_nil] at ap3
  simp -implicitDefEqProofs [e2, e3, e5, a3, a4, rl, t3, t4, sR, ap3]
  refine cmp_l2 B3 hm4 ?_ ?_ _ (by simp) (by simp)
  · intro s hs
    simp -implicitDefEqProofs [hs, k4]
  · intro hz s
    simp -implicitDefEqProofs [hz, k4]
end Go.Proofs.Sl
namespace Go.Proofs.Sl
abbrev v8 (n : Nat) : V := .s (.int .u8 (n : Int))
structure MK where
  t : Nat
  i : Nat
  p : Nat
  r : Nat
  c : Nat
  k : Nat
  s : Nat
  v : Nat
  o : Nat
  st : Nat
  lo : Nat
  tg : Nat
  lk : Nat
  fl : Bool
def MK.val (m : MK) : V := .agg [v8 m.t, v8 m.i, v8 m.p, v8 m.r, v8 m.c, v8 m.k, v8 m.s, v8 m.v, v8 m.o, v8 m.st, v8 m.lo, v8 m.tg, v8 m.lk, vb m.fl]
structure MK.Ok (m : MK) : Prop where
  a : ∀ n ∈ [m.t, m.i, m.p, m.r, m.c, m.k, m.s, m.v, m.o, m.st, m.lo, m.tg, m.lk], n < 256
def svs : List ByteArray := [⟨#[97, 112, 105]⟩, ⟨#[100, 98]⟩, ⟨#[119, 101, 98]⟩]
def vrs : List ByteArray := [⟨#[]⟩, ⟨#[118, 49]⟩, ⟨#[118, 50]⟩]
def ops : List ByteArray := [⟨#[103, 101, 116]⟩, ⟨#[112, 117, 116]⟩]
def zns : List ByteArray := [⟨#[97]⟩, ⟨#[98]⟩, ⟨#[119, 101, 115, 116, 32, 49]⟩]
def mats (b : Nat) (n : Int) (z : ByteArray) : List AT := [⟨⟨#[111, 107]⟩, ⟨3, ⟨#[]⟩, b⟩⟩, ⟨⟨#[115, 105, 122, 101]⟩, ⟨2, ⟨#[]⟩, n⟩⟩, ⟨⟨#[122, 111, 110, 101]⟩, ⟨1, z, 0⟩⟩]
def mlks : Nat → Int → Int → List RF
  | 0, _, _ => []
  | 1, t, i => [⟨t, i⟩]
  | _, t, i => [⟨t, i⟩, ⟨t, i + 1⟩]
def tbl (l : List ByteArray) (n : Nat) : ByteArray := l.getD n ⟨#[]⟩
def MK.sp (m : MK) : SP := ⟨((m.t % 3 * 1048576 + 1 + m.t / 3 % 4 : Nat) : Int), ((1 + m.i % 4 : Nat) : Int), ((m.p % 5 : Nat) : Int), ((m.r % 3 : Nat) : Int), ((1 + m.c % 3 : Nat) : Int), ((1 + m.k % 5 : Nat) : Int), tbl svs (m.s % 3), tbl vrs (m.v % 3), tbl ops (m.o % 2), (m.st : Int) - 50, (m.st : Int) - 50 + ((m.lo % 40 : Nat) : Int), m.fl,
  (mats (m.tg / 4 % 2) ((m.tg : Int) - 60) (tbl zns (m.tg / 8 % 3))).take (m.tg % 4), mlks (m.lk % 3) ((1 + m.lk / 3 % 5 : Nat) : Int) ((1 + m.lk / 15 % 5 : Nat) : Int), false, m.lk % 3 == 0⟩
theorem tmodN (a b : Nat) : (a : Int).tmod (b : Int) = ((a % b : Nat) : Int) := rfl
theorem tdivN (a b : Nat) : (a : Int).tdiv (b : Int) = ((a / b : Nat) : Int) := rfl
theorem w8 {n : Nat} (h : n < 256) : IntKind.u8.wrap (n : Int) = (n : Int) := by rw [zchf_]; omega
theorem w64 {n : Int} (h : -1000000000 ≤ n ∧ n ≤ 1000000000) : IntKind.i64.wrap n = n := zan_ (by omega) (by omega)
theorem tbl_at {l : List ByteArray} {n : Nat} (h : n < l.length) : (l.map vs)[n]? = some (vs (tbl l n)) := by
  simp [tbl, h]
def lcell (cs : List V) (nl : Nat) (a b : Int) : List V := if nl = 0 then cs else cs.set 13 (.own 2 ((mlks nl a b).map RF.v))
theorem zclp_ {h : H} {base : Nat} {mc rs cs : List V} {f : Ex × St → Option (V × H)} {w : Option (V × H)} {lk nl b3 a9 b4 aA : Nat}
    (c12 : mc[12]? = some (v8 lk)) (c13 : cs[13]? = some vnil) (hb : base ≤ h.length)
    (eH : (lk : Int).tmod 3 = (nl : Int)) (eI : (lk : Int).tdiv 3 = (b3 : Int)) (eJ : (b3 : Int).tmod 5 = (a9 : Int)) (eK : (lk : Int).tdiv 15 = (b4 : Int)) (eL : (b4 : Int).tmod 5 = (aA : Int))
    (hv : ∀ n ∈ [b3, b4, a9, aA, nl], n < 256) (hnl : nl = 0 ∨ nl = 1 ∨ nl = 2)
    (hend : ∀ s ds, s 2 = .ptr (h.length + 1) 0 → s 3 = .ptr (h.length + 2) 0 → f (.exit 0, ⟨s, h ++ (.box false mc :: .box false rs :: .box false (lcell cs nl (1 + (a9 : Int)) (1 + (aA : Int))) :: ds)⟩) = w)
    (s0 : Sl) (h1 : s0 1 = .ptr h.length 0) (h2 : s0 2 = .ptr (h.length + 1) 0) (h3 : s0 3 = .ptr (h.length + 2) 0) (h5 : s0 5 = vi 0) :
    ob (loopW (xcode (run XP) loopW base zdx_) ⟨s0, h ++ [.box false mc, .box false rs, .box false cs]⟩) f = w := by
  simp only [List.mem_cons, List.not_mem_nil, or_false, forall_eq_or_imp, forall_eq] at hv
  obtain ⟨g0, g1, g2, g3, g4⟩ := hv
  have w3 := w8 g0
  have w4 := w8 g1
  have xC : IntKind.i64.wrap (a9 : Int) = a9 := w64 (by omega)
  have xD : IntKind.i64.wrap (aA : Int) = aA := w64 (by omega)
  have xH : IntKind.i64.wrap (1 + (a9 : Int)) = 1 + a9 := w64 (by omega)
  have xI : IntKind.i64.wrap (1 + (aA : Int)) = 1 + aA := w64 (by omega)
  have xJ : IntKind.i64.wrap (1 + (aA : Int) + 1) = 1 + aA + 1 := w64 (by omega)
  have y0 : IntKind.i64.wrap 0 = 0 := by decide
  have y1 : IntKind.i64.wrap 1 = 1 := by decide
  have y2 : IntKind.i64.wrap 2 = 2 := by decide
  have hcl : 13 < cs.length := (List.getElem?_eq_some_iff.1 c13).1
  have hb2 : base ≤ h.length + 2 := by omega
  generalize hB : xcode (run XP) loopW base zdx_ = B
  have step : ∀ st, B st = xcode (run XP) loopW base zdx_ st := fun st => by rw [hB]
  rw [zki_]
  rcases hnl with rfl | rfl | rfl
  · simp -implicitDefEqProofs [step, zdx_, h1, h2, h3, h5, c12, c13, eH, y0]
    exact hend _ [] (by simp [h2]) (by simp [h3])
  · simp -implicitDefEqProofs [step, zdx_, h1, h2, h3, h5, c12, c13, eH, eI, eJ, eK, eL, w3, w4, xC, xD, xH, xI, y0, y1, hb2]
    rw [zki_]
    simp -implicitDefEqProofs [step, zdx_, h1, h2, h3, c12, eH, y1]
    exact hend _ [.dead] (by simp [h2]) (by simp [h3])
  · simp -implicitDefEqProofs [step, zdx_, h1, h2, h3, h5, c12, c13, eH, eI, eJ, eK, eL, w3, w4, xC, xD, xH, xI, y0, y1, y2, hb2]
    rw [zki_]
    simp -implicitDefEqProofs [step, zdx_, h1, h2, h3, c12, hcl, eH, eI, eJ, eK, eL, w3, w4, xC, xD, xH, xI, xJ, y1, y2, hb2]
    rw [zki_]
    simp -implicitDefEqProofs [step, zdx_, h1, h2, h3, c12, eH, y2]
    exact hend _ [.dead] (by simp [h2]) (by simp [h3])
set_option maxHeartbeats 2000000 in
theorem zclq_ (h : H) (t i p r c k s v o st lo tg lk : Nat) (fl : Bool) (a0 b0 a1 a2 a3 a4 a5 a6 is iv io a7 b1 a8 b2 iz nt nl b3 a9 b4 aA : Nat) (sv vr op zn : ByteArray)
    (e0 : (t : Int).tmod 3 = (a0 : Int)) (e1 : (t : Int).tdiv 3 = (b0 : Int)) (e2 : (b0 : Int).tmod 4 = (a1 : Int)) (e3 : (i : Int).tmod 4 = (a2 : Int)) (e4 : (p : Int).tmod 5 = (a3 : Int)) (e5 : (r : Int).tmod 3 = (a4 : Int)) (e6 : (c : Int).tmod 3 = (a5 : Int)) (e7 : (k : Int).tmod 5 = (a6 : Int))
    (e8 : (s : Int).tmod 3 = (is : Int)) (e9 : (v : Int).tmod 3 = (iv : Int)) (eA : (o : Int).tmod 2 = (io : Int)) (eB : (lo : Int).tmod 40 = (a7 : Int)) (eC : (tg : Int).tdiv 4 = (b1 : Int)) (eD : (b1 : Int).tmod 2 = (a8 : Int)) (eE : (tg : Int).tdiv 8 = (b2 : Int)) (eF : (b2 : Int).tmod 3 = (iz : Int)) (eG : (tg : Int).tmod 4 = (nt : Int))
    (eH : (lk : Int).tmod 3 = (nl : Int)) (eI : (lk : Int).tdiv 3 = (b3 : Int)) (eJ : (b3 : Int).tmod 5 = (a9 : Int)) (eK : (lk : Int).tdiv 15 = (b4 : Int)) (eL : (b4 : Int).tmod 5 = (aA : Int))
    (hv : ∀ n ∈ [b0, st, b1, tg, b2, b3, b4, a0, a1, a2, a3, a4, a5, a6, a7, a8, a9, aA, nl], n < 256) (hnt : nt ≤ 3) (hnl : nl = 0 ∨ nl = 1 ∨ nl = 2)
    (s1 : (svs.map vs)[is]? = some (vs sv)) (s2 : (vrs.map vs)[iv]? = some (vs vr)) (s3 : (ops.map vs)[io]? = some (vs op)) (s4 : (zns.map vs)[iz]? = some (vs zn)) :
    run XP zob_ [.agg [v8 t, v8 i, v8 p, v8 r, v8 c, v8 k, v8 s, v8 v, v8 o, v8 st, v8 lo, v8 tg, v8 lk, vb fl]] h =
      some (SP.v ⟨(a0 : Int) * 1048576 + 1 + a1, 1 + (a2 : Int), a3, a4, 1 + (a5 : Int), 1 + (a6 : Int), sv, vr, op, (st : Int) - 50, (st : Int) - 50 + a7, fl, (mats a8 ((tg : Int) - 60) zn).take nt, mlks nl (1 + (a9 : Int)) (1 + (aA : Int)), false, nl == 0⟩, h) := by
  simp only [List.mem_cons, List.not_mem_nil, or_false, forall_eq_or_imp, forall_eq] at hv
  obtain ⟨g0, g1, g2, g3, g4, g5, g6, g7, g8, g9, gA, gB, gC, gD, gE, gF, gG, gH, gI⟩ := hv
  have w0 := w8 g0
  have w1 := w8 g2
  have w2 := w8 g4
  have w3 := w8 g5
  have w4 := w8 g6
  have x0 : IntKind.i64.wrap (a0 : Int) = a0 := w64 (by omega)
  have x1 : IntKind.i64.wrap ((a0 : Int) * 2 ^ min 20 IntKind.i64.bits) = (a0 : Int) * 1048576 := w64 (n := (a0 : Int) * 1048576) (by omega)
  have x2 : IntKind.i64.wrap ((a0 : Int) * 1048576 + 1) = (a0 : Int) * 1048576 + 1 := w64 (by omega)
  have x3 : IntKind.i64.wrap ((a0 : Int) * 1048576 + 1 + a1) = (a0 : Int) * 1048576 + 1 + a1 := w64 (by omega)
  have x4 : IntKind.i64.wrap (a1 : Int) = a1 := w64 (by omega)
  have x5 : IntKind.i64.wrap (a2 : Int) = a2 := w64 (by omega)
  have x6 : IntKind.i64.wrap (a3 : Int) = a3 := w64 (by omega)
  have x7 : IntKind.i64.wrap (a4 : Int) = a4 := w64 (by omega)
  have x8 : IntKind.i64.wrap (a5 : Int) = a5 := w64 (by omega)
  have x9 : IntKind.i64.wrap (a6 : Int) = a6 := w64 (by omega)
  have xA : IntKind.i64.wrap (a7 : Int) = a7 := w64 (by omega)
  have xB : IntKind.i64.wrap (a8 : Int) = a8 := w64 (by omega)
  have xC : IntKind.i64.wrap (a9 : Int) = a9 := w64 (by omega)
  have xD : IntKind.i64.wrap (aA : Int) = aA := w64 (by omega)
  have xE : IntKind.i64.wrap (1 + (a2 : Int)) = 1 + a2 := w64 (by omega)
  have xF : IntKind.i64.wrap (1 + (a5 : Int)) = 1 + a5 := w64 (by omega)
  have xG : IntKind.i64.wrap (1 + (a6 : Int)) = 1 + a6 := w64 (by omega)
  have xH : IntKind.i64.wrap (1 + (a9 : Int)) = 1 + a9 := w64 (by omega)
  have xI : IntKind.i64.wrap (1 + (aA : Int)) = 1 + aA := w64 (by omega)
  have xJ : IntKind.i64.wrap (1 + (aA : Int) + 1) = 1 + aA + 1 := w64 (by omega)
  have xK : IntKind.i64.wrap (st : Int) = st := w64 (by omega)
  have xL : IntKind.i64.wrap ((st : Int) - 50) = (st : Int) - 50 := w64 (by omega)
  have xM : IntKind.i64.wrap ((st : Int) - 50 + a7) = (st : Int) - 50 + a7 := w64 (by omega)
  have xN : IntKind.i64.wrap (tg : Int) = tg := w64 (by omega)
  have xO : IntKind.i64.wrap ((tg : Int) - 60) = (tg : Int) - 60 := w64 (by omega)
  have xP : IntKind.i64.wrap (nl : Int) = nl := w64 (by omega)
  simp only [svs, vrs, ops, zns, List.map_cons, List.map_nil] at s1 s2 s3 s4
  rw [run_eq, zbul_]
  have hl := fun mc rs cs f w c12 c13 hend s0 => zclp_ (h := h) (base := h.length) (mc := mc) (rs := rs) (cs := cs) (f := f) (w := w) (lk := lk) (nl := nl) c12 c13 (Nat.le_refl _) eH eI eJ eK eL (by simp; omega) hnl hend s0
  simp -implicitDefEqProofs [zle_, e0, e1, e2, e3, e4, e5, e6, e7, e8, e9, eA, eB, eC, eD, eE, eF, eG, eH, eI, eJ, eK, eL, w0, w1, w2, w3, w4, x0, x1, x2, x3, x4, x5, x6, x7, x8, x9, xA, xB, xC, xD, xE, xF, xG, xH, xI, xJ, xK, xL, xM, xN, xO, xP, s1, s2, s3, s4, hnt]
  refine hl _ _ _ _ _ rfl rfl ?_ _ ?_ ?_ ?_ ?_
  · intro s ds g2 g3
    have hml : mlks nl (1 + (a9 : Int)) (1 + (aA : Int)) = [] ↔ nl = 0 := by rcases hnl with rfl | rfl | rfl <;> simp [mlks]
    by_cases hn0 : nl = 0
    · subst hn0
      simp -implicitDefEqProofs [lcell, g2, g3, SP.v, slc, mlks]
      exact ⟨rfl, rfl⟩
    · simp -implicitDefEqProofs [lcell, g2, g3, SP.v, slc, hn0]
      exact ⟨rfl, rfl⟩
  all_goals simp
end Go.Proofs.Sl
namespace Go.Proofs.Sl
theorem zclr_ {h : H} {m : MK} (hm : m.Ok) : run XP zob_ [m.val] h = some (m.sp.v, h) := by
  obtain ⟨t, i, p, r, c, k, s, v, o, st, lo, tg, lk, fl⟩ := m
  have hm := hm.a
  simp only [List.mem_cons, List.not_mem_nil, or_false, forall_eq_or_imp, forall_eq] at hm
  obtain ⟨m0, m1, m2, m3, m4, m5, m6, m7, m8, m9, mA, mB, mC⟩ := hm
  have := zclq_ h t i p r c k s v o st lo tg lk fl (t % 3) (t / 3) (t / 3 % 4) (i % 4) (p % 5) (r % 3) (c % 3) (k % 5) (s % 3) (v % 3) (o % 2) (lo % 40) (tg / 4) (tg / 4 % 2) (tg / 8) (tg / 8 % 3) (tg % 4) (lk % 3) (lk / 3) (lk / 3 % 5) (lk / 15) (lk / 15 % 5)
    (tbl svs (s % 3)) (tbl vrs (v % 3)) (tbl ops (o % 2)) (tbl zns (tg / 8 % 3))
    (tmodN _ _) (tdivN _ _) (tmodN _ _) (tmodN _ _) (tmodN _ _) (tmodN _ _) (tmodN _ _) (tmodN _ _) (tmodN _ _) (tmodN _ _) (tmodN _ _) (tmodN _ _) (tdivN _ _) (tmodN _ _) (tdivN _ _) (tmodN _ _) (tmodN _ _) (tmodN _ _) (tdivN _ _) (tmodN _ _) (tdivN _ _) (tmodN _ _)
    (by simp only [List.mem_cons, List.not_mem_nil, or_false, forall_eq_or_imp, forall_eq]; omega) (by omega) (by omega)
    (tbl_at (by simp only [svs, List.length_cons, List.length_nil]; omega)) (tbl_at (by simp only [vrs, List.length_cons, List.length_nil]; omega)) (tbl_at (by simp only [ops, List.length_cons, List.length_nil]; omega)) (tbl_at (by simp only [zns, List.length_cons, List.length_nil]; omega))
  have hsp : MK.sp ⟨t, i, p, r, c, k, s, v, o, st, lo, tg, lk, fl⟩ = (⟨((t % 3 : Nat) : Int) * 1048576 + 1 + ((t / 3 % 4 : Nat) : Int), 1 + ((i % 4 : Nat) : Int), ((p % 5 : Nat) : Int), ((r % 3 : Nat) : Int), 1 + ((c % 3 : Nat) : Int), 1 + ((k % 5 : Nat) : Int), tbl svs (s % 3), tbl vrs (v % 3), tbl ops (o % 2), (st : Int) - 50, (st : Int) - 50 + ((lo % 40 : Nat) : Int), fl,
      (mats (tg / 4 % 2) ((tg : Int) - 60) (tbl zns (tg / 8 % 3))).take (tg % 4), mlks (lk % 3) (1 + ((lk / 3 % 5 : Nat) : Int)) (1 + ((lk / 15 % 5 : Nat) : Int)), false, lk % 3 == 0⟩ : SP) := by
    simp only [MK.sp, Int.natCast_add, Int.natCast_mul]
    rfl
  rw [hsp]
  exact this
theorem MK.len (m : MK) : m.sp.ats.length ≤ 3 ∧ m.sp.lks.length ≤ 2 := by
  refine ⟨?_, ?_⟩
  · show ((mats _ _ _).take _).length ≤ 3
    rw [List.length_take]
    exact Nat.min_le_right _ _
  · show (mlks (m.lk % 3) _ _).length ≤ 2
    have : m.lk % 3 = 0 ∨ m.lk % 3 = 1 ∨ m.lk % 3 = 2 := by omega
    rcases this with h | h | h <;> rw [h] <;> simp [mlks]
theorem MK.an (m : MK) : m.sp.an = true → m.sp.ats = [] := fun h => by cases h
theorem MK.ln (m : MK) : m.sp.ln = true → m.sp.lks = [] := fun h => by
  have h0 : m.lk % 3 = 0 := by simpa [MK.sp] using h
  show mlks (m.lk % 3) _ _ = []
  rw [h0, mlks]
theorem MK.sm (m : MK) : m.sp.Sm := ⟨by have := m.len.1; omega, by have := m.len.2; omega, m.an, m.ln⟩
theorem MK.slot (m : MK) : m.sp.tr.fdiv 1048576 = ((m.t % 3 : Nat) : Int) := by
  show (((m.t % 3 * 1048576 + 1 + m.t / 3 % 4 : Nat) : Int)).fdiv 1048576 = _
  rw [Int.fdiv_eq_ediv_of_nonneg _ (by decide)]
  omega
end Go.Proofs.Sl
namespace Go.Proofs.Sl
structure FO (a : SP) (f : ByteArray) (x : AV) : Prop where
  vl : ∀ h, run XP zay_ [a.v, vs f, vs ⟨#[]⟩] h = some (.tup [x.v, vb true], h)
  lv : ∀ h, run XP zbv_ [a.v, vs f] h = some (x.v, h)
  kd : ∀ h, run XP zbh_ [vs f] h = some (.tup [vi x.k, vb true], h)
  ck : chkV x = 0
  sz : x.t.size ≤ 9223372036854775807
theorem zfs_ {n : Int} (h : -1099511627776 ≤ n ∧ n ≤ 1099511627776) : chkV ⟨2, ⟨#[]⟩, n⟩ = 0 := by
  have : okV 2 ⟨#[]⟩ n = true := by simp [okV, eS, h.1, h.2]
  simp only [chkV]
  rw [this]
  rfl
theorem zbbd_ (b : Bool) : chkV ⟨3, ⟨#[]⟩, flg b⟩ = 0 := by cases b <;> decide +kernel
theorem zug_ {l : List ByteArray} (hl : ∀ t ∈ l, chkV ⟨1, t, 0⟩ = 0 ∧ t.size ≤ 100) (n : Nat) : chkV ⟨1, tbl l n, 0⟩ = 0 ∧ (tbl l n).size ≤ 100 := by
  have h0 : chkV ⟨1, ⟨#[]⟩, 0⟩ = 0 ∧ (⟨#[]⟩ : ByteArray).size ≤ 100 := by decide +kernel
  rw [tbl, List.getD_eq_getElem?_getD]
  cases e : l[n]? with
  | none => exact h0
  | some t => exact hl t (List.mem_of_getElem? e)
theorem zcls_ : ∀ t ∈ svs, chkV ⟨1, t, 0⟩ = 0 ∧ t.size ≤ 100 := by decide +kernel
theorem zclt_ : ∀ t ∈ vrs, chkV ⟨1, t, 0⟩ = 0 ∧ t.size ≤ 100 := by decide +kernel
theorem zclu_ : ∀ t ∈ ops, chkV ⟨1, t, 0⟩ = 0 ∧ t.size ≤ 100 := by decide +kernel
theorem zclv_ : ∀ t ∈ kNs, chkV ⟨1, t, 0⟩ = 0 ∧ t.size ≤ 100 := by decide +kernel
theorem fo_all (m : MK) (hm : m.Ok) : ∀ f ∈ flds, ∃ x, FO m.sp f x := by
  obtain ⟨t, i, p, r, c, k, s, v, o, st, lo, tg, lk, fl⟩ := m
  have hm := hm.a
  simp only [List.mem_cons, List.not_mem_nil, or_false, forall_eq_or_imp, forall_eq] at hm
  obtain ⟨m0, m1, m2, m3, m4, m5, m6, m7, m8, m9, mA, mB, mC⟩ := hm
  generalize ha : MK.sp ⟨t, i, p, r, c, k, s, v, o, st, lo, tg, lk, fl⟩ = a
  have z0 : (⟨#[]⟩ : ByteArray).size ≤ 9223372036854775807 := by decide
  have b1 : a.tr = ((t % 3 * 1048576 + 1 + t / 3 % 4 : Nat) : Int) := by rw [← ha]; rfl
  have b2 : a.id = ((1 + i % 4 : Nat) : Int) := by rw [← ha]; rfl
  have b3 : a.par = ((p % 5 : Nat) : Int) := by rw [← ha]; rfl
  have b4 : a.rev = ((r % 3 : Nat) : Int) := by rw [← ha]; rfl
  have b5 : a.clk = ((1 + c % 3 : Nat) : Int) := by rw [← ha]; rfl
  have b6 : a.kind = ((1 + k % 5 : Nat) : Int) := by rw [← ha]; rfl
  have b7 : a.sv = tbl svs (s % 3) := by rw [← ha]; rfl
  have b8 : a.vr = tbl vrs (v % 3) := by rw [← ha]; rfl
  have b9 : a.op = tbl ops (o % 2) := by rw [← ha]; rfl
  have b10 : a.st = (st : Int) - 50 := by rw [← ha]; rfl
  have b11 : a.en = (st : Int) - 50 + ((lo % 40 : Nat) : Int) := by rw [← ha]; rfl
  have hsl : a.tr.fdiv 1048576 = ((t % 3 : Nat) : Int) := by rw [← ha]; exact MK.slot _
  have hsl2 : IntKind.i64.wrap (a.tr.tdiv 1048576) = ((t % 3 : Nat) : Int) := by
    rw [b1, show (1048576 : Int) = ((1048576 : Nat) : Int) from rfl, tdivN, zan_ (by omega) (by omega)]
    omega
  have hdu : IntKind.i64.wrap (a.en - a.st) = ((lo % 40 : Nat) : Int) := by
    rw [b10, b11, zan_ (by omega) (by omega)]
    omega
  have hsv := zug_ zcls_ (s % 3)
  have hvr := zug_ zclt_ (v % 3)
  have hop := zug_ zclu_ (o % 2)
  obtain ⟨q, hq⟩ : ∃ q, kNs[k % 5]? = some q := ⟨_, List.getElem?_eq_getElem (by simp only [kNs, List.length_cons, List.length_nil]; omega)⟩
  have hq2 := zclv_ q (List.mem_of_getElem? hq)
  have hk : a.kind = ((k % 5 : Nat) : Int) + 1 := by rw [b6]; omega
  rw [zcjw_]
  simp only [List.mem_cons, List.not_mem_nil, or_false, forall_eq_or_imp, forall_eq]
  refine ⟨?_, ?_, ?_, ?_, ?_, ?_, ?_, ?_, ?_, ?_, ?_, ?_, ?_, ?_, ?_⟩
  · exact ⟨⟨2, ⟨#[]⟩, a.clk⟩, fun h => zcjy_ h a, fun h => zckv_ h a, fun h => zbac_ h, zfs_ (by omega), z0⟩
  · exact ⟨⟨2, ⟨#[]⟩, IntKind.i64.wrap (a.en - a.st)⟩, fun h => zcka_ h a, fun h => zckw_ h a, fun h => zbad_ h, zfs_ (by rw [hdu]; omega), z0⟩
  · exact ⟨⟨2, ⟨#[]⟩, a.en⟩, fun h => vl_end h a, fun h => lv_end h a, fun h => kd_end h, zfs_ (by omega), z0⟩
  · exact ⟨⟨3, ⟨#[]⟩, _⟩, fun h => zckb_ h a, fun h => zckx_ h a, fun h => zbae_ h, zbbd_ _, z0⟩
  · exact ⟨⟨2, ⟨#[]⟩, a.id⟩, fun h => vl_id h a, fun h => lv_id h a, fun h => kd_id h, zfs_ (by omega), z0⟩
  · exact ⟨⟨1, q, 0⟩, fun h => zckd_ h a hq hk, fun h => zcky_ h a hq hk, fun h => zbaf_ h, hq2.1, by have := hq2.2; show q.size ≤ _; omega⟩
  · exact ⟨⟨1, a.op, 0⟩, fun h => zckf_ h a, fun h => zckz_ h a, fun h => zbag_ h, by rw [b9]; exact hop.1, by show a.op.size ≤ _; rw [b9]; have := hop.2; omega⟩
  · exact ⟨⟨2, ⟨#[]⟩, a.par⟩, fun h => zckh_ h a, fun h => zcla_ h a, fun h => zbah_ h, zfs_ (by omega), z0⟩
  · exact ⟨⟨2, ⟨#[]⟩, a.rev⟩, fun h => zckj_ h a, fun h => zclb_ h a, fun h => zbai_ h, zfs_ (by omega), z0⟩
  · exact ⟨⟨3, ⟨#[]⟩, _⟩, fun h => zckk_ h a, fun h => zclc_ h a, fun h => zbaj_ h, zbbd_ _, z0⟩
  · exact ⟨⟨1, a.sv, 0⟩, fun h => zckm_ h a, fun h => zcld_ h a, fun h => zbak_ h, by rw [b7]; exact hsv.1, by show a.sv.size ≤ _; rw [b7]; have := hsv.2; omega⟩
  · exact ⟨⟨2, ⟨#[]⟩, a.tr.fdiv 1048576⟩, fun h => zcko_ h a, fun h => by rw [zcle_ h a, hsl2, hsl]; rfl, fun h => zbal_ h, zfs_ (by omega), z0⟩
  · exact ⟨⟨2, ⟨#[]⟩, a.st⟩, fun h => zckq_ h a, fun h => zclf_ h a, fun h => zbam_ h, zfs_ (by omega), z0⟩
  · exact ⟨⟨2, ⟨#[]⟩, a.tr⟩, fun h => zcks_ h a, fun h => zclg_ h a, fun h => zban_ h, zfs_ (by omega), z0⟩
  · exact ⟨⟨1, a.vr, 0⟩, fun h => zcku_ h a, fun h => zclh_ h a, fun h => zbao_ h, by rw [b8]; exact hvr.1, by show a.vr.size ≤ _; rw [b8]; have := hvr.2; omega⟩
end Go.Proofs.Sl
namespace Go.Proofs.Sl
theorem zclw_ (h : H) {a : SP} {ky : ByteArray} (hgt : ∀ h, run XP zof_ [lv 4 (slc AT.v a.ats a.an), vs ky] h = some (.tup [(getA a.ats ky).v, vb (fndA a.ats ky)], h)) :
    run XP zay_ [a.v, vs sAttr, vs ky] h = some (.tup [(getA a.ats ky).v, vb (fndA a.ats ky)], h) := by
  have ea : (sAttr.toList == [97, 116, 116, 114]) = true := by rw [ByteArray.toList_eq]; rfl
  obtain ⟨tr, id, par, rev, clk, kind, sv, vr, op, st, en, er, ats, lks, an, ln⟩ := a
  simp only at hgt
  rw [run_eq, zbw_]
  generalize getA ats ky = g at *
  generalize fndA ats ky = b at *
  simp only [AV.v] at hgt
  simp -implicitDefEqProofs [zbc_, SP.v, ea, hgt, AV.v]
end Go.Proofs.Sl
namespace Go.Proofs.Sl
def ixF {α : Type} (p : α → Bool) : List α → Nat → Int
  | [], _ => -1
  | e :: r, k => if p e = true then (k : Int) else ixF p r (k + 1)
theorem zbbe_ {α : Type} (p : α → Bool) : ∀ (es : List α) (k : Nat), decide (0 ≤ ixF p es k) = es.any p
  | [], k => rfl
  | e :: r, k => by
    rw [ixF, List.any_cons]
    cases h : p e with
    | true => simp
    | false => rw [if_neg (by simp), zbbe_ p r (k + 1)]; rfl
theorem zbbf_ {h : H} {v : V} {es : List AT} {f : Nat} {a b : List V} {p : AT → Bool} (hv : Rd h 4 v (es.map AT.v)) (hg : ∀ e ∈ es, arg0s (a ++ e.v :: b) = some (a ++ e.v :: b)) (hp : ∀ e ∈ es, run XP f (a ++ e.v :: b) h = some (vb (p e), h)) (hl : es.length ≤ 100000) :
    run XP zte_ [v, .fn f a b] h = some (vi (ixF p es 0), h) := by
  rw [run_eq, zbwx_]
  simp -implicitDefEqProofs [zmp_, hv.toL]
  refine zbo_ es (fun k s h' => Sees s [(0, v), (1, .fn f a b), (7, vi es.length), (8, vi k)] ∧ h' = h ∧ ixF p es 0 = ixF p (es.drop k) k) ?_ ?_ _ _ ⟨by simp, rfl, rfl⟩
  · rintro B f' hB hf k e s h' he hk ⟨⟨h0, h1, h7, h8, -⟩, rfl, hx⟩ K
    have hlt : (k : Int) < es.length := by omega
    have hm := List.mem_of_getElem? he
    obtain ⟨q, hq, hld⟩ := hv.at (i := k) (e := e.v) (by simp [he])
    have hw : IntKind.i64.wrap ((k : Int) + 1) = (k : Int) + 1 := zan_ (by omega) (by omega)
    have hge := hg e hm
    have hpe := hp e hm
    rw [zbq_ he, ixF] at hx
    simp only [AT.v, V.cells] at hld hge hpe
    cases hb : p e with
    | false =>
      rw [hb] at hpe
      rw [hb, if_neg (by simp)] at hx
      simp -implicitDefEqProofs [hB, zpm_, h0, h1, h7, h8, hlt, hq, hld, hge, hpe]
      refine K _ _ ⟨?_, rfl, hx⟩
      simp [h0, h1, h7, hw]
    | true =>
      rw [hb] at hpe
      rw [hb, if_pos rfl] at hx
      simp -implicitDefEqProofs [hB, hf, zpm_, h0, h1, h7, h8, hlt, hq, hld, hge, hpe, hx]
  · rintro B hB s h' ⟨⟨h0, h1, h7, h8, -⟩, rfl, hx⟩
    rw [List.drop_of_length_le (Nat.le_refl _)] at hx
    have hx' : ixF p es 0 = -1 := hx
    simp -implicitDefEqProofs [hB, zpm_, h7, h8, hx']
end Go.Proofs.Sl
namespace Go.Proofs.Sl
structure PN where
  op : Int
  fd : ByteArray
  ky : ByteArray
  vl : AV
  nl : Bool
inductive PR where
  | mk (n : PN) (as : List PR)
def PR.n : PR → PN
  | .mk n _ => n
def PR.as : PR → List PR
  | .mk _ as => as
mutual
def PR.v : PR → V
  | .mk n as => .agg [vi n.op, vs n.fd, vs n.ky, vi n.vl.k, vs n.vl.t, vi n.vl.n, lv 7 (if n.nl = true then none else some (PR.vv as))]
def PR.vv : List PR → List V
  | [] => []
  | p :: r => p.v :: PR.vv r
end
theorem PR.vv_map : ∀ l : List PR, PR.vv l = l.map PR.v
  | [] => by rw [PR.vv, List.map_nil]
  | p :: r => by rw [PR.vv, List.map_cons, PR.vv_map r]
theorem PR.v_mk (n : PN) (as : List PR) : (PR.mk n as).v = .agg [vi n.op, vs n.fd, vs n.ky, vi n.vl.k, vs n.vl.t, vi n.vl.n, lv 7 (slc PR.v as n.nl)] := by
  rw [PR.v, PR.vv_map, slc]
structure PN.Sz (n : PN) : Prop where
  f : n.fd.size ≤ 9223372036854775807
  k : n.ky.size ≤ 9223372036854775807
  t : n.vl.t.size ≤ 9223372036854775807
inductive PR.Sz : PR → Prop
  | mk {n : PN} {as : List PR} (hn : n.Sz) (hl : as.length ≤ 9223372036854775807) (h0 : n.nl = true → as = []) (ha : ∀ a ∈ as, a.Sz) : PR.Sz (.mk n as)
def isT (o : Int) : Bool := decide (o = 5) || (decide (o = 6) || decide (o = 7))
theorem zft_ (h : H) (n : PN) (as : List PR) : run XP ztd_ [(PR.mk n as).v] h = some (vb (isT n.op), h) := by
  rw [run_eq, zbwt_, PR.v_mk, isT]
  have q : ∀ c : Int, n.op ≠ c → (n.op == c) = false := fun c h => by simpa using h
  by_cases h5 : n.op = 5
  · simp -implicitDefEqProofs [zgq_, h5]
  by_cases h6 : n.op = 6
  · simp -implicitDefEqProofs [zgq_, h6]
  by_cases h7 : n.op = 7
  · simp -implicitDefEqProofs [zgq_, h7]
  simp -implicitDefEqProofs [zgq_, h5, h6, h7, q 5 h5, q 6 h6, q 7 h7]
def argN (o : Int) (n : Nat) : Bool := if o = 1 ∨ o = 2 then decide (1 ≤ n) else if o = 3 then decide (n = 1) else decide (n = 0)
def zV (v : AV) : Bool := decide (v.k = 0) && (decide (v.t = eS) && decide (v.n = 0))
def form (n : PN) (m : Nat) : Bool := !argN n.op m || ((!isT n.op && (!decide (n.fd = eS) || !zV n.vl)) || (!isT n.op && (!decide (n.op = 4) && !decide (n.ky = eS))))
def chkN (n : PN) (m : Nat) : Int :=
  if n.op < 0 ∨ 7 < n.op then 12 else
  if form n m = true then 3 else
  if n.op = 4 ∧ isNm n.ky = false then 11 else
  if isT n.op = false then 0 else
  if (!isNm n.fd || ((decide (n.fd = sAttr) && !isNm n.ky) || (!decide (n.fd = sAttr) && !decide (n.ky = eS)))) = true then 11 else
  if chkV n.vl ≠ 0 then chkV n.vl else
  if n.op = 6 ∧ n.vl.k = 3 ∨ n.op = 7 ∧ n.vl.k ≠ 1 then 13 else 0
theorem zclx_ {n : PN} {m : Nat} (h : chkN n m = 0) (h3 : n.op = 3) : m = 1 := by
  rw [chkN, if_neg (by omega)] at h
  split at h
  · omega
  · rename_i hf
    simp [form, argN, h3] at hf
    exact hf.1
end Go.Proofs.Sl
namespace Go.Proofs.Sl
theorem beq_eS (t : ByteArray) : (t == (⟨#[]⟩ : ByteArray)) = decide (t = eS) := by
  obtain ⟨d⟩ := t
  by_cases h : d = #[]
  · subst h; decide
  · have h1 : ((⟨d⟩ : ByteArray) == ⟨#[]⟩) = false := by
      show (d == #[]) = false
      simpa using h
    rw [h1]
    simp [eS, h]
set_option maxHeartbeats 4000000 in
theorem node_0 (h : H) {n : PN} {as : List PR} (hs : n.Sz) (h0 : n.nl = true → as = []) (e0 : n.op = 0) : run XP zde_ [(PR.mk n as).v] h = some (vi (chkN n as.length), h) := by
  have hT := fun h => zft_ h n as
  have hK := fun h => zbd_ h n.ky hs.k
  have hF := fun h => zbd_ h n.fd hs.f
  have hC := fun h => zdz_ h n.vl hs.t
  have hg : ∀ h, (lv 7 (slc PR.v as n.nl)).toL h = some (as.map PR.v) := fun h => (rd_slc h 7 PR.v h0).toL
  have hL : (slc PR.v as n.nl).getD [] = as.map PR.v := by
    rw [slc]
    cases hc : n.nl with
    | false => rfl
    | true => rw [h0 hc]; rfl
  have eK := isE n.ky
  have eF := isE n.fd
  have eV := beq_eS n.vl.t
  have eA : (n.fd.toList == [97, 116, 116, 114]) = decide (n.fd = sAttr) := by
    rw [show ([97, 116, 116, 114] : List UInt8) = sAttr.toList from by rw [ByteArray.toList_eq]; rfl, bl_eq]
  have q : ∀ c : Int, n.op ≠ c → (n.op == c) = false := fun c h => by simpa using h
  have m0 : ((as.length : Int) == 0) = decide (as.length = 0) := by
    rw [Bool.eq_iff_iff]
    simp
  have m1 : ((as.length : Int) == 1) = decide (as.length = 1) := by
    rw [Bool.eq_iff_iff]
    simp only [beq_iff_eq, decide_eq_true_eq]
    omega
  have m2 : (1 ≤ (as.length : Int)) = (1 ≤ as.length) := by
    rw [eq_iff_iff]
    omega
  rw [run_eq, zef_]
  rw [PR.v_mk] at hT ⊢
  simp only [AV.v] at hC
  rw [chkN]
  obtain ⟨op, fd, ky, ⟨vk, vt, vn⟩, nl⟩ := n
  simp only at *
  subst e0
  have hm : (as.map PR.v).length = as.length := by simp
  generalize as.map PR.v = es at *
  simp only [form, isT, argN, zV] at *
  generalize as.length = m at *
  generalize decide (ky = eS) = bK at *
  generalize decide (fd = eS) = bF at *
  generalize decide (vt = eS) = bT at *
  generalize decide (fd = sAttr) = bA at *
  generalize isNm ky = iK at *
  generalize isNm fd = iF at *
  generalize chkV ⟨vk, vt, vn⟩ = cv at *
  generalize hzk : (vk == 0) = zk at *
  generalize hzn : (vn == 0) = zn at *
  have hcv : (cv != 0) = !(decide (cv = 0)) := by
    by_cases c : cv = 0 <;> simp [c]
  have hk3 : (vk == 3) = decide (vk = 3) := by
    by_cases c : vk = 3 <;> simp [c]
  have hk1 : (vk != 1) = !(decide (vk = 1)) := by
    by_cases c : vk = 1 <;> simp [c]
  have hzk2 : (vk = 0) = (zk = true) := by simp [← hzk]
  have hzn2 : (vn = 0) = (zn = true) := by simp [← hzn]
  by_cases ha : m = 0
  · cases bF with
    | false =>
      simp (maxSteps := 1000000) -implicitDefEqProofs [zac_, hL, hg, hm, hT, hK, hF, hC, eK, eF, eV, eA, hzk, hzn, hzk2, hzn2, hcv, hk3, hk1, m0, m1, m2, ha]
    | true =>
      cases zk with
      | false =>
        simp (maxSteps := 1000000) -implicitDefEqProofs [zac_, hL, hg, hm, hT, hK, hF, hC, eK, eF, eV, eA, hzk, hzn, hzk2, hzn2, hcv, hk3, hk1, m0, m1, m2, ha]
      | true =>
        cases bT with
        | false =>
          simp (maxSteps := 1000000) -implicitDefEqProofs [zac_, hL, hg, hm, hT, hK, hF, hC, eK, eF, eV, eA, hzk, hzn, hzk2, hzn2, hcv, hk3, hk1, m0, m1, m2, ha]
        | true =>
          cases zn with
          | false =>
            simp (maxSteps := 1000000) -implicitDefEqProofs [zac_, hL, hg, hm, hT, hK, hF, hC, eK, eF, eV, eA, hzk, hzn, hzk2, hzn2, hcv, hk3, hk1, m0, m1, m2, ha]
          | true =>
            cases bK with
            | false =>
              simp (maxSteps := 1000000) -implicitDefEqProofs [zac_, hL, hg, hm, hT, hK, hF, hC, eK, eF, eV, eA, hzk, hzn, hzk2, hzn2, hcv, hk3, hk1, m0, m1, m2, ha]
            | true =>
              simp (maxSteps := 1000000) -implicitDefEqProofs [zac_, hL, hg, hm, hT, hK, hF, hC, eK, eF, eV, eA, hzk, hzn, hzk2, hzn2, hcv, hk3, hk1, m0, m1, m2, ha]
  · simp (maxSteps := 1000000) -implicitDefEqProofs [zac_, hL, hg, hm, hT, hK, hF, hC, eK, eF, eV, eA, hzk, hzn, hzk2, hzn2, hcv, hk3, hk1, m0, m1, m2, ha]
set_option maxHeartbeats 4000000 in
theorem node_1 (h : H) {n : PN} {as : List PR} (hs : n.Sz) (h0 : n.nl = true → as = []) (e0 : n.op = 1) : run XP zde_ [(PR.mk n as).v] h = some (vi (chkN n as.length), h) := by
  have hT := fun h => zft_ h n as
  have hK := fun h => zbd_ h n.ky hs.k
  have hF := fun h => zbd_ h n.fd hs.f
  have hC := fun h => zdz_ h n.vl hs.t
  have hg : ∀ h, (lv 7 (slc PR.v as n.nl)).toL h = some (as.map PR.v) := fun h => (rd_slc h 7 PR.v h0).toL
  have hL : (slc PR.v as n.nl).getD [] = as.map PR.v := by
    rw [slc]
    cases hc : n.nl with
    | false => rfl
    | true => rw [h0 hc]; rfl
  have eK := isE n.ky
  have eF := isE n.fd
  have eV := beq_eS n.vl.t
  have eA : (n.fd.toList == [97, 116, 116, 114]) = decide (n.fd = sAttr) := by
    rw [show ([97, 116, 116, 114] : List UInt8) = sAttr.toList from by rw [ByteArray.toList_eq]; rfl, bl_eq]
  have q : ∀ c : Int, n.op ≠ c → (n.op == c) = false := fun c h => by simpa using h
  have m0 : ((as.length : Int) == 0) = decide (as.length = 0) := by
    rw [Bool.eq_iff_iff]
    simp
  have m1 : ((as.length : Int) == 1) = decide (as.length = 1) := by
    rw [Bool.eq_iff_iff]
    simp only [beq_iff_eq, decide_eq_true_eq]
    omega
  have m2 : (1 ≤ (as.length : Int)) = (1 ≤ as.length) := by
    rw [eq_iff_iff]
    omega
  rw [run_eq, zef_]
  rw [PR.v_mk] at hT ⊢
  simp only [AV.v] at hC
  rw [chkN]
  obtain ⟨op, fd, ky, ⟨vk, vt, vn⟩, nl⟩ := n
  simp only at *
  subst e0
  have hm : (as.map PR.v).length = as.length := by simp
  generalize as.map PR.v = es at *
  simp only [form, isT, argN, zV] at *
  generalize as.length = m at *
  generalize decide (ky = eS) = bK at *
  generalize decide (fd = eS) = bF at *
  generalize decide (vt = eS) = bT at *
  generalize decide (fd = sAttr) = bA at *
  generalize isNm ky = iK at *
  generalize isNm fd = iF at *
  generalize chkV ⟨vk, vt, vn⟩ = cv at *
  generalize hzk : (vk == 0) = zk at *
  generalize hzn : (vn == 0) = zn at *
  have hcv : (cv != 0) = !(decide (cv = 0)) := by
    by_cases c : cv = 0 <;> simp [c]
  have hk3 : (vk == 3) = decide (vk = 3) := by
    by_cases c : vk = 3 <;> simp [c]
  have hk1 : (vk != 1) = !(decide (vk = 1)) := by
    by_cases c : vk = 1 <;> simp [c]
  have hzk2 : (vk = 0) = (zk = true) := by simp [← hzk]
  have hzn2 : (vn = 0) = (zn = true) := by simp [← hzn]
  by_cases ha : 1 ≤ m
  · cases bF with
    | false =>
      simp (maxSteps := 1000000) -implicitDefEqProofs [zac_, hL, hg, hm, hT, hK, hF, hC, eK, eF, eV, eA, hzk, hzn, hzk2, hzn2, hcv, hk3, hk1, m0, m1, m2, ha]
    | true =>
      cases zk with
      | false =>
        simp (maxSteps := 1000000) -implicitDefEqProofs [zac_, hL, hg, hm, hT, hK, hF, hC, eK, eF, eV, eA, hzk, hzn, hzk2, hzn2, hcv, hk3, hk1, m0, m1, m2, ha]
      | true =>
        cases bT with
        | false =>
          simp (maxSteps := 1000000) -implicitDefEqProofs [zac_, hL, hg, hm, hT, hK, hF, hC, eK, eF, eV, eA, hzk, hzn, hzk2, hzn2, hcv, hk3, hk1, m0, m1, m2, ha]
        | true =>
          cases zn with
          | false =>
            simp (maxSteps := 1000000) -implicitDefEqProofs [zac_, hL, hg, hm, hT, hK, hF, hC, eK, eF, eV, eA, hzk, hzn, hzk2, hzn2, hcv, hk3, hk1, m0, m1, m2, ha]
          | true =>
            cases bK with
            | false =>
              simp (maxSteps := 1000000) -implicitDefEqProofs [zac_, hL, hg, hm, hT, hK, hF, hC, eK, eF, eV, eA, hzk, hzn, hzk2, hzn2, hcv, hk3, hk1, m0, m1, m2, ha]
            | true =>
              simp (maxSteps := 1000000) -implicitDefEqProofs [zac_, hL, hg, hm, hT, hK, hF, hC, eK, eF, eV, eA, hzk, hzn, hzk2, hzn2, hcv, hk3, hk1, m0, m1, m2, ha]
  · simp (maxSteps := 1000000) -implicitDefEqProofs [zac_, hL, hg, hm, hT, hK, hF, hC, eK, eF, eV, eA, hzk, hzn, hzk2, hzn2, hcv, hk3, hk1, m0, m1, m2, ha]
end Go.Proofs.Sl
namespace Go.Proofs.Sl
set_option maxHeartbeats 4000000 in
theorem node_2 (h : H) {n : PN} {as : List PR} (hs : n.Sz) (h0 : n.nl = true → as = []) (e0 : n.op = 2) : run XP zde_ [(PR.mk n as).v] h = some (vi (chkN n as.length), h) := by
  have hT := fun h => zft_ h n as
  have hK := fun h => zbd_ h n.ky hs.k
  have hF := fun h => zbd_ h n.fd hs.f
  have hC := fun h => zdz_ h n.vl hs.t
  have hg : ∀ h, (lv 7 (slc PR.v as n.nl)).toL h = some (as.map PR.v) := fun h => (rd_slc h 7 PR.v h0).toL
  have hL : (slc PR.v as n.nl).getD [] = as.map PR.v := by
    rw [slc]
    cases hc : n.nl with
    | false => rfl
    | true => rw [h0 hc]; rfl
  have eK := isE n.ky
  have eF := isE n.fd
  have eV := beq_eS n.vl.t
  have eA : (n.fd.toList == [97, 116, 116, 114]) = decide (n.fd = sAttr) := by
    rw [show ([97, 116, 116, 114] : List UInt8) = sAttr.toList from by rw [ByteArray.toList_eq]; rfl, bl_eq]
  have q : ∀ c : Int, n.op ≠ c → (n.op == c) = false := fun c h => by simpa using h
  have m0 : ((as.length : Int) == 0) = decide (as.length = 0) := by
    rw [Bool.eq_iff_iff]
    simp
  have m1 : ((as.length : Int) == 1) = decide (as.length = 1) := by
    rw [Bool.eq_iff_iff]
    simp only [beq_iff_eq, decide_eq_true_eq]
    omega
  have m2 : (1 ≤ (as.length : Int)) = (1 ≤ as.length) := by
    rw [eq_iff_iff]
    omega
  rw [run_eq, zef_]
  rw [PR.v_mk] at hT ⊢
  simp only [AV.v] at hC
  rw [chkN]
  obtain ⟨op, fd, ky, ⟨vk, vt, vn⟩, nl⟩ := n
  simp only at *
  subst e0
  have hm : (as.map PR.v).length = as.length := by simp
  generalize as.map PR.v = es at *
  simp only [form, isT, argN, zV] at *
  generalize as.length = m at *
  generalize decide (ky = eS) = bK at *
  generalize decide (fd = eS) = bF at *
  generalize decide (vt = eS) = bT at *
  generalize decide (fd = sAttr) = bA at *
  generalize isNm ky = iK at *
  generalize isNm fd = iF at *
  generalize chkV ⟨vk, vt, vn⟩ = cv at *
  generalize hzk : (vk == 0) = zk at *
  generalize hzn : (vn == 0) = zn at *
  have hcv : (cv != 0) = !(decide (cv = 0)) := by
    by_cases c : cv = 0 <;> simp [c]
  have hk3 : (vk == 3) = decide (vk = 3) := by
    by_cases c : vk = 3 <;> simp [c]
  have hk1 : (vk != 1) = !(decide (vk = 1)) := by
    by_cases c : vk = 1 <;> simp [c]
  have hzk2 : (vk = 0) = (zk = true) := by simp [← hzk]
  have hzn2 : (vn = 0) = (zn = true) := by simp [← hzn]
  by_cases ha : 1 ≤ m
  · cases bF with
    | false =>
      simp (maxSteps := 1000000) -implicitDefEqProofs [zac_, hL, hg, hm, hT, hK, hF, hC, eK, eF, eV, eA, hzk, hzn, hzk2, hzn2, hcv, hk3, hk1, m0, m1, m2, ha]
    | true =>
      cases zk with
      | false =>
        simp (maxSteps := 1000000) -implicitDefEqProofs [zac_, hL, hg, hm, hT, hK, hF, hC, eK, eF, eV, eA, hzk, hzn, hzk2, hzn2, hcv, hk3, hk1, m0, m1, m2, ha]
      | true =>
        cases bT with
        | false =>
          simp (maxSteps := 1000000) -implicitDefEqProofs [zac_, hL, hg, hm, hT, hK, hF, hC, eK, eF, eV, eA, hzk, hzn, hzk2, hzn2, hcv, hk3, hk1, m0, m1, m2, ha]
        | true =>
          cases zn with
          | false =>
            simp (maxSteps := 1000000) -implicitDefEqProofs [zac_, hL, hg, hm, hT, hK, hF, hC, eK, eF, eV, eA, hzk, hzn, hzk2, hzn2, hcv, hk3, hk1, m0, m1, m2, ha]
          | true =>
            cases bK with
            | false =>
              simp (maxSteps := 1000000) -implicitDefEqProofs [zac_, hL, hg, hm, hT, hK, hF, hC, eK, eF, eV, eA, hzk, hzn, hzk2, hzn2, hcv, hk3, hk1, m0, m1, m2, ha]
            | true =>
              simp (maxSteps := 1000000) -implicitDefEqProofs [zac_, hL, hg, hm, hT, hK, hF, hC, eK, eF, eV, eA, hzk, hzn, hzk2, hzn2, hcv, hk3, hk1, m0, m1, m2, ha]
  · simp (maxSteps := 1000000) -implicitDefEqProofs [zac_, hL, hg, hm, hT, hK, hF, hC, eK, eF, eV, eA, hzk, hzn, hzk2, hzn2, hcv, hk3, hk1, m0, m1, m2, ha]
set_option maxHeartbeats 4000000 in
theorem node_3 (h : H) {n : PN} {as : List PR} (hs : n.Sz) (h0 : n.nl = true → as = []) (e0 : n.op = 3) : run XP zde_ [(PR.mk n as).v] h = some (vi (chkN n as.length), h) := by
  have hT := fun h => zft_ h n as
  have hK := fun h => zbd_ h n.ky hs.k
  have hF := fun h => zbd_ h n.fd hs.f
  have hC := fun h => zdz_ h n.vl hs.t
  have hg : ∀ h, (lv 7 (slc PR.v as n.nl)).toL h = some (as.map PR.v) := fun h => (rd_slc h 7 PR.v h0).toL
  have hL : (slc PR.v as n.nl).getD [] = as.map PR.v := by
    rw [slc]
    cases hc : n.nl with
    | false => rfl
    | true => rw [h0 hc]; rfl
  have eK := isE n.ky
  have eF := isE n.fd
  have eV := beq_eS n.vl.t
  have eA : (n.fd.toList == [97, 116, 116, 114]) = decide (n.fd = sAttr) := by
    rw [show ([97, 116, 116, 114] : List UInt8) = sAttr.toList from by rw [ByteArray.toList_eq]; rfl, bl_eq]
  have q : ∀ c : Int, n.op ≠ c → (n.op == c) = false := fun c h => by simpa using h
  have m0 : ((as.length : Int) == 0) = decide (as.length = 0) := by
    rw [Bool.eq_iff_iff]
    simp
  have m1 : ((as.length : Int) == 1) = decide (as.length = 1) := by
    rw [Bool.eq_iff_iff]
    simp only [beq_iff_eq, decide_eq_true_eq]
    omega
  have m2 : (1 ≤ (as.length : Int)) = (1 ≤ as.length) := by
    rw [eq_iff_iff]
    omega
  rw [run_eq, zef_]
  rw [PR.v_mk] at hT ⊢
  simp only [AV.v] at hC
  rw [chkN]
  obtain ⟨op, fd, ky, ⟨vk, vt, vn⟩, nl⟩ := n
  simp only at *
  subst e0
  have hm : (as.map PR.v).length = as.length := by simp
  generalize as.map PR.v = es at *
  simp only [form, isT, argN, zV] at *
  generalize as.length = m at *
  generalize decide (ky = eS) = bK at *
  generalize decide (fd = eS) = bF at *
  generalize decide (vt = eS) = bT at *
  generalize decide (fd = sAttr) = bA at *
  generalize isNm ky = iK at *
  generalize isNm fd = iF at *
  generalize chkV ⟨vk, vt, vn⟩ = cv at *
  generalize hzk : (vk == 0) = zk at *
  generalize hzn : (vn == 0) = zn at *
  have hcv : (cv != 0) = !(decide (cv = 0)) := by
    by_cases c : cv = 0 <;> simp [c]
  have hk3 : (vk == 3) = decide (vk = 3) := by
    by_cases c : vk = 3 <;> simp [c]
  have hk1 : (vk != 1) = !(decide (vk = 1)) := by
    by_cases c : vk = 1 <;> simp [c]
  have hzk2 : (vk = 0) = (zk = true) := by simp [← hzk]
  have hzn2 : (vn = 0) = (zn = true) := by simp [← hzn]
  by_cases ha : m = 1
  · cases bF with
    | false =>
      simp (maxSteps := 1000000) -implicitDefEqProofs [zac_, hL, hg, hm, hT, hK, hF, hC, eK, eF, eV, eA, hzk, hzn, hzk2, hzn2, hcv, hk3, hk1, m0, m1, m2, ha]
    | true =>
      cases zk with
      | false =>
        simp (maxSteps := 1000000) -implicitDefEqProofs [zac_, hL, hg, hm, hT, hK, hF, hC, eK, eF, eV, eA, hzk, hzn, hzk2, hzn2, hcv, hk3, hk1, m0, m1, m2, ha]
      | true =>
        cases bT with
        | false =>
          simp (maxSteps := 1000000) -implicitDefEqProofs [zac_, hL, hg, hm, hT, hK, hF, hC, eK, eF, eV, eA, hzk, hzn, hzk2, hzn2, hcv, hk3, hk1, m0, m1, m2, ha]
        | true =>
          cases zn with
          | false =>
            simp (maxSteps := 1000000) -implicitDefEqProofs [zac_, hL, hg, hm, hT, hK, hF, hC, eK, eF, eV, eA, hzk, hzn, hzk2, hzn2, hcv, hk3, hk1, m0, m1, m2, ha]
          | true =>
            cases bK with
            | false =>
              simp (maxSteps := 1000000) -implicitDefEqProofs [zac_, hL, hg, hm, hT, hK, hF, hC, eK, eF, eV, eA, hzk, hzn, hzk2, hzn2, hcv, hk3, hk1, m0, m1, m2, ha]
            | true =>
              simp (maxSteps := 1000000) -implicitDefEqProofs [zac_, hL, hg, hm, hT, hK, hF, hC, eK, eF, eV, eA, hzk, hzn, hzk2, hzn2, hcv, hk3, hk1, m0, m1, m2, ha]
  · simp (maxSteps := 1000000) -implicitDefEqProofs [zac_, hL, hg, hm, hT, hK, hF, hC, eK, eF, eV, eA, hzk, hzn, hzk2, hzn2, hcv, hk3, hk1, m0, m1, m2, ha]
set_option maxHeartbeats 4000000 in
theorem node_4 (h : H) {n : PN} {as : List PR} (hs : n.Sz) (h0 : n.nl = true → as = []) (e0 : n.op = 4) : run XP zde_ [(PR.mk n as).v] h = some (vi (chkN n as.length), h) := by
  have hT := fun h => zft_ h n as
  have hK := fun h => zbd_ h n.ky hs.k
  have hF := fun h => zbd_ h n.fd hs.f
  have hC := fun h => zdz_ h n.vl hs.t
  have hg : ∀ h, (lv 7 (slc PR.v as n.nl)).toL h = some (as.map PR.v) := fun h => (rd_slc h 7 PR.v h0).toL
  have hL : (slc PR.v as n.nl).getD [] = as.map PR.v := by
    rw [slc]
    cases hc : n.nl with
    | false => rfl
    | true => rw [h0 hc]; rfl
  have eK := isE n.ky
  have eF := isE n.fd
  have eV := beq_eS n.vl.t
  have eA : (n.fd.toList == [97, 116, 116, 114]) = decide (n.fd = sAttr) := by
    rw [show ([97, 116, 116, 114] : List UInt8) = sAttr.toList from by rw [ByteArray.toList_eq]; rfl, bl_eq]
  have q : ∀ c : Int, n.op ≠ c → (n.op == c) = false := fun c h => by simpa using h
  have m0 : ((as.length : Int) == 0) = decide (as.length = 0) := by
    rw [Bool.eq_iff_iff]
    simp
  have m1 : ((as.length : Int) == 1) = decide (as.length = 1) := by
    rw [Bool.eq_iff_iff]
    simp only [beq_iff_eq, decide_eq_true_eq]
    omega
  have m2 : (1 ≤ (as.length : Int)) = (1 ≤ as.length) := by
    rw [eq_iff_iff]
    omega
  rw [run_eq, zef_]
  rw [PR.v_mk] at hT ⊢
  simp only [AV.v] at hC
  rw [chkN]
  obtain ⟨op, fd, ky, ⟨vk, vt, vn⟩, nl⟩ := n
  simp only at *
  subst e0
  have hm : (as.map PR.v).length = as.length := by simp
  generalize as.map PR.v = es at *
  simp only [form, isT, argN, zV] at *
  generalize as.length = m at *
  generalize decide (ky = eS) = bK at *
  generalize decide (fd = eS) = bF at *
  generalize decide (vt = eS) = bT at *
  generalize decide (fd = sAttr) = bA at *
  generalize isNm ky = iK at *
  generalize isNm fd = iF at *
  generalize chkV ⟨vk, vt, vn⟩ = cv at *
  generalize hzk : (vk == 0) = zk at *
  generalize hzn : (vn == 0) = zn at *
  have hcv : (cv != 0) = !(decide (cv = 0)) := by
    by_cases c : cv = 0 <;> simp [c]
  have hk3 : (vk == 3) = decide (vk = 3) := by
    by_cases c : vk = 3 <;> simp [c]
  have hk1 : (vk != 1) = !(decide (vk = 1)) := by
    by_cases c : vk = 1 <;> simp [c]
  have hzk2 : (vk = 0) = (zk = true) := by simp [← hzk]
  have hzn2 : (vn = 0) = (zn = true) := by simp [← hzn]
  by_cases ha : m = 0
  · cases bF with
    | false =>
      simp (maxSteps := 1000000) -implicitDefEqProofs [zac_, hL, hg, hm, hT, hK, hF, hC, eK, eF, eV, eA, hzk, hzn, hzk2, hzn2, hcv, hk3, hk1, m0, m1, m2, ha]
    | true =>
      cases zk with
      | false =>
        simp (maxSteps := 1000000) -implicitDefEqProofs [zac_, hL, hg, hm, hT, hK, hF, hC, eK, eF, eV, eA, hzk, hzn, hzk2, hzn2, hcv, hk3, hk1, m0, m1, m2, ha]
      | true =>
        cases bT with
        | false =>
          simp (maxSteps := 1000000) -implicitDefEqProofs [zac_, hL, hg, hm, hT, hK, hF, hC, eK, eF, eV, eA, hzk, hzn, hzk2, hzn2, hcv, hk3, hk1, m0, m1, m2, ha]
        | true =>
          cases zn with
          | false =>
            simp (maxSteps := 1000000) -implicitDefEqProofs [zac_, hL, hg, hm, hT, hK, hF, hC, eK, eF, eV, eA, hzk, hzn, hzk2, hzn2, hcv, hk3, hk1, m0, m1, m2, ha]
          | true =>
            cases iK with
            | false =>
              simp (maxSteps := 1000000) -implicitDefEqProofs [zac_, hL, hg, hm, hT, hK, hF, hC, eK, eF, eV, eA, hzk, hzn, hzk2, hzn2, hcv, hk3, hk1, m0, m1, m2, ha]
            | true =>
              simp (maxSteps := 1000000) -implicitDefEqProofs [zac_, hL, hg, hm, hT, hK, hF, hC, eK, eF, eV, eA, hzk, hzn, hzk2, hzn2, hcv, hk3, hk1, m0, m1, m2, ha]
  · simp (maxSteps := 1000000) -implicitDefEqProofs [zac_, hL, hg, hm, hT, hK, hF, hC, eK, eF, eV, eA, hzk, hzn, hzk2, hzn2, hcv, hk3, hk1, m0, m1, m2, ha]
end Go.Proofs.Sl
namespace Go.Proofs.Sl
set_option maxHeartbeats 4000000 in
theorem node_5 (h : H) {n : PN} {as : List PR} (hs : n.Sz) (h0 : n.nl = true → as = []) (e0 : n.op = 5) : run XP zde_ [(PR.mk n as).v] h = some (vi (chkN n as.length), h) := by
  have hT := fun h => zft_ h n as
  have hK := fun h => zbd_ h n.ky hs.k
  have hF := fun h => zbd_ h n.fd hs.f
  have hC := fun h => zdz_ h n.vl hs.t
  have hg : ∀ h, (lv 7 (slc PR.v as n.nl)).toL h = some (as.map PR.v) := fun h => (rd_slc h 7 PR.v h0).toL
  have hL : (slc PR.v as n.nl).getD [] = as.map PR.v := by
    rw [slc]
    cases hc : n.nl with
    | false => rfl
    | true => rw [h0 hc]; rfl
  have eK := isE n.ky
  have eF := isE n.fd
  have eV := beq_eS n.vl.t
  have eA : (n.fd.toList == [97, 116, 116, 114]) = decide (n.fd = sAttr) := by
    rw [show ([97, 116, 116, 114] : List UInt8) = sAttr.toList from by rw [ByteArray.toList_eq]; rfl, bl_eq]
  have q : ∀ c : Int, n.op ≠ c → (n.op == c) = false := fun c h => by simpa using h
  have m0 : ((as.length : Int) == 0) = decide (as.length = 0) := by
    rw [Bool.eq_iff_iff]
    simp
  have m1 : ((as.length : Int) == 1) = decide (as.length = 1) := by
    rw [Bool.eq_iff_iff]
    simp only [beq_iff_eq, decide_eq_true_eq]
    omega
  have m2 : (1 ≤ (as.length : Int)) = (1 ≤ as.length) := by
    rw [eq_iff_iff]
    omega
  rw [run_eq, zef_]
  rw [PR.v_mk] at hT ⊢
  simp only [AV.v] at hC
  rw [chkN]
  obtain ⟨op, fd, ky, ⟨vk, vt, vn⟩, nl⟩ := n
  simp only at *
  subst e0
  have hm : (as.map PR.v).length = as.length := by simp
  generalize as.map PR.v = es at *
  simp only [form, isT, argN, zV] at *
  generalize as.length = m at *
  generalize decide (ky = eS) = bK at *
  generalize decide (fd = eS) = bF at *
  generalize decide (vt = eS) = bT at *
  generalize decide (fd = sAttr) = bA at *
  generalize isNm ky = iK at *
  generalize isNm fd = iF at *
  generalize chkV ⟨vk, vt, vn⟩ = cv at *
  generalize hzk : (vk == 0) = zk at *
  generalize hzn : (vn == 0) = zn at *
  have hcv : (cv != 0) = !(decide (cv = 0)) := by
    by_cases c : cv = 0 <;> simp [c]
  have hk3 : (vk == 3) = decide (vk = 3) := by
    by_cases c : vk = 3 <;> simp [c]
  have hk1 : (vk != 1) = !(decide (vk = 1)) := by
    by_cases c : vk = 1 <;> simp [c]
  have hzk2 : (vk = 0) = (zk = true) := by simp [← hzk]
  have hzn2 : (vn = 0) = (zn = true) := by simp [← hzn]
  by_cases ha : m = 0
  · cases iF with
    | false =>
      simp (maxSteps := 1000000) -implicitDefEqProofs [zac_, hL, hg, hm, hT, hK, hF, hC, eK, eF, eV, eA, hzk, hzn, hzk2, hzn2, hcv, hk3, hk1, m0, m1, m2, ha]
    | true =>
      cases bA with
      | false =>
        cases bK with
        | false =>
          simp (maxSteps := 1000000) -implicitDefEqProofs [zac_, hL, hg, hm, hT, hK, hF, hC, eK, eF, eV, eA, hzk, hzn, hzk2, hzn2, hcv, hk3, hk1, m0, m1, m2, ha]
        | true =>
          by_cases hc : cv = 0
          · simp (maxSteps := 1000000) -implicitDefEqProofs [zac_, hL, hg, hm, hT, hK, hF, hC, eK, eF, eV, eA, hzk, hzn, hzk2, hzn2, hcv, hk3, hk1, m0, m1, m2, ha, hc]
          · simp (maxSteps := 1000000) -implicitDefEqProofs [zac_, hL, hg, hm, hT, hK, hF, hC, eK, eF, eV, eA, hzk, hzn, hzk2, hzn2, hcv, hk3, hk1, m0, m1, m2, ha, hc]
      | true =>
        cases iK with
        | false =>
          simp (maxSteps := 1000000) -implicitDefEqProofs [zac_, hL, hg, hm, hT, hK, hF, hC, eK, eF, eV, eA, hzk, hzn, hzk2, hzn2, hcv, hk3, hk1, m0, m1, m2, ha]
        | true =>
          by_cases hc : cv = 0
          · simp (maxSteps := 1000000) -implicitDefEqProofs [zac_, hL, hg, hm, hT, hK, hF, hC, eK, eF, eV, eA, hzk, hzn, hzk2, hzn2, hcv, hk3, hk1, m0, m1, m2, ha, hc]
          · simp (maxSteps := 1000000) -implicitDefEqProofs [zac_, hL, hg, hm, hT, hK, hF, hC, eK, eF, eV, eA, hzk, hzn, hzk2, hzn2, hcv, hk3, hk1, m0, m1, m2, ha, hc]
  · simp (maxSteps := 1000000) -implicitDefEqProofs [zac_, hL, hg, hm, hT, hK, hF, hC, eK, eF, eV, eA, hzk, hzn, hzk2, hzn2, hcv, hk3, hk1, m0, m1, m2, ha]
set_option maxHeartbeats 4000000 in
theorem node_6 (h : H) {n : PN} {as : List PR} (hs : n.Sz) (h0 : n.nl = true → as = []) (e0 : n.op = 6) : run XP zde_ [(PR.mk n as).v] h = some (vi (chkN n as.length), h) := by
  have hT := fun h => zft_ h n as
  have hK := fun h => zbd_ h n.ky hs.k
  have hF := fun h => zbd_ h n.fd hs.f
  have hC := fun h => zdz_ h n.vl hs.t
  have hg : ∀ h, (lv 7 (slc PR.v as n.nl)).toL h = some (as.map PR.v) := fun h => (rd_slc h 7 PR.v h0).toL
  have hL : (slc PR.v as n.nl).getD [] = as.map PR.v := by
    rw [slc]
    cases hc : n.nl with
    | false => rfl
    | true => rw [h0 hc]; rfl
  have eK := isE n.ky
  have eF := isE n.fd
  have eV := beq_eS n.vl.t
  have eA : (n.fd.toList == [97, 116, 116, 114]) = decide (n.fd = sAttr) := by
    rw [show ([97, 116, 116, 114] : List UInt8) = sAttr.toList from by rw [ByteArray.toList_eq]; rfl, bl_eq]
  have q : ∀ c : Int, n.op ≠ c → (n.op == c) = false := fun c h => by simpa using h
  have m0 : ((as.length : Int) == 0) = decide (as.length = 0) := by
    rw [Bool.eq_iff_iff]
    simp
  have m1 : ((as.length : Int) == 1) = decide (as.length = 1) := by
    rw [Bool.eq_iff_iff]
    simp only [beq_iff_eq, decide_eq_true_eq]
    omega
  have m2 : (1 ≤ (as.length : Int)) = (1 ≤ as.length) := by
    rw [eq_iff_iff]
    omega
  rw [run_eq, zef_]
  rw [PR.v_mk] at hT ⊢
  simp only [AV.v] at hC
  rw [chkN]
  obtain ⟨op, fd, ky, ⟨vk, vt, vn⟩, nl⟩ := n
  simp only at *
  subst e0
  have hm : (as.map PR.v).length = as.length := by simp
  generalize as.map PR.v = es at *
  simp only [form, isT, argN, zV] at *
  generalize as.length = m at *
  generalize decide (ky = eS) = bK at *
  generalize decide (fd = eS) = bF at *
  generalize decide (vt = eS) = bT at *
  generalize decide (fd = sAttr) = bA at *
  generalize isNm ky = iK at *
  generalize isNm fd = iF at *
  generalize chkV ⟨vk, vt, vn⟩ = cv at *
  generalize hzk : (vk == 0) = zk at *
  generalize hzn : (vn == 0) = zn at *
  have hcv : (cv != 0) = !(decide (cv = 0)) := by
    by_cases c : cv = 0 <;> simp [c]
  have hk3 : (vk == 3) = decide (vk = 3) := by
    by_cases c : vk = 3 <;> simp [c]
  have hk1 : (vk != 1) = !(decide (vk = 1)) := by
    by_cases c : vk = 1 <;> simp [c]
  have hzk2 : (vk = 0) = (zk = true) := by simp [← hzk]
  have hzn2 : (vn = 0) = (zn = true) := by simp [← hzn]
  by_cases ha : m = 0
  · cases iF with
    | false =>
      simp (maxSteps := 1000000) -implicitDefEqProofs [zac_, hL, hg, hm, hT, hK, hF, hC, eK, eF, eV, eA, hzk, hzn, hzk2, hzn2, hcv, hk3, hk1, m0, m1, m2, ha]
    | true =>
      cases bA with
      | false =>
        cases bK with
        | false =>
          simp (maxSteps := 1000000) -implicitDefEqProofs [zac_, hL, hg, hm, hT, hK, hF, hC, eK, eF, eV, eA, hzk, hzn, hzk2, hzn2, hcv, hk3, hk1, m0, m1, m2, ha]
        | true =>
          by_cases hc : cv = 0
          · by_cases hk : vk = 3
            · subst hk
              simp (maxSteps := 1000000) -implicitDefEqProofs [zac_, hL, hg, hm, hT, hK, hF, hC, eK, eF, eV, eA, hzk, hzn, hzk2, hzn2, hcv, hk3, hk1, m0, m1, m2, ha, hc]
            · simp (maxSteps := 1000000) -implicitDefEqProofs [zac_, hL, hg, hm, hT, hK, hF, hC, eK, eF, eV, eA, hzk, hzn, hzk2, hzn2, hcv, hk3, hk1, m0, m1, m2, ha, hc, hk]
          · simp (maxSteps := 1000000) -implicitDefEqProofs [zac_, hL, hg, hm, hT, hK, hF, hC, eK, eF, eV, eA, hzk, hzn, hzk2, hzn2, hcv, hk3, hk1, m0, m1, m2, ha, hc]
      | true =>
        cases iK with
        | false =>
          simp (maxSteps := 1000000) -implicitDefEqProofs [zac_, hL, hg, hm, hT, hK, hF, hC, eK, eF, eV, eA, hzk, hzn, hzk2, hzn2, hcv, hk3, hk1, m0, m1, m2, ha]
        | true =>
          by_cases hc : cv = 0
          · by_cases hk : vk = 3
            · subst hk
              simp (maxSteps := 1000000) -implicitDefEqProofs [zac_, hL, hg, hm, hT, hK, hF, hC, eK, eF, eV, eA, hzk, hzn, hzk2, hzn2, hcv, hk3, hk1, m0, m1, m2, ha, hc]
            · simp (maxSteps := 1000000) -implicitDefEqProofs [zac_, hL, hg, hm, hT, hK, hF, hC, eK, eF, eV, eA, hzk, hzn, hzk2, hzn2, hcv, hk3, hk1, m0, m1, m2, ha, hc, hk]
          · simp (maxSteps := 1000000) -implicitDefEqProofs [zac_, hL, hg, hm, hT, hK, hF, hC, eK, eF, eV, eA, hzk, hzn, hzk2, hzn2, hcv, hk3, hk1, m0, m1, m2, ha, hc]
  · simp (maxSteps := 1000000) -implicitDefEqProofs [zac_, hL, hg, hm, hT, hK, hF, hC, eK, eF, eV, eA, hzk, hzn, hzk2, hzn2, hcv, hk3, hk1, m0, m1, m2, ha]
set_option maxHeartbeats 4000000 in
theorem node_7 (h : H) {n : PN} {as : List PR} (hs : n.Sz) (h0 : n.nl = true → as = []) (e0 : n.op = 7) : run XP zde_ [(PR.mk n as).v] h = some (vi (chkN n as.length), h) := by
  have hT := fun h => zft_ h n as
  have hK := fun h => zbd_ h n.ky hs.k
  have hF := fun h => zbd_ h n.fd hs.f
  have hC := fun h => zdz_ h n.vl hs.t
  have hg : ∀ h, (lv 7 (slc PR.v as n.nl)).toL h = some (as.map PR.v) := fun h => (rd_slc h 7 PR.v h0).toL
  have hL : (slc PR.v as n.nl).getD [] = as.map PR.v := by
    rw [slc]
    cases hc : n.nl with
    | false => rfl
    | true => rw [h0 hc]; rfl
  have eK := isE n.ky
  have eF := isE n.fd
  have eV := beq_eS n.vl.t
  have eA : (n.fd.toList == [97, 116, 116, 114]) = decide (n.fd = sAttr) := by
    rw [show ([97, 116, 116, 114] : List UInt8) = sAttr.toList from by rw [ByteArray.toList_eq]; rfl, bl_eq]
  have q : ∀ c : Int, n.op ≠ c → (n.op == c) = false := fun c h => by simpa using h
  have m0 : ((as.length : Int) == 0) = decide (as.length = 0) := by
    rw [Bool.eq_iff_iff]
    simp
  have m1 : ((as.length : Int) == 1) = decide (as.length = 1) := by
    rw [Bool.eq_iff_iff]
    simp only [beq_iff_eq, decide_eq_true_eq]
    omega
  have m2 : (1 ≤ (as.length : Int)) = (1 ≤ as.length) := by
    rw [eq_iff_iff]
    omega
  rw [run_eq, zef_]
  rw [PR.v_mk] at hT ⊢
  simp only [AV.v] at hC
  rw [chkN]
  obtain ⟨op, fd, ky, ⟨vk, vt, vn⟩, nl⟩ := n
  simp only at *
  subst e0
  have hm : (as.map PR.v).length = as.length := by simp
  generalize as.map PR.v = es at *
  simp only [form, isT, argN, zV] at *
  generalize as.length = m at *
  generalize decide (ky = eS) = bK at *
  generalize decide (fd = eS) = bF at *
  generalize decide (vt = eS) = bT at *
  generalize decide (fd = sAttr) = bA at *
  generalize isNm ky = iK at *
  generalize isNm fd = iF at *
  generalize chkV ⟨vk, vt, vn⟩ = cv at *
  generalize hzk : (vk == 0) = zk at *
  generalize hzn : (vn == 0) = zn at *
  have hcv : (cv != 0) = !(decide (cv = 0)) := by
    by_cases c : cv = 0 <;> simp [c]
  have hk3 : (vk == 3) = decide (vk = 3) := by
    by_cases c : vk = 3 <;> simp [c]
  have hk1 : (vk != 1) = !(decide (vk = 1)) := by
    by_cases c : vk = 1 <;> simp [c]
  have hzk2 : (vk = 0) = (zk = true) := by simp [← hzk]
  have hzn2 : (vn = 0) = (zn = true) := by simp [← hzn]
  by_cases ha : m = 0
  · cases iF with
    | false =>
      simp (maxSteps := 1000000) -implicitDefEqProofs [zac_, hL, hg, hm, hT, hK, hF, hC, eK, eF, eV, eA, hzk, hzn, hzk2, hzn2, hcv, hk3, hk1, m0, m1, m2, ha]
    | true =>
      cases bA with
      | false =>
        cases bK with
        | false =>
          simp (maxSteps := 1000000) -implicitDefEqProofs [zac_, hL, hg, hm, hT, hK, hF, hC, eK, eF, eV, eA, hzk, hzn, hzk2, hzn2, hcv, hk3, hk1, m0, m1, m2, ha]
        | true =>
          by_cases hc : cv = 0
          · by_cases hk : vk = 1
            · subst hk
              simp (maxSteps := 1000000) -implicitDefEqProofs [zac_, hL, hg, hm, hT, hK, hF, hC, eK, eF, eV, eA, hzk, hzn, hzk2, hzn2, hcv, hk3, hk1, m0, m1, m2, ha, hc]
            · simp (maxSteps := 1000000) -implicitDefEqProofs [zac_, hL, hg, hm, hT, hK, hF, hC, eK, eF, eV, eA, hzk, hzn, hzk2, hzn2, hcv, hk3, hk1, m0, m1, m2, ha, hc, hk]
          · simp (maxSteps := 1000000) -implicitDefEqProofs [zac_, hL, hg, hm, hT, hK, hF, hC, eK, eF, eV, eA, hzk, hzn, hzk2, hzn2, hcv, hk3, hk1, m0, m1, m2, ha, hc]
      | true =>
        cases iK with
        | false =>
          simp (maxSteps := 1000000) -implicitDefEqProofs [zac_, hL, hg, hm, hT, hK, hF, hC, eK, eF, eV, eA, hzk, hzn, hzk2, hzn2, hcv, hk3, hk1, m0, m1, m2, ha]
        | true =>
          by_cases hc : cv = 0
          · by_cases hk : vk = 1
            · subst hk
              simp (maxSteps := 1000000) -implicitDefEqProofs [zac_, hL, hg, hm, hT, hK, hF, hC, eK, eF, eV, eA, hzk, hzn, hzk2, hzn2, hcv, hk3, hk1, m0, m1, m2, ha, hc]
            · simp (maxSteps := 1000000) -implicitDefEqProofs [zac_, hL, hg, hm, hT, hK, hF, hC, eK, eF, eV, eA, hzk, hzn, hzk2, hzn2, hcv, hk3, hk1, m0, m1, m2, ha, hc, hk]
          · simp (maxSteps := 1000000) -implicitDefEqProofs [zac_, hL, hg, hm, hT, hK, hF, hC, eK, eF, eV, eA, hzk, hzn, hzk2, hzn2, hcv, hk3, hk1, m0, m1, m2, ha, hc]
  · simp (maxSteps := 1000000) -implicitDefEqProofs [zac_, hL, hg, hm, hT, hK, hF, hC, eK, eF, eV, eA, hzk, hzn, hzk2, hzn2, hcv, hk3, hk1, m0, m1, m2, ha]
end Go.Proofs.Sl
namespace Go.Proofs.Sl
set_option maxHeartbeats 4000000 in
theorem node_x (h : H) {n : PN} {as : List PR} (hs : n.Sz) (h0 : n.nl = true → as = []) (e0 : n.op < 0 ∨ 7 < n.op) : run XP zde_ [(PR.mk n as).v] h = some (vi (chkN n as.length), h) := by
  have hT := fun h => zft_ h n as
  have hK := fun h => zbd_ h n.ky hs.k
  have hF := fun h => zbd_ h n.fd hs.f
  have hC := fun h => zdz_ h n.vl hs.t
  have hg : ∀ h, (lv 7 (slc PR.v as n.nl)).toL h = some (as.map PR.v) := fun h => (rd_slc h 7 PR.v h0).toL
  have hL : (slc PR.v as n.nl).getD [] = as.map PR.v := by
    rw [slc]
    cases hc : n.nl with
    | false => rfl
    | true => rw [h0 hc]; rfl
  have eK := isE n.ky
  have eF := isE n.fd
  have eV := beq_eS n.vl.t
  have eA : (n.fd.toList == [97, 116, 116, 114]) = decide (n.fd = sAttr) := by
    rw [show ([97, 116, 116, 114] : List UInt8) = sAttr.toList from by rw [ByteArray.toList_eq]; rfl, bl_eq]
  have q : ∀ c : Int, n.op ≠ c → (n.op == c) = false := fun c h => by simpa using h
  have m0 : ((as.length : Int) == 0) = decide (as.length = 0) := by
    rw [Bool.eq_iff_iff]
    simp
  have m1 : ((as.length : Int) == 1) = decide (as.length = 1) := by
    rw [Bool.eq_iff_iff]
    simp only [beq_iff_eq, decide_eq_true_eq]
    omega
  have m2 : (1 ≤ (as.length : Int)) = (1 ≤ as.length) := by
    rw [eq_iff_iff]
    omega
  rw [run_eq, zef_]
  rw [PR.v_mk] at hT ⊢
  simp only [AV.v] at hC
  rw [chkN]
  obtain ⟨op, fd, ky, ⟨vk, vt, vn⟩, nl⟩ := n
  simp only at *
  have n0 : op ≠ 0 := by omega
  have n1 : op ≠ 1 := by omega
  have n2 : op ≠ 2 := by omega
  have n3 : op ≠ 3 := by omega
  have n4 : op ≠ 4 := by omega
  have n5 : op ≠ 5 := by omega
  have n6 : op ≠ 6 := by omega
  have n7 : op ≠ 7 := by omega
  have hm : (as.map PR.v).length = as.length := by simp
  generalize as.map PR.v = es at *
  rw [if_pos e0]
  simp (maxSteps := 1000000) -implicitDefEqProofs [zac_, hL, hg, n0, q 0 n0, n1, q 1 n1, n2, q 2 n2, n3, q 3 n3, n4, q 4 n4, n5, q 5 n5, n6, q 6 n6, n7, q 7 n7]
theorem zbbg_ (h : H) {n : PN} {as : List PR} (hs : n.Sz) (h0 : n.nl = true → as = []) : run XP zde_ [(PR.mk n as).v] h = some (vi (chkN n as.length), h) := by
  have e0 : n.op = 0 ∨ n.op = 1 ∨ n.op = 2 ∨ n.op = 3 ∨ n.op = 4 ∨ n.op = 5 ∨ n.op = 6 ∨ n.op = 7 ∨ (n.op < 0 ∨ 7 < n.op) := by omega
  rcases e0 with e0 | e0 | e0 | e0 | e0 | e0 | e0 | e0 | e0
  · exact node_0 h hs h0 e0
  · exact node_1 h hs h0 e0
  · exact node_2 h hs h0 e0
  · exact node_3 h hs h0 e0
  · exact node_4 h hs h0 e0
  · exact node_5 h hs h0 e0
  · exact node_6 h hs h0 e0
  · exact node_7 h hs h0 e0
  · exact node_x h hs h0 e0
end Go.Proofs.Sl
namespace Go.Proofs.Sl
mutual
def vis : PR → Nat → Nat → Int × Nat
  | .mk n as, l, k => if 64 ≤ k then (6, k) else if 16 < l then (15, k) else if chkN n as.length ≠ 0 then (chkN n as.length, k + 1) else viss as (l + 1) (k + 1)
def viss : List PR → Nat → Nat → Int × Nat
  | [], _, k => (0, k)
  | p :: r, l, k => if (vis p l k).1 ≠ 0 then vis p l k else viss r l (vis p l k).2
end
mutual
theorem vis_le : ∀ (p : PR) (l k : Nat), k ≤ 64 → k ≤ (vis p l k).2 ∧ (vis p l k).2 ≤ 64 ∧ ((vis p l k).1 = 0 → k + 1 ≤ (vis p l k).2)
  | .mk n as, l, k, h => by
    rw [vis]
    split
    · exact ⟨Nat.le_refl _, h, fun e => by simp at e⟩
    · split
      · exact ⟨Nat.le_refl _, h, fun e => by simp at e⟩
      · split
        · rename_i hc
          exact ⟨by show k ≤ k + 1; omega, by show k + 1 ≤ 64; omega, fun e => absurd e hc⟩
        · have := zuh_ as (l + 1) (k + 1) (by omega)
          exact ⟨by omega, this.2.1, fun _ => this.1⟩
theorem zuh_ : ∀ (as : List PR) (l k : Nat), k ≤ 64 → k ≤ (viss as l k).2 ∧ (viss as l k).2 ≤ 64 ∧ ((viss as l k).1 = 0 → k + as.length ≤ (viss as l k).2)
  | [], l, k, h => by
    rw [viss]
    exact ⟨Nat.le_refl _, h, fun _ => by simp⟩
  | p :: r, l, k, h => by
    have h1 := vis_le p l k h
    rw [viss]
    split
    · rename_i hc
      exact ⟨h1.1, h1.2.1, fun e => absurd e hc⟩
    · rename_i hc
      have hc' : (vis p l k).1 = 0 := by simpa using hc
      have h2 := zuh_ r l (vis p l k).2 h1.2.1
      have h3 := h1.2.2 hc'
      refine ⟨by omega, h2.2.1, fun e => ?_⟩
      have := h2.2.2 e
      rw [List.length_cons]
      omega
end
inductive PR.Go : PR → Prop
  | mk {n : PN} {as : List PR} (hn : n.Sz) (hl : as.length ≤ 64) (h0 : n.nl = true → as = []) (h3 : n.op = 3 → as ≠ []) (ha : ∀ a ∈ as, a.Go) : PR.Go (.mk n as)
theorem zbbh_ : ∀ {as : List PR} {l k : Nat}, k ≤ 64 → (viss as l k).1 = 0 → ∀ a ∈ as, ∃ k', k' ≤ 64 ∧ (vis a l k').1 = 0
  | [], l, k, h, e, a, ha => by simp at ha
  | p :: r, l, k, h, e, a, ha => by
    rw [viss] at e
    split at e
    · rename_i hc
      exact absurd e hc
    · rename_i hc
      have hc' : (vis p l k).1 = 0 := by simpa using hc
      rcases List.mem_cons.1 ha with rfl | ha
      · exact ⟨k, h, hc'⟩
      · exact zbbh_ (vis_le p l k h).2.1 e a ha
theorem go_of {p : PR} (hp : p.Sz) : ∀ {l k : Nat}, k ≤ 64 → (vis p l k).1 = 0 → p.Go := by
  induction hp with
  | @mk n as hn hl h0 ha ih =>
    intro l k hk e
    rw [vis] at e
    split at e
    · simp at e
    · split at e
      · simp at e
      · split at e
        · rename_i hc
          exact absurd e hc
        · rename_i hc
          have hc' : chkN n as.length = 0 := by simpa using hc
          have h1 := zuh_ as (l + 1) (k + 1) (by omega)
          have h2 := h1.2.2 e
          refine .mk hn (by omega) h0 (fun h3 => ?_) fun a ham => ?_
          · have := zclx_ hc' h3
            rintro rfl
            simp at this
          · obtain ⟨k', hk', e'⟩ := zbbh_ (by omega) e a ham
            exact ih a ham hk' e'
theorem zbbi_ {h t : H} {a : Nat} {x : O} (ha : a < h.length) : ((h ++ t).set a x).take h.length = h.set a x := by
  rw [List.set_append_left _ _ ha]
  exact List.take_left' (by simp)
set_option maxHeartbeats 4000000 in
theorem zcly_ (h : H) {n : PN} {as : List PR} (hn : n.Sz) (h0 : n.nl = true → as = []) {a b l k : Nat} (h1 : h[a]? = some (.box false [vi k])) (h2 : h[b]? = some (.box false [.fn zdw_ [] [.ptr a 0, .ptr b 0]])) (hl : l ≤ 17) (hk : k ≤ 64)
    (hc : 64 ≤ k ∨ 16 < l ∨ chkN n as.length ≠ 0) :
    run XP zdw_ [(PR.mk n as).v, vi l, .ptr a 0, .ptr b 0] h = some (vi (vis (.mk n as) l k).1, h.set a (.box false [vi (vis (.mk n as) l k).2])) := by
  have ha1 : a < h.length := (List.getElem?_eq_some_iff.1 h1).1
  have b1 : ∀ t : H, (h ++ t)[a]? = some (.box false [vi k]) := fun t => by rw [List.getElem?_append_left ha1]; exact h1
  have hN := fun h => zbbg_ h hn h0
  have hne : h.length ≠ a := by omega
  have hne' : a ≠ h.length := by omega
  have hsame : h.set a (.box false [vi k]) = h := by
    obtain ⟨_, e⟩ := List.getElem?_eq_some_iff.1 h1
    rw [← e]
    exact List.set_getElem_self _
  have hts : ∀ t x, ((h ++ t).set a x).take h.length = h.set a x := fun t x => zbbi_ ha1
  rw [run_eq, zyr_, vis]
  rw [PR.v_mk] at hN ⊢
  by_cases c1 : 64 ≤ k
  · have c1' : (64 : Int) ≤ k := by omega
    rw [if_pos c1]
    simp only [hsame]
    simp -implicitDefEqProofs [zgm_, b1, ha1, c1']
  rw [if_neg c1]
  have c1' : ¬ (64 : Int) ≤ k := by omega
  by_cases c2 : 16 < l
  · have c2' : (16 : Int) < l := by omega
    rw [if_pos c2]
    simp only [hsame]
    simp -implicitDefEqProofs [zgm_, b1, ha1, c1', c2']
  rw [if_neg c2]
  have c2' : ¬ (16 : Int) < l := by omega
  have hw : IntKind.i64.wrap ((k : Int) + 1) = (k : Int) + 1 := zan_ (by omega) (by omega)
  have c3 : chkN n as.length ≠ 0 := by omega
  rw [if_pos c3]
  generalize chkN n as.length = e at *
  have c3' : (e != 0) = true := by simpa using c3
  simp -implicitDefEqProofs [zgm_, b1, ha1, c1', c2', hw, hN, c3', hne, hne', hts]
set_option maxHeartbeats 4000000 in
theorem zclz_ {p : PR} (hp : p.Sz) : ∀ (h : H) (a b l k : Nat), h[a]? = some (.box false [vi k]) → h[b]? = some (.box false [.fn zdw_ [] [.ptr a 0, .ptr b 0]]) → l ≤ 17 → k ≤ 64 →
    run XP zdw_ [p.v, vi l, .ptr a 0, .ptr b 0] h = some (vi (vis p l k).1, h.set a (.box false [vi (vis p l k).2])) := by
  induction hp with
  | @mk n as hn hl h0 ha ih =>
    intro h a b l k h1 h2 hl17 hk
    by_cases hc : 64 ≤ k ∨ 16 < l ∨ chkN n as.length ≠ 0
    · exact zcly_ h hn h0 h1 h2 hl17 hk hc
    have ha1 : a < h.length := (List.getElem?_eq_some_iff.1 h1).1
    have hb1 : b < h.length := (List.getElem?_eq_some_iff.1 h2).1
    have hab : a ≠ b := by rintro rfl; rw [h1] at h2; simp at h2
    have b1 : ∀ t : H, (h ++ t)[a]? = some (.box false [vi k]) := fun t => by rw [List.getElem?_append_left ha1]; exact h1
    have hN := fun h => zbbg_ h hn h0
    have hne : h.length ≠ a := by omega
    have hne' : a ≠ h.length := by omega
    have hts : ∀ t x, ((h ++ t).set a x).take h.length = h.set a x := fun t x => zbbi_ ha1
    have hR : ∀ h, Rd h 7 (lv 7 (slc PR.v as n.nl)) (as.map PR.v) := fun h => rd_slc h 7 PR.v h0
    have hL := fun h => (hR h).toL
    have hg : (slc PR.v as n.nl).getD [] = as.map PR.v := by
      rw [slc]
      cases hc : n.nl with
      | false => rfl
      | true => rw [h0 hc]; rfl
    rw [run_eq, zyr_, vis]
    rw [PR.v_mk] at hN ⊢
    have c1 : ¬ 64 ≤ k := fun c => hc (.inl c)
    have c2 : ¬ 16 < l := fun c => hc (.inr (.inl c))
    have c3 : chkN n as.length = 0 := by
      by_cases c : chkN n as.length = 0
      · exact c
      · exact absurd (.inr (.inr c)) hc
    have c1' : ¬ (64 : Int) ≤ k := by omega
    have c2' : ¬ (16 : Int) < l := by omega
    have hw : IntKind.i64.wrap ((k : Int) + 1) = (k : Int) + 1 := zan_ (by omega) (by omega)
    have hw2 : IntKind.i64.wrap ((l : Int) + 1) = (l : Int) + 1 := zan_ (by omega) (by omega)
    rw [if_neg c1, if_neg c2, if_neg (by simpa using c3)]
    rw [c3] at hN
    simp -implicitDefEqProofs [zgm_, b1, ha1, c1', c2', hw, hN, hL, hg, hne, hne', hts]
    have hab' : b ≠ a := Ne.symm hab
    refine zbo_ as (fun j s g => ∃ kj : Nat, Sees s [(1, vi l), (2, .ptr a 0), (3, .ptr b 0), (25, lv 7 (slc PR.v as n.nl)), (26, vi as.length), (27, vi j)] ∧ g.take h.length = h.set a (.box false [vi kj]) ∧ kj ≤ 64 ∧ viss as (l + 1) (k + 1) = viss (as.drop j) (l + 1) kj) ?_ ?_ _ _ ⟨k + 1, ?_, ?_, by omega, rfl⟩
    · rintro B f hB hf j q s g hq hj ⟨kj, ⟨e1, e2, e3, e25, e26, e27, -⟩, hgt, hkj, hv⟩ K
      have hlt : (j : Int) < as.length := by omega
      have hgl : h.length ≤ g.length := by
        have := congrArg List.length hgt
        simp only [List.length_take, List.length_set] at this
        omega
      have gi : ∀ i, i < h.length → ∀ t : H, (g ++ t)[i]? = (h.set a (.box false [vi kj]))[i]? := fun i hi t => by
        rw [← hgt, List.getElem?_append_left (by omega), List.getElem?_take, if_pos hi]
      have ga : ∀ t : H, (g ++ t)[a]? = some (.box false [vi kj]) := fun t => by rw [gi a ha1, List.getElem?_set_self ha1]
      have gb : ∀ t : H, (g ++ t)[b]? = some (.box false [.fn zdw_ [] [.ptr a 0, .ptr b 0]]) := fun t => by rw [gi b hb1, List.getElem?_set_ne hab]; exact h2
      obtain ⟨pp, hpp, hpl⟩ := (hR g).at (i := j) (e := q.v) (by simp [hq])
      have hw3 : IntKind.i64.wrap ((j : Int) + 1) = (j : Int) + 1 := zan_ (by omega) (by omega)
      have hgs : ∀ t x, ((g ++ t).set a x).take h.length = h.set a x := fun t x => by
        rw [List.take_set, List.take_append_of_le_length hgl, hgt, List.set_set]
      have hl1 : (((l + 1 : Nat)) : Int) = (l : Int) + 1 := by omega
      have hI : ∀ t, run XP zdw_ [q.v, vi ((l : Int) + 1), .ptr a 0, .ptr b 0] (g ++ t) = some (vi (vis q (l + 1) kj).1, (g ++ t).set a (.box false [vi (vis q (l + 1) kj).2])) := fun t => by
        have := ih q (List.mem_of_getElem? hq) (g ++ t) a b (l + 1) kj (ga t) (gb t) (by omega) hkj
        rwa [hl1] at this
      have hle := vis_le q (l + 1) kj hkj
      rw [zbq_ hq, viss] at hv
      generalize vis q (l + 1) kj = r at *
      obtain ⟨r1, r2⟩ := r
      simp only at hI hv hle
      obtain ⟨qn, qa⟩ := q
      simp only [PR.v_mk, V.cells] at hpl hI
      by_cases hr : r1 = 0
      · rw [if_neg (by simpa using hr)] at hv
        subst hr
        simp -implicitDefEqProofs [hB, zpd_, e1, e2, e3, e25, e26, e27, hlt, hpp, hpl, gb, hw2, hI]
        refine K _ _ ⟨r2, ?_, hgs _ _, hle.2.1, hv⟩
        simp [e1, e2, e3, e25, e26, hw3]
      · rw [if_pos hr] at hv
        have hr' : (r1 != 0) = true := by simpa using hr
        simp -implicitDefEqProofs [hB, hf, zpd_, e1, e2, e3, e25, e26, e27, hlt, hpp, hpl, gb, hw2, hI, hr', hgs, hv]
    · rintro B hB s g ⟨kj, ⟨e1, e2, e3, e25, e26, e27, -⟩, hgt, hkj, hv⟩
      rw [List.drop_of_length_le (Nat.le_refl _), viss] at hv
      simp -implicitDefEqProofs [hB, zpd_, e26, e27, hgt, hv]
    · simp
    · rw [List.take_left' (by simp)]
      simp
theorem zcma_ (h : H) {p : PR} (hp : p.Sz) : run XP ztc_ [p.v] h = some (vi (vis p 1 0).1, h) := by
  have hv : ∀ (h : H) (a b : Nat), h[a]? = some (.box false [vi 0]) → h[b]? = some (.box false [.fn zdw_ [] [.ptr a 0, .ptr b 0]]) → run XP zdw_ [p.v, vi 1, .ptr a 0, .ptr b 0] h = some (vi (vis p 1 0).1, h.set a (.box false [vi (vis p 1 0).2])) :=
    fun h a b h1 h2 => zclz_ hp h a b 1 0 h1 h2 (by omega) (by omega)
  generalize vis p 1 0 = r at *
  obtain ⟨r1, r2⟩ := r
  obtain ⟨n, as⟩ := p
  rw [run_eq, zbwp_]
  rw [PR.v_mk] at hv ⊢
  simp -implicitDefEqProofs [zks_, hv]
end Go.Proofs.Sl
namespace Go.Proofs.Sl
mutual
def szW : PR → Int
  | .mk _ as => szs as 1
def szs : List PR → Int → Int
  | [], z => z
  | p :: r, z => szs r (IntKind.i64.wrap (z + szW p))
end
theorem zcmb_ {α : Type} {f : α → V} {l : List α} {n : Bool} (h0 : n = true → l = []) : (slc f l n).getD [] = l.map f := by
  rw [slc]
  cases hc : n with
  | false => rfl
  | true => rw [h0 hc]; rfl
set_option maxHeartbeats 4000000 in
theorem zcmc_ {p : PR} (hp : p.Go) : ∀ h : H, run XP zos_ [p.v] h = some (vi (szW p), h) := by
  induction hp with
  | @mk n as hn hl h0 h3 ha ih =>
    intro h
    have hR : ∀ h, Rd h 7 (lv 7 (slc PR.v as n.nl)) (as.map PR.v) := fun h => rd_slc h 7 PR.v h0
    have hL := fun h => (hR h).toL
    have hg := zcmb_ (f := PR.v) h0
    rw [run_eq, zbwq_, szW]
    rw [PR.v_mk]
    simp -implicitDefEqProofs [zkt_, hL, hg]
    refine zbo_ as (fun j s g => ∃ z, Sees s [(3, vi z), (7, lv 7 (slc PR.v as n.nl)), (8, vi as.length), (9, vi j)] ∧ g.take h.length = h ∧ szs as 1 = szs (as.drop j) z) ?_ ?_ _ _ ⟨1, ?_, by simp, rfl⟩
    · rintro B f hB hf j q s g hq hj ⟨z, ⟨e3, e7, e8, e9, -⟩, hgt, hv⟩ K
      have hlt : (j : Int) < as.length := by omega
      obtain ⟨pp, hpp, hpl⟩ := (hR g).at (i := j) (e := q.v) (by simp [hq])
      have hw3 : IntKind.i64.wrap ((j : Int) + 1) = (j : Int) + 1 := zan_ (by omega) (by omega)
      have hgl : h.length ≤ g.length := by
        have := congrArg List.length hgt
        simp only [List.length_take] at this
        omega
      have hI := ih q (List.mem_of_getElem? hq)
      rw [zbq_ hq, szs] at hv
      generalize szW q = r at *
      obtain ⟨qn, qa⟩ := q
      simp only [PR.v_mk, V.cells] at hpl hI
      simp -implicitDefEqProofs [hB, zti_, e3, e7, e8, e9, hlt, hpp, hpl, hI]
      refine K _ _ ⟨IntKind.i64.wrap (z + r), ?_, ?_, hv⟩
      · simp [e3, e7, e8, hw3]
      · rw [List.take_append_of_le_length hgl]
        exact hgt
    · rintro B hB s g ⟨z, ⟨e3, e7, e8, e9, -⟩, hgt, hv⟩
      rw [List.drop_of_length_le (Nat.le_refl _), szs] at hv
      simp -implicitDefEqProofs [hB, zti_, e3, e8, e9, hgt, hv]
    · simp
end Go.Proofs.Sl
namespace Go.Proofs.Sl
theorem ex_sat {p : PR} (hp : p.n.Sz) (x : AV) (hx : x.t.size ≤ 9223372036854775807) : ∃ b : Bool, ∀ h, run XP zkp_ [p.v, x.v] h = some (vb b, h) := by
  obtain ⟨n, as⟩ := p
  have hp : n.Sz := hp
  have hcm := fun h => zzh_ h x n.vl
  have hpr : ∃ b : Bool, ∀ h, run XP ztg_ [vs x.t, vs n.vl.t] h = some (vb b, h) := by
    by_cases c : n.vl.t.size ≤ x.t.size
    · have c' : (n.vl.t.size : Int) ≤ x.t.size := by omega
      have h2 : ∃ b : Bool, ∀ h, run XP zow_ [vs x.t, vs n.vl.t] h = some (vb b, h) := by
        refine ⟨((x.t.extract 0 n.vl.t.size).toList == n.vl.t.toList), fun h => ?_⟩
        rw [run_eq, zyt_]
        simp -implicitDefEqProofs [zjn_, c', c]
      obtain ⟨b, h2⟩ := h2
      refine ⟨b, fun h => ?_⟩
      rw [run_eq, zys_]
      simp -implicitDefEqProofs [zjg_, h2]
    · refine ⟨false, fun h => ?_⟩
      have c' : ¬ (n.vl.t.size : Int) ≤ x.t.size := by omega
      rw [run_eq, zys_]
      have h2 : ∀ h, run XP zow_ [vs x.t, vs n.vl.t] h = some (vb false, h) := by
        intro h
        rw [run_eq, zyt_]
        simp -implicitDefEqProofs [zjn_, c']
      simp -implicitDefEqProofs [zjg_, h2]
  obtain ⟨b, hpr⟩ := hpr
  have q : ∀ c : Int, n.op ≠ c → (n.op == c) = false := fun c h => by simpa using h
  by_cases ck : x.k = n.vl.k
  · by_cases c5 : n.op = 5
    · refine ⟨(x.t == n.vl.t) && (x.n == n.vl.n), fun h => ?_⟩
      rw [run_eq, zpp_, PR.v_mk, AV.v]
      simp -implicitDefEqProofs [zgn_, ck, c5]
    · by_cases c6 : n.op = 6
      · refine ⟨decide (cmpV x n.vl < 0), fun h => ?_⟩
        rw [run_eq, zpp_, PR.v_mk]
        simp only [AV.v, ck] at hcm ⊢
        generalize cmpV x n.vl = z at *
        simp -implicitDefEqProofs [zgn_, ck, c5, c6, hcm]
      · refine ⟨b, fun h => ?_⟩
        rw [run_eq, zpp_, PR.v_mk, AV.v]
        simp -implicitDefEqProofs [zgn_, ck, c5, c6, q 5 c5, q 6 c6, hpr]
  · refine ⟨false, fun h => ?_⟩
    rw [run_eq, zpp_, PR.v_mk, AV.v]
    have ck' : (x.k != n.vl.k) = true := by simpa using ck
    simp -implicitDefEqProofs [zgn_, ck, ck']
open Classical in
noncomputable def satB (p : PR) (x : AV) : Bool := if h : ∃ b : Bool, ∀ h, run XP zkp_ [p.v, x.v] h = some (vb b, h) then h.choose else false
theorem zcmd_ {p : PR} (hp : p.n.Sz) (x : AV) (hx : x.t.size ≤ 9223372036854775807) (h : H) : run XP zkp_ [p.v, x.v] h = some (vb (satB p x), h) := by
  rw [satB, dif_pos (ex_sat hp x hx)]
  exact (ex_sat hp x hx).choose_spec h
theorem zcme_ {h : H} {v : V} {es : List PR} {f : Nat} {a b : List V} {p : PR → Bool} (hv : Rd h 7 v (es.map PR.v)) (hg : ∀ e ∈ es, arg0s (a ++ e.v :: b) = some (a ++ e.v :: b)) (hp : ∀ e ∈ es, run XP f (a ++ e.v :: b) h = some (vb (p e), h)) (hl : es.length ≤ 100000) :
    run XP ztf_ [v, .fn f a b] h = some (vi (ixF p es 0), h) := by
  rw [run_eq, zbwy_]
  simp -implicitDefEqProofs [zls_, hv.toL]
  refine zbo_ es (fun k s h' => Sees s [(0, v), (1, .fn f a b), (7, vi es.length), (8, vi k)] ∧ h' = h ∧ ixF p es 0 = ixF p (es.drop k) k) ?_ ?_ _ _ ⟨by simp, rfl, rfl⟩
  · rintro B f' hB hf k e s h' he hk ⟨⟨h0, h1, h7, h8, -⟩, rfl, hx⟩ K
    have hlt : (k : Int) < es.length := by omega
    have hm := List.mem_of_getElem? he
    obtain ⟨q, hq, hld⟩ := hv.at (i := k) (e := e.v) (by simp [he])
    have hw : IntKind.i64.wrap ((k : Int) + 1) = (k : Int) + 1 := zan_ (by omega) (by omega)
    have hge := hg e hm
    have hpe := hp e hm
    rw [zbq_ he, ixF] at hx
    obtain ⟨n, as⟩ := e
    simp only [PR.v_mk, V.cells] at hld hge hpe
    generalize hpp : p (.mk n as) = pb at *
    cases hb : pb with
    | false =>
      subst hb
      rw [if_neg (by simp)] at hx
      simp -implicitDefEqProofs [hB, zpg_, h0, h1, h7, h8, hlt, hq, hld, hge, hpe]
      refine K _ _ ⟨?_, rfl, hx⟩
      simp [h0, h1, h7, hw]
    | true =>
      subst hb
      rw [if_pos rfl] at hx
      simp -implicitDefEqProofs [hB, hf, zpg_, h0, h1, h7, h8, hlt, hq, hld, hge, hpe, hx]
  · rintro B hB s h' ⟨⟨h0, h1, h7, h8, -⟩, rfl, hx⟩
    rw [List.drop_of_length_le (Nat.le_refl _)] at hx
    have hx' : ixF p es 0 = -1 := hx
    simp -implicitDefEqProofs [hB, zpg_, h7, h8, hx']
theorem zbbj_ {h : H} {v : V} {es : List PR} {f : Nat} {a b : List V} {p : PR → Bool} (hv : Rd h 7 v (es.map PR.v)) (hf : arg0 (.fn f a b) = some (.fn f a b)) (hg : ∀ e ∈ es, arg0s (a ++ e.v :: b) = some (a ++ e.v :: b)) (hp : ∀ e ∈ es, run XP f (a ++ e.v :: b) h = some (vb (p e), h)) (hl : es.length ≤ 100000) :
    run XP zou_ [v, .fn f a b] h = some (vb (es.any p), h) := by
  have h1 := zcme_ hv hg hp hl
  have ha := hv.arg0
  have hx := zbbe_ p es 0
  generalize ixF p es 0 = z at *
  rw [run_eq, zbwv_, ← hx]
  simp -implicitDefEqProofs [zli_, h1, ha, hf]
end Go.Proofs.Sl
namespace Go.Proofs.Sl
structure SrcP (t f : Nat) (v : V) (S : ByteArray → ByteArray → AV × Bool) : Prop where
  c : ∀ h args, callI (run XP) h false [(zix_, zay_), (zhn_, ziw_)] (.ifc t v) args = xcall (run XP) h false f (v :: args)
  r : ∀ h fd ky, fd.size ≤ 9223372036854775807 → ky.size ≤ 9223372036854775807 → run XP f [v, vs fd, vs ky] h = some (.tup [(S fd ky).1.v, vb (S fd ky).2], h)
  z : ∀ fd ky, (S fd ky).1.t.size ≤ 9223372036854775807
  a : arg0 v = some v
noncomputable section
mutual
def hold (S : ByteArray → ByteArray → AV × Bool) : PR → Bool
  | .mk n as => if n.op = 0 then true else if n.op = 1 then hAll S as else if n.op = 2 then hAny S as else if n.op = 3 then !(hHd S as) else
      if n.op = 4 then (S sAttr n.ky).2 else (S n.fd n.ky).2 && satB (.mk n as) (S n.fd n.ky).1
def hAll (S : ByteArray → ByteArray → AV × Bool) : List PR → Bool
  | [] => true
  | p :: r => hold S p && hAll S r
def hAny (S : ByteArray → ByteArray → AV × Bool) : List PR → Bool
  | [] => false
  | p :: r => hold S p || hAny S r
def hHd (S : ByteArray → ByteArray → AV × Bool) : List PR → Bool
  | [] => false
  | p :: _ => hold S p
end
end
theorem zbbk_ (S : ByteArray → ByteArray → AV × Bool) : ∀ l : List PR, hAll S l = !(l.any fun q => !(hold S q))
  | [] => by rw [hAll]; rfl
  | p :: r => by
    rw [hAll, zbbk_ S r, List.any_cons]
    cases hold S p <;> simp
theorem zbbl_ (S : ByteArray → ByteArray → AV × Bool) : ∀ l : List PR, hAny S l = l.any (hold S)
  | [] => by rw [hAny]; rfl
  | p :: r => by rw [hAny, zbbl_ S r, List.any_cons]
section
variable {t f : Nat} {v : V} {S : ByteArray → ByteArray → AV × Bool}
theorem run_H1 {q : PR} (hq : ∀ h, run XP zgl_ [q.v, .ifc t v] h = some (vb (hold S q), h)) (ha : arg0 v = some v) {g : H} {a : Nat} (hg : g[a]? = some (.box false [.ifc t v])) :
    run XP zdq_ [q.v, .ptr a 0] g = some (vb (hold S q), g) := by
  have hl : a < g.length := (List.getElem?_eq_some_iff.1 hg).1
  obtain ⟨n, as⟩ := q
  rw [run_eq, zbwu_]
  rw [PR.v_mk] at hq ⊢
  generalize hold S (.mk n as) = b at *
  have hg' : ∀ t' : H, (g ++ t')[a]? = some (.box false [.ifc t v]) := fun t' => by rw [List.getElem?_append_left hl]; exact hg
  simp -implicitDefEqProofs [zlh_, hg', hl, hq, ha]
theorem run_H2 {q : PR} (hq : ∀ h, run XP zgl_ [q.v, .ifc t v] h = some (vb (hold S q), h)) (ha : arg0 v = some v) {g : H} {a b : Nat} (hg : g[a]? = some (.box false [.ifc t v]))
    (hb : g[b]? = some (.box false [.fn zdq_ [] [.ptr a 0]])) : run XP zov_ [q.v, .ptr b 0] g = some (vb (!(hold S q)), g) := by
  have hl : b < g.length := (List.getElem?_eq_some_iff.1 hb).1
  have hla : a < g.length := (List.getElem?_eq_some_iff.1 hg).1
  have h1 : ∀ t', run XP zdq_ [q.v, .ptr a 0] (g ++ t') = some (vb (hold S q), g ++ t') := fun t' => run_H1 hq ha (by rw [List.getElem?_append_left hla]; exact hg)
  obtain ⟨n, as⟩ := q
  rw [run_eq, zbww_]
  rw [PR.v_mk] at h1 ⊢
  generalize hold S (.mk n as) = bb at *
  have hb' : ∀ t' : H, (g ++ t')[b]? = some (.box false [.fn zdq_ [] [.ptr a 0]]) := fun t' => by rw [List.getElem?_append_left hl]; exact hb
  simp -implicitDefEqProofs [zlj_, hb', hl, h1]
end
end Go.Proofs.Sl
namespace Go.Proofs.Sl
theorem zbbm_ (p : PR) : arg0 p.v = some p.v := by
  obtain ⟨n, as⟩ := p
  rw [PR.v_mk]
  rfl
section
variable {t f : Nat} {v : V} {S : ByteArray → ByteArray → AV × Bool}
set_option maxHeartbeats 4000000 in
theorem zbbn_ {p : PR} (hp : p.Go) (hS : SrcP t f v S) : ∀ h : H, run XP zgl_ [p.v, .ifc t v] h = some (vb (hold S p), h) := by
  induction hp with
  | @mk n as hn hl h0 h3 ha ih =>
    intro h
    have hA := hS.a
    have hR : ∀ h, Rd h 7 (lv 7 (slc PR.v as n.nl)) (as.map PR.v) := fun h => rd_slc h 7 PR.v h0
    have ha0 := (hR h).arg0
    obtain ⟨op, fd, ky, vl, nl⟩ := n
    have q : ∀ c : Int, op ≠ c → (op == c) = false := fun c h => by simpa using h
    have hn1 := hn.f
    have hn2 := hn.k
    have hC := hS.c
    simp only at *
    rw [run_eq, zbwr_, hold, PR.v_mk]
    simp only
    by_cases o0 : op = 0
    · subst o0
      rw [if_pos rfl]
      simp -implicitDefEqProofs [zdr_]
    rw [if_neg o0]
    by_cases o1 : op = 1
    · subst o1
      rw [if_pos rfl, zbbk_]
      have hX := zbbj_ (h := h ++ [.box false [vi 1, vs fd, vs ky, vi vl.k, vs vl.t, vi vl.n, lv 7 (slc PR.v as nl)], .box false [.ifc t v], .box false [.fn zdq_ [] [.ptr (h.length + 1) 0]]])
        (es := as) (f := zov_) (a := []) (b := [.ptr (h.length + 2) 0]) (p := fun q => !(hold S q)) (hR _) (by simp) (fun e he => by simp [zbbm_]) (fun e he => run_H2 (a := h.length + 1) (ih e he) hA (by simp) (by simp)) (by omega)
      generalize (as.any fun q => !(hold S q)) = b at *
      simp -implicitDefEqProofs [zdr_, hX, ha0]
    rw [if_neg o1]
    by_cases o2 : op = 2
    · subst o2
      rw [if_pos rfl, zbbl_]
      have hX := zbbj_ (h := h ++ [.box false [vi 2, vs fd, vs ky, vi vl.k, vs vl.t, vi vl.n, lv 7 (slc PR.v as nl)], .box false [.ifc t v], .box false [.fn zdq_ [] [.ptr (h.length + 1) 0]]])
        (es := as) (f := zdq_) (a := []) (b := [.ptr (h.length + 1) 0]) (p := hold S) (hR _) (by simp) (fun e he => by simp [zbbm_]) (fun e he => run_H1 (ih e he) hA (by simp)) (by omega)
      generalize as.any (hold S) = b at *
      simp -implicitDefEqProofs [zdr_, hX, ha0]
    rw [if_neg o2]
    by_cases o3 : op = 3
    · subst o3
      rw [if_pos rfl]
      cases as with
      | nil => exact absurd rfl (h3 rfl)
      | cons e r =>
        obtain ⟨pp, hpp, hpl⟩ := (hR (h ++ [.box false [vi 3, vs fd, vs ky, vi vl.k, vs vl.t, vi vl.n, lv 7 (slc PR.v (e :: r) nl)], .box false [.ifc t v], .box false [.fn zdq_ [] [.ptr (h.length + 1) 0]]])).at (i := 0) (e := e.v) (by simp)
        have h1 := run_H1 (g := h ++ [.box false [vi 3, vs fd, vs ky, vi vl.k, vs vl.t, vi vl.n, lv 7 (slc PR.v (e :: r) nl)], .box false [.ifc t v], .box false [.fn zdq_ [] [.ptr (h.length + 1) 0]]]) (a := h.length + 1) (ih e List.mem_cons_self) hA (by simp)
        rw [hHd]
        generalize hLL : lv 7 (slc PR.v (e :: r) nl) = L at *
        obtain ⟨en, ea⟩ := e
        rw [PR.v_mk] at h1
        simp only [PR.v_mk, V.cells] at hpl
        generalize hold S (.mk en ea) = b at *
        rw [← hLL] at h1 hpp hpl ⊢
        simp -implicitDefEqProofs [zdr_, hpp, hpl, h1]
    rw [if_neg o3]
    by_cases o4 : op = 4
    · subst o4
      rw [if_pos rfl]
      have hr := fun h => hS.r h sAttr ky (by decide) hn2
      have es : (⟨#[97, 116, 116, 114]⟩ : ByteArray) = sAttr := rfl
      generalize S sAttr ky = z at *
      obtain ⟨⟨zk, zt, zn⟩, zb⟩ := z
      simp only [AV.v] at hr
      simp -implicitDefEqProofs [zdr_, hC, hr, hA, es]
    rw [if_neg o4]
    have hr := fun h => hS.r h fd ky hn1 hn2
    have hz := hS.z fd ky
    have hs := fun h => zcmd_ (p := .mk ⟨op, fd, ky, vl, nl⟩ as) hn (S fd ky).1 hz h
    generalize satB (.mk ⟨op, fd, ky, vl, nl⟩ as) (S fd ky).1 = sb at *
    generalize S fd ky = z at *
    obtain ⟨⟨zk, zt, zn⟩, zb⟩ := z
    simp only [AV.v, PR.v_mk] at hr hs
    cases zb with
    | false => simp -implicitDefEqProofs [zdr_, hC, hr, hs, hA, o0, o1, o2, o3, o4, q 0 o0, q 1 o1, q 2 o2, q 3 o3, q 4 o4]
    | true => simp -implicitDefEqProofs [zdr_, hC, hr, hs, hA, o0, o1, o2, o3, o4, q 0 o0, q 1 o1, q 2 o2, q 3 o3, q 4 o4]
end
end Go.Proofs.Sl
namespace Go.Proofs.Sl
structure SP.Bk (a : SP) : Prop where
  al : a.ats.length ≤ 100000
  ll : a.lks.length ≤ 100000
  an : a.an = true → a.ats = []
  ln : a.ln = true → a.lks = []
theorem SP.Bk.sm {a : SP} (h : a.Bk) : a.Sm := ⟨by have := h.al; omega, by have := h.ll; omega, h.an, h.ln⟩
end Go.Proofs.Sl
namespace Go.Proofs.Sl
end Go.Proofs.Sl
namespace Go.Proofs.Sl
end Go.Proofs.Sl
namespace Go.Proofs.Sl
structure SA (h h2 : H) (v : V) (es : List SP) : Prop where
  a0 : arg0 v = some v
  len : h2.length = h.length
  val : ∃ v2, LV v2 es ∧ ∀ t, run XP zgk_ [v] (h ++ t) = some (.fn zcw_ [] [.fptr (.agg [v2]) 0], h2 ++ t)
  rd : ∀ t, Rd (h ++ t) 14 v (es.map SP.v)
  rd2 : ∀ t, Rd (h2 ++ t) 14 v (es.map SP.v)
theorem SA.lst {v : V} {es : List SP} (l : LV v es) (h : H) : SA h h v es :=
  ⟨by rcases l with ⟨rfl, rfl⟩ | rfl <;> rfl, rfl, ⟨v, l, fun t => zzv_ l⟩, fun t => l.rd _, fun t => l.rd _⟩
theorem SA.ref {h : H} {l : Nat} {z : Bool} {es : List SP} (he : h[l]? = some (.arr z 14 (es.map SP.v))) : SA h (h.set l (.arr true 14 (es.map SP.v))) (.ref l es.length) es := by
  have hl := (List.getElem?_eq_some_iff.1 he).1
  have h3 : ∀ t, (h ++ t)[l]? = some (.arr z 14 (es.map SP.v)) := fun t => by rw [List.getElem?_append_left hl]; exact he
  refine ⟨rfl, by simp, ⟨_, .inr rfl, fun t => ?_⟩, fun t => ?_, fun t => ?_⟩
  · rw [zciu_ (h3 t), List.set_append_left _ _ hl]
  · have := Rd.ref (h := h ++ t) (k := 14) l z (es.map SP.v) (h3 t)
    rwa [List.length_map] at this
  · have := Rd.ref (h := h.set l (.arr true 14 (es.map SP.v)) ++ t) (k := 14) l true (es.map SP.v) (by rw [List.getElem?_append_left (by simpa using hl), List.getElem?_set_self hl])
    rwa [List.length_map] at this
theorem SA.set {h h2 : H} {v : V} {es : List SP} (a : SA h h2 v es) (hs : ∀ e ∈ es, e.Sm) (hn : es.length ≤ 100000) (t : H) : run XP zsk_ [v] (h ++ t) = some (ow (dst es), h2 ++ t) := by
  obtain ⟨v2, hl, hval⟩ := a.val
  exact zcja_ hl a.a0 (hval t) (by simp [a.len]) hs hn
end Go.Proofs.Sl
namespace Go.Proofs.Sl
end Go.Proofs.Sl
namespace Go.Proofs.Sl
def sps (ms : List MK) : List SP := (ms.take 12).map MK.sp
theorem zcmf_ (ms : List MK) : (sps ms).length ≤ 12 := by
  rw [sps, List.length_map, List.length_take]
  exact Nat.min_le_left _ _
structure SP.Ti (a : SP) : Prop where
  al : a.ats.length ≤ 1000
  ll : a.lks.length ≤ 1000
  an : a.an = true → a.ats = []
  ln : a.ln = true → a.lks = []
theorem SP.Ti.sm {a : SP} (h : a.Ti) : a.Sm := ⟨by have := h.al; omega, by have := h.ll; omega, h.an, h.ln⟩
theorem MK.ti (m : MK) : m.sp.Ti := ⟨by have := m.len.1; omega, by have := m.len.2; omega, m.an, m.ln⟩
theorem sps_ti {ms : List MK} {a : SP} (h : a ∈ sps ms) : a.Ti := by
  obtain ⟨m, -, rfl⟩ := List.mem_map.1 h
  exact m.ti
theorem zcmg_ {h h2 : H} (htk : h2.take h.length = h) : ∃ t, h2 = h ++ t := ⟨h2.drop h.length, by
  have := List.take_append_drop h.length h2
  rw [htk] at this
  exact this.symm⟩
theorem zcmh_ {h : H} {v : V} {ms : List MK} (hv : ∀ t, Rd (h ++ t) 14 v (ms.map MK.val)) (hm : ∀ m ∈ ms, m.Ok) : run XP zsi_ [v] h = some (ow (sps ms), h) := by
  have ha0 := (hv []).arg0
  rw [run_eq, zbvb_]
  simp -implicitDefEqProofs [zku_, ha0]
  refine zrv_ (min ms.length 12) (fun k s h' => ∃ t, Sees s [(0, v), (4, vi k)] ∧ h' = h ++ t ∧ OutV (s 3) h' h.length 14 (((ms.take k).map MK.sp).map SP.v)) ?_ ?_ _ _
    ⟨[], by simp, by simp, .inl ⟨rfl, by simp⟩⟩
  · rintro B f' hB hf k s h' hk ⟨t, ⟨h0, h4, -⟩, rfl, ho⟩ K
    have hk1 : k < ms.length := by omega
    have hk2 : (k : Int) < 12 := by omega
    obtain ⟨m, hm1⟩ : ∃ m, ms[k]? = some m := ⟨_, List.getElem?_eq_getElem hk1⟩
    have htl := (hv t).toL
    obtain ⟨q, hq, hld⟩ := (hv t).at (i := k) (e := m.val) (by simp [hm1])
    have hw : IntKind.i64.wrap ((k : Int) + 1) = (k : Int) + 1 := zan_ (by omega) (by omega)
    have hS := fun h => zclr_ (h := h) (hm m (List.mem_of_getElem? hm1))
    have hw1 := zms_ m.sp
    have hc1 : V.closed.closeds [m.sp.v] = true := zcj_ [m.sp]
    have hlen : (((ms.take k).map MK.sp).map SP.v).length + 1 ≤ 837723144972 := by simp; omega
    obtain ⟨x', h'', hap, ho', htk, hbl⟩ := ho.grow (lim := 837723144972) (by simp) hw1 hc1 hlen
    rw [List.take_left] at htk
    obtain ⟨t', rfl⟩ := zcmg_ htk
    have htake : ((ms.take k).map MK.sp).map SP.v ++ [m.sp.v] = ((ms.take (k + 1)).map MK.sp).map SP.v := by rw [List.take_add_one, hm1]; simp
    rw [htake] at ho'
    simp only [SP.v, V.cells, MK.val] at hld hS hap hw1 hc1
    simp -implicitDefEqProofs [hB, zpb_, h0, h4, htl, hk1, hk2, hq, hld, hS, hap]
    refine K _ _ ⟨t', ?_, rfl, ?_⟩
    · simp [h0, hw]
    · simpa using ho'
  · rintro B hB s h' ⟨t, ⟨h0, h4, -⟩, rfl, ho⟩
    have htl := (hv t).toL
    have hr := ho.ret (zcj_ _)
    have e : (ms.take (min ms.length 12)).map MK.sp = sps ms := by
      rw [sps]
      by_cases hx : ms.length ≤ 12
      · rw [Nat.min_eq_left hx, List.take_of_length_le (Nat.le_refl _), List.take_of_length_le hx]
      · rw [Nat.min_eq_right (by omega)]
    rw [e] at hr
    have e2 : (if (sps ms).map SP.v = [] then vnil else V.own 14 ((sps ms).map SP.v)) = ow (sps ms) := by
      unfold ow
      by_cases hx : sps ms = []
      · rw [hx]; rfl
      · rw [if_neg hx, if_neg (by simpa using hx)]
    rw [e2] at hr
    by_cases hx : ms.length ≤ 12
    · rw [Nat.min_eq_left hx] at h4
      simp -implicitDefEqProofs [hB, zpb_, h0, h4, htl]
      simp only [hr]
      simp
    · rw [Nat.min_eq_right (by omega)] at h4
      have hlt : (12 : Int) < ms.length := by omega
      simp -implicitDefEqProofs [hB, zpb_, h0, h4, htl, hlt]
      simp only [hr]
      simp
def sameL : List SP → List SP → Bool
  | [], [] => true
  | a :: x, b :: y => cmpS a b == 0 && sameL x y
  | _, _ => false
theorem zbbo_ : ∀ {x y : List SP}, sameL x y = true → x.length = y.length
  | [], [], _ => rfl
  | a :: x, b :: y, h => by
    rw [sameL, Bool.and_eq_true] at h
    rw [List.length_cons, List.length_cons, zbbo_ h.2]
  | [], b :: y, h => by simp [sameL] at h
  | a :: x, [], h => by simp [sameL] at h
theorem zcmi_ {h : H} {v w : V} {xs ys : List SP} (hv : Rd h 14 v (xs.map SP.v)) (hw : Rd h 14 w (ys.map SP.v)) (hx : ∀ e ∈ xs, e.Ti) (hy : ∀ e ∈ ys, e.Ti) (hl : xs.length ≤ 100000) : run XP zsj_ [v, w] h = some (vb (sameL xs ys), h) := by
  have hla := hv.toL
  have hlb := hw.toL
  have ha0 := hv.arg0
  have hb0 := hw.arg0
  rw [run_eq, zbvc_]
  by_cases hn : xs.length = ys.length
  · have hn' : ((xs.length : Int) != (ys.length : Int)) = false := by rw [hn]; simp
    simp -implicitDefEqProofs [ziy_, ha0, hb0, hla, hlb, hn']
    refine zbo_ xs (fun k s h' => Sees s [(0, v), (1, w), (5, vi k)] ∧ h' = h ∧ sameL xs ys = sameL (xs.drop k) (ys.drop k)) ?_ ?_ _ _ ⟨by simp, rfl, rfl⟩
    · rintro B f' hB hf k e s h' he hk ⟨⟨h0, h1, h5, -⟩, rfl, hs⟩ K
      have hlt : (k : Int) < xs.length := by omega
      obtain ⟨d, hd⟩ : ∃ d, ys[k]? = some d := ⟨_, List.getElem?_eq_getElem (by omega)⟩
      obtain ⟨p, hp, hpl⟩ := hv.at (i := k) (e := e.v) (by simp [he])
      obtain ⟨q, hq, hql⟩ := hw.at (i := k) (e := d.v) (by simp [hd])
      have t1 := hx e (List.mem_of_getElem? he)
      have t2 := hy d (List.mem_of_getElem? hd)
      have hc := fun h => zclo_ h t1.an t1.ln t2.an t2.ln t1.al t1.ll t2.al t2.ll
      have hwk : IntKind.i64.wrap ((k : Int) + 1) = (k : Int) + 1 := zan_ (by omega) (by omega)
      rw [zbq_ he, zbq_ hd, sameL] at hs
      generalize cmpS e d = z at hc hs
      simp only [SP.v, V.cells] at hpl hql hc
      by_cases hz : z = 0
      · subst hz
        rw [show ((0 : Int) == 0) = true from rfl, Bool.true_and] at hs
        simp -implicitDefEqProofs [hB, zpc_, h0, h1, h5, hla, hlt, hp, hq, hpl, hql, hc]
        refine K _ _ ⟨?_, rfl, hs⟩
        simp [h0, h1, hwk]
      · have hz1 : (z == 0) = false := by simpa using hz
        have hz2 : (z != 0) = true := by simpa using hz
        rw [hz1, Bool.false_and] at hs
        simp -implicitDefEqProofs [hB, hf, zpc_, h0, h1, h5, hla, hlt, hp, hq, hpl, hql, hc, hz2, hs]
    · rintro B hB s h' ⟨⟨h0, h1, h5, -⟩, rfl, hs⟩
      rw [List.drop_of_length_le (Nat.le_refl _), List.drop_of_length_le (by omega), sameL] at hs
      simp -implicitDefEqProofs [hB, zpc_, h0, h1, h5, hla, hs]
  · have hn' : ((xs.length : Int) != (ys.length : Int)) = true := by simp; omega
    have : sameL xs ys = false := by
      cases hs : sameL xs ys with
      | false => rfl
      | true => exact absurd (zbbo_ hs) hn
    simp -implicitDefEqProofs [ziy_, ha0, hb0, hla, hlb, hn', this]
end Go.Proofs.Sl
namespace Go.Proofs.Sl
end Go.Proofs.Sl
namespace Go.Proofs.Sl
theorem OutV.rd {x : V} {h : H} {b k : Nat} {es : List V} (o : OutV x h b k es) : Rd h k x es := by
  rcases o with ⟨rfl, rfl⟩ | ⟨q, _, _, rfl, h3⟩
  · exact .nil
  · exact .ref q false es h3
end Go.Proofs.Sl
namespace Go.Proofs.Sl
end Go.Proofs.Sl
namespace Go.Proofs.Sl
end Go.Proofs.Sl
namespace Go.Proofs.Sl
end Go.Proofs.Sl
namespace Go.Proofs.Sl
def Ins (x y : List SP) : Prop := ∀ a ∈ x, ∃ b ∈ y, cmpS a b = 0
def Alk (x y : List SP) : Prop := Ins x y ∧ Ins y x
theorem cz (a : SP) : cmpS a a = 0 := zeh_.self a
theorem Ins.trans {x y z : List SP} (h : Ins x y) (k : Ins y z) : Ins x z := fun a ha => by
  obtain ⟨b, hb, e⟩ := h a ha
  obtain ⟨c, hc, e2⟩ := k b hb
  exact ⟨c, hc, zeh_.eq_trans e e2⟩
theorem Alk.symm {x y : List SP} (h : Alk x y) : Alk y x := ⟨h.2, h.1⟩
theorem Alk.trans {x y z : List SP} (h : Alk x y) (k : Alk y z) : Alk x z := ⟨h.1.trans k.1, k.2.trans h.2⟩
def Idn (a b : SP) : Prop := a.tr = b.tr ∧ a.id = b.id
theorem Idn.symm {a b : SP} (h : Idn a b) : Idn b a := ⟨h.1.symm, h.2.symm⟩
theorem Idn.trans {a b c : SP} (h : Idn a b) (k : Idn b c) : Idn a c := ⟨h.1.trans k.1, h.2.trans k.2⟩
end Go.Proofs.Sl
namespace Go.Proofs.Sl
theorem bsW_ok {c : Nat → Int} {n : Nat} (hm : ∀ a b, a < b → b < n → c b < 0 → c a < 0) (i j : Nat) (hij : i ≤ j) (hj : j ≤ n) (h1 : ∀ k, k < i → c k < 0) (h2 : ∀ k, j ≤ k → k < n → ¬ c k < 0) :
    (∀ k, k < bsW c i j → c k < 0) ∧ (∀ k, bsW c i j ≤ k → k < n → ¬ c k < 0) ∧ bsW c i j ≤ n := by
  induction hn : j - i using Nat.strongRecOn generalizing i j with
  | _ d ih =>
    rw [bsW]
    by_cases hlt : i < j
    · rw [dif_pos hlt]
      have hmid : (i + j) / 2 < j := by omega
      have hmid2 : i ≤ (i + j) / 2 := by omega
      by_cases hc : c ((i + j) / 2) < 0
      · rw [if_pos hc]
        refine ih (j - ((i + j) / 2 + 1)) (by omega) _ _ (by omega) hj (fun k hk => ?_) h2 rfl
        by_cases hk' : k = (i + j) / 2
        · rw [hk']; exact hc
        · exact hm k ((i + j) / 2) (by omega) (by omega) hc
      · rw [if_neg hc]
        refine ih ((i + j) / 2 - i) (by omega) _ _ (by omega) (by omega) h1 (fun k hk hkn hck => ?_) rfl
        by_cases hk' : k = (i + j) / 2
        · rw [hk'] at hck; exact hc hck
        · exact hc (hm _ k (by omega) hkn hck)
    · rw [dif_neg hlt]
      obtain rfl : i = j := by omega
      exact ⟨h1, h2, hj⟩
end Go.Proofs.Sl
namespace Go.Proofs.Sl
def zAV : AV := ⟨0, ⟨#[]⟩, 0⟩
def linA (l : List AT) (q : ByteArray) : AV × Bool := match l.find? (fun e => decide (e.key = q)) with
  | some e => (e.val, true)
  | none => (zAV, false)
theorem zbbp_ {q : ByteArray} : ∀ {l : List AT} {p : Nat} {e : AT}, l[p]? = some e → e.key = q → (∀ k, k < p → ∀ x, l[k]? = some x → x.key ≠ q) → l.find? (fun e => decide (e.key = q)) = some e
  | [], p, e, he, _, _ => by simp at he
  | x :: r, 0, e, he, hk, _ => by
    simp only [List.getElem?_cons_zero, Option.some.injEq] at he
    subst he
    rw [List.find?_cons_of_pos (by simpa using hk)]
  | x :: r, p + 1, e, he, hk, hb => by
    simp only [List.getElem?_cons_succ] at he
    rw [List.find?_cons_of_neg (by simpa using hb 0 (by omega) x rfl)]
    exact zbbp_ he hk fun k hk' y hy => hb (k + 1) (by omega) y (by simpa using hy)
theorem zcmj_ {q : ByteArray} {l : List AT} (h : ∀ (k : Nat) (x : AT), l[k]? = some x → x.key ≠ q) : l.find? (fun e => decide (e.key = q)) = none := by
  rw [List.find?_eq_none]
  intro x hx
  obtain ⟨k, hk⟩ := List.mem_iff_getElem?.1 hx
  simpa using h k x hk
theorem zcmk_ {ats : List AT} (hs : ats.Pairwise fun x y => wrd x.key y.key < 0) (q : ByteArray) : (getA ats q, fndA ats q) = linA ats q := by
  have hm : ∀ a b, a < b → b < ats.length → cAt ats q b < 0 → cAt ats q a < 0 := fun a b hab hb hc => by
    have ha : a < ats.length := by omega
    have h1 := List.pairwise_iff_getElem.1 hs a b ha hb hab
    rw [cAt, List.getElem?_eq_getElem hb] at hc
    rw [cAt, List.getElem?_eq_getElem ha]
    exact wrd_cm.lt_of_lt_le h1 (by simp only at hc; omega)
  obtain ⟨k1, k2, k3⟩ := bsW_ok hm 0 ats.length (Nat.zero_le _) (Nat.le_refl _) (fun k hk => absurd hk (by omega)) (fun k h1 h2 => absurd h1 (by omega))
  have hp : posA ats q = bsW (cAt ats q) 0 ats.length := rfl
  rw [← hp] at k1 k2 k3
  have hlt : ∀ k, k < posA ats q → ∀ x : AT, ats[k]? = some x → x.key ≠ q := fun k hk x hx e => by
    have := k1 k hk
    rw [cAt, hx] at this
    simp only [zts_.2 e] at this
    omega
  cases hf : fndA ats q with
  | true =>
    have hf' := hf
    simp only [fndA, Bool.and_eq_true, decide_eq_true_eq, beq_iff_eq] at hf'
    obtain ⟨e, he⟩ : ∃ e, ats[posA ats q]? = some e := ⟨_, List.getElem?_eq_getElem hf'.1⟩
    have hk : e.key = q := by
      have := hf'.2
      rw [cAt, he] at this
      exact zts_.1 this
    rw [linA, zbbp_ he hk hlt, getA, if_pos hf, he]
  | false =>
    have hn : ∀ (k : Nat) (x : AT), ats[k]? = some x → x.key ≠ q := fun k x hx e => by
      by_cases hk : k < posA ats q
      · exact hlt k hk x hx e
      have hkl := (List.getElem?_eq_some_iff.1 hx).1
      have hpl : posA ats q < ats.length := by omega
      have hc0 : cAt ats q k = 0 := by rw [cAt, hx]; exact zts_.2 e
      have hcp : cAt ats q (posA ats q) ≠ 0 := fun h0 => by
        have : fndA ats q = true := by simp [fndA, hpl, h0]
        rw [hf] at this
        cases this
      by_cases hkp : k = posA ats q
      · rw [hkp] at hc0
        exact hcp hc0
      · have h1 := List.pairwise_iff_getElem.1 hs (posA ats q) k hpl hkl (by omega)
        have h2 := k2 (posA ats q) (Nat.le_refl _) hpl
        rw [cAt, List.getElem?_eq_getElem hpl] at h2
        have hx' := (List.getElem?_eq_some_iff.1 hx).2
        rw [hx', e] at h1
        exact h2 h1
    rw [linA, zcmj_ hn, getA, if_neg (by simp [hf])]
    rfl
theorem zui_ (p : AT → Bool) : ∀ (l : List AT) (k : Nat), (ixF p l k = -1 ∧ l.find? p = none) ∨ ∃ i e, ixF p l k = ((k + i : Nat) : Int) ∧ l[i]? = some e ∧ l.find? p = some e
  | [], k => .inl ⟨rfl, rfl⟩
  | x :: r, k => by
    cases hx : p x with
    | true => exact .inr ⟨0, x, by rw [ixF, if_pos hx]; rfl, rfl, by rw [List.find?_cons_of_pos hx]⟩
    | false =>
      rw [ixF, if_neg (by simp [hx]), List.find?_cons_of_neg (by simp [hx])]
      rcases zui_ p r (k + 1) with ⟨h1, h2⟩ | ⟨i, e, h1, h2, h3⟩
      · exact .inl ⟨h1, h2⟩
      · exact .inr ⟨i + 1, e, by rw [h1]; congr 1; omega, by simpa using h2, h3⟩
theorem zbbq_ {g : H} {e : AT} {b : Nat} {nm : ByteArray} (hb : g[b]? = some (.box false [vs nm])) : run XP zkq_ [e.v, .ptr b 0] g = some (vb (decide (e.key = nm)), g) := by
  have hl := (List.getElem?_eq_some_iff.1 hb).1
  have hb' : ∀ t : H, (g ++ t)[b]? = some (.box false [vs nm]) := fun t => by rw [List.getElem?_append_left hl]; exact hb
  have := bl_eq (a := e.key) (b := nm)
  rw [run_eq, zbxc_, ← this]
  simp -implicitDefEqProofs [zmq_, AT.v, hb', hl]
def recS (F ats : List AT) (fd ky : ByteArray) : AV × Bool := if fd = sAttr then linA ats ky else if ky = eS then linA F fd else (zAV, false)
set_option maxHeartbeats 4000000 in
theorem run_RV (h : H) {F ats : List AT} {an : Bool} (hF : F.length ≤ 100000) (ha : ats.length ≤ 100000) (han : an = true → ats = []) (fd ky : ByteArray) :
    run XP ziw_ [.agg [.lst 4 (F.map AT.v), lv 4 (slc AT.v ats an)], vs fd, vs ky] h = some (.tup [(recS F ats fd ky).1.v, vb (recS F ats fd ky).2], h) := by
  have eK := isE ky
  have eA : (fd.toList == [97, 116, 116, 114]) = decide (fd = sAttr) := by
    rw [show ([97, 116, 116, 114] : List UInt8) = sAttr.toList from by rw [ByteArray.toList_eq]; rfl, bl_eq]
  rw [run_eq, zbxb_, recS]
  by_cases hf : fd = sAttr
  · rw [if_pos hf]
    rw [show decide (fd = sAttr) = true by simpa using hf] at eA
    have hR : ∀ h, Rd h 4 (lv 4 (slc AT.v ats an)) (ats.map AT.v) := fun h => rd_slc h 4 AT.v han
    have ha0 := (hR h).arg0
    have hX := zbbf_ (h := h ++ [.box false [.lst 4 (F.map AT.v), lv 4 (slc AT.v ats an)], .box false [vi 0, vs ⟨#[]⟩, vi 0], .box false [vs ky]]) (es := ats) (f := zkq_) (a := []) (b := [.ptr (h.length + 2) 0])
      (p := fun e => decide (e.key = ky)) (hR _) (fun e _ => by simp [AT.v]) (fun e _ => zbbq_ (by simp)) ha
    rcases zui_ (fun e => decide (e.key = ky)) ats 0 with ⟨h1, h2⟩ | ⟨i, e, h1, h2, h3⟩
    · rw [h1] at hX
      rw [linA, h2]
      simp -implicitDefEqProofs [zee_, eA, hX, ha0, zAV, AV.v]
    · rw [h1, Nat.zero_add] at hX
      rw [linA, h3]
      have hneg : ¬ ((i : Int) < 0) := by omega
      obtain ⟨pp, hpp, hpl⟩ := (hR (h ++ [.box false [.lst 4 (F.map AT.v), lv 4 (slc AT.v ats an)], .box false [vi 0, vs ⟨#[]⟩, vi 0], .box false [vs ky]])).at (i := i) (e := e.v) (by simp [h2])
      have hfp := zgr_ (f := AT.v) han h2 (h ++ [.box false [.lst 4 (F.map AT.v), lv 4 (slc AT.v ats an)], .box false [vi 0, vs ⟨#[]⟩, vi 0], .box false [vs ky]]) 4
      simp -implicitDefEqProofs [zee_, eA, hX, ha0, hneg, hfp, AT.v, AV.v]
  · rw [if_neg hf]
    rw [show decide (fd = sAttr) = false by simpa using hf] at eA
    by_cases hk : ky = eS
    · rw [if_pos hk]
      rw [show decide (ky = eS) = true by simpa using hk] at eK
      have hX := zbbf_ (h := h ++ [.box false [.lst 4 (F.map AT.v), lv 4 (slc AT.v ats an)], .box false [vi 0, vs ⟨#[]⟩, vi 0], .box false [vs fd]]) (v := .lst 4 (F.map AT.v)) (es := F) (f := zkq_) (a := []) (b := [.ptr (h.length + 2) 0])
        (p := fun e => decide (e.key = fd)) (.lst _) (fun e _ => by simp [AT.v]) (fun e _ => zbbq_ (by simp)) hF
      rcases zui_ (fun e => decide (e.key = fd)) F 0 with ⟨h1, h2⟩ | ⟨i, e, h1, h2, h3⟩
      · rw [h1] at hX
        rw [linA, h2]
        simp -implicitDefEqProofs [zee_, eA, eK, hX, zAV, AV.v]
      · rw [h1, Nat.zero_add] at hX
        rw [linA, h3]
        have hneg : ¬ ((i : Int) < 0) := by omega
        have hil := (List.getElem?_eq_some_iff.1 h2).1
        have hie := (List.getElem?_eq_some_iff.1 h2).2
        have he : (F.map AT.v)[i]? = some e.v := by simp [h2]
        generalize F.map AT.v = FF at *
        simp -implicitDefEqProofs [zee_, eA, eK, hX, hneg, he, AT.v, AV.v]
    · rw [if_neg hk]
      rw [show decide (ky = eS) = false by simpa using hk] at eK
      simp -implicitDefEqProofs [zee_, eA, eK, zAV, AV.v]
end Go.Proofs.Sl
namespace Go.Proofs.Sl
noncomputable section
open Classical in
def valF (a : SP) (fd : ByteArray) : AV := if h : ∃ x, FO a fd x then h.choose else zAV
def sView (a : SP) (fd ky : ByteArray) : AV × Bool := if fd = sAttr then (getA a.ats ky, fndA a.ats ky) else if isF fd = true ∧ ky = eS then (valF a fd, true) else (zAV, false)
def recF (a : SP) : List AT := flds.map fun f => ⟨f, valF a f⟩
end
structure SP.Vw (a : SP) : Prop where
  fo : ∀ f ∈ flds, ∃ x, FO a f x
  pw : a.ats.Pairwise fun x y => wrd x.key y.key < 0
  sz : ∀ e ∈ a.ats, e.val.t.size ≤ 9223372036854775807
  al : a.ats.length ≤ 3
  an : a.an = true → a.ats = []
theorem fo_val {a : SP} (h : a.Vw) {f : ByteArray} (hf : f ∈ flds) : FO a f (valF a f) := by
  rw [valF, dif_pos (h.fo f hf)]
  exact (h.fo f hf).choose_spec
theorem zcml_ {l : List ByteArray} (hl : ∀ t ∈ l, t.size ≤ 100) (n : Nat) : (tbl l n).size ≤ 100 := by
  rw [tbl, List.getD_eq_getElem?_getD]
  cases e : l[n]? with
  | none => decide
  | some t => exact hl t (List.mem_of_getElem? e)
theorem MK.vw (m : MK) (hm : m.Ok) : m.sp.Vw where
  fo := fo_all m hm
  pw := by
    have h1 : (mats (m.tg / 4 % 2) ((m.tg : Int) - 60) (tbl zns (m.tg / 8 % 3))).Pairwise fun x y => wrd x.key y.key < 0 := by
      have k1 : wrd ⟨#[111, 107]⟩ ⟨#[115, 105, 122, 101]⟩ < 0 := by decide +kernel
      have k2 : wrd ⟨#[111, 107]⟩ ⟨#[122, 111, 110, 101]⟩ < 0 := by decide +kernel
      have k3 : wrd ⟨#[115, 105, 122, 101]⟩ ⟨#[122, 111, 110, 101]⟩ < 0 := by decide +kernel
      simp [mats, k1, k2, k3]
    exact h1.sublist (List.take_sublist _ _)
  sz := fun e he => by
    have he' : e ∈ mats (m.tg / 4 % 2) ((m.tg : Int) - 60) (tbl zns (m.tg / 8 % 3)) := List.mem_of_mem_take he
    have hz := zcml_ (l := zns) (by decide +kernel) (m.tg / 8 % 3)
    simp only [mats, List.mem_cons, List.not_mem_nil, or_false] at he'
    rcases he' with rfl | rfl | rfl
    · show (⟨#[]⟩ : ByteArray).size ≤ _
      decide
    · show (⟨#[]⟩ : ByteArray).size ≤ _
      decide
    · show (tbl zns (m.tg / 8 % 3)).size ≤ _
      omega
  al := m.len.1
  an := m.an
theorem zcmm_ {ats : List AT} (h : ∀ e ∈ ats, e.val.t.size ≤ 9223372036854775807) (q : ByteArray) : (getA ats q).t.size ≤ 9223372036854775807 := by
  rw [getA]
  split
  · split
    · rename_i e he
      exact h e (List.mem_of_getElem? he)
    · decide
  · decide
theorem zbbr_ {a : SP} (h : a.Vw) (fd ky : ByteArray) : (sView a fd ky).1.t.size ≤ 9223372036854775807 := by
  rw [sView]
  split
  · exact zcmm_ h.sz ky
  · split
    · rename_i h1
      exact (fo_val h (zpy_ h1.1)).sz
    · decide
theorem zcmn_ {a : SP} (h : a.Vw) : SrcP zix_ zay_ a.v (sView a) where
  c := fun hh args => zxj_ _ _ _ _ _ _ _ _
  r := fun hh fd ky hf hk => by
    have hal := h.al
    have hgt := fun hh => zclk_ (v := lv 4 (slc AT.v a.ats a.an)) (ats := a.ats) hh ky (fun hh => rd_slc hh 4 AT.v h.an) (by omega)
    rw [sView]
    by_cases hA : fd = sAttr
    · subst hA
      rw [if_pos rfl]
      exact zclw_ hh hgt
    · rw [if_neg hA]
      cases hF : isF fd with
      | false =>
        rw [if_neg (by simp)]
        exact vl_no hh a hA (fun hh => kd_no hh hF) (.inl rfl)
      | true =>
        have fx := fo_val h (zpy_ hF)
        by_cases hky : ky = eS
        · rw [if_pos ⟨rfl, hky⟩]
          subst hky
          exact fx.vl hh
        · rw [if_neg (fun c => hky c.2)]
          exact vl_no hh a hA fx.kd (.inr hky)
  z := fun fd ky => zbbr_ h fd ky
  a := rfl
theorem zbbs_ (l : List ByteArray) (g : ByteArray → AV) (fd : ByteArray) : (fd ∈ l → linA (l.map fun f => ⟨f, g f⟩) fd = (g fd, true)) ∧ (fd ∉ l → linA (l.map fun f => ⟨f, g f⟩) fd = (zAV, false)) := by
  induction l with
  | nil => exact ⟨fun h => by simp at h, fun _ => rfl⟩
  | cons x r ih =>
    rw [linA, List.map_cons]
    by_cases hx : x = fd
    · subst hx
      rw [List.find?_cons_of_pos (by simp)]
      exact ⟨fun _ => rfl, fun h => absurd List.mem_cons_self h⟩
    · rw [List.find?_cons_of_neg (by simpa using hx), ← linA]
      refine ⟨fun h => ih.1 ?_, fun h => ih.2 fun c => h (List.mem_cons_of_mem _ c)⟩
      rcases List.mem_cons.1 h with h | h
      · exact absurd h.symm hx
      · exact h
theorem zcmo_ (fd : ByteArray) : isF fd = true ↔ fd ∈ flds := by
  refine ⟨zpy_, fun h => ?_⟩
  have : ∀ f ∈ flds, isF f = true := by decide +kernel
  exact this fd h
theorem zcmp_ {a : SP} (h : a.Vw) (fd ky : ByteArray) : recS (recF a) a.ats fd ky = sView a fd ky := by
  rw [recS, sView, zcmk_ h.pw]
  by_cases hA : fd = sAttr
  · rw [if_pos hA, if_pos hA]
  rw [if_neg hA, if_neg hA]
  by_cases hk : ky = eS
  · rw [if_pos hk, recF]
    cases hf : isF fd with
    | true =>
      rw [(zbbs_ flds (valF a) fd).1 (zpy_ hf), if_pos ⟨rfl, hk⟩]
    | false =>
      rw [(zbbs_ flds (valF a) fd).2 (fun c => by rw [(zcmo_ fd).2 c] at hf; cases hf), if_neg (by simp)]
  · rw [if_neg hk, if_neg (fun c => hk c.2)]
theorem zcmq_ {a : SP} (h : a.Vw) : SrcP zhn_ ziw_ (.agg [.lst 4 ((recF a).map AT.v), lv 4 (slc AT.v a.ats a.an)]) (sView a) where
  c := fun hh args => by
    have : (zhn_ == zix_) = false := by decide
    simp [callI, List.lookup, this, zab_]
  r := fun hh fd ky _ _ => by
    have hl : (recF a).length = 15 := by rw [recF, List.length_map]; rfl
    have hal := h.al
    rw [run_RV hh (by omega) (by omega) h.an fd ky, zcmp_ h]
  z := fun fd ky => zbbr_ h fd ky
  a := rfl
noncomputable def holdS (p : PR) (a : SP) : Bool := hold (sView a) p
theorem zbbt_ {p : PR} (hp : p.Go) {a : SP} (h : a.Vw) (hh : H) : run XP zot_ [p.v, a.v] hh = some (vb (holdS p a), hh) := by
  have h1 := zbbn_ hp (zcmn_ h)
  rw [holdS]
  generalize hold (sView a) p = b at *
  obtain ⟨n, as⟩ := p
  obtain ⟨tr, id, par, rev, clk, kind, sv, vr, op, st, en, er, ats, lks, an, ln⟩ := a
  rw [run_eq, zbws_]
  simp only [PR.v_mk, SP.v] at h1 ⊢
  simp -implicitDefEqProofs [zkw_, h1]
theorem zcmr_ {p : PR} (hp : p.Go) {a : SP} (h : a.Vw) (hh : H) : run XP zgl_ [p.v, .ifc zhn_ (.agg [.lst 4 ((recF a).map AT.v), lv 4 (slc AT.v a.ats a.an)])] hh = some (vb (holdS p a), hh) := zbbn_ hp (zcmq_ h) hh
theorem zbbu_ {P : SP → Bool} {q : Nat → Bool} : ∀ (l : List SP) (k : Nat), (∀ i e, l[i]? = some e → q (k + i) = P e) → selA q k l = l.filter P
  | [], k, _ => rfl
  | e :: r, k, h => by
    have h0 := h 0 e rfl
    rw [Nat.add_zero] at h0
    have hr := zbbu_ (P := P) (q := q) r (k + 1) fun i x hx => by
      have := h (i + 1) x (by simpa using hx)
      rwa [show k + (i + 1) = k + 1 + i by omega] at this
    rw [selA, hr, h0]
    cases hP : P e with
    | true => rw [if_pos rfl, List.filter_cons_of_pos hP]
    | false => rw [if_neg (by simp), List.filter_cons_of_neg (by simp [hP])]
theorem zcms_ {p : PR} (hp : p.Go) {es : List SP} (hv : ∀ e ∈ es, e.Vw) {g : H} {v : V} {a b k : Nat} {e : SP} (he : es[k]? = some e) (hR : ∀ t, Rd (g ++ t) 14 v (es.map SP.v)) (hg : g[a]? = some (.box false p.v.cells)) (hb : g[b]? = some (.box false [v])) (hc : rdCell b 0 v = v) :
    run XP zoy_ [vi k, .ptr a 0, .ptr b 0] g = some (vb (holdS p e), g) := by
  have hla := (List.getElem?_eq_some_iff.1 hg).1
  have hlb := (List.getElem?_eq_some_iff.1 hb).1
  have h1 := fun h => zbbt_ hp (hv e (List.mem_of_getElem? he)) h
  have hR0 := hR []
  rw [List.append_nil] at hR0
  obtain ⟨q, hq, hld⟩ := hR0.at (i := k) (e := e.v) (by simp [he])
  generalize holdS p e = bb at *
  obtain ⟨n, as⟩ := p
  rw [run_eq, zbxa_]
  simp only [PR.v_mk, SP.v, V.cells] at h1 hg hld
  simp -implicitDefEqProofs [zll_, hg, hb, hc, hq, hld, h1]
theorem zcmt_ (h : H) {p : PR} (hp : p.Go) {es : List SP} (hv : ∀ e ∈ es, e.Vw) (hs : ∀ e ∈ es, e.Ti) (hl : es.length ≤ 1000) : run XP zth_ [p.v, nl es] h = some (nl (es.filter (holdS p)), h) := by
  have hcell := zpv_ (h.length + 1) 0 es
  have hX := ztv_ (h := h ++ [.box false p.v.cells, .box false [nl es]]) (v := nl es) (es := es) (fun t => (nl_LV es).rd _) (fun e he => (hs e he).sm) (by omega) (f := zoy_) (b := [.ptr h.length 0, .ptr (h.length + 1) 0]) (by simp)
    (p := fun k => match es[k]? with
      | some e => holdS p e
      | none => false) (fun k t hk => by
      obtain ⟨e, he⟩ : ∃ e, es[k]? = some e := ⟨_, List.getElem?_eq_getElem hk⟩
      simp only [he]
      exact zcms_ hp hv he (fun t => (nl_LV es).rd _) (by simp) (by simp) hcell)
  rw [zbbu_ (P := holdS p) es 0 fun i e he => by simp only [Nat.zero_add, he]] at hX
  have ha0 := zjs_ es
  have how : ∀ l : List SP, (if l = [] then vnil else V.own 14 (l.map SP.v)) = ow l := fun l => rfl
  rw [how] at hX
  have hr0 := zzx_ (es.filter (holdS p))
  have hret := fun g => nl_ret h.length g (es.filter (holdS p)) []
  generalize es.filter (holdS p) = fs at *
  obtain ⟨n, as⟩ := p
  simp only [PR.v_mk, V.cells] at hX
  rw [run_eq, zbwz_, PR.v_mk]
  unfold nl at hX hcell ha0 ⊢
  by_cases he : es = []
  · rw [if_pos he] at hX hcell ha0 ⊢
    rw [show (if fs = [] then vnil else V.lst 14 (fs.map SP.v)) = nl fs from rfl]
    simp -implicitDefEqProofs [ziz_, hX, hr0, hret]
  · rw [if_neg he] at hX hcell ha0 ⊢
    rw [show (if fs = [] then vnil else V.lst 14 (fs.map SP.v)) = nl fs from rfl]
    simp -implicitDefEqProofs [ziz_, hX, hr0, hret]
end Go.Proofs.Sl
namespace Go.Proofs.Sl
theorem app4 {h : H} {lim k : Nat} {es : List V} {y : V} {n : Nat} (hn : es.length = n) (hw : wide k [y] = true) (hc : V.closed.closeds [y] = true) (hl : n + 1 ≤ lim) :
    zbs_ (h ++ [.arr false k es]) k lim (.ref h.length n) (.lst k [y]) = some (.ref h.length (n + 1), h ++ [.arr false k (es ++ [y])]) := by
  subst hn
  rw [zxt_, show appEls (h ++ [.arr false k es]) (.lst k [y]) = some [y] from rfl, zab_, if_pos ⟨hw, hc⟩]
  simp [hl]
set_option maxHeartbeats 4000000 in
theorem mt_l0 {β : Type} {f : Ex × St → Option β} {w : Option β} {es : List SP} {e : SP} {i : Nat} {x : V} (he : es[i]? = some e) (hvw : e.Vw) {h0 : H}
    (hend : ∀ s, Sees s [(3, .ptr 0 0), (5, nl es), (6, x), (7, vi i), (8, .ref h0.length 15)] → f (.exit 2, ⟨s, h0 ++ [.arr false 4 ((recF e).map AT.v)]⟩) = w)
    (s0 : Sl) (g : Sees s0 [(3, .ptr 0 0), (5, nl es), (6, x), (7, vi i), (8, .ref h0.length 0), (9, .lst 1 (flds.map vs)), (10, vi 0)]) :
    ob (loopW (xcode (run XP) loopW 0 zoz_) ⟨s0, h0 ++ [.arr false 4 []]⟩) f = w := by
  have hlen : (flds.map vs).length = 15 := rfl
  have hlf : flds.length = 15 := rfl
  refine zbo_ flds (fun j s h => Sees s [(3, .ptr 0 0), (5, nl es), (6, x), (7, vi i), (8, .ref h0.length j), (9, .lst 1 (flds.map vs)), (10, vi j)] ∧ h = h0 ++ [.arr false 4 (((recF e).take j).map AT.v)]) ?_ ?_ _ _ ⟨g, by simp⟩
  · rintro B f' hB hf j fd s h hfd hj ⟨⟨e3, e5, e6, e7, e8, e9, e10, -⟩, rfl⟩ K
    obtain ⟨_, rfl⟩ := List.getElem?_eq_some_iff.1 hfd
    have fx := fo_val hvw (List.mem_of_getElem? hfd)
    have flv := fx.lv
    have hrj : (recF e)[j]? = some ⟨flds[j], valF e flds[j]⟩ := by rw [recF, List.getElem?_map, hfd]; rfl
    have htk : (recF e).take (j + 1) = (recF e).take j ++ [⟨flds[j], valF e flds[j]⟩] := by rw [List.take_add_one, hrj]; rfl
    have hlt : (j : Int) < 15 := by omega
    have hlj : ((recF e).take j).length = j := by rw [List.length_take, recF, List.length_map]; omega
    obtain ⟨pp, hpp, hpl⟩ := ((nl_LV es).rd (h0 ++ [.arr false 4 (((recF e).take j).map AT.v)])).at (i := i) (e := e.v) (by simp [he])
    have hap := app4 (h := h0) (lim := 2932031007402) (k := 4) (es := ((recF e).take j).map AT.v) (y := AT.v ⟨flds[j], valF e flds[j]⟩) (n := j) (by rw [List.length_map, hlj]) rfl rfl (by omega)
    rw [show ((recF e).take j).map AT.v ++ [AT.v ⟨flds[j], valF e flds[j]⟩] = ((recF e).take (j + 1)).map AT.v by rw [htk]; simp] at hap
    have hw := zhw_ (by omega : j < 100000000000)
    generalize ((recF e).take (j + 1)).map AT.v = G2 at *
    generalize ((recF e).take j).map AT.v = G1 at *
    generalize valF e flds[j] = vv at *
    obtain ⟨vk, vt, vn⟩ := vv
    obtain ⟨tr, id, par, rev, clk, kind, sv, vr, op, st, en, er, ats, lks, an, ln⟩ := e
    simp only [SP.v, V.cells, AV.v, AT.v] at flv hpl hap
    simp (maxSteps := 1000000) -implicitDefEqProofs [hB, zoz_, e3, e5, e6, e7, e8, e9, e10, hlen, hlt, hj, hpp, hpl, flv, hap]
    refine K _ _ ⟨?_, rfl⟩
    simp [e3, e5, e6, e7, e9, hw]
  · rintro B hB s h ⟨⟨e3, e5, e6, e7, e8, e9, e10, -⟩, rfl⟩
    rw [hlf] at e8 e10
    have htk : (recF e).take flds.length = recF e := by rw [List.take_of_length_le]; rw [recF, List.length_map]; omega
    rw [htk]
    simp -implicitDefEqProofs [hB, zoz_, e9, e10, hlen]
    exact hend _ (by simp [e3, e5, e6, e7, e8])
theorem nlAt {es : List SP} {i : Nat} {e : SP} (he : es[i]? = some e) (h : H) : iaddrV h 14 (nl es) i = some (.fptr e.v 0) := by
  unfold nl
  rw [if_neg (by rintro rfl; simp at he)]
  simp [he]
theorem PR.eta : ∀ p : PR, p = .mk p.n p.as
  | .mk _ _ => rfl
theorem zbbv_ : ∀ l : List AT, V.closed.closeds (l.map AT.v) = true
  | [] => rfl
  | a :: r => by
    rw [List.map_cons, V.closed.closeds, zbbv_ r]
    rfl
theorem zbbw_ : ∀ l : List SP, sameL l l = true
  | [] => by rw [sameL]
  | a :: r => by
    rw [sameL, zbbw_ r, cz]
    rfl
theorem zcmu_ {P : SP → Bool} {es : List SP} {i : Nat} {e : SP} (he : es[i]? = some e) : (es.take (i + 1)).filter P = (es.take i).filter P ++ (if P e = true then [e] else []) := by
  rw [List.take_add_one, he, List.filter_append]
  congr 1
  cases h : P e <;> simp [h]
set_option maxHeartbeats 8000000 in
theorem mt_l1 {β : Type} {f : Ex × St → Option β} {w : Option β} {p : PR} (hp : p.Go) {es : List SP} (hv : ∀ e ∈ es, e.Vw) (hl : es.length ≤ 1000)
    (hend : ∀ s h x, Sees s [(3, .ptr 0 0), (5, nl es), (6, x)] → h[0]? = some (.box false p.v.cells) → OutV x h 1 14 ((es.filter (holdS p)).map SP.v) → f (.exit 0, ⟨s, h⟩) = w)
    (s0 : Sl) (h0 : H) (g : Sees s0 [(3, .ptr 0 0), (5, nl es), (6, vnil), (7, vi 0)]) (gh : h0[0]? = some (.box false p.v.cells)) :
    ob (loopW (xcode (run XP) loopW 0 zpa_) ⟨s0, h0⟩) f = w := by
  refine zbo_ es (fun i s h => Sees s [(3, .ptr 0 0), (5, nl es), (7, vi i)] ∧ h[0]? = some (.box false p.v.cells) ∧ OutV (s 6) h 1 14 (((es.take i).filter (holdS p)).map SP.v)) ?_ ?_ _ _ ⟨⟨g.1, g.2.1, g.2.2.2.1, trivial⟩, gh, .inl ⟨rfl, g.2.2.1⟩⟩
  · rintro B f' hB hf i e s h he hi ⟨⟨e3, e5, e7, -⟩, b0, ho⟩ K
    have hlt : (i : Int) < es.length := by omega
    have hvw := hv e (List.mem_of_getElem? he)
    have hL := fun h => ((nl_LV es).rd h).toL
    have hN := fun h => zcli_ h
    have h0l : 0 < h.length := (List.getElem?_eq_some_iff.1 b0).1
    have b1 : ∀ t : H, (h ++ t)[0]? = some (.box false p.v.cells) := fun t => by rw [List.getElem?_append_left h0l]; exact b0
    simp -implicitDefEqProofs [hB, zpa_, e3, e5, e7, hL, hlt, hN]
    refine mt_l0 (x := s 6) he hvw ?_ _ (by simp [e3, e5, e7])
    rintro s2 ⟨c3, c5, c6, c7, c8, -⟩
    have hRH := fun hh => zcmr_ hp hvw hh
    have hSH := fun hh => zbbt_ hp hvw hh
    have hcl := zbbv_ (recF e)
    have hlF : ((recF e).map AT.v).length = 15 := by rw [List.length_map, recF, List.length_map]; rfl
    have hw := zhw_ (by omega : i < 100000000000)
    have ho1 := ho.app [.arr true 4 ((recF e).map AT.v)]
    rw [zcmu_ he] at K
    have hpp := fun h => nlAt he h
    generalize (recF e).map AT.v = F at *
    have hgr := ho1.grow (e := e.v) (lim := 837723144972) (by simp) (zms_ e) (zcj_ [e]) (by
      have : ((es.take i).filter (holdS p)).length ≤ 1000 := Nat.le_trans (List.length_filter_le _ _) (by rw [List.length_take]; omega)
      simp only [List.length_map]
      omega)
    obtain ⟨x', h'', hap, ho', htk, hbl⟩ := hgr
    generalize holdS p e = b at *
    have b2 := b1 [.arr false 4 F]
    have b3 := b1 [.arr true 4 F]
    have hcp : p.v.cells = p.v.cells := rfl
    obtain ⟨tr, id, par, rev, clk, kind, sv, vr, op, st, en, er, ats, lks, an, ln⟩ := e
    have hpv : ∃ n as, p = .mk n as := ⟨p.n, p.as, PR.eta p⟩
    obtain ⟨n, as, hpv⟩ := hpv
    have b2' := b2
    have b3' := b3
    rw [hpv] at hRH hSH b2' b3'
    simp only [PR.v_mk, V.cells, SP.v] at hRH hSH b2' b3' hpp hap
    have hfz : ∀ h k x, frz h (lv k x) = some (lv k x, h) := fun h k x => by cases x <;> rfl
    have b2q : ∀ hh, (h ++ [O.arr false 4 F])[0]'hh = _ := fun hh => (List.getElem?_eq_some_iff.1 b2').2
    have b3q : ∀ hh, (h ++ [O.arr true 4 F])[0]'hh = _ := fun hh => (List.getElem?_eq_some_iff.1 b3').2
    cases b with
    | false =>
      simp (maxSteps := 1000000) -implicitDefEqProofs [c3, c5, c6, c7, c8, b2', b3', b2q, b3q, hfz, hpp, hRH, hSH, hlF, hcl]
      refine K _ _ ⟨?_, b3, ?_⟩
      · simp [c3, c5, c7, hw]
      · simpa [c6] using ho1
    | true =>
      simp (maxSteps := 1000000) -implicitDefEqProofs [c3, c5, c6, c7, c8, b2', b3', b2q, b3q, hfz, hpp, hRH, hSH, hlF, hcl, hap]
      refine K _ _ ⟨?_, ?_, ?_⟩
      · simp [c3, c5, c7, hw]
      · have h1 := congrArg (fun l : H => l[0]?) htk
        simp only [List.getElem?_take, if_pos (show 0 < 1 by omega)] at h1
        rw [h1]
        exact b3
      · simpa [SP.v] using ho'
  · rintro B hB s h ⟨⟨e3, e5, e7, -⟩, b0, ho⟩
    rw [List.take_of_length_le (Nat.le_refl _)] at ho
    have hL := fun h => ((nl_LV es).rd h).toL
    simp -implicitDefEqProofs [hB, zpa_, e5, e7, hL]
    exact hend _ _ (s 6) (by simp [e3, e5]) b0 ho
set_option maxHeartbeats 4000000 in
theorem zcmv_ {v : V} {ms : List MK} {p : PR} (hv : ∀ h, Rd h 14 v (ms.map MK.val)) (hm : ∀ m ∈ ms, m.Ok) (hp : p.Sz) : run XP zox_ [v, p.v] [] = some (vb true, []) := by
  have hk := zcjs_
  have hC := fun h => zcma_ h hp
  have f0 := fun h => zcmh_ (h := h) (v := v) (ms := ms) (fun t => hv _) hm
  have av := (hv []).arg0
  by_cases hc : (vis p 1 0).1 = 0
  · have hg := go_of hp (by omega) hc
    rw [hc] at hC
    have hS := zcmc_ hg
    have hvw : ∀ e ∈ sps ms, e.Vw := fun e he => by
      obtain ⟨m, hmm, rfl⟩ := List.mem_map.1 he
      exact m.vw (hm m (List.mem_of_mem_take hmm))
    have hti : ∀ e ∈ sps ms, e.Ti := fun e he => sps_ti he
    have hls := zcmf_ ms
    have hr := zzx_ (sps ms)
    generalize sps ms = es at *
    generalize szW p = z at *
    have hF := fun h => zcmt_ h hg hvw hti (by omega)
    have hL1 := fun {β : Type} {f : Ex × St → Option β} {w : Option β} => mt_l1 (f := f) (w := w) hg hvw (by omega)
    have hft : ∀ e ∈ es.filter (holdS p), e.Ti := fun e he => hti e (List.mem_filter.1 he).1
    have hfl : (es.filter (holdS p)).length ≤ 12 := Nat.le_trans (List.length_filter_le _ _) hls
    have ha0 := zjs_ es
    have ha1 := zjs_ (es.filter (holdS p))
    obtain ⟨n, as⟩ := p
    rw [run_eq, zyu_]
    by_cases hz : 16 < z
    · simp only [PR.v_mk] at hC hS ⊢
      simp -implicitDefEqProofs [zho_, hk, hC, hS, hz]
    · simp only [PR.v_mk, V.cells] at hC hS hF hL1 ⊢
      simp -implicitDefEqProofs [zho_, hk, hC, hS, hz, f0, av, hr]
      refine hL1 ?_ _ _ (by simp) (by simp)
      rintro s h x ⟨e3, e5, e6, -⟩ b0 ho
      have hX := zcmi_ (h := h) ((nl_LV (es.filter (holdS (.mk n as)))).rd h) ho.rd hft hft (by omega)
      rw [zbbw_] at hX
      have hx0 := ho.rd.arg0
      have hrn : ∀ l, res0 (nl l) = nl l := fun l => by unfold nl; split <;> rfl
      simp -implicitDefEqProofs [e3, e5, e6, b0, hF, ha0, ha1, hx0, hX, hrn]
  · generalize (vis p 1 0).1 = e at *
    have hc' : (e != 0) = true := by simpa using hc
    obtain ⟨n, as⟩ := p
    rw [run_eq, zyu_]
    simp only [PR.v_mk] at hC ⊢
    simp -implicitDefEqProofs [zho_, hk, hC, hc']
end Go.Proofs.Sl
