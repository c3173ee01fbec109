/- A part of the proof. -/
import Derived.Test.YtlhniejmohghgaaGreatSlL1
set_option linter.unusedVariables false
set_option linter.unusedSimpArgs false
set_option linter.unnecessarySimpa false
namespace Go.Proofs.Sl
def nlE (L : List EX) : V := if L = [] then vnil else .lst 5 (L.map EX.v)
theorem zctd_ (L : List EX) : res0 (owE L) = nlE L := by unfold owE nlE; split <;> rfl
theorem nlE_rd (L : List EX) (h : H) : Rd h 5 (nlE L) (L.map EX.v) := by
  unfold nlE
  split
  · rename_i e; rw [e]; exact .nil
  · exact .lst _
theorem nlE_at {L : List EX} {k : Nat} {a : EX} (ha : L[k]? = some a) (h : H) : iaddrV h 5 (nlE L) k = some (.fptr a.v 0) := by
  have : L ≠ [] := by rintro rfl; simp at ha
  rw [nlE, if_neg this]
  have h2 : (L.map EX.v)[k]? = some a.v := by rw [List.getElem?_map, ha]; rfl
  rw [zgt_, if_pos rfl, h2, zac_]
def exTo (c : Int) (L : List EX) : List EX := L.filter fun e => decide (e.to = c)
theorem zcte_ {c : Int} {L : List EX} {k : Nat} {a : EX} (h : L[k]? = some a) : exTo c (L.take (k + 1)) = if a.to = c then exTo c (L.take k) ++ [a] else exTo c (L.take k) := by
  unfold exTo
  rw [zfy_ h, List.filter_append]
  by_cases hc : a.to = c
  · rw [if_pos hc]; simp [hc]
  · rw [if_neg hc]; simp [hc]
theorem zbfb_ (c : Int) (L : List EX) : (exTo c L).length ≤ L.length := List.length_filter_le _ _
set_option maxHeartbeats 8000000 in
theorem zctf_ {β : Type} {f : Ex × St → Option β} {w : Option β} {base : Nat} {h : H} {p : Nat} {x1 x2 x5 x6 x12 : V} {L : List EX} {c sq : Int} (hp : h[p]? = some (.box false [vi c, vi sq, vnil, vnil])) (hbp : base ≤ p) (hl : L.length ≤ 1000)
    (hend : ∀ st t, Sees st [(1, x1), (2, x2), (5, x5), (6, x6), (7, nlE L), (8, vi c), (12, x12), (15, .ptr p 0)] → f (.exit 6, ⟨st, h.set p (.box false [vi c, vi sq, vnil, owE (exTo c L)]) ++ t⟩) = w)
    (s0 : Sl) (g : Sees s0 [(1, x1), (2, x2), (5, x5), (6, x6), (7, nlE L), (8, vi c), (12, x12), (15, .ptr p 0), (16, vi 0)]) : ob (loopW (xcode (run XP) loopW base zhu_) ⟨s0, h⟩) f = w := by
  have hL := fun h => (nlE_rd L h).toL
  have hpl := (List.getElem?_eq_some_iff.1 hp).1
  have hgs : ∀ (o : O) (r : H), (h.set p o ++ r)[p]? = some o := fun o r => by rw [List.getElem?_append_left (by simpa using hpl), List.getElem?_set_self hpl]
  have hss : ∀ (o o2 : O) (r : H), (h.set p o ++ r).set p o2 = h.set p o2 ++ r := fun o o2 r => by rw [List.set_append_left _ _ (by simpa using hpl), List.set_set]
  have hhl : ∀ o : O, (h.set p o).length = h.length := fun o => by simp
  refine zak_ L (fun k st h' => ∃ t, h' = h.set p (.box false [vi c, vi sq, vnil, owE (exTo c (L.take k))]) ++ t ∧ Sees st [(1, x1), (2, x2), (5, x5), (6, x6), (7, nlE L), (8, vi c), (12, x12), (15, .ptr p 0), (16, vi k)]) ?_ ?_ _ _ ?_
  rotate_left
  · rintro B hB st h' ⟨t, rfl, ⟨g1, g2, g5, g6, g7, g8, g12, g15, g16, -⟩⟩
    rw [List.take_length]
    simp -implicitDefEqProofs [hB, zhu_, g7, g16, hL]
    refine hend _ t ?_
    simp [g1, g2, g5, g6, g7, g8, g12, g15]
  · refine ⟨[], ?_, g⟩
    have : owE (exTo c (L.take 0)) = vnil := rfl
    rw [this, List.append_nil]
    obtain ⟨h2, h3⟩ := List.getElem?_eq_some_iff.1 hp
    rw [← h3, List.set_getElem_self]
  · rintro B f' hB hf k e st h' he hk ⟨t, rfl, ⟨g1, g2, g5, g6, g7, g8, g12, g15, g16, -⟩⟩ K
    have hlt : (k : Int) < L.length := by omega
    have hw : IntKind.i64.wrap ((k : Int) + 1) = (k : Int) + 1 := w64 (by omega)
    have hat := fun h => nlE_at he h
    have hup := zcte_ (c := c) he
    have hle := zbfb_ c (L.take k)
    rw [List.length_take] at hle
    by_cases hc : e.to = c
    · have hc2 : (e.to == c) = true := by simpa using hc
      rw [if_pos hc] at hup
      generalize hE : exTo c (L.take k) = E at *
      generalize exTo c (L.take (k + 1)) = E2 at *
      subst hup
      have hwE : wide 5 [e.v] = true := zwt_ [e]
      have hcE : V.closed.closeds [e.v] = true := zmw_ [e]
      have hcE2 : V.closed.closeds (E.map EX.v ++ [e.v]) = true := by
        have := zmw_ (E ++ [e])
        rwa [List.map_append] at this
      unfold EX.v at hat
      by_cases h0 : E = []
      · subst h0
        have e1 : owE [] = vnil := rfl
        rw [e1]
        simp -implicitDefEqProofs [hB, zhu_, g1, g2, g5, g6, g7, g8, g12, g15, g16, hL, hlt, hat, hc2, hgs, hss, hhl, hbp, V.closed]
        refine K _ _ ⟨t ++ [.dead], rfl, ?_⟩
        simp [g1, g2, g5, g6, g7, g8, g12, g15, hw]
      · have e1 : owE E = .own 5 (E.map EX.v) := by rw [owE, if_neg h0]
        have hE3 : E.length ≤ 3518437208882 := by omega
        rw [e1]
        simp -implicitDefEqProofs [hB, zhu_, g1, g2, g5, g6, g7, g8, g12, g15, g16, hL, hlt, hat, hc2, hgs, hss, hhl, hbp, V.closed, hE3]
        refine K _ _ ⟨t, ?_, ?_⟩
        · have e2 : owE (E ++ [e]) = .own 5 (E.map EX.v ++ [e.v]) := by rw [owE, if_neg (by simp), List.map_append]; rfl
          rw [e2]
          rfl
        · simp [g1, g2, g5, g6, g7, g8, g12, g15, hw]
    · have hc2 : (e.to == c) = false := by simpa using hc
      rw [if_neg hc] at hup
      unfold EX.v at hat
      simp -implicitDefEqProofs [hB, zhu_, g1, g2, g5, g6, g7, g8, g12, g15, g16, hL, hlt, hat, hc2]
      refine K _ _ ⟨t, by rw [hup], ?_⟩
      simp [g1, g2, g5, g6, g7, g8, g12, g15, hw]
def lastF (c : Int) (q : Nat) (L : List EX) : List FR := if L = [] then [] else [⟨c, q, [], L, true, false⟩]
def frs (w : Nat) (F : List SP) (X : List EX) : Nat → List FR
  | 0 => []
  | k + 1 => frs w F X k ++ (chunk w ((k : Int) + 1) (mineS ((k : Int) + 1) F) 0 0 ++ lastF ((k : Int) + 1) (chunk w ((k : Int) + 1) (mineS ((k : Int) + 1) F) 0 0).length (exTo ((k : Int) + 1) X))
theorem zctg_ (c : Int) (q : Nat) (L : List EX) : ((lastF c q L).map FR.sps).flatten = [] := by
  unfold lastF
  split <;> rfl
def mines (F : List SP) : Nat → List SP
  | 0 => []
  | k + 1 => mines F k ++ mineS ((k : Int) + 1) F
theorem zbfc_ (w : Nat) (F : List SP) (X : List EX) : ∀ k, ((frs w F X k).map FR.sps).flatten = mines F k
  | 0 => rfl
  | k + 1 => by
    rw [frs, mines, List.map_append, List.flatten_append, zbfc_ w F X k, List.map_append, List.flatten_append, zbfa_, zctg_]
    simp
theorem zwy_ {w : Nat} {F : List SP} {X : List EX} {m : Nat} (hF : F.length ≤ m) : ∀ k, (frs w F X k).length ≤ (2 * m + 1) * k
  | 0 => by simp [frs]
  | k + 1 => by
    have h1 := zwx_ w ((k : Int) + 1) (mineS ((k : Int) + 1) F) 0 0
    have h2 := zni_ ((k : Int) + 1) F
    have h3 := zwy_ hF (w := w) (X := X) k
    have h4 : (lastF ((k : Int) + 1) (chunk w ((k : Int) + 1) (mineS ((k : Int) + 1) F) 0 0).length (exTo ((k : Int) + 1) X)).length ≤ 1 := by unfold lastF; split <;> simp
    rw [frs, List.length_append, List.length_append, Nat.mul_add]
    omega
theorem zbfd_ {F : List SP} {a : SP} : ∀ {k : Nat}, a ∈ mines F k → ∃ b ∈ F, a = b ∨ (0 < b.rev ∧ a = b.early)
  | 0, h => by simp [mines] at h
  | k + 1, h => by
    rw [mines, List.mem_append] at h
    rcases h with h | h
    · exact zbfd_ h
    · unfold mineS at h
      obtain ⟨b, hb, hm⟩ := List.mem_flatMap.1 h
      unfold mine1 at hm
      split at hm
      · split at hm
        · rename_i hr
          simp only [List.mem_cons, List.not_mem_nil, or_false] at hm
          rcases hm with rfl | rfl
          · exact ⟨b, hb, .inr ⟨hr, rfl⟩⟩
          · exact ⟨a, hb, .inl rfl⟩
        · simp only [List.mem_cons, List.not_mem_nil, or_false] at hm
          exact ⟨b, hb, .inl hm⟩
      · simp at hm
theorem zbfe_ {F : List SP} {m : Nat} (hF : F.length ≤ m) : ∀ k, (mines F k).length ≤ 2 * m * k
  | 0 => by simp [mines]
  | k + 1 => by
    have h2 := zni_ ((k : Int) + 1) F
    have h3 := zbfe_ hF k
    rw [mines, List.length_append, Nat.mul_add]
    omega
end Go.Proofs.Sl
namespace Go.Proofs.Sl
theorem zcth_ (w : Nat) (c : Int) (a q : Nat) : chunk w c [] a q = [] := by
  rw [chunk, if_neg (by simp)]
theorem zcti_ {β : Type} {f : Ex × St → Option β} {w : Option β} {base : Nat} {h : H} {x2 x5 x6 x7 x9 : V} {b0 b9 sz : Nat} {c : Int} {M : List SP} {pre : List FR} (hsz : sz < 256)
    (o9 : OutV x9 h b9 14 (M.map SP.v)) (hb : b0 ≤ b9) (hbh : b0 ≤ h.length) (ho : OutV x5 h b0 4 (pre.map FR.v)) (hl : M.length ≤ 1000) (hpl : pre.length ≤ 100000)
    (hend : ∀ st h', Sees st [(1, v8 sz), (2, x2), (6, x6), (7, x7), (8, vi c), (12, vi (chunk (sz % 4) c M 0 0).length)] → h'.take b0 = h.take b0 → b0 ≤ h'.length → OutV (st 5) h' b0 4 ((pre ++ chunk (sz % 4) c M 0 0).map FR.v) → f (.exit 4, ⟨st, h'⟩) = w)
    (s0 : Sl) (g : Sees s0 [(1, v8 sz), (2, x2), (5, x5), (6, x6), (7, x7), (8, vi c), (9, x9), (12, vi 0), (13, vi 0)]) : ob (loopW (xcode (run XP) loopW base zht_) ⟨s0, h⟩) f = w := by
  rcases o9 with ⟨e, rfl⟩ | ⟨q, h0, h1, rfl, h3⟩
  · have e : M = [] := by simpa using e
    subst e
    obtain ⟨g1, g2, g5, g6, g7, g8, g9, g12, g13, -⟩ := g
    rw [zbv_]
    simp -implicitDefEqProofs [zht_, g9, g13]
    rw [zcth_] at hend
    refine hend _ h ?_ rfl hbh ?_
    · simp [g1, g2, g6, g7, g8, g12]
    · simpa [g5] using ho
  · rw [List.length_map] at g
    exact zctc_ hsz h3 (by omega) ho hl hpl hend s0 g
set_option maxHeartbeats 8000000 in
theorem zctj_ {β : Type} {f : Ex × St → Option β} {w : Option β} {base : Nat} {H0 : H} (hbase : base ≤ H0.length) {x2 : V} {F : List SP} {X : List EX} {sz : Nat} (hsz : sz < 256) (hF : F.length ≤ 100) (hX : X.length ≤ 100)
    (hend : ∀ st h', h'.take H0.length = H0 → H0.length ≤ h'.length → OutV (st 5) h' H0.length 4 ((frs (sz % 4) F X 4).map FR.v) → f (.exit 0, ⟨st, h'⟩) = w)
    (s0 : Sl) (g : Sees s0 [(1, v8 sz), (2, x2), (5, vnil), (6, nl F), (7, nlE X), (8, vi 1)]) : ob (loopW (xcode (run XP) loopW base zpp_) ⟨s0, H0⟩) f = w := by
  refine zjd_ 4 (fun k st h' => Sees st [(1, v8 sz), (2, x2), (6, nl F), (7, nlE X), (8, vi ((k : Int) + 1))] ∧ h'.take H0.length = H0 ∧ H0.length ≤ h'.length ∧ OutV (st 5) h' H0.length 4 ((frs (sz % 4) F X k).map FR.v)) ?_ ?_ _ _ ?_
  rotate_left
  · rintro B hB st h' ⟨⟨g1, g2, g6, g7, g8, -⟩, htk, hle, ho⟩
    simp -implicitDefEqProofs [hB, zpp_, g8]
    refine hend _ h' htk hle ?_
    simpa using ho
  · obtain ⟨g1, g2, g5, g6, g7, g8, -⟩ := g
    exact ⟨by simp [g1, g2, g6, g7, g8], List.take_length, Nat.le_refl _, .inl ⟨rfl, g5⟩⟩
  · rintro B f' hB hf k st h' hk ⟨⟨g1, g2, g6, g7, g8, -⟩, htk, hle, ho⟩ K
    have hlt : (k : Int) + 1 ≤ 4 := by omega
    have hlt' : (k : Int) ≤ 3 := by omega
    have hw : IntKind.i64.wrap ((k : Int) + 1 + 1) = (k : Int) + 1 + 1 := w64 (by omega)
    have hfr := zwy_ hF (w := sz % 4) (X := X) k
    have hml := zni_ ((k : Int) + 1) F
    have hEl := zbfb_ ((k : Int) + 1) X
    have hup : frs (sz % 4) F X (k + 1) = frs (sz % 4) F X k ++ (chunk (sz % 4) ((k : Int) + 1) (mineS ((k : Int) + 1) F) 0 0 ++ lastF ((k : Int) + 1) (chunk (sz % 4) ((k : Int) + 1) (mineS ((k : Int) + 1) F) 0 0).length (exTo ((k : Int) + 1) X)) := rfl
    have hck : ((k + 1 : Nat) : Int) = (k : Int) + 1 := by omega
    generalize hx5 : st 5 = x5 at *
    generalize hcc : (k : Int) + 1 = c at *
    simp -implicitDefEqProofs [hB, zpp_, g1, g2, g6, g7, g8, hx5, hlt]
    refine zcta_ (x1 := v8 sz) (x2 := x2) (x5 := x5) (x7 := nlE X) (F := F) (c := c) (by omega) ?_ _ (by simp [g1, g2, g6, g7, g8, hx5])
    rintro st2 t ⟨u1, u2, u5, u6, u7, u8, -⟩ o9
    generalize hx9 : st2 9 = x9 at *
    simp -implicitDefEqProofs [u1, u2, u5, u6, u7, u8, hx9]
    refine zcti_ (x2 := x2) (x5 := x5) (x6 := nl F) (x7 := nlE X) (x9 := x9) (c := c) (M := mineS c F) (pre := frs (sz % 4) F X k) hsz o9 hle (by simp; omega) (ho.app t) (by omega) (by omega) ?_ _ (by simp [u1, u2, u5, u6, u7, u8, hx9])
    rintro st3 h3 ⟨v1, v2, v6, v7, v8', v12, -⟩ htk3 hle3 ho3
    have htk3' : h3.take H0.length = H0 := by rw [htk3, List.take_append_of_le_length hle, htk]
    have hCl := zwx_ (sz % 4) c (mineS c F) 0 0
    generalize chunk (sz % 4) c (mineS c F) 0 0 = CH at *
    generalize hy5 : st3 5 = y5 at *
    simp -implicitDefEqProofs [v1, v2, v6, v7, v8', v12, hy5]
    refine zctf_ (p := h3.length) (x1 := v8 sz) (x2 := x2) (x5 := y5) (x6 := nl F) (x12 := vi CH.length) (L := X) (c := c) (sq := CH.length) (by simp) (by omega) (by omega) ?_ _ (by simp [v1, v2, v6, v7, v8', v12, hy5])
    rintro st4 t4 ⟨z1, z2, z5, z6, z7, z8, z12, z15, -⟩
    have hse : ∀ o o' : O, (h3 ++ [o]).set h3.length o' ++ t4 = h3 ++ (o' :: t4) := fun o o' => by simp
    rw [hse]
    by_cases hE : exTo c X = []
    · have e1 : owE [] = vnil := rfl
      rw [hE] at hup ⊢
      rw [e1]
      simp -implicitDefEqProofs [z1, z2, z5, z6, z7, z8, z12, z15]
      refine K _ _ ⟨?_, ?_, ?_, ?_⟩
      · simp [z1, z2, z6, z7, hw, hck]
      · rw [List.take_append_of_le_length hle3, htk3']
      · simp; omega
      · rw [hup, lastF, if_pos rfl, List.append_nil]
        have := ho3.app (.box false [vi c, vi CH.length, vnil, vnil] :: t4)
        simpa [z5] using this
    · have e1 : owE (exTo c X) = .own 5 ((exTo c X).map EX.v) := by rw [owE, if_neg hE]
      have hpos : 0 < (exTo c X).length := List.length_pos_iff.2 hE
      rw [e1]
      generalize hEE : exTo c X = E at *
      have hpos2 : (0 : Int) < E.length := by omega
      obtain ⟨x', h'', hap, ho', htk', hle'⟩ := (ho3.app (.box false [vi c, vi CH.length, vnil, .own 5 (E.map EX.v)] :: t4)).grow (e := (⟨c, CH.length, [], E, true, false⟩ : FR).v) (lim := 2199023255552) (by simp; omega) (zwv_ [_]) (zqq_ [_]) (by
        rw [List.length_map, List.length_append]
        omega)
      have hFv : (⟨c, CH.length, [], E, true, false⟩ : FR).v = .agg [vi c, vi CH.length, vnil, .lst 5 (E.map EX.v)] := rfl
      rw [hFv] at hap
      simp -implicitDefEqProofs [z1, z2, z5, z6, z7, z8, z12, z15, hpos, hpos2, hap]
      refine K _ _ ⟨?_, ?_, hle', ?_⟩
      · simp [z1, z2, z6, z7, hw, hck]
      · rw [htk', List.take_append_of_le_length hle3, htk3']
      · rw [hup, lastF, if_neg hE, ← List.append_assoc, List.map_append]
        simpa using ho'
def owF (L : List FR) : V := if L = [] then vnil else .own 4 (L.map FR.v)
def ST.frags (s : ST) (sz : Nat) : List FR := frs (sz % 4) s.final s.exs 4
theorem zwz_ {s : ST} (hs : s.Ok) : s.final.length ≤ 24 := by
  have := zws_ hs
  unfold ST.final
  rw [List.length_map]
  exact this
theorem zctk_ {s : ST} (hs : s.Ok) : s.exs.length ≤ 6 := by
  have := hs.yl
  unfold ST.exs
  rw [List.length_map]
  exact this
set_option maxHeartbeats 4000000 in
theorem zctl_ {s : ST} (hs : s.Ok) (htn : s.tn = false) {sz : Nat} (hsz : sz < 256) {h : H} {l : Nat} (hl : h[l]? = some (.arr false 3 (s.ts.map TR.v))) :
    run XP zpb_ [.agg [.ref l s.ts.length, .s (.int .i8 s.o0), .s (.int .i8 s.o1), .s (.int .i8 s.o2), .s (.int .i8 s.o3), lv 5 (slc SY.v s.ys s.yn), v8 s.wr], v8 sz] h = some (owF (s.frags sz), h.set l .dead) := by
  have hFi := fun h => zcsw_ hs h
  have hEx := fun h => zcsx_ hs h
  have hFl := zwz_ hs
  have hEl := zctk_ hs
  have sY : (lv 5 (slc SY.v s.ys s.yn)).plain = true := zan_ _ _
  have eT : lv 3 (slc TR.v s.ts s.tn) = .lst 3 (s.ts.map TR.v) := by rw [htn]; rfl
  have hll := (List.getElem?_eq_some_iff.1 hl).1
  have hcl : V.closed.closeds (s.ts.map TR.v) = true := by
    have : ∀ l : List TR, V.closed.closeds (l.map TR.v) = true := fun l => by
      induction l with
      | nil => rfl
      | cons a r ih =>
        rw [List.map_cons, V.closed.closeds, ih]
        unfold TR.v
        simp only [V.closed, V.closed.closeds, zww_]
        rfl
    exact this _
  have hlm : (s.ts.map TR.v).length = s.ts.length := by simp
  have hrc : zcy_ [lv 5 (slc SY.v s.ys s.yn), v8 s.wr] = true := by
    have : ∀ o : Option (List V), zcy_ [lv 5 o, v8 s.wr] = true := fun o => by cases o <;> rfl
    exact this _
  rw [run_eq, zbzm_]
  simp only [ST.v, eT] at hFi hEx
  unfold ST.frags
  generalize s.ts.map TR.v = M at *
  generalize lv 5 (slc SY.v s.ys s.yn) = Y at *
  generalize s.final = F at *
  generalize s.exs = X at *
  have hget : ∀ t, (h ++ t)[l]? = some (.arr false 3 M) := fun t => by rw [List.getElem?_append_left hll]; exact hl
  have hset : ∀ (o : O) (t : H), (h ++ t).set l o = h.set l o ++ t := fun o t => List.set_append_left _ _ hll
  have hlen : ∀ o : O, (h.set l o).length = h.length := fun o => by simp
  simp -implicitDefEqProofs [zll_, sY, hFi, hEx, zds_, zctd_, zav_, optEq, noOwn, xboxR, zcy_, hget, hset, hlen, hcl, hlm, hrc]
  refine zctj_ (x2 := .ptr h.length 0) (F := F) (X := X) (sz := sz) (by simp) hsz (by omega) (by omega) ?_ _ (by simp)
  rintro st h' htk hle ho
  have htk2 : h'.take h.length = h.set l .dead := by
    have := congrArg (fun l => l.take h.length) htk
    simpa [List.take_take, List.take_append_of_le_length, List.take_of_length_le] using this
  have ho2 : OutV (st 5) h' h.length 4 ((frs (sz % 4) F X 4).map FR.v) := by
    rcases ho with o | ⟨q, o1, o2, o3⟩
    · exact .inl o
    · exact .inr ⟨q, o1, by simp at o2; omega, o3⟩
  have hr := ho2.ret (zqq_ _)
  generalize frs (sz % 4) F X 4 = Z at *
  simp -implicitDefEqProofs [hr, htk2, owF]
end Go.Proofs.Sl
namespace Go.Proofs.Sl
def TR.mv (t : TR) : TR := { t with sl := 16 + t.sl % 16 }
def ST.mv (s : ST) : ST := { s with ts := s.ts.map TR.mv, tn := false }
theorem TR.mv_ok {t : TR} (h : t.Ok) : t.mv.Ok := ⟨by show 16 + t.sl % 16 < 256; omega, h.st, h.cs, h.l, h.n⟩
theorem ST.mv_ok {s : ST} (h : s.Ok) : s.mv.Ok := by
  refine ⟨fun t ht => ?_, ?_, (fun e => by cases e), h.ys, h.yl, h.y, h.wr, h.o⟩
  · obtain ⟨u, hu, rfl⟩ := List.mem_map.1 ht
    exact TR.mv_ok (h.ts u hu)
  · show (s.ts.map TR.mv).length ≤ 3
    rw [List.length_map]
    exact h.l
def ST.recs31 (s : ST) : List SP := mines s.mv.final 4
theorem zctm_ {s : ST} (hs : s.Ok) {a : SP} (h : a ∈ s.final) : ∃ k t j c b, k < 3 ∧ s.ts[k]? = some t ∧ t.cs[j]? = some c ∧ a = revd b (trS s t k t.S t.E j c) := by
  unfold ST.final at h
  obtain ⟨x, hx, rfl⟩ := List.mem_map.1 h
  obtain ⟨k, t, j, c, h1, h2, h3, h4⟩ := zbey_ hs hx
  exact ⟨k, t, j, c, finB x 0 s.ts, h1, h2, h3, by rw [← h4]⟩
theorem Sto.rev {a : SP} (h : a.Sto) (b : Bool) : (revd b a).Sto := by
  cases b with
  | false => exact h
  | true => exact ⟨h.tr, h.id, h.par, ⟨by show (0 : Int) ≤ 1; decide, by show (1 : Int) ≤ 1; decide⟩, h.clk, h.kind, h.sv, h.op, h.vr, h.tm, h.ats, h.lks, h.al, h.ll, h.an, h.ln, h.az⟩
theorem Sto.early {a : SP} (h : a.Sto) : a.early.Sto :=
  ⟨h.tr, h.id, h.par, ⟨by show (0 : Int) ≤ 0; decide, by show (0 : Int) ≤ 1; decide⟩, h.clk, h.kind, h.sv, h.op, h.vr, ⟨h.tm.1, Int.le_refl _, by have := h.tm; show a.st ≤ 2000; omega⟩, h.ats, h.lks, h.al, h.ll, h.an, h.ln, h.az⟩
theorem zctn_ {s : ST} (hs : s.Ok) {k : Nat} {t : TR} {j : Nat} {c : CL} (hk : k < 3) (ht : s.ts[k]? = some t) (hc : t.cs[j]? = some c) : (trS s t k t.S t.E j c).Sto := by
  have htok := hs.ts t (List.mem_of_getElem? ht)
  obtain ⟨h1, h2, -⟩ := zben_ htok []
  have hj := (List.getElem?_eq_some_iff.1 hc).1
  have := htok.l
  exact zbep_ hk h1 (by omega) (by omega) (htok.cs c (List.mem_of_getElem? hc))
theorem lo_ats : ∀ tg : Nat, tg < 256 → (atsN tg).any long = false := by decide +kernel
theorem trS_lo {s : ST} {t : TR} {k : Nat} {j : Nat} {c : CL} (hc : c.Ok) : longS (trS s t k t.S t.E j c) = false := lo_ats c.tg (hc.a _ (by simp))
theorem Sto_rc {a : SP} (h : a.Sto) (hl : longS a = false) (hf : fgn 1 a = false) : a.Rc := ⟨h.va, hf, hl, h.al, h.ll⟩
theorem fgn_of {a : SP} {m : Nat} {k : Nat} (hm : 16 ≤ m ∧ m < 32) (hk : k < 3) (h : a.tr = (m : Int) * 1048576 + 1 + k) : fgn 1 a = false := by
  have h1 : a.tr.fdiv 1048576 = m := by
    rw [h, Int.fdiv_eq_ediv_of_nonneg _ (by decide)]
    omega
  have h2 : (m : Int).fdiv 16 = 1 := by
    rw [Int.fdiv_eq_ediv_of_nonneg _ (by decide)]
    omega
  rw [fgn, h1, h2]
  rfl
theorem zcto_ {s : ST} (hs : s.Ok) {e : SP} (h : e ∈ s.recs31) : e.Rc := by
  have hs2 := ST.mv_ok hs
  obtain ⟨a, ha, he⟩ := zbfd_ h
  obtain ⟨k, t, j, c, b, h1, h2, h3, h4⟩ := zctm_ hs2 ha
  have hsto := zctn_ hs2 h1 h2 h3
  have hlo := trS_lo (s := s.mv) (t := t) (k := k) (j := j) ((hs2.ts t (List.mem_of_getElem? h2)).cs c (List.mem_of_getElem? h3))
  have htr : (trS s.mv t k t.S t.E j c).tr = t.id k := rfl
  have hm : ∃ m : Nat, (16 ≤ m ∧ m < 32) ∧ t.id k = (m : Int) * 1048576 + 1 + k := by
    obtain ⟨u, hu, rfl⟩ := List.mem_map.1 (List.mem_of_getElem? h2)
    exact ⟨(16 + u.sl % 16) % 64, by omega, rfl⟩
  obtain ⟨m, hm1, hm2⟩ := hm
  generalize trS s.mv t k t.S t.E j c = x at *
  rw [hm2] at htr
  have ha1 : a.Sto := by rw [h4]; exact Sto.rev hsto b
  have ha2 : longS a = false := by rw [h4]; cases b <;> exact hlo
  have ha3 : a.tr = (m : Int) * 1048576 + 1 + k := by rw [h4, zbew_]; exact htr
  rcases he with rfl | ⟨-, rfl⟩
  · exact Sto_rc ha1 ha2 (fgn_of hm1 h1 ha3)
  · exact Sto_rc (Sto.early ha1) ha2 (fgn_of hm1 h1 ha3)
theorem zbff_ {s : ST} (hs : s.Ok) : s.recs31.length ≤ 192 := by
  have h1 := zwz_ (ST.mv_ok hs)
  exact Nat.le_trans (zbfe_ h1 4) (by decide)
end Go.Proofs.Sl
namespace Go.Proofs.Sl
def nlF (L : List FR) : V := if L = [] then vnil else .lst 4 (L.map FR.v)
theorem zctp_ (L : List FR) : res0 (owF L) = nlF L := by unfold owF nlF; split <;> rfl
theorem nlF_rd (L : List FR) (h : H) : Rd h 4 (nlF L) (L.map FR.v) := by
  unfold nlF
  split
  · rename_i e; rw [e]; exact .nil
  · exact .lst _
theorem nlF_at {L : List FR} {k : Nat} {a : FR} (ha : L[k]? = some a) (h : H) : iaddrV h 4 (nlF L) k = some (.fptr a.v 0) := by
  have : L ≠ [] := by rintro rfl; simp at ha
  rw [nlF, if_neg this]
  have h2 : (L.map FR.v)[k]? = some a.v := by rw [List.getElem?_map, ha]; rfl
  rw [zgt_, if_pos rfl, h2, zac_]
theorem zbfg_ (w : Nat) (c : Int) (M : List SP) (a q : Nat) : ∀ f ∈ chunk w c M a q, f.sn = false ∧ f.xn = true ∧ f.exs = [] := by
  rw [chunk]
  split
  · rename_i h
    intro f hf
    rcases List.mem_cons.1 hf with rfl | hf
    · exact ⟨rfl, rfl, rfl⟩
    · exact zbfg_ w c M (a + 1 + w) (q + 1) f hf
  · simp
termination_by M.length - a
theorem frs_sn (w : Nat) (F : List SP) (X : List EX) : ∀ k, ∀ f ∈ frs w F X k, (f.sn = true → f.sps = []) ∧ (f.xn = true → f.exs = [])
  | 0, f, h => by simp [frs] at h
  | k + 1, f, h => by
    rw [frs, List.mem_append, List.mem_append] at h
    rcases h with h | h | h
    · exact frs_sn w F X k f h
    · obtain ⟨h1, h2, h3⟩ := zbfg_ _ _ _ _ _ f h
      exact ⟨(fun e => by rw [h1] at e; cases e), fun _ => h3⟩
    · unfold lastF at h
      split at h
      · simp at h
      · rw [List.mem_singleton] at h
        subst h
        exact ⟨fun _ => rfl, (fun e => by cases e)⟩
theorem zbfh_ {α : Type} {v : α → V} {k : Nat} {l : List α} {n : Bool} (hn : n = true → l = []) (h : H) : appEls h (lv k (slc v l n)) = some (l.map v) := by
  cases n with
  | true => rw [hn rfl]; rfl
  | false => rfl
def mvM (L : List TR) (k : Nat) : List V := ((L.take k).map TR.mv ++ L.drop k).map TR.v
theorem zbfi_ (L : List TR) (k : Nat) : (mvM L k).length = L.length := by
  unfold mvM
  simp only [List.length_map, List.length_append, List.length_take, List.length_drop]
  omega
theorem mvM_at {L : List TR} {k : Nat} {a : TR} (h : L[k]? = some a) : (mvM L k)[k]? = some a.v ∧ (mvM L k).set k a.mv.v = mvM L (k + 1) := by
  have hk := (List.getElem?_eq_some_iff.1 h).1
  have hl : (((L.take k).map TR.mv).map TR.v).length = k := by simp; omega
  refine ⟨?_, ?_⟩
  · unfold mvM
    rw [zau_ h, List.map_append, List.map_cons, List.getElem?_append_right (by omega), hl, Nat.sub_self]
    rfl
  · unfold mvM
    rw [zau_ h, List.map_append, List.map_cons, List.set_append_right _ _ (by omega), hl, Nat.sub_self, List.set_cons_zero, zfy_ h, List.map_append, List.map_append, List.map_append]
    simp
theorem zbfj_ : ∀ l : List TR, wide 3 (l.map TR.v) = true
  | [] => rfl
  | x :: l => by
    rw [List.map_cons, wide, zbfj_ l]
    unfold TR.v
    show ((true && (true && (true && ((lv 11 _).cell && true)))) && true) = true
    rw [zwu_]
    rfl
theorem zbfk_ : ∀ l : List TR, V.closed.closeds (l.map TR.v) = true
  | [] => rfl
  | a :: r => by
    rw [List.map_cons, V.closed.closeds, zbfk_ r]
    unfold TR.v
    simp only [V.closed, V.closed.closeds, zww_]
    rfl
set_option maxHeartbeats 8000000 in
theorem zctq_ {s : ST} (hs : s.Ok) (h : H) : run XP ztp_ [s.v] h = some (ow s.recs31, h) := by
  have hl := hs.l
  have hT := zcb_ (v := TR.v) (k := 3) hs.n
  have hTa := zbfh_ (v := TR.v) (k := 3) hs.n
  have sT : (lv 3 (slc TR.v s.ts s.tn)).plain = true := zan_ _ _
  have sY : (lv 5 (slc SY.v s.ys s.yn)).plain = true := zan_ _ _
  have hFr := fun {h : H} {l : Nat} hl => zctl_ (s := s.mv) (ST.mv_ok hs) rfl (sz := 3) (by omega) (h := h) (l := l) hl
  have emv : s.mv.ts.map TR.v = mvM s.ts s.ts.length := by
    unfold mvM
    rw [List.take_length, List.drop_length, List.append_nil]
    rfl
  have eml : s.mv.ts.length = s.ts.length := by show (s.ts.map TR.mv).length = _; simp
  have hfl : (s.mv.frags 3).length ≤ 1000 := by
    have h1 := zwy_ (zwz_ (ST.mv_ok hs)) (w := 3 % 4) (X := s.mv.exs) 4
    exact Nat.le_trans h1 (by decide)
  have hfs := fun f hf => (frs_sn (3 % 4) s.mv.final s.mv.exs 4 f hf).1
  have hsp : ((s.mv.frags 3).map FR.sps).flatten = s.recs31 := zbfc_ _ _ _ 4
  have hrl := zbff_ hs
  have hfs : ∀ f ∈ s.mv.frags 3, f.sn = true → f.sps = [] := hfs
  rw [emv, eml] at hFr
  have hFr : ∀ {h : H} {l : Nat}, h[l]? = some (.arr false 3 (mvM s.ts s.ts.length)) → run XP zpb_ [.agg [.ref l s.ts.length, .s (.int .i8 s.o0), .s (.int .i8 s.o1), .s (.int .i8 s.o2), .s (.int .i8 s.o3), lv 5 (slc SY.v s.ys s.yn), v8 s.wr], .s (.int .u8 3)] h = some (owF (s.mv.frags 3), h.set l .dead) := hFr
  rw [run_eq, zbze_]
  simp only [ST.v]
  generalize s.mv.frags 3 = FS at *
  generalize s.recs31 = R at *
  have m0 : mvM s.ts 0 = s.ts.map TR.v := rfl
  have hwT := zbfj_ s.ts
  have hcT := zbfk_ s.ts
  have hl3 : s.ts.length ≤ 4398046511104 := by omega
  have hH : (lv 3 (slc TR.v s.ts s.tn)).heldB = false := by
    have : ∀ o : Option (List V), (lv 3 o).heldB = false := fun o => by cases o <;> rfl
    exact this _
  generalize lv 3 (slc TR.v s.ts s.tn) = T at *
  generalize lv 5 (slc SY.v s.ys s.yn) = Y at *
  simp -implicitDefEqProofs [zme_, sT, sY, hT, hTa, hwT, hcT, hl3, ↓zbms_, zer_, hH]
  rw [← m0]
  refine zak_ s.ts (fun k st h' => h' = h ++ [.box false [.ref (h.length + 1) s.ts.length, .s (.int .i8 s.o0), .s (.int .i8 s.o1), .s (.int .i8 s.o2), .s (.int .i8 s.o3), Y, v8 s.wr], .arr false 3 (mvM s.ts k)] ∧ Sees st [(1, .ptr h.length 0), (3, vi k)]) ?_ ?_ _ _ ⟨rfl, by simp⟩
  · rintro B f hB hf k t st h' ht hk ⟨rfl, g1, g3, -⟩ K
    have hlt : (k : Int) < s.ts.length := by omega
    have htok := hs.ts t (List.mem_of_getElem? ht)
    have hw : IntKind.i64.wrap ((k : Int) + 1) = (k : Int) + 1 := w64 (by omega)
    have hml := zbfi_ s.ts k
    obtain ⟨q1, q2⟩ := mvM_at ht
    have sC : (lv 11 (slc CL.v t.cs t.cn)).plain = true := zan_ _ _
    have e1 : (t.sl : Int).tmod 16 = ((t.sl % 16 : Nat) : Int) := tmodN _ 16
    have e2 : IntKind.u8.wrap (16 + ((t.sl % 16 : Nat) : Int)) = 16 + ((t.sl % 16 : Nat) : Int) := by
      have := w8 (n := 16 + t.sl % 16) (by omega)
      simpa using this
    have q3 : ∀ hh, (mvM s.ts k)[k]'hh = t.v := fun hh => by
      rw [List.getElem?_eq_getElem hh] at q1
      exact Option.some.inj q1
    have e3 : t.mv.v = putEl 0 [.s (.int .u8 (16 + ((t.sl % 16 : Nat) : Int)))] t.v := rfl
    rw [e3] at q2
    unfold TR.v at q1 q2 q3
    generalize t.sl % 16 = m16 at *
    generalize lv 11 (slc CL.v t.cs t.cn) = C at *
    generalize mvM s.ts (k + 1) = M2 at *
    generalize mvM s.ts k = M1 at *
    simp -implicitDefEqProofs [hB, zuv_, g1, g3, hml, hlt, hk, q1, q3, sC, e1, e2]
    refine K _ _ ⟨?_, ?_⟩
    · rw [← q2]
    · simp [g1, hw]
  · rintro B hB st h' ⟨rfl, g1, g3, -⟩
    have hml := zbfi_ s.ts s.ts.length
    have hF2 := hFr (h := h ++ [.box false [.ref (h.length + 1) s.ts.length, .s (.int .i8 s.o0), .s (.int .i8 s.o1), .s (.int .i8 s.o2), .s (.int .i8 s.o3), Y, v8 s.wr], .arr false 3 (mvM s.ts s.ts.length)]) (l := h.length + 1) (by simp)
    have hset : (h ++ [O.box false [.ref (h.length + 1) s.ts.length, .s (.int .i8 s.o0), .s (.int .i8 s.o1), .s (.int .i8 s.o2), .s (.int .i8 s.o3), Y, v8 s.wr], .arr false 3 (mvM s.ts s.ts.length)]).set (h.length + 1) .dead = h ++ [.box false [.ref (h.length + 1) s.ts.length, .s (.int .i8 s.o0), .s (.int .i8 s.o1), .s (.int .i8 s.o2), .s (.int .i8 s.o3), Y, v8 s.wr], .dead] := by simp
    rw [hset] at hF2
    generalize mvM s.ts s.ts.length = M at *
    have hFL := fun h => (nlF_rd FS h).toL
    simp -implicitDefEqProofs [hB, zuv_, g1, g3, hml, sY, hF2, zctp_]
    refine zak_ FS (fun k st h' => ∃ t, Sees st [(5, nlF FS), (6, vi k)] ∧ h' = h ++ t ∧ OutV (st 4) h' h.length 14 (((FS.map FR.sps).take k).flatten.map SP.v)) ?_ ?_ _ _ ?_
    rotate_left
    · rintro B hB st h' ⟨t, ⟨g5, g6, -⟩, rfl, ho⟩
      rw [List.take_of_length_le (by simp), hsp] at ho
      have hr := ho.ret (zaq_ _)
      simp -implicitDefEqProofs [hB, zuw_, g5, g6, hFL]
      simp only [hr, ow]
      simp
    · exact ⟨_, by simp, rfl, .inl ⟨by simp, by simp⟩⟩
    · rintro B f hB hf k q st h' hq hk ⟨t, ⟨g5, g6, -⟩, rfl, ho⟩ K
      have hlt : (k : Int) < FS.length := by omega
      have hat := nlF_at hq (h ++ t)
      have hqs : (FS.map FR.sps)[k]? = some q.sps := by rw [List.getElem?_map, hq]; rfl
      have hf2 := zga_ hqs
      have hfl2 := zii_ (xs := FS.map FR.sps) (k + 1)
      rw [hf2, List.length_append, hsp] at hfl2
      have hw : IntKind.i64.wrap ((k : Int) + 1) = (k : Int) + 1 := w64 (by omega)
      obtain ⟨x', h'', hap, ho', htk, hbl⟩ := ho.grows (lim := 837723144972) (y := lv 14 (slc SP.v q.sps q.sn)) (zbfh_ (hfs q (List.mem_of_getElem? hq)) _) (by simp) (zeo_ q.sps) (zaq_ q.sps) (by simp only [List.length_map]; omega)
      obtain ⟨t', rfl⟩ : ∃ t', h'' = h ++ t' := ⟨h''.drop h.length, by
        have := List.take_append_drop h.length h''
        rw [htk, List.take_left] at this
        exact this.symm⟩
      have n1 : (lv 14 (slc SP.v q.sps q.sn)).plain = true := zan_ _ _
      have n2 : (lv 5 (slc EX.v q.exs q.xn)).plain = true := zan_ _ _
      unfold FR.v at hat
      generalize lv 14 (slc SP.v q.sps q.sn) = A at *
      generalize lv 5 (slc EX.v q.exs q.xn) = E at *
      simp -implicitDefEqProofs [hB, zuw_, g5, g6, hFL, hlt, hat, n1, n2, hap]
      refine K _ _ ⟨t', ?_, rfl, ?_⟩
      · simp [g5, hw]
      · rw [hf2, List.map_append]
        simpa using ho'
end Go.Proofs.Sl
namespace Go.Proofs.Sl
abbrev pb (c : V) : O := .box false [vi 1, vb false, c]
theorem zbfl_ {H : H} {l : Nat} {c : V} {bs : List (List SP)} (hl : H[l]? = some (pb c)) (hc : PB c bs) {n m : Nat} (hb : Bx bs n m) (hn : n < 64) (hm : m ≤ 10000) {es : List SP} (he : ∀ e ∈ es, e.Rc) (hle : es.length ≤ 1000) :
    ∃ c', run XP zdn_ [.ptr l 0, nl es] H = some (.tup [vi (more bs es).length, vi 0], H.set l (pb c')) ∧ PB c' (insB bs es) := by
  have hlt := (List.getElem?_eq_some_iff.1 hl).1
  obtain ⟨h', I, P, e⟩ := zqm_ (h := H) (l := l) (n := 1) (s := false) (bs := bs) ⟨c, hl, hc⟩ (hb.bks (by omega) (by omega)) (nl_LV es) (fun e h => (he e h).va.bk) (fun e h => (he e h).va.sz) (by omega)
  rw [zbeh_ he hle (by have := hb.n; omega)] at I P
  obtain ⟨c', hc'⟩ := P.one e hlt
  obtain ⟨c2, h1, h2⟩ := P
  subst hc'
  rw [List.getElem?_set_self hlt] at h1
  simp only [Option.some.injEq, O.box.injEq, List.cons.injEq, and_true, true_and] at h1
  subst h1
  exact ⟨c', I, h2⟩
theorem zbfm_ {ls : List AC} {R : List SP} {bs : List (List SP)} {i : Nat} {a : AC} (h : ls[i]? = some a) : insAll bs ((ls.take (i + 1)).map (someL R)) = insB (insAll bs ((ls.take i).map (someL R))) (someL R a) := by
  rw [zfy_ h, List.map_append]
  unfold insAll
  rw [List.foldl_append]
  rfl
theorem zqr_ {R : List SP} (hR : ∀ e ∈ R, e.Rc) {ls : List AC} {l : List SP} (h : l ∈ ls.map (someL R)) : (∀ e ∈ l, e.Rc) ∧ l.length ≤ 6 := by
  obtain ⟨a, -, rfl⟩ := List.mem_map.1 h
  exact ⟨fun e he => hR e (zwo_ he), zwn_ R a⟩
end Go.Proofs.Sl
namespace Go.Proofs.Sl
end Go.Proofs.Sl
namespace Go.Proofs.Sl
set_option maxHeartbeats 8000000 in
theorem mer_l0 {β : Type} {f : Ex × St → Option β} {w : Option β} {base : Nat} {b0 b2 : O} {R : List SP} {la : List AC} {A M : V} (hA : ∀ h, A.toL h = some (la.map AC.v)) (hAl : la ≠ [] → A = .lst 3 (la.map AC.v)) (hl : la.length ≤ 8) (hok : ∀ a ∈ la, a.Ok) (hR : ∀ e ∈ R, e.Rc) (hRl : R.length ≤ 1000)
    (hend : ∀ st cp, Sees st [(2, M), (7, .ptr 1 0), (9, .ptr 2 0), (11, nl R)] → PB cp (insAll [] (la.map (someL R))) → f (.exit 0, ⟨st, [b0, pb cp, b2]⟩) = w)
    (s0 : Sl) (g : Sees s0 [(1, A), (2, M), (7, .ptr 1 0), (9, .ptr 2 0), (11, nl R), (12, vi 0)]) : ob (loopW (xcode (run XP) loopW base zpv_) ⟨s0, [b0, pb vnil, b2]⟩) f = w := by
  refine zak_ la (fun i st h' => ∃ cp, h' = [b0, pb cp, b2] ∧ PB cp (insAll [] ((la.take i).map (someL R))) ∧ Sees st [(1, A), (2, M), (7, .ptr 1 0), (9, .ptr 2 0), (11, nl R), (12, vi i)]) ?_ ?_ _ _ ?_
  · rintro B f' hB hf i a st h' ha hi ⟨cp, rfl, pp, ⟨g1, g2, g7, g9, g11, g12, -⟩⟩ K
    have hlt : (i : Int) < la.length := by omega
    have hne : la ≠ [] := by rintro rfl; simp at hi
    have bx1 := znf_ (k := 6) ((la.take i).map (someL R)) Bx.nil fun l h => zqr_ hR h
    rw [List.length_map, List.length_take] at bx1
    obtain ⟨cp', I1, pp'⟩ := zbfl_ (H := [b0, pb cp, b2]) (l := 1) rfl pp bx1 (by omega) (by omega) (es := someL R a) (fun e he => hR e (zwo_ he)) (by have := zwn_ R a; omega)
    rw [← zbfm_ ha] at pp'
    have s1 := fun h => zbek_ hRl (hok a (List.mem_of_getElem? ha)) h
    have q1 : (la.map AC.v)[i]? = some a.v := by rw [List.getElem?_map, ha]; rfl
    have w1 : IntKind.i64.wrap ((i : Int) + 1) = (i : Int) + 1 := w64 (by omega)
    have n1 := zbo_ R
    have n3 := zbo_ (someL R a)
    simp only [List.set_cons_succ, List.set_cons_zero] at I1
    obtain rfl := hAl hne
    have hlm : (la.map AC.v).length = la.length := by simp
    generalize la.map AC.v = LA at *
    unfold AC.v at q1 s1
    simp -implicitDefEqProofs [hB, zpv_, g1, g2, g7, g9, g11, g12, hlm, hlt, q1, n1, n3, s1, zds_, I1]
    refine K _ _ ⟨cp', rfl, pp', ?_⟩
    simp [g1, g2, g7, g9, g11, w1]
  · rintro B hB st h' ⟨cp, rfl, pp, ⟨g1, g2, g7, g9, g11, g12, -⟩⟩
    rw [List.take_length] at pp
    simp -implicitDefEqProofs [hB, zpv_, g1, g12, hA]
    refine hend _ cp ?_ pp
    simp [g2, g7, g9, g11]
  · exact ⟨vnil, rfl, .inl ⟨rfl, rfl⟩, g⟩
set_option maxHeartbeats 8000000 in
theorem mer_l1 {β : Type} {f : Ex × St → Option β} {w : Option β} {base : Nat} {b0 b1 : O} {R : List SP} {la : List AC} {A : V} (hA : ∀ h, A.toL h = some (la.map AC.v)) (hAl : la ≠ [] → A = .lst 3 (la.map AC.v)) (hl : la.length ≤ 8) (hok : ∀ a ∈ la, a.Ok) (hR : ∀ e ∈ R, e.Rc) (hRl : R.length ≤ 1000)
    (hend : ∀ st cp, Sees st [(7, .ptr 1 0), (9, .ptr 2 0)] → PB cp (insAll [] (la.map (someL R))) → f (.exit 2, ⟨st, [b0, b1, pb cp]⟩) = w)
    (s0 : Sl) (g : Sees s0 [(2, A), (7, .ptr 1 0), (9, .ptr 2 0), (11, nl R), (13, vi 0)]) : ob (loopW (xcode (run XP) loopW base zpw_) ⟨s0, [b0, b1, pb vnil]⟩) f = w := by
  refine zak_ la (fun i st h' => ∃ cp, h' = [b0, b1, pb cp] ∧ PB cp (insAll [] ((la.take i).map (someL R))) ∧ Sees st [(2, A), (7, .ptr 1 0), (9, .ptr 2 0), (11, nl R), (13, vi i)]) ?_ ?_ _ _ ?_
  · rintro B f' hB hf i a st h' ha hi ⟨cp, rfl, pp, ⟨g2, g7, g9, g11, g13, -⟩⟩ K
    have hlt : (i : Int) < la.length := by omega
    have hne : la ≠ [] := by rintro rfl; simp at hi
    have bx1 := znf_ (k := 6) ((la.take i).map (someL R)) Bx.nil fun l h => zqr_ hR h
    rw [List.length_map, List.length_take] at bx1
    obtain ⟨cp', I1, pp'⟩ := zbfl_ (H := [b0, b1, pb cp]) (l := 2) rfl pp bx1 (by omega) (by omega) (es := someL R a) (fun e he => hR e (zwo_ he)) (by have := zwn_ R a; omega)
    rw [← zbfm_ ha] at pp'
    have s1 := fun h => zbek_ hRl (hok a (List.mem_of_getElem? ha)) h
    have q1 : (la.map AC.v)[i]? = some a.v := by rw [List.getElem?_map, ha]; rfl
    have w1 : IntKind.i64.wrap ((i : Int) + 1) = (i : Int) + 1 := w64 (by omega)
    have n1 := zbo_ R
    have n3 := zbo_ (someL R a)
    simp only [List.set_cons_succ, List.set_cons_zero] at I1
    obtain rfl := hAl hne
    have hlm : (la.map AC.v).length = la.length := by simp
    generalize la.map AC.v = LA at *
    unfold AC.v at q1 s1
    simp -implicitDefEqProofs [hB, zpw_, g2, g7, g9, g11, g13, hlm, hlt, q1, n1, n3, s1, zds_, I1]
    refine K _ _ ⟨cp', rfl, pp', ?_⟩
    simp [g2, g7, g9, g11, w1]
  · rintro B hB st h' ⟨cp, rfl, pp, ⟨g2, g7, g9, g11, g13, -⟩⟩
    rw [List.take_length] at pp
    simp -implicitDefEqProofs [hB, zpw_, g2, g13, hA]
    refine hend _ cp ?_ pp
    simp [g7, g9]
  · exact ⟨vnil, rfl, .inl ⟨rfl, rfl⟩, g⟩
theorem zbfn_ {H : H} {l q : Nat} {c d : V} {bs cs : List (List SP)} (hl : H[l]? = some (pb c)) (hc : PB c bs) (hq : H[q]? = some (pb d)) (hd : PB d cs) {n m n' m' : Nat} (hb : Bx bs n m) (hb' : Bx cs n' m') (hn : n < 64) (hm : m ≤ 10000) (hn' : n' < 64) (hm' : m' ≤ 1000) :
    ∃ c', run XP zjo_ [.ptr l 0, .ptr q 0] H = some (.tup [vi (more bs (recs cs)).length, vi 0], H.set l (pb c')) ∧ PB c' (insB bs (recs cs)) := by
  have hlt := (List.getElem?_eq_some_iff.1 hl).1
  have he : ∀ e ∈ recs cs, e.Rc := fun e h => hb'.mem h
  have hle := hb'.len
  obtain ⟨h', I, P, e⟩ := zcrk_ (h := H) (l := l) (q := q) (n := 1) (m := 1) (s := false) (z := false) (bs := bs) (cs := cs) ⟨c, hl, hc⟩ ⟨d, hq, hd⟩ (hb.bks (by omega) (by omega)) (hb'.bks (by omega) (by omega)) (fun e h => (he e h).va.sz)
  rw [if_pos rfl, zbeh_ he (by omega) (by have := hb.n; omega)] at I P
  obtain ⟨c', hc'⟩ := P.one e hlt
  obtain ⟨c2, h1, h2⟩ := P
  subst hc'
  rw [List.getElem?_set_self hlt] at h1
  simp only [Option.some.injEq, O.box.injEq, List.cons.injEq, and_true, true_and] at h1
  subst h1
  exact ⟨c', I, h2⟩
set_option maxRecDepth 4000 in
set_option maxHeartbeats 16000000 in
theorem zctr_ {s : ST} (hs : s.Ok) (hsh : s.short = true) {la ma : List AC} {A M : V} (hA : ∀ h, A.toL h = some (la.map AC.v)) (hAl : la ≠ [] → A = .lst 3 (la.map AC.v)) (hM : ∀ h, M.toL h = some (ma.map AC.v)) (hMl : ma ≠ [] → M = .lst 3 (ma.map AC.v))
    (hl : la.length ≤ 6) (hm : ma.length ≤ 6) (hok : ∀ a ∈ la, a.Ok) (mok : ∀ a ∈ ma, a.Ok) (hp : s.Pre) :
    run XP zjm_ [s.v, A, M] [] = some (vb true, []) := by
  have hk := fun h => zbed_ h
  have hSh := fun h => zbem_ hp h
  rw [hsh] at hSh
  have hN := fun h => zbdz_ (h := h) (n := 1) (by omega)
  have hRec := fun h => zctq_ hs h
  have hR := fun e he => zcto_ hs (e := e) he
  have hRl := zbff_ hs
  generalize s.recs31 = R at *
  have sT : (lv 3 (slc TR.v s.ts s.tn)).plain = true := zan_ _ _
  have sY : (lv 5 (slc SY.v s.ys s.yn)).plain = true := zan_ _ _
  have h1 : ¬ (6 : Int) < la.length := by omega
  have h2 : ¬ (6 : Int) < ma.length := by omega
  rw [run_eq, zbbq_]
  simp only [ST.v] at hSh hRec ⊢
  generalize lv 3 (slc TR.v s.ts s.tn) = T at *
  generalize lv 5 (slc SY.v s.ys s.yn) = Y at *
  simp -implicitDefEqProofs [zem_, sT, sY, hk, hSh, hA, hM, h1, h2, hN, hRec, zds_]
  refine mer_l0 (R := R) (la := la) (A := A) (M := M) hA hAl (by omega) hok hR (by omega) ?_ _ (by simp)
  rintro st cp ⟨g2, g7, g9, g11, -⟩ pp
  simp -implicitDefEqProofs [g2, g7, g9, g11]
  refine mer_l1 (R := R) (la := ma) (A := M) hM hMl (by omega) mok hR (by omega) ?_ _ (by simp [g2, g7, g9, g11])
  rintro st cq ⟨g7, g9, -⟩ pq
  have bxp := znf_ (k := 6) (la.map (someL R)) Bx.nil fun l h => zqr_ hR h
  have bxq := znf_ (k := 6) (ma.map (someL R)) Bx.nil fun l h => zqr_ hR h
  rw [List.length_map] at bxp bxq
  generalize insAll [] (la.map (someL R)) = bp at *
  generalize insAll [] (ma.map (someL R)) = bq at *
  have bxp : Bx bp 8 48 := ⟨bxp.rc, by have := bxp.n; omega, by have := bxp.m; omega⟩
  have bxq : Bx bq 8 48 := ⟨bxq.rc, by have := bxq.n; omega, by have := bxq.m; omega⟩
  obtain ⟨ca, C1, pa⟩ := zbej_ (h := [.box false [T, .s (.int .i8 s.o0), .s (.int .i8 s.o1), .s (.int .i8 s.o2), .s (.int .i8 s.o3), Y, v8 s.wr], pb cp, pb cq]) (l := 1) (n := 1) (s := false) (bs := bp) ⟨cp, rfl, pp⟩ (by have := bxp.n; omega)
  obtain ⟨cb, C2, pbb⟩ := zbej_ (h := [.box false [T, .s (.int .i8 s.o0), .s (.int .i8 s.o1), .s (.int .i8 s.o2), .s (.int .i8 s.o3), Y, v8 s.wr], pb cp, pb cq, pb ca]) (l := 2) (n := 1) (s := false) (bs := bq) ⟨cq, rfl, pq⟩ (by have := bxq.n; omega)
  obtain ⟨ca2, G1, pa2⟩ := zbfn_ (H := [.box false [T, .s (.int .i8 s.o0), .s (.int .i8 s.o1), .s (.int .i8 s.o2), .s (.int .i8 s.o3), Y, v8 s.wr], pb cp, pb cq, pb ca, pb cb]) (l := 3) (q := 2) rfl pa rfl pq bxp bxq (by omega) (by omega) (by omega) (by omega)
  obtain ⟨cb2, G2, pb2⟩ := zbfn_ (H := [.box false [T, .s (.int .i8 s.o0), .s (.int .i8 s.o1), .s (.int .i8 s.o2), .s (.int .i8 s.o3), Y, v8 s.wr], pb cp, pb cq, pb ca2, pb cb]) (l := 4) (q := 1) rfl pbb rfl pp bxq bxp (by omega) (by omega) (by omega) (by omega)
  have bxa := bxp.ins (fun e h => bxq.mem h) bxq.len
  have bxb := bxq.ins (fun e h => bxp.mem h) bxp.len
  have kp := bxp.bks (by omega) (by omega)
  have kq := bxq.bks (by omega) (by omega)
  have ka := bxa.bks (by omega) (by omega)
  have kb := bxb.bks (by omega) (by omega)
  simp only [List.cons_append, List.nil_append, List.length_cons, List.length_nil, Nat.zero_add, Nat.reduceAdd, List.set_cons_succ, List.set_cons_zero] at C1 C2 G1 G2
  have lp := bxp.len
  have lq := bxq.len
  have rp : ∀ e ∈ recs bp, e.Sm := fun e h => (bxp.mem h).va.bk.sm
  have rq : ∀ e ∈ recs bq, e.Sm := fun e h => (bxq.mem h).va.bk.sm
  have hU := fun h => zcqp_ h rp rq (by omega) (by omega)
  have ul1 := zbei_ (bs := bp) (es := recs bq)
  have ul2 := zbei_ (bs := bq) (es := recs bp)
  have us : sameL (dst (recs bq ++ recs bp)) (dst (recs bp ++ recs bq)) = true := zij_ (zeq_ _) (zeq_ _) ((zdt_ _).trans ((Alk.of_mem fun a => by simp [or_comm]).trans (zdt_ _).symm))
  rw [znd_ us] at ul2
  have al1 : Alk (insB bp (recs bq)).flatten (recs bp ++ recs bq) := (zwl_ _ _).trans ((zim_ bp).symm.app (Alk.refl _))
  have al2 : Alk (insB bq (recs bp)).flatten (recs bp ++ recs bq) := (zwl_ _ _).trans (((zim_ bq).symm.app (Alk.refl _)).trans (Alk.of_mem fun a => by simp [or_comm]))
  have e1 : sameL (recs (insB bp (recs bq))) (recs (insB bq (recs bp))) = true := zcry_ (al1.trans al2.symm)
  have e2 : sameL (recs (insB bp (recs bq))) (dst (recs bp ++ recs bq)) = true := zij_ (zne_ _) (zeq_ _) ((zim_ _).trans (al1.trans (zdt_ _).symm))
  have hul := zep_ (recs bp ++ recs bq)
  rw [List.length_append] at hul
  have mU : ∀ e ∈ dst (recs bp ++ recs bq), e.Sm := fun e h => by
    rcases List.mem_append.1 (zca_ h) with h | h
    · exact rp e h
    · exact rq e h
  have rA : ∀ e ∈ recs (insB bp (recs bq)), e.Sm := fun e h => (bxa.mem h).va.bk.sm
  have lA := bxa.len
  have hS := fun h => zcrn_ (h := h) (v := nl (recs (insB bp (recs bq)))) (w := nl (dst (recs bp ++ recs bq))) ((nl_LV _).rd _) ((nl_LV _).rd _) rA mU (by omega)
  rw [e2] at hS
  generalize hHH : ([O.box false [T, .s (.int .i8 s.o0), .s (.int .i8 s.o1), .s (.int .i8 s.o2), .s (.int .i8 s.o3), Y, v8 s.wr], pb cp, pb cq, pb ca2, pb cb2] : H) = HH at *
  have O1 : PO HH 1 1 false bp := ⟨cp, by rw [← hHH]; rfl, pp⟩
  have O2 : PO HH 2 1 false bq := ⟨cq, by rw [← hHH]; rfl, pq⟩
  have O3 : PO HH 3 1 false (insB bp (recs bq)) := ⟨ca2, by rw [← hHH]; rfl, pa2⟩
  have O4 : PO HH 4 1 false (insB bq (recs bp)) := ⟨cb2, by rw [← hHH]; rfl, pb2⟩
  have E1 := zcrl_ O3 O4 ka kb
  rw [e1] at E1
  have R1 := zdu_ O1 kp
  have R2 := zdu_ O2 kq
  have R3 := zdu_ O3 ka
  have L1 := ((nl_LV (recs bp)).rd HH).toL
  have L2 := ((nl_LV (recs bq)).rd HH).toL
  have LU := ((nl_LV (dst (recs bp ++ recs bq))).rd HH).toL
  have w1 : IntKind.i64.wrap (((dst (recs bp ++ recs bq)).length : Int) - (recs bp).length) = ((more bp (recs bq)).length : Int) := by rw [w64 (by omega)]; omega
  have w2 : IntKind.i64.wrap (((dst (recs bp ++ recs bq)).length : Int) - (recs bq).length) = ((more bq (recs bp)).length : Int) := by rw [w64 (by omega)]; omega
  have n1 := zbo_ (recs bp)
  have n2 := zbo_ (recs bq)
  have n3 := zbo_ (recs (insB bp (recs bq)))
  have n4 := zbo_ (dst (recs bp ++ recs bq))
  simp -implicitDefEqProofs [g7, g9, C1, C2, G1, G2, hHH, R1, R2, R3, hU, hS, E1, zbt_, L1, L2, LU, w1, w2, n1, n2, n3, n4]
end Go.Proofs.Sl
