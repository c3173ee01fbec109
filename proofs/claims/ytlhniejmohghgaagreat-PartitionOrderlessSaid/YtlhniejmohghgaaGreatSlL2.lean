/- A part of the proof. -/
import Derived.Test.YtlhniejmohghgaaGreatSlL1
set_option linter.unusedVariables false
set_option linter.unusedSimpArgs false
set_option linter.unnecessarySimpa false
namespace Go.Proofs.Sl
theorem zcse_ (w : Nat) (c : Int) (a q : Nat) : chunk w c [] a q = [] := by
  rw [chunk, if_neg (by simp)]
theorem zcsf_ {β : Type} {f : Ex × St → Option β} {w : Option β} {base : Nat} {h : H} {x2 x5 x6 x7 x9 : V} {b0 b9 sz : Nat} {c : Int} {M : List SP} {pre : List FR} (hsz : sz < 256)
    (o9 : OutV x9 h b9 14 (M.map SP.v)) (hb : b0 ≤ b9) (hbh : b0 ≤ h.length) (ho : OutV x5 h b0 4 (pre.map FR.v)) (hl : M.length ≤ 1000) (hpl : pre.length ≤ 100000)
    (hend : ∀ st h', Sees st [(1, v8 sz), (2, x2), (6, x6), (7, x7), (8, vi c), (12, vi (chunk (sz % 4) c M 0 0).length)] → h'.take b0 = h.take b0 → b0 ≤ h'.length → OutV (st 5) h' b0 4 ((pre ++ chunk (sz % 4) c M 0 0).map FR.v) → f (.exit 4, ⟨st, h'⟩) = w)
    (s0 : Sl) (g : Sees s0 [(1, v8 sz), (2, x2), (5, x5), (6, x6), (7, x7), (8, vi c), (9, x9), (12, vi 0), (13, vi 0)]) : ob (loopW (xcode (run XP) loopW base zhw_) ⟨s0, h⟩) f = w := by
  rcases o9 with ⟨e, rfl⟩ | ⟨q, h0, h1, rfl, h3⟩
  · have e : M = [] := by simpa using e
    subst e
    obtain ⟨g1, g2, g5, g6, g7, g8, g9, g12, g13, -⟩ := g
    rw [zbu_]
    simp -implicitDefEqProofs [zhw_, g9, g13]
    rw [zcse_] at hend
    refine hend _ h ?_ rfl hbh ?_
    · simp [g1, g2, g6, g7, g8, g12]
    · simpa [g5] using ho
  · rw [List.length_map] at g
    exact zcrz_ hsz h3 (by omega) ho hl hpl hend s0 g
set_option maxHeartbeats 8000000 in
theorem zcsg_ {β : Type} {f : Ex × St → Option β} {w : Option β} {base : Nat} {H0 : H} (hbase : base ≤ H0.length) {x2 : V} {F : List SP} {X : List EX} {sz : Nat} (hsz : sz < 256) (hF : F.length ≤ 100) (hX : X.length ≤ 100)
    (hend : ∀ st h', h'.take H0.length = H0 → H0.length ≤ h'.length → OutV (st 5) h' H0.length 4 ((frs (sz % 4) F X 4).map FR.v) → f (.exit 0, ⟨st, h'⟩) = w)
    (s0 : Sl) (g : Sees s0 [(1, v8 sz), (2, x2), (5, vnil), (6, nl F), (7, nlE X), (8, vi 1)]) : ob (loopW (xcode (run XP) loopW base zpj_) ⟨s0, H0⟩) f = w := by
  refine zja_ 4 (fun k st h' => Sees st [(1, v8 sz), (2, x2), (6, nl F), (7, nlE X), (8, vi ((k : Int) + 1))] ∧ h'.take H0.length = H0 ∧ H0.length ≤ h'.length ∧ OutV (st 5) h' H0.length 4 ((frs (sz % 4) F X k).map FR.v)) ?_ ?_ _ _ ?_
  rotate_left
  · rintro B hB st h' ⟨⟨g1, g2, g6, g7, g8, -⟩, htk, hle, ho⟩
    simp -implicitDefEqProofs [hB, zpj_, g8]
    refine hend _ h' htk hle ?_
    simpa using ho
  · obtain ⟨g1, g2, g5, g6, g7, g8, -⟩ := g
    exact ⟨by simp [g1, g2, g6, g7, g8], List.take_length, Nat.le_refl _, .inl ⟨rfl, g5⟩⟩
  · rintro B f' hB hf k st h' hk ⟨⟨g1, g2, g6, g7, g8, -⟩, htk, hle, ho⟩ K
    have hlt : (k : Int) + 1 ≤ 4 := by omega
    have hlt' : (k : Int) ≤ 3 := by omega
    have hw : IntKind.i64.wrap ((k : Int) + 1 + 1) = (k : Int) + 1 + 1 := w64 (by omega)
    have hfr := zwx_ hF (w := sz % 4) (X := X) k
    have hml := znf_ ((k : Int) + 1) F
    have hEl := zbew_ ((k : Int) + 1) X
    have hup : frs (sz % 4) F X (k + 1) = frs (sz % 4) F X k ++ (chunk (sz % 4) ((k : Int) + 1) (mineS ((k : Int) + 1) F) 0 0 ++ lastF ((k : Int) + 1) (chunk (sz % 4) ((k : Int) + 1) (mineS ((k : Int) + 1) F) 0 0).length (exTo ((k : Int) + 1) X)) := rfl
    have hck : ((k + 1 : Nat) : Int) = (k : Int) + 1 := by omega
    generalize hx5 : st 5 = x5 at *
    generalize hcc : (k : Int) + 1 = c at *
    simp -implicitDefEqProofs [hB, zpj_, g1, g2, g6, g7, g8, hx5, hlt]
    refine zcrx_ (x1 := v8 sz) (x2 := x2) (x5 := x5) (x7 := nlE X) (F := F) (c := c) (by omega) ?_ _ (by simp [g1, g2, g6, g7, g8, hx5])
    rintro st2 t ⟨u1, u2, u5, u6, u7, u8, -⟩ o9
    generalize hx9 : st2 9 = x9 at *
    simp -implicitDefEqProofs [u1, u2, u5, u6, u7, u8, hx9]
    refine zcsf_ (x2 := x2) (x5 := x5) (x6 := nl F) (x7 := nlE X) (x9 := x9) (c := c) (M := mineS c F) (pre := frs (sz % 4) F X k) hsz o9 hle (by simp; omega) (ho.app t) (by omega) (by omega) ?_ _ (by simp [u1, u2, u5, u6, u7, u8, hx9])
    rintro st3 h3 ⟨v1, v2, v6, v7, v8', v12, -⟩ htk3 hle3 ho3
    have htk3' : h3.take H0.length = H0 := by rw [htk3, List.take_append_of_le_length hle, htk]
    have hCl := zww_ (sz % 4) c (mineS c F) 0 0
    generalize chunk (sz % 4) c (mineS c F) 0 0 = CH at *
    generalize hy5 : st3 5 = y5 at *
    simp -implicitDefEqProofs [v1, v2, v6, v7, v8', v12, hy5]
    refine zcsc_ (p := h3.length) (x1 := v8 sz) (x2 := x2) (x5 := y5) (x6 := nl F) (x12 := vi CH.length) (L := X) (c := c) (sq := CH.length) (by simp) (by omega) (by omega) ?_ _ (by simp [v1, v2, v6, v7, v8', v12, hy5])
    rintro st4 t4 ⟨z1, z2, z5, z6, z7, z8, z12, z15, -⟩
    have hse : ∀ o o' : O, (h3 ++ [o]).set h3.length o' ++ t4 = h3 ++ (o' :: t4) := fun o o' => by simp
    rw [hse]
    by_cases hE : exTo c X = []
    · have e1 : owE [] = vnil := rfl
      rw [hE] at hup ⊢
      rw [e1]
      simp -implicitDefEqProofs [z1, z2, z5, z6, z7, z8, z12, z15]
      refine K _ _ ⟨?_, ?_, ?_, ?_⟩
      · simp [z1, z2, z6, z7, hw, hck]
      · rw [List.take_append_of_le_length hle3, htk3']
      · simp; omega
      · rw [hup, lastF, if_pos rfl, List.append_nil]
        have := ho3.app (.box false [vi c, vi CH.length, vnil, vnil] :: t4)
        simpa [z5] using this
    · have e1 : owE (exTo c X) = .own 5 ((exTo c X).map EX.v) := by rw [owE, if_neg hE]
      have hpos : 0 < (exTo c X).length := List.length_pos_iff.2 hE
      rw [e1]
      generalize hEE : exTo c X = E at *
      have hpos2 : (0 : Int) < E.length := by omega
      obtain ⟨x', h'', hap, ho', htk', hle'⟩ := (ho3.app (.box false [vi c, vi CH.length, vnil, .own 5 (E.map EX.v)] :: t4)).grow (e := (⟨c, CH.length, [], E, true, false⟩ : FR).v) (lim := 2199023255552) (by simp; omega) (zwu_ [_]) (zqp_ [_]) (by
        rw [List.length_map, List.length_append]
        omega)
      have hFv : (⟨c, CH.length, [], E, true, false⟩ : FR).v = .agg [vi c, vi CH.length, vnil, .lst 5 (E.map EX.v)] := rfl
      rw [hFv] at hap
      simp -implicitDefEqProofs [z1, z2, z5, z6, z7, z8, z12, z15, hpos, hpos2, hap]
      refine K _ _ ⟨?_, ?_, hle', ?_⟩
      · simp [z1, z2, z6, z7, hw, hck]
      · rw [htk', List.take_append_of_le_length hle3, htk3']
      · rw [hup, lastF, if_neg hE, ← List.append_assoc, List.map_append]
        simpa using ho'
def owF (L : List FR) : V := if L = [] then vnil else .own 4 (L.map FR.v)
def ST.frags (s : ST) (sz : Nat) : List FR := frs (sz % 4) s.final s.exs 4
theorem zwy_ {s : ST} (hs : s.Ok) : s.final.length ≤ 24 := by
  have := zwr_ hs
  unfold ST.final
  rw [List.length_map]
  exact this
theorem zcsh_ {s : ST} (hs : s.Ok) : s.exs.length ≤ 6 := by
  have := hs.yl
  unfold ST.exs
  rw [List.length_map]
  exact this
set_option maxHeartbeats 4000000 in
theorem zcsi_ {s : ST} (hs : s.Ok) (htn : s.tn = false) {sz : Nat} (hsz : sz < 256) {h : H} {l : Nat} (hl : h[l]? = some (.arr false 3 (s.ts.map TR.v))) :
    run XP zow_ [.agg [.ref l s.ts.length, .s (.int .i8 s.o0), .s (.int .i8 s.o1), .s (.int .i8 s.o2), .s (.int .i8 s.o3), lv 5 (slc SY.v s.ys s.yn), v8 s.wr], v8 sz] h = some (owF (s.frags sz), h.set l .dead) := by
  have hFi := fun h => zcrt_ hs h
  have hEx := fun h => zcru_ hs h
  have hFl := zwy_ hs
  have hEl := zcsh_ hs
  have sY : (lv 5 (slc SY.v s.ys s.yn)).plain = true := zam_ _ _
  have eT : lv 3 (slc TR.v s.ts s.tn) = .lst 3 (s.ts.map TR.v) := by rw [htn]; rfl
  have hll := (List.getElem?_eq_some_iff.1 hl).1
  have hcl : V.closed.closeds (s.ts.map TR.v) = true := by
    have : ∀ l : List TR, V.closed.closeds (l.map TR.v) = true := fun l => by
      induction l with
      | nil => rfl
      | cons a r ih =>
        rw [List.map_cons, V.closed.closeds, ih]
        unfold TR.v
        simp only [V.closed, V.closed.closeds, zwv_]
        rfl
    exact this _
  have hlm : (s.ts.map TR.v).length = s.ts.length := by simp
  have hrc : zcy_ [lv 5 (slc SY.v s.ys s.yn), v8 s.wr] = true := by
    have : ∀ o : Option (List V), zcy_ [lv 5 o, v8 s.wr] = true := fun o => by cases o <;> rfl
    exact this _
  rw [run_eq, zbza_]
  simp only [ST.v, eT] at hFi hEx
  unfold ST.frags
  generalize s.ts.map TR.v = M at *
  generalize lv 5 (slc SY.v s.ys s.yn) = Y at *
  generalize s.final = F at *
  generalize s.exs = X at *
  have hget : ∀ t, (h ++ t)[l]? = some (.arr false 3 M) := fun t => by rw [List.getElem?_append_left hll]; exact hl
  have hset : ∀ (o : O) (t : H), (h ++ t).set l o = h.set l o ++ t := fun o t => List.set_append_left _ _ hll
  have hlen : ∀ o : O, (h.set l o).length = h.length := fun o => by simp
  simp -implicitDefEqProofs [zlf_, sY, hFi, hEx, zeo_, zcsa_, zau_, optEq, noOwn, xboxR, zcy_, hget, hset, hlen, hcl, hlm, hrc]
  refine zcsg_ (x2 := .ptr h.length 0) (F := F) (X := X) (sz := sz) (by simp) hsz (by omega) (by omega) ?_ _ (by simp)
  rintro st h' htk hle ho
  have htk2 : h'.take h.length = h.set l .dead := by
    have := congrArg (fun l => l.take h.length) htk
    simpa [List.take_take, List.take_append_of_le_length, List.take_of_length_le] using this
  have ho2 : OutV (st 5) h' h.length 4 ((frs (sz % 4) F X 4).map FR.v) := by
    rcases ho with o | ⟨q, o1, o2, o3⟩
    · exact .inl o
    · exact .inr ⟨q, o1, by simp at o2; omega, o3⟩
  have hr := ho2.ret (zqp_ _)
  generalize frs (sz % 4) F X 4 = Z at *
  simp -implicitDefEqProofs [hr, htk2, owF]
end Go.Proofs.Sl
namespace Go.Proofs.Sl
def TR.mv (t : TR) : TR := { t with sl := 16 + t.sl % 16 }
def ST.mv (s : ST) : ST := { s with ts := s.ts.map TR.mv, tn := false }
theorem TR.mv_ok {t : TR} (h : t.Ok) : t.mv.Ok := ⟨by show 16 + t.sl % 16 < 256; omega, h.st, h.cs, h.l, h.n⟩
theorem ST.mv_ok {s : ST} (h : s.Ok) : s.mv.Ok := by
  refine ⟨fun t ht => ?_, ?_, (fun e => by cases e), h.ys, h.yl, h.y, h.wr, h.o⟩
  · obtain ⟨u, hu, rfl⟩ := List.mem_map.1 ht
    exact TR.mv_ok (h.ts u hu)
  · show (s.ts.map TR.mv).length ≤ 3
    rw [List.length_map]
    exact h.l
def ST.recs31 (s : ST) : List SP := mines s.mv.final 4
theorem zcsj_ {s : ST} (hs : s.Ok) {a : SP} (h : a ∈ s.final) : ∃ k t j c b, k < 3 ∧ s.ts[k]? = some t ∧ t.cs[j]? = some c ∧ a = revd b (trS s t k t.S t.E j c) := by
  unfold ST.final at h
  obtain ⟨x, hx, rfl⟩ := List.mem_map.1 h
  obtain ⟨k, t, j, c, h1, h2, h3, h4⟩ := zbet_ hs hx
  exact ⟨k, t, j, c, finB x 0 s.ts, h1, h2, h3, by rw [← h4]⟩
theorem Sto.rev {a : SP} (h : a.Sto) (b : Bool) : (revd b a).Sto := by
  cases b with
  | false => exact h
  | true => exact ⟨h.tr, h.id, h.par, ⟨by show (0 : Int) ≤ 1; decide, by show (1 : Int) ≤ 1; decide⟩, h.clk, h.kind, h.sv, h.op, h.vr, h.tm, h.ats, h.lks, h.al, h.ll, h.an, h.ln, h.az⟩
theorem Sto.early {a : SP} (h : a.Sto) : a.early.Sto :=
  ⟨h.tr, h.id, h.par, ⟨by show (0 : Int) ≤ 0; decide, by show (0 : Int) ≤ 1; decide⟩, h.clk, h.kind, h.sv, h.op, h.vr, ⟨h.tm.1, Int.le_refl _, by have := h.tm; show a.st ≤ 2000; omega⟩, h.ats, h.lks, h.al, h.ll, h.an, h.ln, h.az⟩
theorem zcsk_ {s : ST} (hs : s.Ok) {k : Nat} {t : TR} {j : Nat} {c : CL} (hk : k < 3) (ht : s.ts[k]? = some t) (hc : t.cs[j]? = some c) : (trS s t k t.S t.E j c).Sto := by
  have htok := hs.ts t (List.mem_of_getElem? ht)
  obtain ⟨h1, h2, -⟩ := zbei_ htok []
  have hj := (List.getElem?_eq_some_iff.1 hc).1
  have := htok.l
  exact zbek_ hk h1 (by omega) (by omega) (htok.cs c (List.mem_of_getElem? hc))
theorem lo_ats : ∀ tg : Nat, tg < 256 → (atsN tg).any long = false := by decide +kernel
theorem trS_lo {s : ST} {t : TR} {k : Nat} {j : Nat} {c : CL} (hc : c.Ok) : longS (trS s t k t.S t.E j c) = false := lo_ats c.tg (hc.a _ (by simp))
theorem Sto_rc {a : SP} (h : a.Sto) (hl : longS a = false) (hf : fgn 1 a = false) : a.Rc := ⟨h.va, hf, hl, h.al, h.ll⟩
theorem fgn_of {a : SP} {m : Nat} {k : Nat} (hm : 16 ≤ m ∧ m < 32) (hk : k < 3) (h : a.tr = (m : Int) * 1048576 + 1 + k) : fgn 1 a = false := by
  have h1 : a.tr.fdiv 1048576 = m := by
    rw [h, Int.fdiv_eq_ediv_of_nonneg _ (by decide)]
    omega
  have h2 : (m : Int).fdiv 16 = 1 := by
    rw [Int.fdiv_eq_ediv_of_nonneg _ (by decide)]
    omega
  rw [fgn, h1, h2]
  rfl
theorem zcsl_ {s : ST} (hs : s.Ok) {e : SP} (h : e ∈ s.recs31) : e.Rc := by
  have hs2 := ST.mv_ok hs
  obtain ⟨a, ha, he⟩ := zbey_ h
  obtain ⟨k, t, j, c, b, h1, h2, h3, h4⟩ := zcsj_ hs2 ha
  have hsto := zcsk_ hs2 h1 h2 h3
  have hlo := trS_lo (s := s.mv) (t := t) (k := k) (j := j) ((hs2.ts t (List.mem_of_getElem? h2)).cs c (List.mem_of_getElem? h3))
  have htr : (trS s.mv t k t.S t.E j c).tr = t.id k := rfl
  have hm : ∃ m : Nat, (16 ≤ m ∧ m < 32) ∧ t.id k = (m : Int) * 1048576 + 1 + k := by
    obtain ⟨u, hu, rfl⟩ := List.mem_map.1 (List.mem_of_getElem? h2)
    exact ⟨(16 + u.sl % 16) % 64, by omega, rfl⟩
  obtain ⟨m, hm1, hm2⟩ := hm
  generalize trS s.mv t k t.S t.E j c = x at *
  rw [hm2] at htr
  have ha1 : a.Sto := by rw [h4]; exact Sto.rev hsto b
  have ha2 : longS a = false := by rw [h4]; cases b <;> exact hlo
  have ha3 : a.tr = (m : Int) * 1048576 + 1 + k := by rw [h4, zber_]; exact htr
  rcases he with rfl | ⟨-, rfl⟩
  · exact Sto_rc ha1 ha2 (fgn_of hm1 h1 ha3)
  · exact Sto_rc (Sto.early ha1) ha2 (fgn_of hm1 h1 ha3)
theorem zbfa_ {s : ST} (hs : s.Ok) : s.recs31.length ≤ 192 := by
  have h1 := zwy_ (ST.mv_ok hs)
  exact Nat.le_trans (zbez_ h1 4) (by decide)
end Go.Proofs.Sl
namespace Go.Proofs.Sl
def nlF (L : List FR) : V := if L = [] then vnil else .lst 4 (L.map FR.v)
theorem zcsm_ (L : List FR) : res0 (owF L) = nlF L := by unfold owF nlF; split <;> rfl
theorem nlF_rd (L : List FR) (h : H) : Rd h 4 (nlF L) (L.map FR.v) := by
  unfold nlF
  split
  · rename_i e; rw [e]; exact .nil
  · exact .lst _
theorem nlF_at {L : List FR} {k : Nat} {a : FR} (ha : L[k]? = some a) (h : H) : iaddrV h 4 (nlF L) k = some (.fptr a.v 0) := by
  have : L ≠ [] := by rintro rfl; simp at ha
  rw [nlF, if_neg this]
  have h2 : (L.map FR.v)[k]? = some a.v := by rw [List.getElem?_map, ha]; rfl
  rw [zgu_, if_pos rfl, h2, zac_]
theorem zbfb_ (w : Nat) (c : Int) (M : List SP) (a q : Nat) : ∀ f ∈ chunk w c M a q, f.sn = false ∧ f.xn = true ∧ f.exs = [] := by
  rw [chunk]
  split
  · rename_i h
    intro f hf
    rcases List.mem_cons.1 hf with rfl | hf
    · exact ⟨rfl, rfl, rfl⟩
    · exact zbfb_ w c M (a + 1 + w) (q + 1) f hf
  · simp
termination_by M.length - a
theorem frs_sn (w : Nat) (F : List SP) (X : List EX) : ∀ k, ∀ f ∈ frs w F X k, (f.sn = true → f.sps = []) ∧ (f.xn = true → f.exs = [])
  | 0, f, h => by simp [frs] at h
  | k + 1, f, h => by
    rw [frs, List.mem_append, List.mem_append] at h
    rcases h with h | h | h
    · exact frs_sn w F X k f h
    · obtain ⟨h1, h2, h3⟩ := zbfb_ _ _ _ _ _ f h
      exact ⟨(fun e => by rw [h1] at e; cases e), fun _ => h3⟩
    · unfold lastF at h
      split at h
      · simp at h
      · rw [List.mem_singleton] at h
        subst h
        exact ⟨fun _ => rfl, (fun e => by cases e)⟩
theorem zbfc_ {α : Type} {v : α → V} {k : Nat} {l : List α} {n : Bool} (hn : n = true → l = []) (h : H) : appEls h (lv k (slc v l n)) = some (l.map v) := by
  cases n with
  | true => rw [hn rfl]; rfl
  | false => rfl
def mvM (L : List TR) (k : Nat) : List V := ((L.take k).map TR.mv ++ L.drop k).map TR.v
theorem zbfd_ (L : List TR) (k : Nat) : (mvM L k).length = L.length := by
  unfold mvM
  simp only [List.length_map, List.length_append, List.length_take, List.length_drop]
  omega
theorem mvM_at {L : List TR} {k : Nat} {a : TR} (h : L[k]? = some a) : (mvM L k)[k]? = some a.v ∧ (mvM L k).set k a.mv.v = mvM L (k + 1) := by
  have hk := (List.getElem?_eq_some_iff.1 h).1
  have hl : (((L.take k).map TR.mv).map TR.v).length = k := by simp; omega
  refine ⟨?_, ?_⟩
  · unfold mvM
    rw [zax_ h, List.map_append, List.map_cons, List.getElem?_append_right (by omega), hl, Nat.sub_self]
    rfl
  · unfold mvM
    rw [zax_ h, List.map_append, List.map_cons, List.set_append_right _ _ (by omega), hl, Nat.sub_self, List.set_cons_zero, zen_ h, List.map_append, List.map_append, List.map_append]
    simp
theorem zbfe_ : ∀ l : List TR, wide 3 (l.map TR.v) = true
  | [] => rfl
  | x :: l => by
    rw [List.map_cons, wide, zbfe_ l]
    unfold TR.v
    show ((true && (true && (true && ((lv 11 _).cell && true)))) && true) = true
    rw [zwt_]
    rfl
theorem zbff_ : ∀ l : List TR, V.closed.closeds (l.map TR.v) = true
  | [] => rfl
  | a :: r => by
    rw [List.map_cons, V.closed.closeds, zbff_ r]
    unfold TR.v
    simp only [V.closed, V.closed.closeds, zwv_]
    rfl
set_option maxHeartbeats 8000000 in
theorem zcsn_ {s : ST} (hs : s.Ok) (h : H) : run XP ztm_ [s.v] h = some (ow s.recs31, h) := by
  have hl := hs.l
  have hT := zca_ (v := TR.v) (k := 3) hs.n
  have hTa := zbfc_ (v := TR.v) (k := 3) hs.n
  have sT : (lv 3 (slc TR.v s.ts s.tn)).plain = true := zam_ _ _
  have sY : (lv 5 (slc SY.v s.ys s.yn)).plain = true := zam_ _ _
  have hFr := fun {h : H} {l : Nat} hl => zcsi_ (s := s.mv) (ST.mv_ok hs) rfl (sz := 3) (by omega) (h := h) (l := l) hl
  have emv : s.mv.ts.map TR.v = mvM s.ts s.ts.length := by
    unfold mvM
    rw [List.take_length, List.drop_length, List.append_nil]
    rfl
  have eml : s.mv.ts.length = s.ts.length := by show (s.ts.map TR.mv).length = _; simp
  have hfl : (s.mv.frags 3).length ≤ 1000 := by
    have h1 := zwx_ (zwy_ (ST.mv_ok hs)) (w := 3 % 4) (X := s.mv.exs) 4
    exact Nat.le_trans h1 (by decide)
  have hfs := fun f hf => (frs_sn (3 % 4) s.mv.final s.mv.exs 4 f hf).1
  have hsp : ((s.mv.frags 3).map FR.sps).flatten = s.recs31 := zbex_ _ _ _ 4
  have hrl := zbfa_ hs
  have hfs : ∀ f ∈ s.mv.frags 3, f.sn = true → f.sps = [] := hfs
  rw [emv, eml] at hFr
  have hFr : ∀ {h : H} {l : Nat}, h[l]? = some (.arr false 3 (mvM s.ts s.ts.length)) → run XP zow_ [.agg [.ref l s.ts.length, .s (.int .i8 s.o0), .s (.int .i8 s.o1), .s (.int .i8 s.o2), .s (.int .i8 s.o3), lv 5 (slc SY.v s.ys s.yn), v8 s.wr], .s (.int .u8 3)] h = some (owF (s.mv.frags 3), h.set l .dead) := hFr
  rw [run_eq, zbyt_]
  simp only [ST.v]
  generalize s.mv.frags 3 = FS at *
  generalize s.recs31 = R at *
  have m0 : mvM s.ts 0 = s.ts.map TR.v := rfl
  have hwT := zbfe_ s.ts
  have hcT := zbff_ s.ts
  have hl3 : s.ts.length ≤ 4398046511104 := by omega
  have hH : (lv 3 (slc TR.v s.ts s.tn)).heldB = false := by
    have : ∀ o : Option (List V), (lv 3 o).heldB = false := fun o => by cases o <;> rfl
    exact this _
  generalize lv 3 (slc TR.v s.ts s.tn) = T at *
  generalize lv 5 (slc SY.v s.ys s.yn) = Y at *
  simp -implicitDefEqProofs [zly_, sT, sY, hT, hTa, hwT, hcT, hl3, ↓zbml_, zes_, hH]
  rw [← m0]
  refine zan_ s.ts (fun k st h' => h' = h ++ [.box false [.ref (h.length + 1) s.ts.length, .s (.int .i8 s.o0), .s (.int .i8 s.o1), .s (.int .i8 s.o2), .s (.int .i8 s.o3), Y, v8 s.wr], .arr false 3 (mvM s.ts k)] ∧ Sees st [(1, .ptr h.length 0), (3, vi k)]) ?_ ?_ _ _ ⟨rfl, by simp⟩
  · rintro B f hB hf k t st h' ht hk ⟨rfl, g1, g3, -⟩ K
    have hlt : (k : Int) < s.ts.length := by omega
    have htok := hs.ts t (List.mem_of_getElem? ht)
    have hw : IntKind.i64.wrap ((k : Int) + 1) = (k : Int) + 1 := w64 (by omega)
    have hml := zbfd_ s.ts k
    obtain ⟨q1, q2⟩ := mvM_at ht
    have sC : (lv 11 (slc CL.v t.cs t.cn)).plain = true := zam_ _ _
    have e1 : (t.sl : Int).tmod 16 = ((t.sl % 16 : Nat) : Int) := tmodN _ 16
    have e2 : IntKind.u8.wrap (16 + ((t.sl % 16 : Nat) : Int)) = 16 + ((t.sl % 16 : Nat) : Int) := by
      have := w8 (n := 16 + t.sl % 16) (by omega)
      simpa using this
    have q3 : ∀ hh, (mvM s.ts k)[k]'hh = t.v := fun hh => by
      rw [List.getElem?_eq_getElem hh] at q1
      exact Option.some.inj q1
    have e3 : t.mv.v = putEl 0 [.s (.int .u8 (16 + ((t.sl % 16 : Nat) : Int)))] t.v := rfl
    rw [e3] at q2
    unfold TR.v at q1 q2 q3
    generalize t.sl % 16 = m16 at *
    generalize lv 11 (slc CL.v t.cs t.cn) = C at *
    generalize mvM s.ts (k + 1) = M2 at *
    generalize mvM s.ts k = M1 at *
    simp -implicitDefEqProofs [hB, zup_, g1, g3, hml, hlt, hk, q1, q3, sC, e1, e2]
    refine K _ _ ⟨?_, ?_⟩
    · rw [← q2]
    · simp [g1, hw]
  · rintro B hB st h' ⟨rfl, g1, g3, -⟩
    have hml := zbfd_ s.ts s.ts.length
    have hF2 := hFr (h := h ++ [.box false [.ref (h.length + 1) s.ts.length, .s (.int .i8 s.o0), .s (.int .i8 s.o1), .s (.int .i8 s.o2), .s (.int .i8 s.o3), Y, v8 s.wr], .arr false 3 (mvM s.ts s.ts.length)]) (l := h.length + 1) (by simp)
    have hset : (h ++ [O.box false [.ref (h.length + 1) s.ts.length, .s (.int .i8 s.o0), .s (.int .i8 s.o1), .s (.int .i8 s.o2), .s (.int .i8 s.o3), Y, v8 s.wr], .arr false 3 (mvM s.ts s.ts.length)]).set (h.length + 1) .dead = h ++ [.box false [.ref (h.length + 1) s.ts.length, .s (.int .i8 s.o0), .s (.int .i8 s.o1), .s (.int .i8 s.o2), .s (.int .i8 s.o3), Y, v8 s.wr], .dead] := by simp
    rw [hset] at hF2
    generalize mvM s.ts s.ts.length = M at *
    have hFL := fun h => (nlF_rd FS h).toL
    simp -implicitDefEqProofs [hB, zup_, g1, g3, hml, sY, hF2, zcsm_]
    refine zan_ FS (fun k st h' => ∃ t, Sees st [(5, nlF FS), (6, vi k)] ∧ h' = h ++ t ∧ OutV (st 4) h' h.length 14 (((FS.map FR.sps).take k).flatten.map SP.v)) ?_ ?_ _ _ ?_
    rotate_left
    · rintro B hB st h' ⟨t, ⟨g5, g6, -⟩, rfl, ho⟩
      rw [List.take_of_length_le (by simp), hsp] at ho
      have hr := ho.ret (zat_ _)
      simp -implicitDefEqProofs [hB, zuq_, g5, g6, hFL]
      simp only [hr, ow]
      simp
    · exact ⟨_, by simp, rfl, .inl ⟨by simp, by simp⟩⟩
    · rintro B f hB hf k q st h' hq hk ⟨t, ⟨g5, g6, -⟩, rfl, ho⟩ K
      have hlt : (k : Int) < FS.length := by omega
      have hat := nlF_at hq (h ++ t)
      have hqs : (FS.map FR.sps)[k]? = some q.sps := by rw [List.getElem?_map, hq]; rfl
      have hf2 := zmw_ hqs
      have hfl2 := zqg_ (xs := FS.map FR.sps) (k + 1)
      rw [hf2, List.length_append, hsp] at hfl2
      have hw : IntKind.i64.wrap ((k : Int) + 1) = (k : Int) + 1 := w64 (by omega)
      obtain ⟨x', h'', hap, ho', htk, hbl⟩ := ho.grows (lim := 837723144972) (y := lv 14 (slc SP.v q.sps q.sn)) (zbfc_ (hfs q (List.mem_of_getElem? hq)) _) (by simp) (zga_ q.sps) (zat_ q.sps) (by simp only [List.length_map]; omega)
      obtain ⟨t', rfl⟩ : ∃ t', h'' = h ++ t' := ⟨h''.drop h.length, by
        have := List.take_append_drop h.length h''
        rw [htk, List.take_left] at this
        exact this.symm⟩
      have n1 : (lv 14 (slc SP.v q.sps q.sn)).plain = true := zam_ _ _
      have n2 : (lv 5 (slc EX.v q.exs q.xn)).plain = true := zam_ _ _
      unfold FR.v at hat
      generalize lv 14 (slc SP.v q.sps q.sn) = A at *
      generalize lv 5 (slc EX.v q.exs q.xn) = E at *
      simp -implicitDefEqProofs [hB, zuq_, g5, g6, hFL, hlt, hat, n1, n2, hap]
      refine K _ _ ⟨t', ?_, rfl, ?_⟩
      · simp [g5, hw]
      · rw [hf2, List.map_append]
        simpa using ho'
end Go.Proofs.Sl
namespace Go.Proofs.Sl
abbrev pb (c : V) : O := .box false [vi 1, vb false, c]
theorem zng_ {H : H} {l : Nat} {c : V} {bs : List (List SP)} (hl : H[l]? = some (pb c)) (hc : PB c bs) {n m : Nat} (hb : Bx bs n m) (hn : n < 64) (hm : m ≤ 10000) {es : List SP} (he : ∀ e ∈ es, e.Rc) (hle : es.length ≤ 1000) :
    ∃ c', run XP zck_ [.ptr l 0, nl es] H = some (.tup [vi (more bs es).length, vi 0], H.set l (pb c')) ∧ PB c' (insB bs es) := by
  have hlt := (List.getElem?_eq_some_iff.1 hl).1
  obtain ⟨h', I, P, e⟩ := zqi_ (h := H) (l := l) (n := 1) (s := false) (bs := bs) ⟨c, hl, hc⟩ (hb.bks (by omega) (by omega)) (nl_LV es) (fun e h => (he e h).va.bk) (fun e h => (he e h).va.sz) (by omega)
  rw [zwk_ he hle (by have := hb.n; omega)] at I P
  obtain ⟨c', hc'⟩ := P.one e hlt
  obtain ⟨c2, h1, h2⟩ := P
  subst hc'
  rw [List.getElem?_set_self hlt] at h1
  simp only [Option.some.injEq, O.box.injEq, List.cons.injEq, and_true, true_and] at h1
  subst h1
  exact ⟨c', I, h2⟩
theorem zwz_ {ls : List AC} {R : List SP} {bs : List (List SP)} {i : Nat} {a : AC} (h : ls[i]? = some a) : insAll bs ((ls.take (i + 1)).map (someL R)) = insB (insAll bs ((ls.take i).map (someL R))) (someL R a) := by
  rw [zen_ h, List.map_append]
  unfold insAll
  rw [List.foldl_append]
  rfl
def dbl (ls : List (List SP)) : List (List SP) := ls.flatMap fun x => [x, x]
theorem dbl_up {ls : List AC} {R : List SP} {bs : List (List SP)} {i : Nat} {a : AC} (h : ls[i]? = some a) : insAll bs (dbl ((ls.take (i + 1)).map (someL R))) = insB (insB (insAll bs (dbl ((ls.take i).map (someL R)))) (someL R a)) (someL R a) := by
  rw [zen_ h, List.map_append]
  unfold insAll dbl
  rw [List.flatMap_append, List.foldl_append]
  rfl
theorem zxa_ {ls : List (List SP)} {l : List SP} (h : l ∈ dbl ls) : l ∈ ls := by
  unfold dbl at h
  obtain ⟨x, hx, hl⟩ := List.mem_flatMap.1 h
  have : l = x := by simpa using hl
  rw [this]
  exact hx
theorem zbfg_ (ls : List (List SP)) : (dbl ls).length = 2 * ls.length := by
  unfold dbl
  induction ls with
  | nil => rfl
  | cons a r ih => rw [List.flatMap_cons, List.length_append, ih]; simp; omega
theorem zer_ {R : List SP} (hR : ∀ e ∈ R, e.Rc) {ls : List AC} {l : List SP} (h : l ∈ ls.map (someL R)) : (∀ e ∈ l, e.Rc) ∧ l.length ≤ 6 := by
  obtain ⟨a, -, rfl⟩ := List.mem_map.1 h
  exact ⟨fun e he => hR e (znc_ he), znb_ R a⟩
theorem rev_at {α : Type} {l : List α} {i : Nat} (h : i < l.length) : ∃ b, l[l.length - 1 - i]? = some b ∧ l.reverse[i]? = some b :=
  ⟨l[l.length - 1 - i]'(by omega), List.getElem?_eq_getElem (by omega), by rw [List.getElem?_reverse h, List.getElem?_eq_getElem (by omega)]⟩
set_option maxHeartbeats 8000000 in
theorem ord_l0 {β : Type} {f : Ex × St → Option β} {w : Option β} {base : Nat} {b0 : O} {R : List SP} {la : List AC} {A M : V} (hA : ∀ h, A.toL h = some (la.map AC.v)) (hAl : la ≠ [] → A = .lst 3 (la.map AC.v)) (hl : la.length ≤ 8) (hok : ∀ a ∈ la, a.Ok) (hR : ∀ e ∈ R, e.Rc) (hRl : R.length ≤ 1000)
    (hend : ∀ st cp cq, Sees st [(2, M), (7, .ptr 1 0), (9, .ptr 2 0), (11, nl R)] → PB cp (insAll [] (la.map (someL R))) → PB cq (insAll [] (la.reverse.map (someL R))) → f (.exit 0, ⟨st, [b0, pb cp, pb cq]⟩) = w)
    (s0 : Sl) (g : Sees s0 [(1, A), (2, M), (7, .ptr 1 0), (9, .ptr 2 0), (11, nl R), (12, vi 0)]) : ob (loopW (xcode (run XP) loopW base zpp_) ⟨s0, [b0, pb vnil, pb vnil]⟩) f = w := by
  refine zan_ la (fun i st h' => ∃ cp cq, h' = [b0, pb cp, pb cq] ∧ PB cp (insAll [] ((la.take i).map (someL R))) ∧ PB cq (insAll [] ((la.reverse.take i).map (someL R))) ∧ Sees st [(1, A), (2, M), (7, .ptr 1 0), (9, .ptr 2 0), (11, nl R), (12, vi i)]) ?_ ?_ _ _ ?_
  · rintro B f' hB hf i a st h' ha hi ⟨cp, cq, rfl, pp, pq, ⟨g1, g2, g7, g9, g11, g12, -⟩⟩ K
    obtain ⟨b, hb1, hb2⟩ := rev_at hi
    have hlt : (i : Int) < la.length := by omega
    have hne : la ≠ [] := by rintro rfl; simp at hi
    have bx1 := zdt_ (k := 6) ((la.take i).map (someL R)) Bx.nil fun l h => zer_ hR h
    have bx2 := zdt_ (k := 6) ((la.reverse.take i).map (someL R)) Bx.nil fun l h => zer_ hR h
    rw [List.length_map, List.length_take] at bx1 bx2
    obtain ⟨cp', I1, pp'⟩ := zng_ (H := [b0, pb cp, pb cq]) (l := 1) rfl pp bx1 (by omega) (by omega) (es := someL R a) (fun e he => hR e (znc_ he)) (by have := znb_ R a; omega)
    obtain ⟨cq', I2, pq'⟩ := zng_ (H := [b0, pb cp', pb cq]) (l := 2) rfl pq bx2 (by omega) (by omega) (es := someL R b) (fun e he => hR e (znc_ he)) (by have := znb_ R b; omega)
    rw [← zwz_ ha] at pp'
    rw [← zwz_ hb2] at pq'
    have s1 := fun h => zqn_ hRl (hok a (List.mem_of_getElem? ha)) h
    have s2 := fun h => zqn_ hRl (hok b (List.mem_of_getElem? hb1)) h
    have q1 : (la.map AC.v)[i]? = some a.v := by rw [List.getElem?_map, ha]; rfl
    have q2 : (la.map AC.v)[la.length - 1 - i]? = some b.v := by rw [List.getElem?_map, hb1]; rfl
    have w1 : IntKind.i64.wrap ((i : Int) + 1) = (i : Int) + 1 := w64 (by omega)
    have w2 : IntKind.i64.wrap ((la.length : Int) - 1) = (la.length : Int) - 1 := w64 (by omega)
    have w3 : IntKind.i64.wrap ((la.length : Int) - 1 - i) = ((la.length - 1 - i : Nat) : Int) := by rw [w64 (by omega)]; omega
    have n1 := zcl_ R
    have n3 := zcl_ (someL R a)
    have n4 := zcl_ (someL R b)
    simp only [List.set_cons_succ, List.set_cons_zero] at I1 I2
    obtain rfl := hAl hne
    have hlm : (la.map AC.v).length = la.length := by simp
    generalize la.length - 1 - i = j at *
    generalize la.map AC.v = LA at *
    unfold AC.v at q1 q2 s1 s2
    simp -implicitDefEqProofs [hB, zpp_, g1, g2, g7, g9, g11, g12, hlm, hlt, q1, q2, n1, n3, n4, s1, s2, zeo_, I1, I2, w2, w3]
    refine K _ _ ⟨cp', cq', rfl, pp', pq', ?_⟩
    simp [g1, g2, g7, g9, g11, w1]
  · rintro B hB st h' ⟨cp, cq, rfl, pp, pq, ⟨g1, g2, g7, g9, g11, g12, -⟩⟩
    rw [List.take_length] at pp
    rw [List.take_of_length_le (by simp)] at pq
    have hA0 := hA [b0, pb cp, pb cq]
    simp -implicitDefEqProofs [hB, zpp_, g1, g12, hA]
    refine hend _ cp cq ?_ pp pq
    simp [g2, g7, g9, g11]
  · exact ⟨vnil, vnil, rfl, .inl ⟨rfl, rfl⟩, .inl ⟨rfl, rfl⟩, g⟩
set_option maxHeartbeats 8000000 in
theorem ord_l1 {β : Type} {f : Ex × St → Option β} {w : Option β} {base : Nat} {b0 b1 b2 : O} {R : List SP} {la : List AC} {A : V} (hA : ∀ h, A.toL h = some (la.map AC.v)) (hAl : la ≠ [] → A = .lst 3 (la.map AC.v)) (hl : la.length ≤ 8) (hok : ∀ a ∈ la, a.Ok) (hR : ∀ e ∈ R, e.Rc) (hRl : R.length ≤ 1000)
    {cr0 ct0 : V} {br bt : List (List SP)} (hr0 : PB cr0 br) (ht0 : PB ct0 bt) (bxr : Bx br 8 48) (bxt : Bx bt 8 48)
    (hend : ∀ st cr ct, Sees st [(7, .ptr 1 0), (9, .ptr 2 0), (17, .ptr 3 0), (18, .ptr 4 0)] → PB cr (insAll br (dbl (la.map (someL R)))) → PB ct (insAll bt (la.reverse.map (someL R))) → f (.exit 2, ⟨st, [b0, b1, b2, pb cr, pb ct]⟩) = w)
    (s0 : Sl) (g : Sees s0 [(2, A), (7, .ptr 1 0), (9, .ptr 2 0), (11, nl R), (17, .ptr 3 0), (18, .ptr 4 0), (19, vi 0)]) : ob (loopW (xcode (run XP) loopW base zpq_) ⟨s0, [b0, b1, b2, pb cr0, pb ct0]⟩) f = w := by
  refine zan_ la (fun i st h' => ∃ cp cq, h' = [b0, b1, b2, pb cp, pb cq] ∧ PB cp (insAll br (dbl ((la.take i).map (someL R)))) ∧ PB cq (insAll bt ((la.reverse.take i).map (someL R))) ∧ Sees st [(2, A), (7, .ptr 1 0), (9, .ptr 2 0), (11, nl R), (17, .ptr 3 0), (18, .ptr 4 0), (19, vi i)]) ?_ ?_ _ _ ?_
  · rintro B f' hB hf i a st h' ha hi ⟨cp, cq, rfl, pp, pq, ⟨g2, g7, g9, g11, g17, g18, g19, -⟩⟩ K
    obtain ⟨b, hb1, hb2⟩ := rev_at hi
    have hlt : (i : Int) < la.length := by omega
    have hne : la ≠ [] := by rintro rfl; simp at hi
    have bx1 := zdt_ (k := 6) (dbl ((la.take i).map (someL R))) bxr fun l h => zer_ hR (zxa_ h)
    have bx2 := zdt_ (k := 6) ((la.reverse.take i).map (someL R)) bxt fun l h => zer_ hR h
    rw [zbfg_] at bx1
    rw [List.length_map, List.length_take] at bx1 bx2
    have hRa : ∀ e ∈ someL R a, e.Rc := fun e he => hR e (znc_ he)
    have hsl := znb_ R a
    obtain ⟨cp', I1, pp'⟩ := zng_ (H := [b0, b1, b2, pb cp, pb cq]) (l := 3) rfl pp bx1 (by omega) (by omega) (es := someL R a) hRa (by omega)
    have bx3 := bx1.ins hRa hsl
    obtain ⟨cp2, I3, pp2⟩ := zng_ (H := [b0, b1, b2, pb cp', pb cq]) (l := 3) rfl pp' bx3 (by omega) (by omega) (es := someL R a) hRa (by omega)
    obtain ⟨cq', I2, pq'⟩ := zng_ (H := [b0, b1, b2, pb cp2, pb cq]) (l := 4) rfl pq bx2 (by omega) (by omega) (es := someL R b) (fun e he => hR e (znc_ he)) (by have := znb_ R b; omega)
    rw [← dbl_up ha] at pp2
    rw [← zwz_ hb2] at pq'
    have s1 := fun h => zqn_ hRl (hok a (List.mem_of_getElem? ha)) h
    have s2 := fun h => zqn_ hRl (hok b (List.mem_of_getElem? hb1)) h
    have q1 : (la.map AC.v)[i]? = some a.v := by rw [List.getElem?_map, ha]; rfl
    have q2 : (la.map AC.v)[la.length - 1 - i]? = some b.v := by rw [List.getElem?_map, hb1]; rfl
    have w1 : IntKind.i64.wrap ((i : Int) + 1) = (i : Int) + 1 := w64 (by omega)
    have w2 : IntKind.i64.wrap ((la.length : Int) - 1) = (la.length : Int) - 1 := w64 (by omega)
    have w3 : IntKind.i64.wrap ((la.length : Int) - 1 - i) = ((la.length - 1 - i : Nat) : Int) := by rw [w64 (by omega)]; omega
    have n1 := zcl_ R
    have n3 := zcl_ (someL R a)
    have n4 := zcl_ (someL R b)
    simp only [List.set_cons_succ, List.set_cons_zero] at I1 I2 I3
    obtain rfl := hAl hne
    have hlm : (la.map AC.v).length = la.length := by simp
    generalize la.length - 1 - i = j at *
    generalize la.map AC.v = LA at *
    unfold AC.v at q1 q2 s1 s2
    simp -implicitDefEqProofs [hB, zpq_, g2, g7, g9, g11, g17, g18, g19, hlm, hlt, q1, q2, n1, n3, n4, s1, s2, zeo_, I1, I2, I3, w2, w3]
    refine K _ _ ⟨cp2, cq', rfl, pp2, pq', ?_⟩
    simp [g2, g7, g9, g11, g17, g18, w1]
  · rintro B hB st h' ⟨cp, cq, rfl, pp, pq, ⟨g2, g7, g9, g11, g17, g18, g19, -⟩⟩
    rw [List.take_length] at pp
    rw [List.take_of_length_le (by simp)] at pq
    simp -implicitDefEqProofs [hB, zpq_, g2, g19, hA]
    refine hend _ cp cq ?_ pp pq
    simp [g7, g9, g17, g18]
  · exact ⟨cr0, ct0, rfl, by simpa [dbl, insAll] using hr0, by simpa [insAll] using ht0, g⟩
end Go.Proofs.Sl
namespace Go.Proofs.Sl
theorem owSame {bs cs : List (List SP)} (h : Alk bs.flatten cs.flatten) : sameL (recs bs) (recs cs) = true ∧ digS (recs bs) = digS (recs cs) := ⟨zbee_ h, zwl_ (zbee_ h)⟩
theorem ib_alk (ls ms : List (List SP)) {bs cs : List (List SP)} (h0 : Alk bs.flatten cs.flatten) (h : ∀ l, l ∈ ls ↔ l ∈ ms) : Alk (insAll bs ls).flatten (insAll cs ms).flatten :=
  (zqm_ ls bs).trans ((h0.app (Alk.of_mem fun a => by simp only [List.mem_flatten, h])).trans (zqm_ ms cs).symm)
theorem ib_ins (ls : List (List SP)) (bs : List (List SP)) : Ins bs.flatten (insAll bs ls).flatten := (Ins.left _ _).trans (zqm_ ls bs).2
set_option maxRecDepth 4000 in
set_option maxHeartbeats 16000000 in
theorem zcso_ {s : ST} (hs : s.Ok) (hsh : s.short = true) {la ma : List AC} {A M : V} (hA : ∀ h, A.toL h = some (la.map AC.v)) (hAl : la ≠ [] → A = .lst 3 (la.map AC.v)) (hM : ∀ h, M.toL h = some (ma.map AC.v)) (hMl : ma ≠ [] → M = .lst 3 (ma.map AC.v))
    (hl : la.length ≤ 8) (hm : ma.length ≤ 8) (hok : ∀ a ∈ la, a.Ok) (mok : ∀ a ∈ ma, a.Ok) (hA0 : arg0 A = some A) (hM0 : arg0 M = some M) (hp : s.Pre) :
    run XP zjj_ [s.v, A, M] [] = some (vb true, []) := by
  have hk := fun h => zbdz_ h
  have hSh := fun h => zbeh_ hp h
  rw [hsh] at hSh
  have hN := fun h => zbdu_ (h := h) (n := 1) (by omega)
  have hRec := fun h => zcsn_ hs h
  have hR := fun e he => zcsl_ hs (e := e) he
  have hRl := zbfa_ hs
  generalize s.recs31 = R at *
  have sT : (lv 3 (slc TR.v s.ts s.tn)).plain = true := zam_ _ _
  have sY : (lv 5 (slc SY.v s.ys s.yn)).plain = true := zam_ _ _
  have h1 : ¬ (8 : Int) < la.length := by omega
  have h2 : ¬ (8 : Int) < ma.length := by omega
  rw [run_eq, zbbp_]
  simp only [ST.v] at hSh hRec ⊢
  generalize lv 3 (slc TR.v s.ts s.tn) = T at *
  generalize lv 5 (slc SY.v s.ys s.yn) = Y at *
  simp -implicitDefEqProofs [zel_, sT, sY, hk, hSh, hA, hM, h1, h2, hN, hRec, zeo_]
  refine ord_l0 (R := R) (la := la) (A := A) (M := M) hA hAl hl hok hR (by omega) ?_ _ (by simp)
  rintro st cp cq ⟨g2, g7, g9, g11, -⟩ pp pq
  have bxp := zdt_ (k := 6) (la.map (someL R)) Bx.nil fun l h => zer_ hR h
  have bxq := zdt_ (k := 6) (la.reverse.map (someL R)) Bx.nil fun l h => zer_ hR h
  rw [List.length_map] at bxp bxq
  rw [List.length_reverse] at bxq
  have alk1 : Alk (insAll [] (la.map (someL R))).flatten (insAll [] (la.reverse.map (someL R))).flatten := ib_alk _ _ (Alk.refl _) fun l => by simp
  generalize insAll [] (la.map (someL R)) = bp at *
  generalize insAll [] (la.reverse.map (someL R)) = bq at *
  have bxp : Bx bp 8 48 := ⟨bxp.rc, by have := bxp.n; omega, by have := bxp.m; omega⟩
  have bxq : Bx bq 8 48 := ⟨bxq.rc, by have := bxq.n; omega, by have := bxq.m; omega⟩
  obtain ⟨cr, C1, pr⟩ := zwn_ (h := [.box false [T, .s (.int .i8 s.o0), .s (.int .i8 s.o1), .s (.int .i8 s.o2), .s (.int .i8 s.o3), Y, v8 s.wr], pb cp, pb cq]) (l := 1) (n := 1) (s := false) (bs := bp) ⟨cp, rfl, pp⟩ (by have := bxp.n; omega)
  obtain ⟨ct, C2, pt⟩ := zwn_ (h := [.box false [T, .s (.int .i8 s.o0), .s (.int .i8 s.o1), .s (.int .i8 s.o2), .s (.int .i8 s.o3), Y, v8 s.wr], pb cp, pb cq, pb cr]) (l := 2) (n := 1) (s := false) (bs := bq) ⟨cq, rfl, pq⟩ (by have := bxq.n; omega)
  simp only [List.cons_append, List.nil_append, List.length_cons, List.length_nil, Nat.zero_add, Nat.reduceAdd] at C1 C2
  simp -implicitDefEqProofs [g7, g9, g11, g2, C1, C2]
  refine ord_l1 (R := R) (la := ma) (A := M) hM hMl hm mok hR (by omega) pr pt bxp bxq ?_ _ (by simp [g2, g7, g9, g11])
  rintro st cr ct ⟨g7, g9, g17, g18, -⟩ pr pt
  have bxr := zdt_ (k := 6) (dbl (ma.map (someL R))) bxp fun l h => zer_ hR (zxa_ h)
  have bxt := zdt_ (k := 6) (ma.reverse.map (someL R)) bxq fun l h => zer_ hR h
  rw [zbfg_, List.length_map] at bxr
  rw [List.length_map, List.length_reverse] at bxt
  have alk2 : Alk (insAll bp (dbl (ma.map (someL R)))).flatten (insAll bq (ma.reverse.map (someL R))).flatten := ib_alk _ _ alk1 fun l => by
    have : l ∈ dbl (ma.map (someL R)) ↔ l ∈ ma.map (someL R) := ⟨zxa_, fun h => by
      unfold dbl
      exact List.mem_flatMap.2 ⟨l, h, by simp⟩⟩
    rw [this]
    simp
  have ins1 := ib_ins (dbl (ma.map (someL R))) bp
  generalize insAll bp (dbl (ma.map (someL R))) = br at *
  generalize insAll bq (ma.reverse.map (someL R)) = bt at *
  have bxr : Bx br 24 200 := ⟨bxr.rc, by have := bxr.n; omega, by have := bxr.m; omega⟩
  have bxt : Bx bt 24 200 := ⟨bxt.rc, by have := bxt.n; omega, by have := bxt.m; omega⟩
  obtain ⟨cb, C3, pk⟩ := zwn_ (h := [.box false [T, .s (.int .i8 s.o0), .s (.int .i8 s.o1), .s (.int .i8 s.o2), .s (.int .i8 s.o3), Y, v8 s.wr], pb cp, pb cq, pb cr, pb ct]) (l := 3) (n := 1) (s := false) (bs := br) ⟨cr, rfl, pr⟩ (by have := bxr.n; omega)
  have hmz : more br (recs bt) = [] := zcqv_ (zbef_ alk2.2)
  have hrt : ∀ e ∈ recs bt, e.Rc := fun e he => bxt.mem he
  have hrtl := bxt.len
  obtain ⟨h', G1, P1, e1⟩ := zcql_ (h := [.box false [T, .s (.int .i8 s.o0), .s (.int .i8 s.o1), .s (.int .i8 s.o2), .s (.int .i8 s.o3), Y, v8 s.wr], pb cp, pb cq, pb cr, pb ct, pb cb]) (l := 5) (q := 4) (n := 1) (m := 1) (s := false) (z := false) (bs := br) (cs := bt) ⟨cb, rfl, pk⟩ ⟨ct, rfl, pt⟩ (bxr.bks (by omega) (by omega)) (bxt.bks (by omega) (by omega)) (fun e he => (hrt e he).va.sz)
  rw [if_pos rfl, zwk_ hrt (by omega) (by have := bxr.n; omega)] at G1
  rw [if_pos rfl, zwk_ hrt (by omega) (by have := bxr.n; omega)] at P1
  rw [insB, if_pos hmz] at P1
  rw [hmz] at G1
  obtain ⟨cb2, rfl⟩ := P1.one e1 (by simp)
  simp only [List.set_cons_succ, List.set_cons_zero, List.length_nil] at G1 P1
  simp only [List.cons_append, List.nil_append, List.length_cons, List.length_nil, Nat.zero_add, Nat.reduceAdd] at C3
  have kp := bxp.bks (by omega) (by omega)
  have kq := bxq.bks (by omega) (by omega)
  have kr := bxr.bks (by omega) (by omega)
  have kt := bxt.bks (by omega) (by omega)
  obtain ⟨c0, hc0, P0⟩ := P1
  simp only [List.getElem?_cons_succ, List.getElem?_cons_zero, Option.some.injEq, O.box.injEq, List.cons.injEq, and_true, true_and] at hc0
  subst hc0
  generalize hHH : ([O.box false [T, .s (.int .i8 s.o0), .s (.int .i8 s.o1), .s (.int .i8 s.o2), .s (.int .i8 s.o3), Y, v8 s.wr], pb cp, pb cq, pb cr, pb ct, pb cb2] : H) = HH at *
  have O1 : PO HH 1 1 false bp := ⟨cp, by rw [← hHH]; rfl, pp⟩
  have O2 : PO HH 2 1 false bq := ⟨cq, by rw [← hHH]; rfl, pq⟩
  have O3 : PO HH 3 1 false br := ⟨cr, by rw [← hHH]; rfl, pr⟩
  have O4 : PO HH 4 1 false bt := ⟨ct, by rw [← hHH]; rfl, pt⟩
  have O5 : PO HH 5 1 false br := ⟨cb2, by rw [← hHH]; rfl, P0⟩
  have E1 := zql_ O1 O2 kp kq
  have E2 := zql_ O3 O4 kr kt
  have E3 := zql_ O5 O3 kr kr
  have E4 := zql_ O1 O3 kp kr
  have D1 := zmz_ O1 kp fun e he => (bxp.mem he).va
  have D2 := zmz_ O2 kq fun e he => (bxq.mem he).va
  have D3 := zmz_ O3 kr fun e he => (bxr.mem he).va
  have D4 := zmz_ O4 kt fun e he => (bxt.mem he).va
  have R1 := zeq_ O1 kp
  have R3 := zeq_ O3 kr
  have L1 := ((nl_LV (recs bp)).rd HH).toL
  have L3 := ((nl_LV (recs br)).rd HH).toL
  rw [(owSame alk1).1] at E1
  rw [(owSame alk2).1] at E2
  rw [zbdx_] at E3
  rw [← (owSame alk1).2] at D2
  rw [← (owSame alk2).2] at D4
  obtain ⟨u1, u2⟩ := zwj_ (zmx_ bp) (zmx_ br) (zbef_ ins1)
  by_cases hq : (recs bp).length = (recs br).length
  · rw [u2 hq] at E4
    rw [← zwl_ (u2 hq)] at D3
    rw [← zwl_ (u2 hq)] at D4
    have hq2 : ((recs bp).length : Int) = (recs br).length := by omega
    simp -implicitDefEqProofs [g7, g9, g17, g18, C3, G1, hHH, E1, E2, E3, E4, D1, D2, D3, D4, R1, R3, zbo_, L1, L3, hq2]
  · have hf : sameL (recs bp) (recs br) = false := by
      cases h : sameL (recs bp) (recs br) with
      | false => rfl
      | true => exact absurd (zvx_ h) hq
    rw [hf] at E4
    have hq2 : (((recs bp).length : Int) == (recs br).length) = false := by simp; omega
    have hq3 : ¬ ((recs bp).length : Int) = (recs br).length := by omega
    by_cases hd : digS (recs bp) = digS (recs br)
    · rw [← hd] at D3 D4
      simp -implicitDefEqProofs [g7, g9, g17, g18, C3, G1, hHH, E1, E2, E3, E4, D1, D2, D3, D4, R1, R3, zbo_, L1, L3, hq2, hq3]
    · have hd2 : (digS (recs bp) == digS (recs br)) = false := by simpa using hd
      simp -implicitDefEqProofs [g7, g9, g17, g18, C3, G1, hHH, E1, E2, E3, E4, D1, D2, D3, D4, R1, R3, zbo_, L1, L3, hq2, hq3, hd2, hd]
end Go.Proofs.Sl
