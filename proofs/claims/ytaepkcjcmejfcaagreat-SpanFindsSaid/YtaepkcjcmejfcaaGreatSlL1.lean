/- A part of the proof. -/
import Derived.Test.YtaepkcjcmejfcaaGreatSlL0
set_option linter.unusedVariables false
set_option linter.unusedSimpArgs false
set_option linter.unnecessarySimpa false
namespace Go.Proofs.Sl
structure SA (h h2 : H) (v : V) (es : List SP) : Prop where
  a0 : arg0 v = some v
  len : h2.length = h.length
  val : ∃ v2, LV v2 es ∧ ∀ t, run XP zdw_ [v] (h ++ t) = some (.fn zbx_ [] [.fptr (.agg [v2]) 0], h2 ++ t)
  rd : ∀ t, Rd (h ++ t) 14 v (es.map SP.v)
  rd2 : ∀ t, Rd (h2 ++ t) 14 v (es.map SP.v)
theorem SA.lst {v : V} {es : List SP} (l : LV v es) (h : H) : SA h h v es :=
  ⟨by rcases l with ⟨rfl, rfl⟩ | rfl <;> rfl, rfl, ⟨v, l, fun t => zna_ l⟩, fun t => l.rd _, fun t => l.rd _⟩
theorem SA.ref {h : H} {l : Nat} {z : Bool} {es : List SP} (he : h[l]? = some (.arr z 14 (es.map SP.v))) : SA h (h.set l (.arr true 14 (es.map SP.v))) (.ref l es.length) es := by
  have hl := (List.getElem?_eq_some_iff.1 he).1
  have h3 : ∀ t, (h ++ t)[l]? = some (.arr z 14 (es.map SP.v)) := fun t => by rw [List.getElem?_append_left hl]; exact he
  refine ⟨rfl, by simp, ⟨_, .inr rfl, fun t => ?_⟩, fun t => ?_, fun t => ?_⟩
  · rw [zyv_ (h3 t), List.set_append_left _ _ hl]
  · have := Rd.ref (h := h ++ t) (k := 14) l z (es.map SP.v) (h3 t)
    rwa [List.length_map] at this
  · have := Rd.ref (h := h.set l (.arr true 14 (es.map SP.v)) ++ t) (k := 14) l true (es.map SP.v) (by rw [List.getElem?_append_left (by simpa using hl), List.getElem?_set_self hl])
    rwa [List.length_map] at this
theorem SA.set {h h2 : H} {v : V} {es : List SP} (a : SA h h2 v es) (hs : ∀ e ∈ es, e.Sm) (hn : es.length ≤ 100000) (t : H) : run XP zpx_ [v] (h ++ t) = some (ow (dst es), h2 ++ t) := by
  obtain ⟨v2, hl, hval⟩ := a.val
  exact zchx_ hl a.a0 (hval t) (by simp [a.len]) hs hn
end Go.Proofs.Sl
namespace Go.Proofs.Sl
theorem zbae_ {α : Type} (p : α → Bool) : ∀ (es : List α) (k : Nat), (ixF p es k = -1 ∧ es.filter (fun e => !p e) = es) ∨ ∃ i e, ixF p es k = ((k + i : Nat) : Int) ∧ es[i]? = some e ∧ p e = true ∧ (es.take i).filter (fun e => !p e) = es.take i
  | [], k => .inl ⟨rfl, rfl⟩
  | e :: r, k => by
    cases h : p e with
    | true => exact .inr ⟨0, e, by rw [ixF, if_pos h]; simp, rfl, h, rfl⟩
    | false =>
      rcases zbae_ p r (k + 1) with ⟨h1, h2⟩ | ⟨i, d, h1, h2, h3, h4⟩
      · exact .inl ⟨by rw [ixF, if_neg (by simp [h]), h1], by rw [List.filter_cons, if_pos (by simp [h]), h2]⟩
      · exact .inr ⟨i + 1, d, by rw [ixF, if_neg (by simp [h]), h1]; congr 1; omega, by simpa using h2, h3, by rw [List.take_succ_cons, List.filter_cons, if_pos (by simp [h]), h4]⟩
set_option maxHeartbeats 2000000 in
theorem zcjn_ {h : H} {l : Nat} {es : List SP} (he : h[l]? = some (.arr false 14 (es.map SP.v))) {f : Nat} {a b : List V} {p : SP → Bool} (hfa : arg0 (.fn f a b) = some (.fn f a b)) (hg : ∀ e ∈ es, arg0s (a ++ e.v :: b) = some (a ++ e.v :: b))
    (hp : ∀ e ∈ es, ∀ o t, run XP f (a ++ e.v :: b) (h.set l o ++ t) = some (vb (p e), h.set l o ++ t)) (hn : es.length ≤ 100000) :
    ∃ r, run XP zmi_ [.ref l es.length, .fn f a b] h = some r ∧ ((r = (.ref l es.length, h) ∧ es.filter (fun e => !p e) = es) ∨ ∃ o, r = (.lst 14 ((es.filter fun e => !p e).map SP.v), h.set l o)) := by
  have hl : l < h.length := (List.getElem?_eq_some_iff.1 he).1
  have hset : ∀ (o : O) (t : H), (h.set l o ++ t)[l]? = some o := fun o t => by rw [List.getElem?_append_left (by simpa using hl), List.getElem?_set_self hl]
  have hsame : h.set l (.arr false 14 (es.map SP.v)) = h := zyq_ he
  have hrd := Rd.ref (h := h) (k := 14) l false (es.map SP.v) he
  rw [List.length_map] at hrd
  have hI := zbad_ (h := h) (f := f) (a := a) (b := b) (p := p) hrd hg (fun e hm => by have := hp e hm (.arr false 14 (es.map SP.v)) []; rwa [hsame, List.append_nil] at this) hn
  rcases zbae_ p es 0 with ⟨h1, h2⟩ | ⟨i, d, h1, h2, h3, h4⟩
  · refine ⟨_, ?_, .inl ⟨rfl, h2⟩⟩
    rw [h1] at hI
    rw [run_eq, zrl_]
    simp -implicitDefEqProofs [zex_, hfa, hI, hl]
  · rw [h1, Nat.zero_add] at hI
    have hin : i < es.length := (List.getElem?_eq_some_iff.1 h2).1
    refine ⟨_, ?_, .inr ⟨.arr true 14 ((es.filter fun e => !p e).map SP.v ++ List.replicate (es.length - (es.filter fun e => !p e).length) zSP), rfl⟩⟩
    have hi1 : ((i : Int) == -1) = false := by simp
    have hw : IntKind.i64.wrap ((i : Int) + 1) = ((i + 1 : Nat) : Int) := by rw [zaq_ (by omega) (by omega)]; omega
    have hf1 : (es.take (i + 1)).filter (fun e => !p e) = es.take i := by
      rw [List.take_add_one, h2, List.filter_append, h4]
      simp [h3]
    have hlm : (es.map SP.v).length = es.length := by simp
    rw [run_eq, zrl_]
    simp -implicitDefEqProofs [zex_, hfa, hI, hi1, hw]
    refine zlk_ (σ := Nat) (fun j => es.length - j) (fun j s h' => ∃ (ws out : List SP) (t : H), Sees s [(0, .ref l es.length), (1, .fn f a b), (5, vi out.length), (6, vi j)] ∧ h' = h.set l (.arr false 14 (ws.map SP.v)) ++ t ∧
      ws.length = es.length ∧ ws.take out.length = out ∧ out.length < j ∧ j ≤ es.length ∧ (∀ q, j ≤ q → ws[q]? = es[q]?) ∧ (es.take j).filter (fun e => !p e) = out) ?_ (i + 1) _ _ ?_
    rotate_left
    · refine ⟨es, es.take i, [], ?_, by rw [hsame, List.append_nil], rfl, by simp [Nat.min_eq_left (Nat.le_of_lt hin)], by rw [List.length_take]; omega, hin, fun _ _ => rfl, hf1⟩
      simp [Nat.min_eq_left (Nat.le_of_lt hin)]
    rintro B f' hB hf j s h' ⟨ws, out, t, ⟨z0, z1, z5, z6, -⟩, rfl, hwl, hwo, hol, hjn, hwe, hfl⟩ K
    have hwl' : (ws.map SP.v).length = es.length := by simp [hwl]
    have hH := fun t => hset (.arr false 14 (ws.map SP.v)) t
    have htoL : V.toL (h.set l (.arr false 14 (ws.map SP.v)) ++ t) (.ref l es.length) = some (ws.map SP.v) := by
      have := (Rd.ref (h := h.set l (.arr false 14 (ws.map SP.v)) ++ t) (k := 14) l false (ws.map SP.v) (hH t)).toL
      rwa [hwl'] at this
    have hw3 : IntKind.i64.wrap ((j : Int) + 1) = (j : Int) + 1 := zaq_ (by omega) (by omega)
    have hw4 : IntKind.i64.wrap ((out.length : Int) + 1) = (out.length : Int) + 1 := zaq_ (by omega) (by omega)
    by_cases hjl : j < es.length
    · have hjlt : (j : Int) < es.length := by omega
      obtain ⟨e, he1⟩ : ∃ e, es[j]? = some e := ⟨_, List.getElem?_eq_getElem hjl⟩
      have hm := List.mem_of_getElem? he1
      have w1 : ws[j]? = some e := by rw [hwe _ (Nat.le_refl _), he1]
      have ia := fun t => zjz_ (hH t) hwl' hjl
      have ib := fun t => zjz_ (hH t) hwl' (Nat.lt_trans hol hjl)
      have ld := fun t => zjy_ (hH t) hwl w1
      have hpe := hp e hm (.arr false 14 (ws.map SP.v))
      have hge := hg e hm
      have hta : es.take (j + 1) = es.take j ++ [e] := by rw [List.take_add_one, he1]; rfl
      cases hc : p e with
      | true =>
        have hfl' : (es.take (j + 1)).filter (fun e => !p e) = out := by rw [hta, List.filter_append, hfl]; simp [hc]
        rw [hc] at hpe
        simp only [SP.v] at ld hpe hge
        simp -implicitDefEqProofs [hB, zmp_, z0, z1, z5, z6, htoL, hwl, hjlt, ia, ld, hpe, hge]
        refine K (j + 1) _ _ (by omega) ⟨ws, out, _, ?_, rfl, hwl, hwo, by omega, by omega, fun q hq => hwe q (by omega), hfl'⟩
        simp [z0, z1, z5, hw3]
      | false =>
        have hfl' : (es.take (j + 1)).filter (fun e => !p e) = out ++ [e] := by rw [hta, List.filter_append, hfl]; simp [hc]
        have sb := fun t => zyn_ (base := h.length) (hH t) hwl (Nat.lt_trans hol hjl) e
        have sa : ∀ t o, (h.set l (.arr false 14 (ws.map SP.v)) ++ t).set l o = h.set l o ++ t := fun t o => by rw [List.set_append_left _ _ (by simpa using hl), List.set_set]
        rw [hc] at hpe
        simp only [SP.v, sa] at ld hpe hge sb
        simp -implicitDefEqProofs [hB, zmp_, z0, z1, z5, z6, htoL, hwl, hjlt, ia, ib, ld, hpe, hge, sb]
        refine K (j + 1) _ _ (by omega) ⟨ws.set out.length e, out ++ [e], _, ?_, by rw [List.map_set], by simp [hwl], ?_, by simp; omega, by omega, fun q hq => ?_, hfl'⟩
        · simp [z0, z1, hw3, hw4]
        · rw [List.length_append, List.length_singleton, List.take_add_one, List.take_set, List.set_eq_of_length_le (by simp; omega), hwo, List.getElem?_set_self (by omega)]
          rfl
        · rw [List.getElem?_set_ne (by omega)]
          exact hwe q (by omega)
    · obtain rfl : j = es.length := by omega
      rw [List.take_length] at hfl
      subst hfl
      have hmle : (es.filter fun e => !p e).length ≤ es.length := List.length_filter_le _ _
      generalize es.filter (fun e => !p e) = out at *
      have sa : ∀ x t o, (h.set l x ++ t).set l o = h.set l o ++ t := fun x t o => by rw [List.set_append_left _ _ (by simpa using hl), List.set_set]
      simp -implicitDefEqProofs [hB, hf, zmp_, z0, z1, z5, z6, htoL, hH, hwl, hmle, sa, hset]
      have htk : (ws.map SP.v).take out.length = out.map SP.v := by rw [← List.map_take, hwo]
      rw [htk]
      refine ⟨?_, rfl, rfl⟩
      have h1 := zyl_ (out.map SP.v) (List.replicate (es.length - out.length) zSP)
      rw [zav_, zym_, Bool.and_self] at h1
      exact h1
end Go.Proofs.Sl
namespace Go.Proofs.Sl
theorem refWl {h : H} {es : List SP} {z : Bool} (hs : ∀ e ∈ es, e.Ti) (hl : es.length ≤ 1000) : run XP zdu_ [.ref h.length es.length] (h ++ [.arr z 14 (es.map SP.v)]) = some (nl (wns es), h ++ [.arr true 14 (es.map SP.v)]) := by
  have hat : (h ++ [O.arr z 14 (es.map SP.v)])[h.length]? = some (.arr z 14 (es.map SP.v)) := by simp
  have hset : (h ++ [O.arr z 14 (es.map SP.v)]).set h.length (.arr true 14 (es.map SP.v)) = h ++ [.arr true 14 (es.map SP.v)] := by simp
  have hV := zyv_ hat
  rw [hset] at hV
  exact znb_ (.inr rfl) rfl hV (by simp) (fun e he => (hs e he).sm) (by omega)
theorem lstW (h : H) {es : List SP} (hs : ∀ e ∈ es, e.Ti) (hl : es.length ≤ 1000) : run XP zdu_ [.lst 14 (es.map SP.v)] h = some (nl (wns es), h) := by
  have hlv : LV (.lst 14 (es.map SP.v)) es := .inr rfl
  exact znb_ hlv rfl (zna_ hlv) rfl (fun e he => (hs e he).sm) (by omega)
theorem nilW (h : H) : run XP zdu_ [vnil] h = some (vnil, h) := by
  have hlv : LV vnil [] := .inl ⟨rfl, rfl⟩
  have := znb_ (h := h) hlv rfl (zna_ hlv) rfl (fun e he => by simp at he) (by simp)
  exact this
theorem zcjo_ (h : H) {es : List SP} (hl : es.length ≤ 100000) : run XP zqq_ [nl es] h = some (ow es, h) := by
  rw [run_eq, zbwz_]
  by_cases he : es = []
  · subst he
    simp -implicitDefEqProofs [zgp_, nl, ow]
  · have hap := znh_ (h := h) (lim := 837723144972) (es := []) (n := 0) (y := .lst 14 (es.map SP.v)) (ys := es.map SP.v) rfl rfl (zhc_ es) (zav_ es) (by simp only [List.length_nil, List.length_map]; omega)
    have hcl := zav_ es
    rw [List.nil_append, Nat.zero_add] at hap
    rw [nl, if_neg he, ow, if_neg he]
    generalize es.map SP.v = L at *
    simp -implicitDefEqProofs [zgp_, hap, hcl]
theorem zcjp_ (h : H) {f : Nat} {a b : List V} (hfa : arg0 (.fn f a b) = some (.fn f a b)) : run XP zmi_ [vnil, .fn f a b] h = some (vnil, h) := by
  have h1 := fun h => zbad_ (h := h) (v := vnil) (es := []) (f := f) (a := a) (b := b) (p := fun _ => true) .nil (fun e he => by simp at he) (fun e he => by simp at he) (by simp)
  rw [ixF] at h1
  rw [run_eq, zrl_]
  simp -implicitDefEqProofs [zex_, h1, hfa]
theorem zcjq_ {g : H} {e : SP} {b : Nat} {t : Int} (hb : g[b]? = some (.box false [vi t])) : run XP zia_ [e.v, .ptr b 0] g = some (vb (e.tr != t), g) := by
  have hl := (List.getElem?_eq_some_iff.1 hb).1
  have hb' : ∀ t' : H, (g ++ t')[b]? = some (.box false [vi t]) := fun t' => by rw [List.getElem?_append_left hl]; exact hb
  rw [run_eq, zbxa_]
  simp -implicitDefEqProofs [ziy_, SP.v, hb', hl]
set_option maxHeartbeats 2000000 in
theorem run_Of (h : H) {es : List SP} {t : Int} (hs : ∀ e ∈ es, e.Ti) (hl : es.length ≤ 1000) : run XP zmh_ [nl es, vi t] h = some (nl (wns (es.filter fun e => !(e.tr != t))), h) := by
  have ha0 := zfg_ es
  have hc := fun h => zcjo_ h (es := es) (by omega)
  rw [run_eq, zbww_]
  by_cases he : es = []
  · subst he
    have hd := fun h b => zcjp_ h (f := zia_) (a := []) (b := [.ptr b 0]) (by simp)
    have hw := nilW
    have how : ow [] = vnil := rfl
    rw [how] at hc
    have hnn : nl [] = vnil := rfl
    rw [hnn] at hc
    have hwn : wns [] = [] := by
      rw [wns, zyu_.2 rfl]
      rfl
    rw [List.filter_nil, hwn, hnn]
    simp -implicitDefEqProofs [zev_, hc, hd, hw]
  · have how : ow es = .own 14 (es.map SP.v) := by rw [ow, if_neg he]
    rw [how] at hc
    have hfil : ∀ e ∈ es.filter (fun e => !(e.tr != t)), e.Ti := fun e he => hs e (List.mem_filter.1 he).1
    have hfl : (es.filter (fun e => !(e.tr != t))).length ≤ 1000 := Nat.le_trans (List.length_filter_le _ _) hl
    obtain ⟨r, hd, hr⟩ := zcjn_ (h := (h ++ [.box false [vi t]]) ++ [.arr false 14 (es.map SP.v)]) (l := h.length + 1) (es := es) (by simp) (f := zia_) (a := []) (b := [.ptr h.length 0]) (p := fun e => e.tr != t) (by simp) (fun e _ => by simp [SP.v])
      (fun e _ o tt => zcjq_ (by simp)) (by omega)
    have hret := fun g => nl_ret h.length g (wns (es.filter fun e => !(e.tr != t))) []
    have hr0 := zyx_ (wns (es.filter fun e => !(e.tr != t)))
    rcases hr with ⟨rfl, hf⟩ | ⟨o, rfl⟩
    · have hW := refWl (h := h ++ [.box false [vi t]]) (z := false) hs hl
      rw [hf] at hret hr0 ⊢
      have hh : ∀ A B : O, h ++ [A] ++ [B] = h ++ [A, B] := fun A B => by simp
      rw [hh] at hd hW
      rw [hh, List.length_append] at hW
      simp only [List.length_cons, List.length_nil, Nat.zero_add] at hW
      generalize wns es = ws at *
      have hLl : (es.map SP.v).length = es.length := by simp
      generalize es.map SP.v = L at *
      simp -implicitDefEqProofs [zev_, ha0, hc, hd, hW, hLl, hret, hr0]
    · have hW := fun h => lstW h hfil hfl
      have hh : ∀ A B : O, h ++ [A] ++ [B] = h ++ [A, B] := fun A B => by simp
      rw [hh] at hd
      generalize wns (es.filter fun e => !(e.tr != t)) = ws at *
      generalize (es.filter fun e => !(e.tr != t)).map SP.v = L2 at *
      have hLl : (es.map SP.v).length = es.length := by simp
      generalize es.map SP.v = L at *
      simp -implicitDefEqProofs [zev_, ha0, hc, hd, hW, hLl, hret, hr0]
end Go.Proofs.Sl
namespace Go.Proofs.Sl
structure CL where
  pa : Nat
  ck : Nat
  kd : Nat
  sv : Nat
  vr : Nat
  op : Nat
  wt : Nat
  lg : Nat
  lk : Nat
  tg : Nat
  fl : Bool
def CL.v (c : CL) : V := .agg [v8 c.pa, v8 c.ck, v8 c.kd, v8 c.sv, v8 c.vr, v8 c.op, v8 c.wt, v8 c.lg, v8 c.lk, v8 c.tg, vb c.fl]
structure CL.Ok (c : CL) : Prop where
  a : ∀ n ∈ [c.pa, c.ck, c.kd, c.sv, c.vr, c.op, c.wt, c.lg, c.lk, c.tg], n < 256
structure TR where
  sl : Nat
  st : Nat
  cs : List CL
  cn : Bool
def TR.v (t : TR) : V := .agg [v8 t.sl, v8 t.st, lv 11 (slc CL.v t.cs t.cn)]
structure TR.Ok (t : TR) : Prop where
  sl : t.sl < 256
  st : t.st < 256
  cs : ∀ c ∈ t.cs, c.Ok
  l : t.cs.length ≤ 8
  n : t.cn = true → t.cs = []
structure SY where
  fr : Nat
  to : Nat
  at' : Nat
  dl : Nat
  sk : Nat
def SY.v (y : SY) : V := .agg [v8 y.fr, v8 y.to, v8 y.at', v8 y.dl, v8 y.sk]
structure SY.Ok (y : SY) : Prop where
  a : ∀ n ∈ [y.fr, y.to, y.at', y.dl, y.sk], n < 256
structure ST where
  ts : List TR
  tn : Bool
  o0 : Int
  o1 : Int
  o2 : Int
  o3 : Int
  ys : List SY
  yn : Bool
  wr : Nat
def ST.v (s : ST) : V := .agg [lv 3 (slc TR.v s.ts s.tn), .s (.int .i8 s.o0), .s (.int .i8 s.o1), .s (.int .i8 s.o2), .s (.int .i8 s.o3), lv 5 (slc SY.v s.ys s.yn), v8 s.wr]
structure ST.Ok (s : ST) : Prop where
  ts : ∀ t ∈ s.ts, t.Ok
  l : s.ts.length ≤ 3
  n : s.tn = true → s.ts = []
  ys : ∀ y ∈ s.ys, y.Ok
  yl : s.ys.length ≤ 6
  y : s.yn = true → s.ys = []
  wr : s.wr < 256
  o : ∀ o ∈ [s.o0, s.o1, s.o2, s.o3], -128 ≤ o ∧ o ≤ 127
def CL.kind (c : CL) : Int := 1 + ((c.kd % 5 : Nat) : Int)
def CL.ats (c : CL) : List AT := (mats (c.tg / 4 % 2) ((c.tg : Int) - 100) (tbl zns (c.tg / 8 % 3))).take (c.tg % 4)
end Go.Proofs.Sl
namespace Go.Proofs.Sl
theorem ST.lst {s : ST} (h : s.Ok) {k : Nat} {t : TR} (hk : s.ts[k]? = some t) : lv 3 (slc TR.v s.ts s.tn) = .lst 3 (s.ts.map TR.v) := by
  cases hn : s.tn with
  | true => rw [h.n hn] at hk; simp at hk
  | false => rfl
def TR.id (t : TR) (k : Nat) : Int := ((t.sl % 64 : Nat) : Int) * 1048576 + 1 + k
def ST.off (s : ST) (c : Nat) : Int := ([s.o0, s.o1, s.o2, s.o3].getD c 0).tmod 21
end Go.Proofs.Sl
namespace Go.Proofs.Sl
end Go.Proofs.Sl
namespace Go.Proofs.Sl
def frm (m w k p : Nat) (S : List Int) : Int := (if p < k then S.getD p 0 else 1000 + (m : Int)) + (if 0 < k then (w : Int) else 0)
end Go.Proofs.Sl
namespace Go.Proofs.Sl
def goS (st : Nat) : Nat → List CL → List Int → List Int → List Int × List Int
  | _, [], S, E => (S, E)
  | k, c :: r, S, E => goS st (k + 1) r (S ++ [frm (st % 32) (c.wt % 32) k (c.pa % (k + 1)) S]) (E ++ [frm (st % 32) (c.wt % 32) k (c.pa % (k + 1)) S + ((c.lg % 32 : Nat) : Int)])
end Go.Proofs.Sl
namespace Go.Proofs.Sl
def upE (cs : List CL) (i : Nat) (E : List Int) : List Int :=
  match cs[i]? with
  | none => E
  | some c => match cs[c.pa % (i + 1)]? with
    | none => E
    | some d => if c.pa % (i + 1) < i ∧ c.kind = 3 ∧ d.kind = 2 ∧ d.fl = false then E.set (c.pa % (i + 1)) (max (E.getD (c.pa % (i + 1)) 0) (E.getD i 0)) else E
def goE (cs : List CL) : Nat → List Int → List Int
  | 0, E => E
  | i + 1, E => goE cs i (if 0 < i then upE cs i E else E)
end Go.Proofs.Sl
namespace Go.Proofs.Sl
theorem TR.lst {t : TR} (ht : t.Ok) (hne : t.cs ≠ []) : lv 11 (slc CL.v t.cs t.cn) = .lst 11 (t.cs.map CL.v) := by
  cases hn : t.cn with
  | true => exact absurd (ht.n hn) hne
  | false => rfl
def TR.S (t : TR) : List Int := (goS t.st 0 t.cs [] []).1
def TR.E (t : TR) : List Int := goE t.cs t.cs.length (goS t.st 0 t.cs [] []).2
end Go.Proofs.Sl
namespace Go.Proofs.Sl
def sv4 : List ByteArray := [⟨#[97, 112, 105]⟩, ⟨#[100, 98]⟩, ⟨#[119, 101, 98]⟩, ⟨#[99, 97, 99, 104, 101]⟩]
def vr3 : List ByteArray := [⟨#[118, 49]⟩, ⟨#[118, 50]⟩, ⟨#[]⟩]
def op3 : List ByteArray := [⟨#[103, 101, 116]⟩, ⟨#[112, 117, 116]⟩, ⟨#[108, 105, 115, 116]⟩]
def mdS (id : Int) (i : Nat) (c : CL) (S : List Int) (a b : Int) : SP :=
  ⟨id, (i : Int) + 1, if c.pa % (i + 1) < i then ((c.pa % (i + 1) : Nat) : Int) + 1 else if 0 < i then 100 else 0, 0, 1 + ((c.ck % 4 : Nat) : Int), c.kind, tbl sv4 (c.sv % 4), tbl vr3 (c.vr % 3), tbl op3 (c.op % 3), a, b, c.fl, c.ats,
    if c.lk % 16 < i ∧ S.getD (c.lk % 16) 0 ≤ a then [⟨id, ((c.lk % 16 : Nat) : Int) + 1⟩] else [], false, !decide (c.lk % 16 < i ∧ S.getD (c.lk % 16) 0 ≤ a)⟩
end Go.Proofs.Sl
namespace Go.Proofs.Sl
end Go.Proofs.Sl
namespace Go.Proofs.Sl
end Go.Proofs.Sl
namespace Go.Proofs.Sl
end Go.Proofs.Sl
namespace Go.Proofs.Sl
end Go.Proofs.Sl
namespace Go.Proofs.Sl
end Go.Proofs.Sl
namespace Go.Proofs.Sl
def sAttr : ByteArray := ⟨#[97, 116, 116, 114]⟩
end Go.Proofs.Sl
namespace Go.Proofs.Sl
end Go.Proofs.Sl
namespace Go.Proofs.Sl
end Go.Proofs.Sl
namespace Go.Proofs.Sl
end Go.Proofs.Sl
namespace Go.Proofs.Sl
end Go.Proofs.Sl
namespace Go.Proofs.Sl
end Go.Proofs.Sl
namespace Go.Proofs.Sl
end Go.Proofs.Sl
namespace Go.Proofs.Sl
def trD (s : ST) (k i : Nat) (c : CL) : Int := s.off (c.ck % 4) + (if 0 < s.wr ∧ s.wr % 8 = i ∧ s.wr / 8 % 3 = k then 500 else 0)
def trS (s : ST) (t : TR) (k : Nat) (S E : List Int) (i : Nat) (c : CL) : SP := { mdS (t.id k) i c S (S.getD i 0) (E.getD i 0) with st := S.getD i 0 + trD s k i c, en := E.getD i 0 + trD s k i c }
def trL (s : ST) (t : TR) (k : Nat) (S E : List Int) : Nat → List CL → List SP
  | _, [] => []
  | i, c :: r => trS s t k S E i c :: trL s t k S E (i + 1) r
end Go.Proofs.Sl
namespace Go.Proofs.Sl
end Go.Proofs.Sl
namespace Go.Proofs.Sl
def ST.tr (s : ST) (k : Nat) (t : TR) : List SP := trL s t k t.S t.E 0 t.cs
end Go.Proofs.Sl
namespace Go.Proofs.Sl
end Go.Proofs.Sl
namespace Go.Proofs.Sl
end Go.Proofs.Sl
namespace Go.Proofs.Sl
end Go.Proofs.Sl
namespace Go.Proofs.Sl
end Go.Proofs.Sl
namespace Go.Proofs.Sl
def ST.ex (s : ST) (y : SY) : EX := ⟨1 + ((y.fr % 4 : Nat) : Int), 1 + ((y.to % 4 : Nat) : Int), 1000 + ((y.at' % 64 : Nat) : Int) + s.off (y.fr % 4), 1000 + ((y.at' % 64 : Nat) : Int) + ((y.dl % 16 : Nat) : Int) + s.off (y.to % 4), if y.sk % 4 < y.dl % 16 then ((y.dl % 16 : Nat) : Int) - ((y.sk % 4 : Nat) : Int) else 0⟩
def ST.exs (s : ST) : List EX := s.ys.map s.ex
end Go.Proofs.Sl
namespace Go.Proofs.Sl
end Go.Proofs.Sl
namespace Go.Proofs.Sl
theorem OutV.grow2 {x : V} {h : H} {b k lim : Nat} {es : List V} (o : OutV x h b k es) {e : V} (hb : b ≤ h.length) (hw : wide k [e] = true) (hc : V.closed.closeds [e] = true) (hl : es.length + 1 ≤ lim) {q' : Nat} {o' : O} (hq' : h[q']? = some o') (hne : ∀ es, o' ≠ .arr false k es) :
    ∃ x' h', zax_ h k lim x (.lst k [e]) = some (x', h') ∧ OutV x' h' b k (es ++ [e]) ∧ h'.take b = h.take b ∧ b ≤ h'.length ∧ h'[q']? = some o' := by
  have ea : appEls h (.lst k [e]) = some [e] := rfl
  have hql := (List.getElem?_eq_some_iff.1 hq').1
  rcases o with ⟨rfl, rfl⟩ | ⟨q, h0, h1, rfl, h3⟩
  · have hl' : 1 ≤ lim := by simpa using hl
    refine ⟨.ref h.length 1, h ++ [.arr false k [e]], ?_, .inr ⟨h.length, by simp, hb, rfl, by simp⟩, by rw [List.take_append_of_le_length hb], by simp; omega, by rw [List.getElem?_append_left hql]; exact hq'⟩
    simp only [zax_, ea, zab_, hw, hc, and_self, if_true, List.length_cons, List.length_nil, Nat.zero_add, Nat.one_ne_zero, if_false, hl']
  · have hq := (List.getElem?_eq_some_iff.1 h3).1
    have hqq : q ≠ q' := by
      rintro rfl
      rw [hq'] at h3
      exact hne es (Option.some.inj h3)
    refine ⟨.ref q (es.length + 1), h.set q (.arr false k (es ++ [e])), ?_, .inr ⟨q, by simp, h1, by simp, by rw [List.getElem?_set_self hq]⟩, ?_, by simpa using hb, by rw [List.getElem?_set_ne hqq]; exact hq'⟩
    · have : arrN h q es.length = some (false, k, es) := by simp [arrN, arrAt, h3, zab_]
      simp only [zax_, ea, zab_, hw, hc, and_self, if_true, this, List.length_cons, List.length_nil, Nat.zero_add, true_and, hl]
    · rw [List.take_set, List.set_eq_of_length_le (by simp; omega)]
end Go.Proofs.Sl
namespace Go.Proofs.Sl
theorem OutV.setO {x : V} {h : H} {b k : Nat} {es : List V} (o : OutV x h b k es) {q' : Nat} {o' : O} (hq' : h[q']? = some o') (hne : ∀ es, o' ≠ .arr false k es) (n : O) : OutV x (h.set q' n) b k es := by
  rcases o with o | ⟨q, h0, h1, h2, h3⟩
  · exact .inl o
  · have hqq : q' ≠ q := by
      rintro rfl
      rw [hq'] at h3
      exact hne es (Option.some.inj h3)
    exact .inr ⟨q, h0, h1, h2, by rw [List.getElem?_set_ne hqq]; exact h3⟩
def prV (p : Int × Int) : V := .agg [vi p.1, vi p.2]
def trF (ts : List Int) (s : SP) : List Int := if ts.getLast? = some s.tr then ts else ts ++ [s.tr]
def trsF (w : List SP) : List Int := w.foldl trF []
theorem zcjr_ {w : List SP} {k : Nat} {e : SP} (he : w[k]? = some e) : trsF (w.take (k + 1)) = trF (trsF (w.take k)) e := by
  rw [trsF, List.take_add_one, he, List.foldl_append]
  rfl
theorem zsp_ : ∀ (w : List SP) (ts : List Int), (w.foldl trF ts).length ≤ ts.length + w.length
  | [], ts => by simp
  | s :: r, ts => by
    have := zsp_ r (trF ts s)
    have h2 : (trF ts s).length ≤ ts.length + 1 := by
      rw [trF]
      split <;> simp
    rw [List.foldl_cons, List.length_cons]
    omega
theorem app_at {h : H} {q k lim : Nat} {es : List V} {y : V} (hq : h[q]? = some (.arr false k es)) (hw : wide k [y] = true) (hc : V.closed.closeds [y] = true) (hl : es.length + 1 ≤ lim) :
    zax_ h k lim (.ref q es.length) (.lst k [y]) = some (.ref q (es.length + 1), h.set q (.arr false k (es ++ [y]))) := by
  rw [zgc_, show appEls h (.lst k [y]) = some [y] from rfl, zab_, if_pos ⟨hw, hc⟩]
  simp [hq, hl]
set_option maxHeartbeats 4000000 in
theorem fi_l0 {β : Type} {f : Ex × St → Option β} {w : Option β} {x7 : V} {W : List SP} {p0 : Int × Int} (hl : W.length ≤ 1000)
    (hend : ∀ s h x, Sees s [(7, x7), (8, nl W), (9, .ref 0 (W.length + 1)), (10, x)] → h[0]? = some (.arr false 2 ((p0 :: W.map fun s => (s.tr, s.id)).map prV)) → OutV x h 1 1 ((trsF W).map vi) → f (.exit 0, ⟨s, h⟩) = w)
    (s0 : Sl) (g : Sees s0 [(7, x7), (8, nl W), (9, .ref 0 1), (10, vnil), (11, vi 0)]) : ob (loopW (xcode (run XP) loopW 0 zgj_) ⟨s0, [.arr false 2 [prV p0]]⟩) f = w := by
  refine zaw_ W (fun k s h => Sees s [(7, x7), (8, nl W), (9, .ref 0 (k + 1)), (11, vi k)] ∧ h[0]? = some (.arr false 2 ((p0 :: (W.take k).map fun s => (s.tr, s.id)).map prV)) ∧ OutV (s 10) h 1 1 ((trsF (W.take k)).map vi)) ?_ ?_ _ _ ⟨⟨g.1, g.2.1, g.2.2.1, g.2.2.2.2.1, trivial⟩, rfl, .inl ⟨rfl, g.2.2.2.1⟩⟩
  · rintro B f' hB hf k e s h he hk ⟨⟨e7, e8, e9, e11, -⟩, h0, ho⟩ K
    have hlt : (k : Int) < W.length := by omega
    have hL := fun h => ((nl_LV W).rd h).toL
    have hpp := fun h => nl_at he h
    have hw := zct_ (by omega : k < 100000000000)
    have htl := zsp_ (W.take k) []
    rw [← trsF] at htl
    have hkl : (W.take k).length = k := by rw [List.length_take]; omega
    rw [hkl, List.length_nil, Nat.zero_add] at htl
    have htk : ((p0 :: (W.take (k + 1)).map fun s => (s.tr, s.id)).map prV) = ((p0 :: (W.take k).map fun s => (s.tr, s.id)).map prV) ++ [prV (e.tr, e.id)] := by
      rw [List.take_add_one, he]
      simp
    rw [htk, zcjr_ he] at K
    have hlk : ((p0 :: (W.take k).map fun s => (s.tr, s.id)).map prV).length = k + 1 := by simp only [List.length_map, List.length_cons, hkl]
    have ha := app_at (lim := 8796093022208) (y := prV (e.tr, e.id)) h0 rfl rfl (by rw [hlk]; omega)
    rw [hlk] at ha
    generalize ((p0 :: (W.take k).map fun s => (s.tr, s.id)).map prV) = LK at *
    have h0l := (List.getElem?_eq_some_iff.1 h0).1
    have ho1 := ho.setO h0 (fun es c => by cases c) (.arr false 2 (LK ++ [prV (e.tr, e.id)]))
    have h01 : (h.set 0 (.arr false 2 (LK ++ [prV (e.tr, e.id)])))[0]? = some (.arr false 2 (LK ++ [prV (e.tr, e.id)])) := List.getElem?_set_self h0l
    have hT := ho1.rd.toL
    obtain ⟨x', h'', hap, ho2, _, _, h02⟩ := ho1.grow2 (e := vi e.tr) (lim := 17592186044416) (by simp; omega) rfl rfl (by simp only [List.length_map]; omega) h01 (fun es c => by cases c)
    generalize trsF (W.take k) = T at *
    generalize hs10 : s 10 = x10 at *
    have hz : ∀ z : Int, (z != z) = false := fun z => by simp
    obtain ⟨tr, id, par, rev, clk, kind, sv, vr, op, st, en, er, ats, lks, an, ln⟩ := e
    simp only [SP.v, V.cells, prV] at hpp ha hap K h01 h02 hT ho1
    rcases List.eq_nil_or_concat T with rfl | ⟨T', z, rfl⟩
    · have h3 : trF [] ⟨tr, id, par, rev, clk, kind, sv, vr, op, st, en, er, ats, lks, an, ln⟩ = [tr] := rfl
      rw [h3] at K
      simp only [List.map_nil] at hT
      simp (maxSteps := 1000000) -implicitDefEqProofs [hB, zgj_, e7, e8, e9, e11, hs10, hlt, hL, hpp, ha, hT, hap, zan_, optEq]
      refine K _ _ ⟨?_, h02, ?_⟩
      · simp [e7, e8, hw]
      · simpa using ho2
    · have h3 : trF (T' ++ [z]) ⟨tr, id, par, rev, clk, kind, sv, vr, op, st, en, er, ats, lks, an, ln⟩ = if z = tr then T' ++ [z] else T' ++ [z] ++ [tr] := by
        rw [trF]
        simp
      rw [List.concat_eq_append] at *
      rw [h3] at K
      obtain ⟨q, hq, hql⟩ := ho1.rd.at (i := T'.length) (e := vi z) (by simp)
      have hTl : (((T' ++ [z]).map vi).length : Int) = (T'.length : Int) + 1 := by simp
      have hw1 : IntKind.i64.wrap (T'.length : Int) = (T'.length : Int) := by exact zaq_ (by omega) (by simp only [List.length_append, List.length_cons, List.length_nil] at htl; omega)
      have hne0 : (((T'.length : Int) + 1) == 0) = false := by
        have : ((T'.length : Int) + 1) ≠ 0 := by omega
        simpa using this
      generalize hTV : (T' ++ [z]).map vi = TV at *
      by_cases hzt : z = tr
      · rw [if_pos hzt] at K
        subst hzt
        simp (maxSteps := 1000000) -implicitDefEqProofs [hB, zgj_, e7, e8, e9, e11, hs10, hlt, hL, hpp, ha, hT, hTl, hw1, hne0, hq, hql, hz, zan_, optEq]
        refine K _ _ ⟨?_, h01, ?_⟩
        · simp [e7, e8, hw]
        · rw [hTV]
          simpa [hs10] using ho1
      · rw [if_neg hzt] at K
        have hzt' : (z != tr) = true := by simpa using hzt
        simp (maxSteps := 1000000) -implicitDefEqProofs [hB, zgj_, e7, e8, e9, e11, hs10, hlt, hL, hpp, ha, hT, hTl, hw1, hne0, hq, hql, hzt', hap, zan_, optEq]
        refine K _ _ ⟨?_, h02, ?_⟩
        · simp [e7, e8, hw]
        · rw [List.map_append, hTV]
          simpa using ho2
  · rintro B hB s h ⟨⟨e7, e8, e9, e11, -⟩, h0, ho⟩
    rw [List.take_of_length_le (Nat.le_refl _)] at h0 ho
    have hL := fun h => ((nl_LV W).rd h).toL
    simp -implicitDefEqProofs [hB, zgj_, e8, e11, hL]
    exact hend _ _ (s 10) (by simp [e7, e8, e9]) h0 ho
end Go.Proofs.Sl
namespace Go.Proofs.Sl
end Go.Proofs.Sl
namespace Go.Proofs.Sl
end Go.Proofs.Sl
namespace Go.Proofs.Sl
structure PN where
  op : Int
  fd : ByteArray
  ky : ByteArray
  vl : AV
  nl : Bool
inductive PR where
  | mk (n : PN) (as : List PR)
def PR.n : PR → PN
  | .mk n _ => n
mutual
def PR.v : PR → V
  | .mk n as => .agg [vi n.op, vs n.fd, vs n.ky, vi n.vl.k, vs n.vl.t, vi n.vl.n, lv 7 (if n.nl = true then none else some (PR.vv as))]
def PR.vv : List PR → List V
  | [] => []
  | p :: r => p.v :: PR.vv r
end
structure PN.Sz (n : PN) : Prop where
  f : n.fd.size ≤ 9223372036854775807
  k : n.ky.size ≤ 9223372036854775807
  t : n.vl.t.size ≤ 9223372036854775807
inductive PR.Sz : PR → Prop
  | mk {n : PN} {as : List PR} (hn : n.Sz) (hl : as.length ≤ 9223372036854775807) (h0 : n.nl = true → as = []) (ha : ∀ a ∈ as, a.Sz) : PR.Sz (.mk n as)
def isT (o : Int) : Bool := decide (o = 5) || (decide (o = 6) || decide (o = 7))
def argN (o : Int) (n : Nat) : Bool := if o = 1 ∨ o = 2 then decide (1 ≤ n) else if o = 3 then decide (n = 1) else decide (n = 0)
def zV (v : AV) : Bool := decide (v.k = 0) && (decide (v.t = eS) && decide (v.n = 0))
def form (n : PN) (m : Nat) : Bool := !argN n.op m || ((!isT n.op && (!decide (n.fd = eS) || !zV n.vl)) || (!isT n.op && (!decide (n.op = 4) && !decide (n.ky = eS))))
def chkN (n : PN) (m : Nat) : Int :=
  if n.op < 0 ∨ 7 < n.op then 12 else
  if form n m = true then 3 else
  if n.op = 4 ∧ isNm n.ky = false then 11 else
  if isT n.op = false then 0 else
  if (!isNm n.fd || ((decide (n.fd = sAttr) && !isNm n.ky) || (!decide (n.fd = sAttr) && !decide (n.ky = eS)))) = true then 11 else
  if chkV n.vl ≠ 0 then chkV n.vl else
  if n.op = 6 ∧ n.vl.k = 3 ∨ n.op = 7 ∧ n.vl.k ≠ 1 then 13 else 0
end Go.Proofs.Sl
namespace Go.Proofs.Sl
end Go.Proofs.Sl
namespace Go.Proofs.Sl
end Go.Proofs.Sl
namespace Go.Proofs.Sl
end Go.Proofs.Sl
namespace Go.Proofs.Sl
end Go.Proofs.Sl
namespace Go.Proofs.Sl
mutual
def vis : PR → Nat → Nat → Int × Nat
  | .mk n as, l, k => if 64 ≤ k then (6, k) else if 16 < l then (15, k) else if chkN n as.length ≠ 0 then (chkN n as.length, k + 1) else viss as (l + 1) (k + 1)
def viss : List PR → Nat → Nat → Int × Nat
  | [], _, k => (0, k)
  | p :: r, l, k => if (vis p l k).1 ≠ 0 then vis p l k else viss r l (vis p l k).2
end
mutual
theorem vis_le : ∀ (p : PR) (l k : Nat), k ≤ 64 → k ≤ (vis p l k).2 ∧ (vis p l k).2 ≤ 64 ∧ ((vis p l k).1 = 0 → k + 1 ≤ (vis p l k).2)
  | .mk n as, l, k, h => by
    rw [vis]
    split
    · exact ⟨Nat.le_refl _, h, fun e => by simp at e⟩
    · split
      · exact ⟨Nat.le_refl _, h, fun e => by simp at e⟩
      · split
        · rename_i hc
          exact ⟨by show k ≤ k + 1; omega, by show k + 1 ≤ 64; omega, fun e => absurd e hc⟩
        · have := zbaf_ as (l + 1) (k + 1) (by omega)
          exact ⟨by omega, this.2.1, fun _ => this.1⟩
theorem zbaf_ : ∀ (as : List PR) (l k : Nat), k ≤ 64 → k ≤ (viss as l k).2 ∧ (viss as l k).2 ≤ 64 ∧ ((viss as l k).1 = 0 → k + as.length ≤ (viss as l k).2)
  | [], l, k, h => by
    rw [viss]
    exact ⟨Nat.le_refl _, h, fun _ => by simp⟩
  | p :: r, l, k, h => by
    have h1 := vis_le p l k h
    rw [viss]
    split
    · rename_i hc
      exact ⟨h1.1, h1.2.1, fun e => absurd e hc⟩
    · rename_i hc
      have hc' : (vis p l k).1 = 0 := by simpa using hc
      have h2 := zbaf_ r l (vis p l k).2 h1.2.1
      have h3 := h1.2.2 hc'
      refine ⟨by omega, h2.2.1, fun e => ?_⟩
      have := h2.2.2 e
      rw [List.length_cons]
      omega
end
end Go.Proofs.Sl
namespace Go.Proofs.Sl
mutual
def szW : PR → Int
  | .mk _ as => szs as 1
def szs : List PR → Int → Int
  | [], z => z
  | p :: r, z => szs r (IntKind.i64.wrap (z + szW p))
end
end Go.Proofs.Sl
namespace Go.Proofs.Sl
open Classical in
noncomputable def satB (p : PR) (x : AV) : Bool := if h : ∃ b : Bool, ∀ h, run XP zbuo_ [p.v, x.v] h = some (vb b, h) then h.choose else false
end Go.Proofs.Sl
namespace Go.Proofs.Sl
noncomputable section
mutual
def hold (S : ByteArray → ByteArray → AV × Bool) : PR → Bool
  | .mk n as => if n.op = 0 then true else if n.op = 1 then hAll S as else if n.op = 2 then hAny S as else if n.op = 3 then !(hHd S as) else
      if n.op = 4 then (S sAttr n.ky).2 else (S n.fd n.ky).2 && satB (.mk n as) (S n.fd n.ky).1
def hAll (S : ByteArray → ByteArray → AV × Bool) : List PR → Bool
  | [] => true
  | p :: r => hold S p && hAll S r
def hAny (S : ByteArray → ByteArray → AV × Bool) : List PR → Bool
  | [] => false
  | p :: r => hold S p || hAny S r
def hHd (S : ByteArray → ByteArray → AV × Bool) : List PR → Bool
  | [] => false
  | p :: _ => hold S p
end
end
section
variable {t f : Nat} {v : V} {S : ByteArray → ByteArray → AV × Bool}
end
end Go.Proofs.Sl
namespace Go.Proofs.Sl
section
variable {t f : Nat} {v : V} {S : ByteArray → ByteArray → AV × Bool}
end
end Go.Proofs.Sl
namespace Go.Proofs.Sl
end Go.Proofs.Sl
namespace Go.Proofs.Sl
noncomputable section
open Classical in
end
end Go.Proofs.Sl
namespace Go.Proofs.Sl
theorem zcjs_ {P : SP → Bool} {es : List SP} {i : Nat} {e : SP} (he : es[i]? = some e) : (es.take (i + 1)).filter P = (es.take i).filter P ++ (if P e = true then [e] else []) := by
  rw [List.take_add_one, he, List.filter_append]
  congr 1
  cases h : P e <;> simp [h]
end Go.Proofs.Sl
namespace Go.Proofs.Sl
def lastF (t i : Int) (b : Option SP) (s : SP) : Option SP := if isR t i s = true then some s else b
def lastR (t i : Int) (w : List SP) : Option SP := w.foldl (lastF t i) none
theorem zcjt_ {t i : Int} {w : List SP} {k : Nat} {e : SP} (he : w[k]? = some e) : lastR t i (w.take (k + 1)) = lastF t i (lastR t i (w.take k)) e := by
  rw [lastR, List.take_add_one, he, List.foldl_append]
  rfl
def ofT (t : Int) (w : List SP) : List SP := w.filter fun s => s.tr == t
theorem ofT_up {t : Int} {w : List SP} {k : Nat} {e : SP} (he : w[k]? = some e) : ofT t (w.take (k + 1)) = if e.tr = t then ofT t (w.take k) ++ [e] else ofT t (w.take k) := by
  rw [ofT, zcjs_ (P := fun s => s.tr == t) he]
  by_cases h : e.tr = t <;> simp [h, ofT]
set_option maxHeartbeats 4000000 in
theorem fi_l1 {β : Type} {f : Ex × St → Option β} {w : Option β} {x7 x10 : V} {is : Bool} {W : List SP} {LK : List V} {t i : Int} {j n13 n15 b : Nat} (hl : W.length ≤ 1000) (hj : LK[j]? = some (.agg [vi t, vi i])) {h0 : H}
    (g0 : h0[0]? = some (.arr false 2 LK)) (g15 : h0[n15]? = some (.box false SP.z.v.cells)) (hb : n15 < b) (hbl : b ≤ h0.length)
    (hend : ∀ s h x, Sees s [(7, x7), (8, nl W), (9, .ref 0 LK.length), (10, x10), (12, vi j), (13, .ptr n13 0), (14, vb is), (15, .ptr n15 0), (16, x), (17, vb (lastR t i W).isSome)] → h.take b = (h0.take b).set n15 (.box false ((lastR t i W).getD SP.z).v.cells) → b ≤ h.length →
      OutV x h b 14 ((ofT t W).map SP.v) → f (.exit 4, ⟨s, h⟩) = w)
    (s0 : Sl) (g : Sees s0 [(7, x7), (8, nl W), (9, .ref 0 LK.length), (10, x10), (12, vi j), (13, .ptr n13 0), (14, vb is), (15, .ptr n15 0), (16, vnil), (17, vb false), (18, vi 0)]) : ob (loopW (xcode (run XP) loopW 0 zgk_) ⟨s0, h0⟩) f = w := by
  have h0b : 0 < n15 := by
    rcases Nat.eq_zero_or_pos n15 with rfl | h
    · rw [g0] at g15; cases g15
    · exact h
  obtain ⟨q7, q8, q9, q10, q12, q13, q14, q15, q16, q17, q18, -⟩ := g
  refine zaw_ W (fun k s h => Sees s [(7, x7), (8, nl W), (9, .ref 0 LK.length), (10, x10), (12, vi j), (13, .ptr n13 0), (14, vb is), (15, .ptr n15 0), (17, vb (lastR t i (W.take k)).isSome), (18, vi k)] ∧
      h.take b = (h0.take b).set n15 (.box false ((lastR t i (W.take k)).getD SP.z).v.cells) ∧ b ≤ h.length ∧ OutV (s 16) h b 14 ((ofT t (W.take k)).map SP.v)) ?_ ?_ _ _ ⟨?_, ?_, hbl, .inl ⟨rfl, q16⟩⟩
  · rintro B f' hB hf k e s h he hk ⟨⟨e7, e8, e9, e10, e12, e13, e14, e15, e17, e18, -⟩, htk, hbh, ho⟩ K
    have hlt : (k : Int) < W.length := by omega
    have hL := fun h => ((nl_LV W).rd h).toL
    have hpp := fun h => nl_at he h
    have hw := zct_ (by omega : k < 100000000000)
    rw [zcjt_ he, ofT_up he, lastF] at K
    have hgi : ∀ m, m < b → h[m]? = ((h0.take b).set n15 (.box false ((lastR t i (W.take k)).getD SP.z).v.cells))[m]? := fun m hm => by rw [← htk, List.getElem?_take, if_pos hm]
    have c0 : h[0]? = some (.arr false 2 LK) := by
      rw [hgi 0 (by omega), List.getElem?_set_ne (by omega), List.getElem?_take, if_pos (by omega)]
      exact g0
    have c15 : h[n15]? = some (.box false ((lastR t i (W.take k)).getD SP.z).v.cells) := by
      rw [hgi n15 hb, List.getElem?_set_self (by rw [List.length_take]; omega)]
    obtain ⟨x', h'', hap, ho', htk2, hbl2⟩ := ho.grow (e := e.v) (lim := 837723144972) hbh (zff_ e) (zav_ [e]) (by
      have : (ofT t (W.take k)).length ≤ 1000 := Nat.le_trans (List.length_filter_le _ _) (by rw [List.length_take]; omega)
      simp only [List.length_map]
      omega)
    have c0'' : h''[0]? = some (.arr false 2 LK) := by
      have : (h''.take b)[0]? = (h.take b)[0]? := by rw [htk2]
      rw [List.getElem?_take, List.getElem?_take, if_pos (by omega), if_pos (by omega)] at this
      rw [this]
      exact c0
    have c15'' : h''[n15]? = some (.box false ((lastR t i (W.take k)).getD SP.z).v.cells) := by
      have : (h''.take b)[n15]? = (h.take b)[n15]? := by rw [htk2]
      rw [List.getElem?_take, List.getElem?_take, if_pos hb, if_pos hb] at this
      rw [this]
      exact c15
    generalize (lastR t i (W.take k)) = lr at *
    generalize hs16 : s 16 = x16 at *
    have hz : ∀ z : Int, (z != z) = false := fun z => by simp
    have hjl : j < LK.length := (List.getElem?_eq_some_iff.1 hj).1
    have hje := (List.getElem?_eq_some_iff.1 hj).2
    have hn15 : n15 < h''.length := (List.getElem?_eq_some_iff.1 c15'').1
    have hn15' : n15 < h.length := (List.getElem?_eq_some_iff.1 c15).1
    by_cases hx : e.tr = t
    · rw [if_pos hx] at K
      by_cases hy : e.id = i
      · have hR : isR t i e = true := by simp [isR, hx, hy]
        rw [if_pos hR] at K
        have hset : (h''.set n15 (.box false e.v.cells)).take b = (h0.take b).set n15 (.box false e.v.cells) := by
          rw [List.take_set, htk2, htk, List.set_set]
        have ho2 := ho'.setO c15'' (fun es c => by cases c) (.box false e.v.cells)
        subst hx hy
        generalize lr.getD SP.z = d at *
        obtain ⟨tr, id, par, rev, clk, kind, sv, vr, op, st, en, er, ats, lks, an, ln⟩ := e
        obtain ⟨tr2, id2, par2, rev2, clk2, kind2, sv2, vr2, op2, st2, en2, er2, ats2, lks2, an2, ln2⟩ := d
        simp only [SP.v, V.cells] at hpp hap c15 c15''
        have c15q : ∀ hh, h''[n15]'hh = _ := fun hh => (List.getElem?_eq_some_iff.1 c15'').2
        simp (maxSteps := 1000000) -implicitDefEqProofs [hB, zgk_, e7, e8, e9, e10, e12, e13, e14, e15, e17, e18, hs16, hlt, hL, hpp, c0, c15, c0'', c15'', c15q, hj, hjl, hje, hap, hz, hn15, hn15', zan_, optEq]
        refine K _ _ ⟨?_, hset, by simpa using hbl2, ?_⟩
        · simp [e7, e8, e9, e10, e12, e13, e14, e15, hw]
        · simpa [SP.v] using ho2
      · have hR : isR t i e = false := by simp [isR, hy]
        have hy' : (e.id == i) = false := by simpa using hy
        rw [if_neg (by simp [hR])] at K
        have hset : h''.take b = (h0.take b).set n15 (.box false (lr.getD SP.z).v.cells) := by rw [htk2, htk]
        subst hx
        obtain ⟨tr, id, par, rev, clk, kind, sv, vr, op, st, en, er, ats, lks, an, ln⟩ := e
        simp only [SP.v, V.cells] at hpp hap
        simp (maxSteps := 1000000) -implicitDefEqProofs [hB, zgk_, e7, e8, e9, e10, e12, e13, e14, e15, e17, e18, hs16, hlt, hL, hpp, c0, c0'', hj, hjl, hje, hap, hz, hy', zan_, optEq]
        refine K _ _ ⟨?_, hset, hbl2, ?_⟩
        · simp [e7, e8, e9, e10, e12, e13, e14, e15, e17, hw]
        · simpa using ho'
    · have hR : isR t i e = false := by simp [isR, hx]
      have hx' : (e.tr != t) = true := by simpa using hx
      rw [if_neg (by simp [hR]), if_neg hx] at K
      obtain ⟨tr, id, par, rev, clk, kind, sv, vr, op, st, en, er, ats, lks, an, ln⟩ := e
      simp only [SP.v, V.cells] at hpp
      simp (maxSteps := 1000000) -implicitDefEqProofs [hB, zgk_, e7, e8, e9, e10, e12, e13, e14, e15, e17, e18, hlt, hL, hpp, c0, hj, hjl, hje, hx', zan_, optEq]
      refine K _ _ ⟨?_, htk, hbh, ?_⟩
      · simp [e7, e8, e9, e10, e12, e13, e14, e15, e17, hw]
      · simpa [hs16] using ho
  · rintro B hB s h ⟨⟨e7, e8, e9, e10, e12, e13, e14, e15, e17, e18, -⟩, htk, hbh, ho⟩
    rw [List.take_of_length_le (Nat.le_refl _)] at htk ho e17
    have hL := fun h => ((nl_LV W).rd h).toL
    simp -implicitDefEqProofs [hB, zgk_, e8, e18, hL]
    exact hend _ _ (s 16) (by simp [e7, e8, e9, e10, e12, e13, e14, e15, e17]) htk hbh ho
  · exact ⟨q7, q8, q9, q10, q12, q13, q14, q15, q17, q18, trivial⟩
  · have : (h0.take b)[n15]? = some (.box false SP.z.v.cells) := by rw [List.getElem?_take, if_pos hb]; exact g15
    obtain ⟨_, e⟩ := List.getElem?_eq_some_iff.1 this
    show h0.take b = (h0.take b).set n15 (.box false SP.z.v.cells)
    rw [← e, List.set_getElem_self]
end Go.Proofs.Sl
namespace Go.Proofs.Sl
theorem zbag_ {t i : Int} {s : SP} : isR t i s = true ↔ s.tr = t ∧ s.id = i := by simp [isR]
theorem zsq_ {t i : Int} {a b : SP} (h : Idn a b) : isR t i a = isR t i b := by rw [isR, isR, h.1, h.2]
theorem zsr_ (t i : Int) : ∀ (w : List SP) (b : Option SP), (w.foldl (lastF t i) b = b ∧ ∀ s ∈ w, isR t i s = false) ∨ ∃ y, w.foldl (lastF t i) b = some y ∧ y ∈ w ∧ isR t i y = true
  | [], b => .inl ⟨rfl, by simp⟩
  | s :: r, b => by
    rw [List.foldl_cons]
    rcases zsr_ t i r (lastF t i b s) with ⟨h1, h2⟩ | ⟨y, h1, h2, h3⟩
    · cases hs : isR t i s with
      | true =>
        refine .inr ⟨s, ?_, List.mem_cons_self, hs⟩
        rw [h1, lastF, if_pos hs]
      | false =>
        refine .inl ⟨?_, fun x hx => ?_⟩
        · rw [h1, lastF, if_neg (by simp [hs])]
        · rcases List.mem_cons.1 hx with rfl | hx
          · exact hs
          · exact h2 x hx
    · exact .inr ⟨y, h1, List.mem_cons_of_mem _ h2, h3⟩
theorem zcju_ {t i : Int} {w : List SP} (h : lastR t i w = none) : ∀ s ∈ w, isR t i s = false := by
  rcases zsr_ t i w none with ⟨_, h2⟩ | ⟨y, h1, _⟩
  · exact h2
  · rw [lastR, h1] at h
    cases h
theorem zss_ {t i : Int} {w : List SP} {y : SP} (h : lastR t i w = some y) : y ∈ w ∧ isR t i y = true := by
  rcases zsr_ t i w none with ⟨h1, _⟩ | ⟨z, h1, h2, h3⟩
  · rw [lastR, h1] at h
    cases h
  · rw [lastR, h1, Option.some.injEq] at h
    subst h
    exact ⟨h2, h3⟩
theorem zcjv_ (t i : Int) (es : List SP) : (winR t i es).isSome = (lastR t i (winL (dsl es))).isSome ∧ cmpS ((winR t i es).getD SP.z) ((lastR t i (winL (dsl es))).getD SP.z) = 0 := by
  have hD := zsm_ es
  have hA := zni_ es
  cases hw : winR t i es with
  | none =>
    have h1 := zcjm_ hw
    cases hl : lastR t i (winL (dsl es)) with
    | none => exact ⟨rfl, cz _⟩
    | some y =>
      obtain ⟨h2, h3⟩ := zss_ hl
      obtain ⟨s, hs, hc⟩ := hA.1 y ((zbr_ _).subset h2)
      rw [zsq_ (zeb_ hc), h1 s hs] at h3
      cases h3
  | some x =>
    obtain ⟨h1, h2, h3⟩ := zbac_ hw
    obtain ⟨d, hd, hc⟩ := hA.2 x h1
    obtain ⟨w, hww, hi, hle⟩ := zka_ hD d hd
    have hiw : Idn x w := (zeb_ hc).trans hi
    cases hl : lastR t i (winL (dsl es)) with
    | none =>
      have := zcju_ hl w hww
      rw [← zsq_ hiw, h2] at this
      cases this
    | some y =>
      obtain ⟨hy, hry⟩ := zss_ hl
      refine ⟨rfl, ?_⟩
      show cmpS x y = 0
      have hyD := (zbr_ _).subset hy
      obtain ⟨s, hs, hcs⟩ := hA.1 y hyD
      have hrs : isR t i s = true := by rw [← zsq_ (zeb_ hcs)]; exact hry
      have h4 := h3 s hs hrs
      have hdy : Idn d y := by
        have e1 := zbag_.1 h2
        have e2 := zbag_.1 hry
        have e3 := (zeb_ hc).symm
        exact ⟨by rw [e3.1, e1.1, e2.1], by rw [e3.2, e1.2, e2.2]⟩
      have h5 := zhd_ hD y hy d hd hdy
      have h6 : cmpS x y ≤ 0 := cle (Int.le_of_eq hc) h5
      have h7 : cmpS y x ≤ 0 := cle (Int.le_of_eq hcs) h4
      rw [zbb_.anti x y] at h7
      omega
theorem zbah_ {P : SP → Bool} (hP : ∀ a b, Idn a b → P a = P b) {x y : List SP} (h : Ins x y) : Ins (x.filter P) (y.filter P) := fun a ha => by
  obtain ⟨h1, h2⟩ := List.mem_filter.1 ha
  obtain ⟨b, hb, hc⟩ := h a h1
  exact ⟨b, List.mem_filter.2 ⟨hb, by rw [← hP a b (zeb_ hc)]; exact h2⟩, hc⟩
theorem zcjw_ {P : SP → Bool} (hP : ∀ a b, Idn a b → P a = P b) {D : List SP} (hD : Str D) : ∀ x, x ∈ winL (D.filter P) ↔ x ∈ (winL D).filter P := fun x => by
  have hF : Str (D.filter P) := List.Pairwise.sublist List.filter_sublist hD
  constructor
  · intro hx
    have hxF := (zbr_ _).subset hx
    obtain ⟨hxD, hxP⟩ := List.mem_filter.1 hxF
    refine List.mem_filter.2 ⟨znj_ hD x hxD fun y hy hi => ?_, hxP⟩
    exact zhd_ hF x hx y (List.mem_filter.2 ⟨hy, by rw [hP y x hi]; exact hxP⟩) hi
  · intro hx
    obtain ⟨hxw, hxP⟩ := List.mem_filter.1 hx
    have hxD := (zbr_ _).subset hxw
    refine znj_ hF x (List.mem_filter.2 ⟨hxD, hxP⟩) fun y hy hi => ?_
    exact zhd_ hD x hxw y (List.mem_filter.1 hy).1 hi
theorem zcjx_ (t : Int) (es : List SP) : sameL (wns (es.filter fun e => !(e.tr != t))) (ofT t (winL (dsl es))) = true := by
  have hPe : (fun e : SP => !(e.tr != t)) = fun e => e.tr == t := by
    funext e
    simp [bne]
  rw [hPe, wns, ofT]
  have hP : ∀ a b : SP, Idn a b → (a.tr == t) = (b.tr == t) := fun a b h => by rw [h.1]
  have hD := zsm_ es
  have hE := zcjg_ (es.filter fun e => e.tr == t)
  have hF : Str ((dsl es).filter fun e => e.tr == t) := List.Pairwise.sublist List.filter_sublist hD
  have h1 : Alk (dst (es.filter fun e => e.tr == t)) ((dsl es).filter fun e => e.tr == t) :=
    (zcjh_ _).trans ⟨zbah_ hP (zni_ es).2, zbah_ hP (zni_ es).1⟩
  have h2 := zcjk_ hE hF h1
  have h3 : Alk (winL ((dsl es).filter fun e => e.tr == t)) ((winL (dsl es)).filter fun e => e.tr == t) := Alk.of_mem (zcjw_ hP hD)
  exact zzs_ (zsn_ hE) (List.Pairwise.sublist List.filter_sublist (zsn_ hD)) (h2.trans h3)
end Go.Proofs.Sl
namespace Go.Proofs.Sl
structure FiOk (es W : List SP) : Prop where
  w : ∀ t i h, run XP zmj_ [nl es, .agg [vi t, vi i]] h = some (.tup [((winR t i es).getD SP.z).v, vb (winR t i es).isSome], h)
  o : ∀ t h, run XP zmh_ [nl es, vi t] h = some (nl (wns (es.filter fun e => !(e.tr != t))), h)
  b : ∀ t i, (winR t i es).isSome = (lastR t i W).isSome ∧ cmpS ((winR t i es).getD SP.z) ((lastR t i W).getD SP.z) = 0
  s : ∀ t, sameL (wns (es.filter fun e => !(e.tr != t))) (ofT t W) = true
  l : W.length ≤ 1000
  te : ∀ e ∈ es, e.Ti
  tw : ∀ e ∈ W, e.Ti
  n : es.length ≤ 1000
theorem z_ti : SP.z.Ti := ⟨by decide, by decide, fun _ => rfl, fun _ => rfl⟩
theorem zcjy_ {t i : Int} {W : List SP} (h : ∀ e ∈ W, e.Ti) : ((lastR t i W).getD SP.z).Ti := by
  cases hl : lastR t i W with
  | none => exact z_ti
  | some y => exact h y (zss_ hl).1
theorem zcjz_ {t i : Int} {es : List SP} (h : ∀ e ∈ es, e.Ti) : ((winR t i es).getD SP.z).Ti := by
  cases hl : winR t i es with
  | none => exact z_ti
  | some y => exact h y (zbac_ hl).1
theorem wns_ti {es : List SP} (h : ∀ e ∈ es, e.Ti) : ∀ e ∈ wns es, e.Ti := fun e he => h e (zmz_ ((zbr_ _).subset he))
theorem zcka_ (es : List SP) : (wns es).length ≤ es.length := Nat.le_trans (zbr_ _).length_le (zsb_ es)
set_option maxHeartbeats 8000000 in
theorem fi_l2 {β : Type} {f : Ex × St → Option β} {w : Option β} {x10 : V} {es W : List SP} {T : List Int} (F : FiOk es W) {LK : List (Int × Int)} (hlk : LK.length ≤ 2000)
    (hend : ∀ s h, Sees s [(7, nl es), (10, x10)] → OutV x10 h 1 1 (T.map vi) → f (.exit 2, ⟨s, h⟩) = w)
    (s0 : Sl) (h0 : H) (g : Sees s0 [(7, nl es), (8, nl W), (9, .ref 0 LK.length), (10, x10), (12, vi 0)]) (g0 : h0[0]? = some (.arr false 2 (LK.map prV))) (go : OutV x10 h0 1 1 (T.map vi)) :
    ob (loopW (xcode (run XP) loopW 0 zmk_) ⟨s0, h0⟩) f = w := by
  refine zaw_ LK (fun k s h => Sees s [(7, nl es), (8, nl W), (9, .ref 0 LK.length), (10, x10), (12, vi k)] ∧ h[0]? = some (.arr false 2 (LK.map prV)) ∧ OutV x10 h 1 1 (T.map vi)) ?_ ?_ _ _ ⟨g, g0, go⟩
  · rintro B f' hB hf j p s h hp hj ⟨⟨e7, e8, e9, e10, e12, -⟩, c0, ho⟩ K
    obtain ⟨t, i⟩ := p
    have hlt : (j : Int) < LK.length := by omega
    have hwr := zct_ (by omega : j < 100000000000)
    have hll : (LK.map prV).length = LK.length := by simp
    have hpj : (LK.map prV)[j]? = some (.agg [vi t, vi i]) := by simp [hp, prV]
    have hpe : ∀ hh, (LK.map prV)[j]'hh = .agg [vi t, vi i] := fun hh => (List.getElem?_eq_some_iff.1 hpj).2
    have hw := fun h => F.w t i h
    have h0l := (List.getElem?_eq_some_iff.1 c0).1
    have c0t : ∀ tt : H, (h ++ tt)[0]? = some (.arr false 2 (LK.map prV)) := fun tt => by rw [List.getElem?_append_left h0l]; exact c0
    have hb := F.b t i
    have hxt := zcjz_ (t := t) (i := i) F.te
    have hzt : ∀ w : V, SP.z.v.cells = [vi 0, vi 0, vi 0, vi 0, vi 0, vi 0, vs ⟨#[]⟩, vs ⟨#[]⟩, vs ⟨#[]⟩, vi 0, vi 0, vb false, vnil, vnil] := fun _ => rfl
    generalize hX : (winR t i es).getD SP.z = X at *
    generalize hZ : (winR t i es).isSome = Z at *
    have hxv : X.v = .agg X.v.cells := rfl
    have hjl : j < (LK.map prV).length := by omega
    have hcl := hll
    generalize LK.map prV = LV at *
    obtain ⟨tr, id, par, rev, clk, kind, sv, vr, op, st, en, er, ats, lks, an, ln⟩ := X
    simp only [SP.v] at hw
    have ha0 := zfg_ es
    simp (maxSteps := 1000000) -implicitDefEqProofs [hB, zmk_, e7, e8, e9, e10, e12, hlt, hj, hll, c0, c0t, hpj, hpe, hw, ha0]
    have hlV : LK.length = LV.length := hll.symm
    refine fi_l1 (is := Z) (x7 := nl es) (x10 := x10) (t := t) (i := i) (j := j) (n13 := h.length) (n15 := h.length + 1) (b := h.length + 2) (LK := LV) F.l hpj (c0t _) (by simp; rfl) (by omega) (by simp) ?_ _ ?_
    rotate_left
    · simp [e7, e8, e9, e10, e12, hlV]
    rintro s2 h2 x ⟨q7, q8, q9, q10, q12, q13, q14, q15, q16, q17, -⟩ htk hbl ho2
    have htk2 : ∃ t2, h2 = h ++ ([.box false [vi tr, vi id, vi par, vi rev, vi clk, vi kind, vs sv, vs vr, vs op, vi st, vi en, vb er, lv 4 (slc AT.v ats an), lv 2 (slc RF.v lks ln)], .box false ((lastR t i W).getD SP.z).v.cells] ++ t2) := by
      refine ⟨h2.drop (h.length + 2), ?_⟩
      have e1 := List.take_append_drop (h.length + 2) h2
      rw [htk] at e1
      refine e1.symm.trans ?_
      rw [← List.append_assoc]
      congr 1
      rw [List.take_of_length_le (by simp), List.set_append_right _ _ (by omega)]
      simp [SP.v, V.cells]
    obtain ⟨t2, rfl⟩ := htk2
    have ho3 := ho.app ([.box false [vi tr, vi id, vi par, vi rev, vi clk, vi kind, vs sv, vs vr, vs op, vi st, vi en, vb er, lv 4 (slc AT.v ats an), lv 2 (slc RF.v lks ln)], .box false ((lastR t i W).getD SP.z).v.cells] ++ t2)
    have c02 := c0t ([.box false [vi tr, vi id, vi par, vi rev, vi clk, vi kind, vs sv, vs vr, vs op, vi st, vi en, vb er, lv 4 (slc AT.v ats an), lv 2 (slc RF.v lks ln)], .box false ((lastR t i W).getD SP.z).v.cells] ++ t2)
    have c13 : (h ++ ([.box false [vi tr, vi id, vi par, vi rev, vi clk, vi kind, vs sv, vs vr, vs op, vi st, vi en, vb er, lv 4 (slc AT.v ats an), lv 2 (slc RF.v lks ln)], .box false ((lastR t i W).getD SP.z).v.cells] ++ t2))[h.length]? = some (.box false [vi tr, vi id, vi par, vi rev, vi clk, vi kind, vs sv, vs vr, vs op, vi st, vi en, vb er, lv 4 (slc AT.v ats an), lv 2 (slc RF.v lks ln)]) := by simp
    have c15 : (h ++ ([.box false [vi tr, vi id, vi par, vi rev, vi clk, vi kind, vs sv, vs vr, vs op, vi st, vi en, vb er, lv 4 (slc AT.v ats an), lv 2 (slc RF.v lks ln)], .box false ((lastR t i W).getD SP.z).v.cells] ++ t2))[h.length + 1]? = some (.box false ((lastR t i W).getD SP.z).v.cells) := by simp
    generalize (h ++ ([.box false [vi tr, vi id, vi par, vi rev, vi clk, vi kind, vs sv, vs vr, vs op, vi st, vi en, vb er, lv 4 (slc AT.v ats an), lv 2 (slc RF.v lks ln)], .box false ((lastR t i W).getD SP.z).v.cells] ++ t2)) = H2 at *
    have hlt2 := zcjy_ (t := t) (i := i) F.tw
    have hos := F.s t
    have hof := fun h => F.o t h
    have hwt := wns_ti (es := es.filter fun e => !(e.tr != t)) fun e he => F.te e (List.mem_filter.1 he).1
    have hwl : (wns (es.filter fun e => !(e.tr != t))).length ≤ 1000 := Nat.le_trans (zcka_ _) (Nat.le_trans (List.length_filter_le _ _) F.n)
    have hot : ∀ e ∈ ofT t W, e.Ti := fun e he => F.tw e (List.mem_filter.1 he).1
    have hsm := fun hh (hr : Rd hh 14 x ((ofT t W).map SP.v)) => zcjb_ (h := hh) (v := nl (wns (es.filter fun e => !(e.tr != t)))) ((nl_LV _).rd hh) hr hwt hot (by omega)
    rw [hos] at hsm
    have hrx := ho2.rd
    have hsm2 := hsm _ hrx
    have hx0 := hrx.arg0
    generalize wns (es.filter fun e => !(e.tr != t)) = OF at *
    have hcm := fun h => znf_ h hxt.an hxt.ln hlt2.an hlt2.ln hxt.al hxt.ll hlt2.al hlt2.ll
    rw [hb.2] at hcm
    have hZ2 : Z = (lastR t i W).isSome := hb.1
    rw [← hZ2] at q17
    generalize (lastR t i W).getD SP.z = d at *
    obtain ⟨tr2, id2, par2, rev2, clk2, kind2, sv2, vr2, op2, st2, en2, er2, ats2, lks2, an2, ln2⟩ := d
    simp only [SP.v, V.cells] at hcm c15
    have ha1 := zfg_ OF
    have hr1 := zyx_ OF
    have hzb : (Z != Z) = false := by simp
    simp (maxSteps := 1000000) -implicitDefEqProofs [q7, q8, q9, q10, q12, q13, q14, q15, q16, q17, hcm, hof, hsm2, c02, c13, c15, hpj, hpe, hj, hll, ha0, ha1, hr1, hx0, hzb, zan_, optEq]
    refine K _ _ ⟨?_, c02, ho3⟩
    simp [q7, q8, q9, q10, q12, hlV, hwr]
  · rintro B hB s h ⟨⟨e7, e8, e9, e10, e12, -⟩, c0, ho⟩
    have hll : (LK.map prV).length = LK.length := by simp
    generalize LK.map prV = LV at *
    simp -implicitDefEqProofs [hB, zmk_, e9, e12, c0, hll]
    exact hend _ _ (by simp [e7, e10]) ho
end Go.Proofs.Sl
namespace Go.Proofs.Sl
def iLV (l : List Int) : V := if l = [] then vnil else .lst 1 (l.map vi)
theorem iLV_rd (h : H) (l : List Int) : Rd h 1 (iLV l) (l.map vi) := by
  unfold iLV
  split
  · rename_i e
    subst e
    exact .nil
  · exact .lst _
theorem zckb_ (l : List Int) : res0 (iLV l) = iLV l := by unfold iLV; split <;> rfl
set_option maxHeartbeats 4000000 in
theorem fi_l3 {β : Type} {f : Ex × St → Option β} {w : Option β} {x10 : V} {T : List Int} (hT : T.length ≤ 1000) {h : H} (ho : Rd h 1 x10 (T.map vi))
    (hend : ∀ s, f (.exit 6, ⟨s, h⟩) = w)
    (s0 : Sl) (g : Sees s0 [(10, x10), (19, iLV T), (20, vi 0)]) :
    ob (loopW (xcode (run XP) loopW 0 zml_) ⟨s0, h⟩) f = w := by
  refine zaw_ T (fun k s h' => Sees s [(10, x10), (19, iLV T), (20, vi k)] ∧ h' = h) ?_ ?_ _ _ ⟨g, rfl⟩
  · rintro B f' hB hf k e s h' he hk ⟨⟨e10, e19, e20, -⟩, rfl⟩ K
    have hlt : (k : Int) < T.length := by omega
    have hwr := zct_ (by omega : k < 100000000000)
    have hL := (iLV_rd h' T).toL
    obtain ⟨q, hq, hql⟩ := (iLV_rd h' T).at (i := k) (e := vi e) (by simp [he])
    obtain ⟨q2, hq2, hql2⟩ := ho.at (i := k) (e := vi e) (by simp [he])
    have hz : ∀ z : Int, (z != z) = false := fun z => by simp
    have hll : (T.map vi).length = T.length := by simp
    generalize T.map vi = TV at *
    simp (maxSteps := 1000000) -implicitDefEqProofs [hB, zml_, e10, e19, e20, hlt, hL, hll, hq, hql, hq2, hql2, hz, zan_, optEq]
    refine K _ _ ⟨?_, rfl⟩
    simp [e10, e19, hwr]
  · rintro B hB s h' ⟨⟨e10, e19, e20, -⟩, rfl⟩
    have hL := (iLV_rd h' T).toL
    have hll : (T.map vi).length = T.length := by simp
    generalize T.map vi = TV at *
    simp -implicitDefEqProofs [hB, zml_, e19, e20, hL, hll]
    exact hend _
set_option maxHeartbeats 4000000 in
theorem zckc_ {v : V} {ms : List MK} {t i : Int} (hv : ∀ h, Rd h 14 v (ms.map MK.val)) (hm : ∀ m ∈ ms, m.Ok)
    (hTr : ∀ h, run XP zmg_ [nl (sps ms)] h = some (iLV (trsF (winL (dsl (sps ms)))), h)) : run XP zib_ [v, vi t, vi i] [] = some (vb true, []) := by
  have hk := zcis_
  have f0 := fun h => zcja_ (h := h) (v := v) (ms := ms) (fun t => hv _) hm
  have av := (hv []).arg0
  have hti : ∀ e ∈ sps ms, e.Ti := fun e he => sps_ti he
  have hls := zzj_ ms
  have hr := zsc_ (sps ms)
  generalize sps ms = es at *
  have hdl := zsj_ es
  have hlw := fun h => zcjf_ (h := h) (v := nl es) (es := es) (fun h' _ => (nl_LV es).rd h') hti (by omega)
  have hW : (winL (dsl es)).length ≤ 1000 := Nat.le_trans (zbr_ _).length_le (by omega)
  have F : FiOk es (winL (dsl es)) := ⟨fun t i h => zcjl_ (fun _ => (nl_LV es).rd _) (fun e he => (hti e he).sm) (by omega), fun t h => run_Of h hti (by omega), fun t i => zcjv_ t i es, fun t => zcjx_ t es, hW, hti, fun e he => hti e (zng_ ((zbr_ _).subset he)), by omega⟩
  have hr2 := zsc_ (winL (dsl es))
  have hTl := zsp_ (winL (dsl es)) []
  rw [← trsF, List.length_nil, Nat.zero_add] at hTl
  have ha0 := zfg_ es
  generalize winL (dsl es) = W at *
  rw [run_eq, zbxc_]
  simp -implicitDefEqProofs [zic_, hk, f0, av, hr, hlw, hr2, ha0]
  refine fi_l0 (x7 := nl es) (p0 := (t, i)) hW ?_ _ (by simp)
  rintro s h x ⟨e7, e8, e9, e10, -⟩ c0 ho
  simp -implicitDefEqProofs [e7, e8, e9, e10]
  refine fi_l2 (T := trsF W) (x10 := x) F (LK := (t, i) :: W.map fun s => (s.tr, s.id)) (by simp; omega) ?_ _ _ (by simp [e7, e8, e9, e10]) c0 ho
  rintro s2 h2 ⟨q7, q10, -⟩ ho2
  have hrd := ho2.rd
  have hL1 := fun h => (iLV_rd h (trsF W)).toL
  have hL2 := hrd.toL
  have hi0 := zckb_ (trsF W)
  have hz : ∀ z : Int, (z != z) = false := fun z => by simp
  have hT2 : (trsF W).length ≤ 1000 := by omega
  have hl3 := fun {β : Type} {f : Ex × St → Option β} {w : Option β} hend s0 g => fi_l3 (β := β) (f := f) (w := w) hT2 hrd hend s0 g
  generalize (trsF W).map vi = TV at *
  simp -implicitDefEqProofs [q7, q10, hTr, hi0, hL1, hL2, hz, ha0]
  refine hl3 ?_ _ ?_
  · intro s3
    simp -implicitDefEqProofs
  · simp [q10]
end Go.Proofs.Sl
namespace Go.Proofs.Sl
theorem zst_ : ∀ (W : List SP) (ts : List Int), ts.Pairwise (· < ·) → W.Pairwise (fun a b => a.tr ≤ b.tr) → (∀ a ∈ ts, ∀ s ∈ W, a ≤ s.tr) →
    (W.foldl trF ts).Pairwise (· < ·) ∧ ∀ a, a ∈ W.foldl trF ts ↔ a ∈ ts ∨ ∃ s ∈ W, s.tr = a
  | [], ts, h1, _, _ => ⟨h1, fun a => by simp⟩
  | s :: r, ts, h1, h2, h3 => by
    rw [List.foldl_cons]
    obtain ⟨h4, h5⟩ := List.pairwise_cons.1 h2
    have hle : ∀ a ∈ ts, a ≤ s.tr := fun a ha => h3 a ha s List.mem_cons_self
    by_cases hl : ts.getLast? = some s.tr
    · have hm : s.tr ∈ ts := List.mem_of_getLast? hl
      rw [trF, if_pos hl]
      obtain ⟨i1, i2⟩ := zst_ r ts h1 h5 fun a ha x hx => h3 a ha x (List.mem_cons_of_mem _ hx)
      refine ⟨i1, fun a => ?_⟩
      rw [i2 a]
      constructor
      · rintro (h | ⟨x, hx, e⟩)
        · exact .inl h
        · exact .inr ⟨x, List.mem_cons_of_mem _ hx, e⟩
      · rintro (h | ⟨x, hx, e⟩)
        · exact .inl h
        · rcases List.mem_cons.1 hx with rfl | hx
          · exact .inl (e ▸ hm)
          · exact .inr ⟨x, hx, e⟩
    · rw [trF, if_neg hl]
      have hlt : ∀ a ∈ ts, a < s.tr := by
        intro a ha
        have hne : ts ≠ [] := by rintro rfl; simp at ha
        have hlast := List.getLast?_eq_some_getLast hne
        have hm := List.getLast_mem hne
        have h7 := hle _ hm
        have h8 : ts.getLast hne ≠ s.tr := fun e => hl (by rw [hlast, e])
        have h9 : a ≤ ts.getLast hne := by
          have e1 := List.dropLast_concat_getLast hne
          rw [← e1] at ha h1
          rcases List.mem_append.1 ha with ha | ha
          · have := (List.pairwise_append.1 h1).2.2 a ha (ts.getLast hne) (by simp)
            omega
          · simp at ha
            omega
        omega
      obtain ⟨i1, i2⟩ := zst_ r (ts ++ [s.tr]) (List.pairwise_append.2 ⟨h1, by simp, fun a ha b hb => by simp at hb; rw [hb]; exact hlt a ha⟩) h5 fun a ha x hx => by
        rcases List.mem_append.1 ha with ha | ha
        · exact h3 a ha x (List.mem_cons_of_mem _ hx)
        · simp at ha; rw [ha]; exact h4 x hx
      refine ⟨i1, fun a => ?_⟩
      rw [i2 a]
      constructor
      · rintro (h | ⟨x, hx, e⟩)
        · rcases List.mem_append.1 h with h | h
          · exact .inl h
          · simp at h; exact .inr ⟨s, List.mem_cons_self, h.symm⟩
        · exact .inr ⟨x, List.mem_cons_of_mem _ hx, e⟩
      · rintro (h | ⟨x, hx, e⟩)
        · exact .inl (List.mem_append_left _ h)
        · rcases List.mem_cons.1 hx with rfl | hx
          · exact .inl (List.mem_append_right _ (by simp [e]))
          · exact .inr ⟨x, hx, e⟩
def keyF (ks : List Int) (s : SP) : List Int := if s.tr ∈ ks then ks else ks ++ [s.tr]
def keysOf (es : List SP) : List Int := es.foldl keyF []
theorem zsu_ : ∀ (es : List SP) (ks : List Int), ks.Nodup → (es.foldl keyF ks).Nodup ∧ ∀ a, a ∈ es.foldl keyF ks ↔ a ∈ ks ∨ ∃ s ∈ es, s.tr = a
  | [], ks, h => ⟨h, fun a => by simp⟩
  | s :: r, ks, h => by
    rw [List.foldl_cons]
    have hk : (keyF ks s).Nodup ∧ ∀ a, a ∈ keyF ks s ↔ a ∈ ks ∨ s.tr = a := by
      rw [keyF]
      split
      · rename_i hm
        exact ⟨h, fun a => ⟨.inl, fun e => e.elim id fun e => e ▸ hm⟩⟩
      · rename_i hm
        refine ⟨List.nodup_append.2 ⟨h, by simp, fun a ha b hb => ?_⟩, fun a => by simp [eq_comm]⟩
        simp at hb
        rintro rfl
        exact hm (hb ▸ ha)
    obtain ⟨i1, i2⟩ := zsu_ r _ hk.1
    refine ⟨i1, fun a => ?_⟩
    rw [i2 a, hk.2 a]
    simp only [List.mem_cons, exists_eq_or_imp]
    constructor
    · rintro ((h | h) | h)
      · exact .inl h
      · exact .inr (.inl h)
      · exact .inr (.inr h)
    · rintro (h | h | h)
      · exact .inl (.inl h)
      · exact .inl (.inr h)
      · exact .inr h
def sortI (ks : List Int) : List Int := ks.mergeSort fun x y => decide (x ≤ y)
theorem zckd_ {ks : List Int} (h : ks.Nodup) : (sortI ks).Pairwise (· < ·) ∧ ∀ a, a ∈ sortI ks ↔ a ∈ ks := by
  have hp : (sortI ks).Perm ks := List.mergeSort_perm _ _
  have hs : (sortI ks).Pairwise fun x y => decide (x ≤ y) = true := List.pairwise_mergeSort (le := fun x y => decide (x ≤ y)) (fun a b c h1 h2 => by simp at *; omega) (fun a b => by simp; omega) ks
  have hn : (sortI ks).Nodup := hp.nodup_iff.2 h
  refine ⟨?_, fun a => hp.mem_iff⟩
  refine (hs.and hn).imp fun {a b} hab => ?_
  have h1 := of_decide_eq_true hab.1
  have h2 := hab.2
  omega
theorem inc_eq : ∀ {a b : List Int}, a.Pairwise (· < ·) → b.Pairwise (· < ·) → (∀ x, x ∈ a ↔ x ∈ b) → a = b
  | [], [], _, _, _ => rfl
  | [], y :: r, _, _, h => by have := (h y).2 List.mem_cons_self; simp at this
  | x :: r, [], _, _, h => by have := (h x).1 List.mem_cons_self; simp at this
  | x :: r, y :: q, h1, h2, h => by
    obtain ⟨p1, p2⟩ := List.pairwise_cons.1 h1
    obtain ⟨q1, q2⟩ := List.pairwise_cons.1 h2
    have hxy : x = y := by
      rcases List.mem_cons.1 ((h x).1 List.mem_cons_self) with e | e
      · exact e
      · rcases List.mem_cons.1 ((h y).2 List.mem_cons_self) with e' | e'
        · exact e'.symm
        · have := q1 x e
          have := p1 y e'
          omega
    subst hxy
    rw [inc_eq p2 q2 fun z => ?_]
    constructor
    · intro hz
      rcases List.mem_cons.1 ((h z).1 (List.mem_cons_of_mem _ hz)) with e | e
      · have := p1 z hz
        omega
      · exact e
    · intro hz
      rcases List.mem_cons.1 ((h z).2 (List.mem_cons_of_mem _ hz)) with e | e
      · have := q1 z hz
        omega
      · exact e
theorem zcke_ (es : List SP) : sortI (keysOf es) = trsF (winL (dsl es)) := by
  have hD := zsm_ es
  have hA := zni_ es
  have hW := zsn_ hD
  obtain ⟨k1, k2⟩ := zsu_ es [] (by simp)
  obtain ⟨s1, s2⟩ := zckd_ (ks := keysOf es) k1
  obtain ⟨t1, t2⟩ := zst_ (winL (dsl es)) [] List.Pairwise.nil (hW.imp fun {a b} h => by
    rcases cmp_id (Int.le_of_lt h) with h | h
    · omega
    · omega) (fun a ha => by simp at ha)
  refine inc_eq s1 t1 fun a => ?_
  rw [s2 a]
  have e1 : a ∈ keysOf es ↔ ∃ s ∈ es, s.tr = a := by
    have := k2 a
    simpa [keysOf] using this
  have e2 : a ∈ trsF (winL (dsl es)) ↔ ∃ s ∈ winL (dsl es), s.tr = a := by
    have := t2 a
    simpa [trsF] using this
  have e3 : a ∈ List.foldl trF [] (winL (dsl es)) ↔ ∃ s ∈ winL (dsl es), s.tr = a := e2
  rw [e1, e2]
  constructor
  · rintro ⟨s, hs, rfl⟩
    obtain ⟨d, hd, hc⟩ := hA.2 s hs
    obtain ⟨w, hw, hi, _⟩ := zka_ hD d hd
    exact ⟨w, hw, by rw [← hi.1, (zeb_ hc).1]⟩
  · rintro ⟨s, hs, rfl⟩
    exact ⟨s, zng_ ((zbr_ _).subset hs), rfl⟩
end Go.Proofs.Sl
namespace Go.Proofs.Sl
def mpK (ks : List Int) : List (Value × V) := ks.map fun a => (Value.int .i64 a, vb true)
theorem zbai_ (k : Int) : ∀ ks : List Int, mapPut (.int .i64 k) (vb true) (mpK ks) = some (mpK (if k ∈ ks then ks else ks ++ [k]))
  | [] => by simp [mpK, mapPut]
  | a :: r => by
    have ih := zbai_ k r
    simp only [mpK, List.map_cons, mapPut, keyEq, if_true, zab_]
    by_cases h : k = a
    · subst h
      simp
    · rw [show (k == a) = false by simpa using h]
      simp only [Bool.false_eq_true, if_false]
      rw [← mpK, ih, zab_]
      by_cases hr : k ∈ r
      · rw [if_pos hr, if_pos (List.mem_cons_of_mem _ hr)]
        rfl
      · rw [if_neg hr, if_neg (by simp [h, hr])]
        rfl
theorem zckf_ (b l : Nat) (h : H) (hb : b ≤ h.length) : run XP zqp_ [bsV b, .mref l] h = some (.fn zcy_ [] [.ptr h.length 0], h ++ [.box false [.mref l]]) := by
  rw [run_eq, zbwy_]
  simp -implicitDefEqProofs [ziz_, hb]
theorem zbaj_ : ∀ ks : List Int, intKs (mpK ks) = some ks
  | [] => rfl
  | k :: ks => by
    show ob (intKs (mpK ks)) (fun q => some (k :: q)) = _
    rw [zbaj_ ks, zab_]
theorem zckg_ {h : H} {b l : Nat} {ks : List Int} (hb : h[b]? = some (.box false [.mref l])) (hl : h[l]? = some (.mp (mpK ks))) (hn : ks.Nodup) (hlen : ks.length ≤ 1000) (hr : ∀ x ∈ ks, -9223372036854775808 ≤ x ∧ x < 9223372036854775808) :
    run XP zqo_ [.fn zcy_ [] [.ptr b 0]] h = some (if sortI ks = [] then vnil else .own 1 ((sortI ks).map vi), h) := by
  have hs : (sortI ks = []) ↔ ks = [] := ⟨fun e => List.eq_nil_of_length_eq_zero (by have := congrArg List.length e; rw [sortI, List.length_mergeSort] at this; simpa using this), fun e => by subst e; simp [sortI]⟩
  have key : zee_ zcy_ [.fn zcy_ [] [.ptr b 0]] h = some (zhf_ ks) := by
    unfold zee_
    simp only [if_true, hb, mapAt, hl, zab_, zbaj_]
    rw [if_pos ⟨hn, by omega, hr⟩]
  rw [run_eq, zbwx_, zab_]
  show ob (zee_ zcy_ [.fn zcy_ [] [.ptr b 0]] h) (fun v => some (v, h)) = _
  rw [key, zab_, zhf_]
  congr 2
  by_cases e : ks = []
  · rw [if_pos e, if_pos (hs.2 e)]
  · rw [if_neg e, if_neg fun q => e (hs.1 q)]
    rfl
theorem zbak_ (es : List SP) : (keysOf es).Nodup ∧ ∀ a, a ∈ keysOf es ↔ ∃ s ∈ es, s.tr = a := by
  obtain ⟨h1, h2⟩ := zsu_ es [] (by simp)
  exact ⟨h1, fun a => by simpa [keysOf] using h2 a⟩
theorem zbal_ : ∀ (es : List SP) (ks : List Int), (es.foldl keyF ks).length ≤ ks.length + es.length
  | [], ks => by simp
  | e :: es, ks => by
    have := zbal_ es (keyF ks e)
    have h2 : (keyF ks e).length ≤ ks.length + 1 := by
      unfold keyF
      split <;> simp
    simp only [List.foldl_cons, List.length_cons]
    omega
set_option maxHeartbeats 4000000 in
theorem zckh_ (h : H) {es : List SP} (hl : es.length ≤ 1000) (htr : ∀ s ∈ es, -9223372036854775808 ≤ s.tr ∧ s.tr < 9223372036854775808) : run XP zmg_ [nl es] h = some (iLV (sortI (keysOf es)), h) := by
  have hL := fun h => ((nl_LV es).rd h).toL
  rw [run_eq, zbwv_]
  simp -implicitDefEqProofs [zil_, hL]
  refine zaw_ es (fun k s h' => ∃ tl, Sees s [(3, .mref h.length), (7, nl es), (8, vi es.length), (9, vi k)] ∧ h' = h ++ (.mp (mpK (keysOf (es.take k))) :: tl)) ?_ ?_ _ _ ⟨[], by simp, by simp [keysOf, mpK]⟩
  · rintro B f' hB hf k e s h' he hk ⟨tl, ⟨e3, e7, e8, e9, -⟩, rfl⟩ K
    have hlt : (k : Int) < es.length := by omega
    have hpp := fun h => nl_at he h
    have hw := zct_ (by omega : k < 100000000000)
    have hup : keysOf (es.take (k + 1)) = keyF (keysOf (es.take k)) e := by
      rw [keysOf, List.take_add_one, he, List.foldl_append]
      rfl
    rw [hup] at K
    have hmp := zbai_ e.tr (keysOf (es.take k))
    rw [show (if e.tr ∈ keysOf (es.take k) then keysOf (es.take k) else keysOf (es.take k) ++ [e.tr]) = keyF (keysOf (es.take k)) e from rfl] at hmp
    generalize mpK (keyF (keysOf (es.take k)) e) = M2 at *
    generalize mpK (keysOf (es.take k)) = M1 at *
    obtain ⟨tr, id, par, rev, clk, kind, sv, vr, op, st, en, er, ats, lks, an, ln⟩ := e
    simp only [SP.v, V.cells] at hpp hmp
    simp (maxSteps := 1000000) -implicitDefEqProofs [hB, zqs_, e3, e7, e8, e9, hlt, hpp, xmput, mapAt, keyVal, V.closed, hmp]
    refine K _ _ ⟨_, ?_, rfl⟩
    simp [e3, e7, e8, hw]
  · rintro B hB s h' ⟨tl, ⟨e3, e7, e8, e9, -⟩, rfl⟩
    rw [List.take_of_length_le (Nat.le_refl _)]
    have hK := zckf_
    have hS := zckg_ (h := (h ++ (.mp (mpK (keysOf es)) :: tl)) ++ [.box false [.mref h.length]]) (b := h.length + (tl.length + 1)) (l := h.length) (ks := keysOf es) (by simp) (by simp) (zbak_ es).1 (by have := zbal_ es []; simp only [List.length_nil] at this; unfold keysOf; omega) (fun x hx => by
      obtain ⟨s, hs, rfl⟩ := ((zbak_ es).2 x).1 hx
      exact htr s hs)
    have hi : ∀ l : List Int, res0 (if l = [] then vnil else .own 1 (l.map vi)) = iLV l := fun l => by unfold iLV; split <;> rfl
    have hret : ∀ b g l, retV b g .v (iLV l) [] = some (iLV l, []) := fun b g l => by unfold iLV; split <;> simp
    have hi2 := hi (sortI (keysOf es))
    have hret2 := fun b g => hret b g (sortI (keysOf es))
    generalize (if sortI (keysOf es) = [] then vnil else V.own 1 ((sortI (keysOf es)).map vi)) = R at *
    generalize iLV (sortI (keysOf es)) = I at *
    generalize mpK (keysOf es) = M at *
    simp only [List.append_assoc, List.cons_append] at hS
    simp -implicitDefEqProofs [hB, zqs_, e3, e7, e8, e9, hK, hS, hi2, hret2]
theorem sps_tr {ms : List MK} (hm : ∀ m ∈ ms, m.Ok) : ∀ s ∈ sps ms, -9223372036854775808 ≤ s.tr ∧ s.tr < 9223372036854775808 := by
  intro s hs
  obtain ⟨m, hmem, rfl⟩ := List.mem_map.1 hs
  have := (hm m (List.mem_of_mem_take hmem)).a m.t (by simp)
  simp only [MK.sp]
  omega
theorem zcki_ {v : V} {ms : List MK} {t i : Int} (hv : ∀ h, Rd h 14 v (ms.map MK.val)) (hm : ∀ m ∈ ms, m.Ok) : run XP zib_ [v, vi t, vi i] [] = some (vb true, []) :=
  zckc_ hv hm fun h => by
    have := zzj_ ms
    rw [zckh_ h (by omega) (sps_tr hm), zcke_]
end Go.Proofs.Sl
