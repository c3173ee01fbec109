/- A part of the proof. -/
import Derived.Test.YtlhniejmohghgaaGreatSlL0
set_option linter.unusedVariables false
set_option linter.unusedSimpArgs false
set_option linter.unnecessarySimpa false
namespace Go.Proofs.Sl
theorem sameL_eq {L : List SP} (hL : ∀ a ∈ L, ∀ b ∈ L, cmpS a b = 0 → a = b) : ∀ {x y : List SP}, sameL x y = true → (∀ a ∈ x, a ∈ L) → (∀ a ∈ y, a ∈ L) → x = y
  | [], [], _, _, _ => rfl
  | a :: x, b :: y, h, hx, hy => by
    rw [sameL, Bool.and_eq_true, beq_iff_eq] at h
    rw [hL a (hx a (by simp)) b (hy b (by simp)) h.1, sameL_eq hL h.2 (fun c hc => hx c (by simp [hc])) (fun c hc => hy c (by simp [hc]))]
  | [], b :: y, h, _, _ => by simp [sameL] at h
  | a :: x, [], h, _, _ => by simp [sameL] at h
theorem str_inj {l : List SP} (h : Str l) : ∀ a ∈ l, ∀ b ∈ l, cmpS a b = 0 → a = b := by
  intro a ha b hb hc
  obtain ⟨i, hi, rfl⟩ := List.getElem_of_mem ha
  obtain ⟨j, hj, rfl⟩ := List.getElem_of_mem hb
  rcases Nat.lt_trichotomy i j with hij | hij | hij
  · have := List.pairwise_iff_getElem.1 h i j hi hj hij
    omega
  · subst hij; rfl
  · have := List.pairwise_iff_getElem.1 h j i hj hi hij
    have h2 := csym hc
    omega
theorem dst_of_str {l : List SP} (h : Str l) : dst l = l := sameL_eq (str_inj h) (same_of (dst_str l) h (dst_alk l)) (fun _ => dst_mem) (fun _ h => h)
/-- The cell that holds a partition's blocks. -/
def PB (c : V) (bs : List (List SP)) : Prop := (c = vnil ∧ bs = []) ∨ c = .own 1 (bs.map bkV)
/-- A partition. -/
def PO (h : H) (l : Nat) (n : Int) (s : Bool) (bs : List (List SP)) : Prop := ∃ c, h[l]? = some (.box false [vi n, vb s, c]) ∧ PB c bs
theorem PO.app {h : H} {l : Nat} {n : Int} {s : Bool} {bs : List (List SP)} (p : PO h l n s bs) (t : H) : PO (h ++ t) l n s bs := by
  obtain ⟨c, h1, h2⟩ := p
  exact ⟨c, by rw [List.getElem?_append_left (List.getElem?_eq_some_iff.1 h1).1]; exact h1, h2⟩
/-- What a partition has, in order. -/
def recs (bs : List (List SP)) : List SP := dst bs.flatten
theorem recs_str (bs : List (List SP)) : Str (recs bs) := dst_str _
structure Bks (bs : List (List SP)) : Prop where
  bk : ∀ b ∈ bs, ∀ e ∈ b, e.Bk
  n : bs.length ≤ 1000
  l : bs.flatten.length ≤ 100000
theorem Bks.mem {bs : List (List SP)} (h : Bks bs) {e : SP} (he : e ∈ bs.flatten) : e.Bk := by
  obtain ⟨b, hb, hbe⟩ := List.mem_flatten.1 he
  exact h.bk b hb e hbe
theorem run_pRecords {h : H} {l : Nat} {n : Int} {s : Bool} {bs : List (List SP)} (p : PO h l n s bs) (hb : Bks bs) : run XP i_partition_Partition_Records [.ptr l 0] h = some (nl (recs bs), h) := by
  obtain ⟨c, h1, h2⟩ := p
  have hr0 := nl_res0 (recs bs)
  have hrr := nl_ret h.length h (recs bs)
  rw [run_eq, xp_partition_Partition_Records]
  rcases h2 with ⟨rfl, rfl⟩ | rfl
  · have hR := fun h => run_records (h := h) (v := vnil) (bs := []) (fun t => .nil) hb.bk hb.n hb.l
    simp only [recs] at hr0 hrr ⊢
    simp -implicitDefEqProofs [x_partition_Partition_Records, h1, hR, nl_res0, nl_ret]
  · have hR := fun h => run_records (h := h) (v := .lst 1 (bs.map bkV)) (bs := bs) (fun t => .lst _) hb.bk hb.n hb.l
    simp only [recs] at hr0 hrr ⊢
    simp -implicitDefEqProofs [x_partition_Partition_Records, h1, hR, nl_res0, nl_ret]
def fgn (n : Int) (a : SP) : Bool := (a.tr.fdiv 1048576).fdiv 16 != n
theorem run_Part' (h : H) (n : Int) : run XP i_span_Partition [vi n] h = some (vi ((n.fdiv 1048576).fdiv 16), h) := by
  have := run_Part h n
  rw [this]
theorem run_foreign {h : H} {l : Nat} {n : Int} {s : Bool} {bs : List (List SP)} (p : PO h l n s bs) (a : SP) : run XP i_partition_Partition_foreign [.ptr l 0, a.v] h = some (vb (fgn n a), h) := by
  obtain ⟨c, h1, h2⟩ := p
  have hP := fun h => run_Part' h a.tr
  have h3 : ∀ t, (h ++ t)[l]? = some (.box false [vi n, vb s, c]) := fun t => by rw [List.getElem?_append_left (List.getElem?_eq_some_iff.1 h1).1]; exact h1
  rw [run_eq, xp_partition_Partition_foreign]
  simp -implicitDefEqProofs [x_partition_Partition_foreign, SP.v, hP, h3, fgn, same_self, optEq]
theorem run_Ins1 {h : H} {q : Nat} {z : Bool} {D : List SP} (hq : h[q]? = some (.box z [nl D])) (hD : ∀ d ∈ D, d.Sm) (hs : Str D) {e : SP} (he : e.Sm) (hl : D.length ≤ 100000) : run XP i_partition_Partition_Insert_1 [e.v, .ptr q 0] h = some (vb (inS D e), h) := by
  have h3 : ∀ t, (h ++ t)[q]? = some (.box z [nl D]) := fun t => by rw [List.getElem?_append_left (List.getElem?_eq_some_iff.1 hq).1]; exact hq
  have hB := fun h => run_BSS h (v := nl D) (e := e) (fun t => (nl_LV D).rd _) hD he hl
  rw [fndS_in hs] at hB
  have n1 := nl_plain D
  rw [run_eq, xp_partition_Partition_Insert_1]
  simp only [SP.v] at hB
  simp -implicitDefEqProofs [x_partition_Partition_Insert_1, SP.v, h3, hB, n1]
theorem Insert_l0 {β : Type} {f : Ex × St → Option β} {w : Option β} {base : Nat} {h : H} {v x : V} {es : List SP} (hv : ∀ t, Rd (h ++ t) 14 v (es.map SP.v)) (hs : ∀ e ∈ es, e.Sz) (hl : es.length ≤ 100000)
    (hret : ∀ s t, Sees s [(4, vi 0), (5, vi (chkF es))] → chkF es ≠ 0 → f (.ret, ⟨s, h ++ t⟩) = w)
    (hend : ∀ s t, Sees s [(0, x), (1, v)] → chkF es = 0 → f (.exit 1, ⟨s, h ++ t⟩) = w)
    (s0 : Sl) (g : Sees s0 [(0, x), (1, v), (21, v), (22, vi es.length), (23, vi 0)]) : ob (loopW (xcode (run XP) loopW base x_partition_Partition_Insert_l0) ⟨s0, h⟩) f = w := by
  refine loop_list es (fun k s h' => ∃ t, h' = h ++ t ∧ Sees s [(0, x), (1, v), (21, v), (22, vi es.length), (23, vi k)] ∧ chkF es = chkF (es.drop k)) ?_ ?_ _ _ ⟨[], by simp, by simpa using g, rfl⟩
  · rintro B f' hB hf k e s h' he hk ⟨t, rfl, ⟨h0, h1, h12, h13, h14, -⟩, hx⟩ K
    have hlt : (k : Int) < es.length := by omega
    have hm := List.mem_of_getElem? he
    obtain ⟨q, hq, hld⟩ := (hv t).at (i := k) (e := e.v) (by simp [he])
    have hck := fun h => run_Check h (hs e hm)
    have w0 : IntKind.i64.wrap ((k : Int) + 1) = (k : Int) + 1 := wrap_i64 (by omega) (by omega)
    rw [drop_at he, chkF] at hx
    simp only [SP.v, V.cells] at hld hck
    by_cases hc : chkSp e = 0
    · rw [if_neg (by simpa using hc)] at hx
      rw [hc] at hck
      simp -implicitDefEqProofs [hB, x_partition_Partition_Insert_l0, h0, h1, h12, h13, h14, hlt, hq, hld, hck]
      refine K _ _ ⟨_, rfl, ?_, hx⟩
      simp [h0, h1, h12, h13, w0]
    · rw [if_pos hc] at hx
      have hr := fun s t g => hret s t g (by rw [hx]; exact hc)
      rw [hx] at hr
      generalize chkSp e = z at *
      have hnz : (z != 0) = true := by simpa using hc
      simp -implicitDefEqProofs [hB, hf, hnz, x_partition_Partition_Insert_l0, h0, h1, h12, h13, h14, hlt, hq, hld, hck, hc]
      refine hr _ _ ?_
      simp
  · rintro B hB s h' ⟨t, rfl, ⟨h0, h1, h12, h13, h14, -⟩, hx⟩
    rw [List.drop_of_length_le (Nat.le_refl _)] at hx
    simp -implicitDefEqProofs [hB, x_partition_Partition_Insert_l0, h13, h14]
    exact hend _ t (by simp [h0, h1]) hx
/-- What insertion does: how many, the error, the blocks behind it. -/
def more (bs : List (List SP)) (es : List SP) : List SP := (dst es).filter fun e => !inS (recs bs) e
def insR (n : Int) (s : Bool) (bs : List (List SP)) (es : List SP) : Int × Int × List (List SP) :=
  if s = true then (0, 31, bs) else if chkF es ≠ 0 then (0, chkF es, bs) else if es.any (fgn n) = true then (0, 17, bs) else
  if blE (more bs es) ≠ 0 then (0, blE (more bs es), bs) else if more bs es = [] then (0, 0, bs) else if 64 ≤ bs.length then (0, 6, bs) else ((more bs es).length, 0, bs ++ [more bs es])
theorem more_str (bs : List (List SP)) (es : List SP) : Str (more bs es) := List.Pairwise.sublist List.filter_sublist (dst_str es)
theorem more_mem {bs : List (List SP)} {es : List SP} {a : SP} (h : a ∈ more bs es) : a ∈ es := dst_mem (List.mem_filter.1 h).1
theorem more_len (bs : List (List SP)) (es : List SP) : (more bs es).length ≤ es.length := Nat.le_trans (List.length_filter_le _ _) (dst_length es)
end Go.Proofs.Sl

namespace Go.Proofs.Sl
theorem PO.get {h : H} {l : Nat} {c : V} {n : Int} {s : Bool} (h1 : h[l]? = some (.box false [vi n, vb s, c])) (t : H) : (h ++ t)[l]? = some (.box false [vi n, vb s, c]) := by
  rw [List.getElem?_append_left (List.getElem?_eq_some_iff.1 h1).1]
  exact h1
theorem ow_nil : ow [] = vnil := rfl
theorem recs_len {bs : List (List SP)} (hb : Bks bs) : (recs bs).length ≤ 100000 := Nat.le_trans (dst_length _) hb.l
/-- Behind the deletion: the new records, as a slice, and the heap. -/
theorem more_SA {h : H} {q : Nat} {bs : List (List SP)} {es : List SP} (hq : h[q]? = some (.box false [nl (recs bs)])) (hb : Bks bs) (hes : ∀ e ∈ es, e.Bk) (hl : es.length ≤ 100000) :
    ∃ y X x t1 t2 t3, resM h (ow (dst es)) = some (y, h ++ t1) ∧ arg0 y = some y ∧ run XP i_slices_DeleteFunc_api_Span_api_Span [y, .fn i_partition_Partition_Insert_1 [] [.ptr q 0]] (h ++ t1) = some (X, h ++ t2) ∧ res0 X = x ∧ SA (h ++ t2) (h ++ t3) x (more bs es) := by
  have hql := (List.getElem?_eq_some_iff.1 hq).1
  have hrl := recs_len hb
  have hin : ∀ e ∈ es, ∀ t, run XP i_partition_Partition_Insert_1 [e.v, .ptr q 0] (h ++ t) = some (vb (inS (recs bs) e), h ++ t) := fun e he t =>
    run_Ins1 (by rw [List.getElem?_append_left hql]; exact hq) (fun d hd => (hb.mem (dst_mem hd)).sm) (recs_str bs) (hes e he).sm hrl
  by_cases he : dst es = []
  · have hI : run XP i_slices_DeleteFunc_api_Span_api_Span [vnil, .fn i_partition_Partition_Insert_1 [] [.ptr q 0]] (h ++ []) = some (vnil, h ++ []) := by
      have h1 : run XP i_slices_IndexFunc_api_Span_api_Span [vnil, .fn i_partition_Partition_Insert_1 [] [.ptr q 0]] (h ++ []) = some (vi (-1), h ++ []) := run_IndexFS (h := h ++ []) (v := vnil) (es := []) (f := i_partition_Partition_Insert_1) (a := []) (b := [.ptr q 0]) (p := fun _ => false) .nil (fun e he => by simp at he) (fun e he => by simp at he) (Nat.zero_le _)
      rw [List.append_nil] at h1 ⊢
      rw [run_eq, xp_slices_DeleteFunc_api_Span_api_Span]
      simp -implicitDefEqProofs [x_slices_DeleteFunc_api_Span_api_Span, h1]
    have hm : more bs es = [] := by rw [more, he]; rfl
    refine ⟨vnil, vnil, vnil, [], [], [], ?_, rfl, hI, rfl, ?_⟩
    · rw [he, ow_nil, resM_s, List.append_nil]
    · rw [hm]
      exact .lst (.inl ⟨rfl, rfl⟩) _
  · have hr : resM h (ow (dst es)) = some (.ref h.length (dst es).length, h ++ [.arr false 14 ((dst es).map SP.v)]) := by
      rw [ow, if_neg he, resM_own, List.length_map]
    have hget : (h ++ [O.arr false 14 ((dst es).map SP.v)])[h.length]? = some (.arr false 14 ((dst es).map SP.v)) := by simp
    have hset : ∀ o : O, (h ++ [O.arr false 14 ((dst es).map SP.v)]).set h.length o = h ++ [o] := fun o => by simp
    obtain ⟨r, hr1, hr2⟩ := run_DeleteS (f := i_partition_Partition_Insert_1) (a := []) (b := [.ptr q 0]) (p := fun e => inS (recs bs) e) hget rfl (fun _ _ => rfl) (fun e hm o t => by
      rw [hset, List.append_assoc]
      exact hin e (dst_mem hm) _) (by have := dst_length es; omega)
    rcases hr2 with ⟨rfl, hf⟩ | ⟨o, rfl⟩
    · have hm : more bs es = dst es := hf
      have sa := SA.ref hget
      rw [hset] at sa
      refine ⟨_, _, _, _, _, [.arr true 14 ((dst es).map SP.v)], hr, rfl, hr1, rfl, ?_⟩
      rw [hm]
      exact sa
    · rw [hset] at hr1
      exact ⟨_, _, _, _, _, _, hr, rfl, hr1, rfl, .lst (.inr rfl) _⟩
set_option maxHeartbeats 2000000 in
theorem run_Insert {h : H} {l : Nat} {n : Int} {s : Bool} {bs : List (List SP)} (p : PO h l n s bs) (hb : Bks bs) {v : V} {es : List SP} (lv : LV v es) (hes : ∀ e ∈ es, e.Bk) (hsz : ∀ e ∈ es, e.Sz) (hl : es.length ≤ 100000) :
    ∃ h', run XP i_partition_Partition_Insert [.ptr l 0, v] h = some (.tup [vi (insR n s bs es).1, vi (insR n s bs es).2.1], h') ∧ PO h' l n s (insR n s bs es).2.2 ∧ (h' = h ∨ ∃ o, h' = h.set l o) := by
  obtain ⟨c, hbx, hc⟩ := p
  have hlt := (List.getElem?_eq_some_iff.1 hbx).1
  have hget := PO.get hbx
  have hsa := SA.lst lv
  have hL := fun h => (lv.rd h).toL
  have ha0 := (hsa h).a0
  have hfor : ∀ h' a, h'[l]? = some (.box false [vi n, vb s, c]) → run XP i_partition_Partition_foreign [.ptr l 0, a] h' = run XP i_partition_Partition_foreign [.ptr l 0, a] h' := fun _ _ _ => rfl
  unfold insR
  cases s with
  | true =>
    refine ⟨h, ?_, ⟨c, hbx, hc⟩, .inl rfl⟩
    rw [run_eq, xp_partition_Partition_Insert]
    simp -implicitDefEqProofs [x_partition_Partition_Insert, hbx, hL]
  | false =>
    rw [if_neg (by simp)]
    by_cases hz : chkF es = 0
    · rw [if_neg (by simpa using hz)]
      have hC := fun t => run_ContFS (h := h ++ t) (v := v) (es := es) (f := i_partition_Partition_foreign) (a := [.ptr l 0]) (b := []) (p := fgn n) (lv.rd _) rfl (fun _ _ => rfl) (fun e _ => run_foreign (n := n) (s := false) (bs := bs) ⟨c, hget t, hc⟩ e) hl
      cases hf : es.any (fgn n) with
      | true =>
        rw [hf] at hC
        refine ⟨h, ?_, ⟨c, hbx, hc⟩, .inl rfl⟩
        rw [run_eq, xp_partition_Partition_Insert]
        simp -implicitDefEqProofs [x_partition_Partition_Insert, hbx, hL]
        refine Insert_l0 (x := .ptr l 0) (v := v) (es := es) (fun t => lv.rd _) hsz hl ?_ ?_ _ ?_
        · rintro s t _ h0
          exact absurd hz h0
        · rintro s t ⟨g0, g1, -⟩ _
          simp -implicitDefEqProofs [g0, g1, ha0, hC]
        · simp
      | false =>
        rw [hf] at hC
        rw [if_neg (by simp)]
        have hmb : ∀ e ∈ more bs es, e.Bk := fun e he => hes e (more_mem he)
        have hmz : ∀ e ∈ more bs es, e.Sz := fun e he => hsz e (more_mem he)
        have hml : (more bs es).length ≤ 100000 := Nat.le_trans (more_len bs es) hl
        have hmd := dst_of_str (more_str bs es)
        suffices key : run XP i_partition_Partition_Insert [.ptr l 0, v] h = some (.tup [vi (if blE (more bs es) ≠ 0 then 0 else if more bs es = [] then 0 else if 64 ≤ bs.length then 0 else (more bs es).length), vi (if blE (more bs es) ≠ 0 then blE (more bs es) else if more bs es = [] then 0 else if 64 ≤ bs.length then 6 else 0)],
            if blE (more bs es) ≠ 0 then h else if more bs es = [] then h else if 64 ≤ bs.length then h else h.set l (.box false [vi n, vb false, .own 1 ((bs ++ [more bs es]).map bkV)])) by
          by_cases c1 : blE (more bs es) ≠ 0
          · simp only [if_pos c1] at key ⊢
            exact ⟨h, key, ⟨c, hbx, hc⟩, .inl rfl⟩
          · simp only [if_neg c1] at key ⊢
            by_cases c2 : more bs es = []
            · simp only [if_pos c2] at key ⊢
              exact ⟨h, key, ⟨c, hbx, hc⟩, .inl rfl⟩
            · simp only [if_neg c2] at key ⊢
              by_cases c3 : 64 ≤ bs.length
              · simp only [if_pos c3] at key ⊢
                exact ⟨h, key, ⟨c, hbx, hc⟩, .inl rfl⟩
              · simp only [if_neg c3] at key ⊢
                exact ⟨_, key, ⟨_, List.getElem?_set_self hlt, .inr rfl⟩, .inr ⟨_, rfl⟩⟩
        have hRec := fun t => run_pRecords (h := h ++ t) ⟨c, hget t, hc⟩ hb
        rw [run_eq, xp_partition_Partition_Insert]
        simp -implicitDefEqProofs [x_partition_Partition_Insert, hbx, hL]
        refine Insert_l0 (x := .ptr l 0) (v := v) (es := es) (fun t => lv.rd _) hsz hl ?_ ?_ _ ?_
        · rintro s t _ h0
          exact absurd hz h0
        · rintro s t ⟨g0, g1, -⟩ _
          obtain ⟨y, X, x, t1, t2, t3, e1, e2, e3, e4, sa⟩ := more_SA (h := h ++ (t ++ [.box false [nl (recs bs)]])) (q := h.length + t.length) (bs := bs) (es := es) (by simp) hb hes hl
          have hS := (SA.lst lv (h ++ (t ++ [.box false [nl (recs bs)]]))).set (fun e he => (hes e he).sm) hl []
          have hBl := run_Build sa hmb hmz hml
          obtain ⟨t4, ht4, hrd⟩ : ∃ t4, (if blE0 (more bs es) ≠ 0 then h ++ (t ++ [.box false [nl (recs bs)]]) ++ t2 else h ++ (t ++ [.box false [nl (recs bs)]]) ++ t3) = h ++ t4 ∧ ∀ t, Rd (h ++ (t4 ++ t)) 14 x ((more bs es).map SP.v) := by
            split
            · exact ⟨_, by rw [List.append_assoc], fun t => by have := sa.rd t; simpa only [List.append_assoc] using this⟩
            · exact ⟨_, by rw [List.append_assoc], fun t => by have := sa.rd2 t; simpa only [List.append_assoc] using this⟩
          rw [ht4] at hBl
          have ha1 := sa.a0
          have hxL := fun t => (hrd t).toL
          have hxL0 := hxL []
          rw [List.append_nil] at hxL0
          rw [List.append_nil] at hS
          simp only [List.append_assoc, List.cons_append, List.nil_append] at e1 e3 hBl hS
          have n1 := nl_plain (recs bs)
          rw [blV, hmd] at hBl
          generalize recs bs = D at *
          generalize blE (more bs es) = z at *
          generalize more bs es = m at *
          have hsl : ∀ (o : O) (r : H), (h ++ r).set l o = h.set l o ++ r := fun o r => List.set_append_left _ _ hlt
          have hgs : ∀ (o : O) (r : H), (h.set l o ++ r)[l]? = some o := fun o r => by rw [List.getElem?_append_left (by simpa using hlt), List.getElem?_set_self hlt]
          have hss : ∀ (o o2 : O) (r : H), (h.set l o ++ r).set l o2 = h.set l o2 ++ r := fun o o2 r => by rw [List.set_append_left _ _ (by simpa using hlt), List.set_set]
          have hxs : ∀ (o : O) (r : H), V.toL (h.set l o ++ (t4 ++ r)) x = some (m.map SP.v) := fun o r => by
            have := (hrd r).setBox (c := o) (hget (t4 ++ r))
            rw [hsl] at this
            exact this.toL
          by_cases cz : z = 0
          · subst cz
            rw [if_pos rfl] at hBl
            simp only [bkV] at hBl
            by_cases c2 : m = []
            · have hm0 : m.length = 0 := by rw [c2]; rfl
              simp -implicitDefEqProofs [g0, g1, ha0, hC, hRec, nl_res0, n1, hS, e1, e2, e3, e4, hBl, ha1, hxL0, hm0, c2]
            · have hm0 : ((m.length : Int) == 0) = false := by
                have : m.length ≠ 0 := by simpa using c2
                simp only [beq_eq_false_iff_ne, ne_eq]
                omega
              rcases hc with ⟨rfl, rfl⟩ | rfl
              · simp -implicitDefEqProofs [g0, g1, ha0, hC, hRec, nl_res0, n1, hS, e1, e2, e3, e4, hBl, ha1, hxL, hxL0, hm0, c2, hget, hsl, hgs, hss, hxs, bkV, V.closed]
              · by_cases c3 : 64 ≤ bs.length
                · have c3' : (64 : Int) ≤ bs.length := by omega
                  simp -implicitDefEqProofs [g0, g1, ha0, hC, hRec, nl_res0, n1, hS, e1, e2, e3, e4, hBl, ha1, hxL, hxL0, hm0, c2, hget, c3, c3']
                · have c3' : ¬ (64 : Int) ≤ bs.length := by omega
                  have c4 : bs.length + 1 ≤ 17592186044416 := by omega
                  simp -implicitDefEqProofs [g0, g1, ha0, hC, hRec, nl_res0, n1, hS, e1, e2, e3, e4, hBl, ha1, hxL, hxL0, hm0, c2, hget, hsl, hgs, hss, hxs, c3, c3', c4, bkV, V.closed]
          · rw [if_neg cz] at hBl
            have hnz : (z != 0) = true := by simpa using cz
            simp -implicitDefEqProofs [g0, g1, ha0, hC, hRec, nl_res0, n1, hS, e1, e2, e3, e4, hBl, ha1, hnz, cz]
        · simp
    · rw [if_pos hz]
      refine ⟨h, ?_, ⟨c, hbx, hc⟩, .inl rfl⟩
      rw [run_eq, xp_partition_Partition_Insert]
      simp -implicitDefEqProofs [x_partition_Partition_Insert, hbx, hL]
      refine Insert_l0 (x := .ptr l 0) (v := v) (es := es) (fun t => lv.rd _) hsz hl ?_ ?_ _ ?_
      · rintro s t ⟨g4, g5, -⟩ _
        simp -implicitDefEqProofs [g4, g5]
      · rintro s t _ h0
        exact absurd h0 hz
      · simp
end Go.Proofs.Sl

namespace Go.Proofs.Sl
theorem xun_xor32 (n : Int) : xun .xor (vk .u32 n) = some (vk .u32 (xorI .u32 4294967295 n)) := by
  simp only [xun, intOp, xorI]
  rfl
theorem intOp_xor32 (n : Int) : intOp .xor .u32 (if IntKind.u32.signed = true then -1 else IntKind.u32.max) n = some (.int .u32 (xorI .u32 4294967295 n)) := by
  simp only [intOp, xorI]
  rfl
def zbF (r : Int) : Int := if (andI .u32 r 1 == 1) = true then xorI .u32 (r.fdiv (2 ^ min 1 IntKind.u32.bits)) 2197175160 else r.fdiv (2 ^ min 1 IntKind.u32.bits)
theorem run_zeroBit (h : H) (r : Int) : run XP i_checksum_zeroBit [vk .u32 r] h = some (vk .u32 (zbF r), h) := by
  rw [run_eq, xp_checksum_zeroBit, zbF]
  cases hc : (andI .u32 r 1 == 1) with
  | true => simp -implicitDefEqProofs [x_checksum_zeroBit, hc]
  | false => simp -implicitDefEqProofs [x_checksum_zeroBit, hc]
def itF : Nat → Int → Int
  | 0, r => r
  | n + 1, r => itF n (zbF r)
theorem Ext_l0 {β : Type} {f : Ex × St → Option β} {w : Option β} {base : Nat} {h : H} {r : Int} {t : V} {n k : V} {z y : V}
    (hend : ∀ s, Sees s [(1, t), (5, vk .u32 (itF 8 r)), (10, n), (11, k)] → f (.exit 2, ⟨s, h⟩) = w)
    (s0 : Sl) (g : Sees s0 [(1, t), (5, vk .u32 r), (10, n), (11, k), (20, vi 0)]) : ob (loopW (xcode (run XP) loopW base x_checksum_Extend_l0) ⟨s0, h⟩) f = w := by
  refine loop_up 8 (fun i s h' => h' = h ∧ ∃ q, Sees s [(1, t), (5, vk .u32 q), (10, n), (11, k), (20, vi i)] ∧ itF 8 r = itF (8 - i) q) ?_ ?_ _ _ ⟨rfl, r, by simpa using g, rfl⟩
  · rintro B f' hB hf i s h' hi ⟨rfl, q, ⟨g1, g5, g10, g11, g20, -⟩, hx⟩ K
    have hlt : (i : Int) < 8 := by omega
    have hz := fun h => run_zeroBit h q
    have hw : IntKind.i64.wrap ((i : Int) + 1) = (i : Int) + 1 := wrap_i64 (by omega) (by omega)
    rw [show 8 - i = (8 - (i + 1)) + 1 by omega, itF] at hx
    simp -implicitDefEqProofs [hB, x_checksum_Extend_l0, g1, g5, g10, g11, g20, hlt, hz]
    refine K _ _ ⟨rfl, zbF q, ?_, hx⟩
    simp [g1, g10, g11, hw]
  · rintro B hB s h' ⟨rfl, q, ⟨g1, g5, g10, g11, g20, -⟩, hx⟩
    have hx : itF 8 r = q := hx
    rw [← hx] at g5
    simp -implicitDefEqProofs [hB, x_checksum_Extend_l0, g20]
    exact hend _ (by simp [g1, g5, g10, g11])
def exF : Int → List UInt8 → Int
  | r, [] => r
  | r, b :: l => exF (itF 8 (xorI .u32 r b.toNat)) l
def extF (r : Int) (l : List UInt8) : Int := xorI .u32 4294967295 (exF (xorI .u32 4294967295 r) l)
theorem wrap_u32 (n : Int) : IntKind.u32.wrap n = n % 4294967296 := rfl
theorem wrapb (c : UInt8) : IntKind.u32.wrap (c.toNat : Int) = (c.toNat : Int) := by
  have := c.toNat_lt
  rw [wrap_u32]
  omega
theorem run_Extend (h : H) (sum : Int) (s : ByteArray) (hs : s.size ≤ 9223372036854775807) : run XP i_checksum_Extend [vk .u32 sum, vs s] h = some (vk .u32 (extF sum (bts s)), h) := by
  have hx0 := xun_xor32
  have hx1 := intOp_xor32
  have hlen := bts_length s
  rw [run_eq, xp_checksum_Extend]
  simp -implicitDefEqProofs [x_checksum_Extend, ↓hx0, ↓hx1]
  refine loop_list (bts s) (fun k s' h' => h' = h ∧ ∃ r, Sees s' [(1, vs s), (5, vk .u32 r), (10, vi s.size), (11, vi k)] ∧ exF (xorI .u32 4294967295 sum) (bts s) = exF r ((bts s).drop k)) ?_ ?_ _ _ ⟨rfl, _, by simp, rfl⟩
  · rintro B f' hB hf k c s' h' he hk ⟨rfl, r, ⟨g1, g5, g10, g11, -⟩, hx⟩ K
    have hlt : (k : Int) < s.size := by omega
    have hd := bts_get he
    have hw : IntKind.i64.wrap ((k : Int) + 1) = (k : Int) + 1 := wrap_i64 (by omega) (by omega)
    have hwc := wrapb c
    rw [drop_at he, exF] at hx
    simp -implicitDefEqProofs [hB, x_checksum_Extend_l1, g1, g5, g10, g11, hlt, hd, hwc]
    refine Ext_l0 (t := vs s) (n := vi s.size) (k := vi k) (r := xorI .u32 r c.toNat) (z := .u) (y := .u) ?_ _ ?_
    · rintro s2 ⟨e1, e5, e10, e11, -⟩
      simp -implicitDefEqProofs [e11]
      refine K _ _ ⟨rfl, _, ?_, hx⟩
      simp [e1, e5, e10, hw]
    · simp [g1, g10, g11]
  · rintro B hB s' h' ⟨rfl, r, ⟨g1, g5, g10, g11, -⟩, hx⟩
    rw [List.drop_of_length_le (Nat.le_refl _)] at hx
    have hx : exF (xorI .u32 4294967295 sum) (bts s) = r := hx
    rw [hlen] at g11
    simp -implicitDefEqProofs [hB, x_checksum_Extend_l1, g5, g10, g11, ↓hx0, ↓hx1, extF, hx]
theorem run_Sum (h : H) (s : ByteArray) (hs : s.size ≤ 9223372036854775807) : run XP i_checksum_Sum [vs s] h = some (vk .u32 (extF 0 (bts s)), h) := by
  have h1 := fun h => run_Extend h 0 s hs
  rw [run_eq, xp_checksum_Sum]
  simp -implicitDefEqProofs [x_checksum_Sum, h1]
/-! ### Links -/
def b8 (x : Int) : Int := IntKind.u8.wrap x
def hdP (p : Int) (i : Nat) : Int := b8 (p.fdiv (2 ^ min (8 * i) IntKind.u32.bits))
def hdN (n : Nat) (i : Nat) : Int := b8 ((n : Int).fdiv (2 ^ min (8 * i) IntKind.u64.bits))
def hdL (p : Int) (n k : Nat) : List Int := (List.range (min k 4)).map (hdP p) ++ (List.range (k - 4)).map (hdN n)
def hdB (p : Int) (n : Nat) : List UInt8 := (hdL p n 12).map fun x => UInt8.ofNat x.toNat
def lnkF (p : Int) (r : List UInt8) : Int := extF (extF 0 (hdB p r.length)) r
theorem bytesOf_u8 : ∀ l : List Int, bytesOf (l.map (vk .u8)) = some (l.map fun x => UInt8.ofNat x.toNat)
  | [] => rfl
  | x :: l => by
    rw [List.map_cons, bytesOf, bytesOf_u8 l]
    rfl
theorem closeds_u8 : ∀ l : List Int, V.closed.closeds (l.map (vk .u8)) = true
  | [] => rfl
  | x :: l => by rw [List.map_cons, V.closed.closeds, closeds_u8 l]; rfl
theorem hdL_len (p : Int) (n k : Nat) : (hdL p n k).length = k := by simp [hdL]; omega
theorem hdL_lo {p : Int} {n k : Nat} (h : k < 4) : hdL p n (k + 1) = hdL p n k ++ [hdP p k] := by
  simp only [hdL]
  rw [show min (k + 1) 4 = min k 4 + 1 by omega, show k + 1 - 4 = 0 by omega, show k - 4 = 0 by omega, List.range_succ]
  simp [show min k 4 = k by omega]
theorem hdL_hi {p : Int} {n k : Nat} : hdL p n (4 + k + 1) = hdL p n (4 + k) ++ [hdN n k] := by
  simp only [hdL]
  rw [show min (4 + k + 1) 4 = 4 by omega, show min (4 + k) 4 = 4 by omega, show 4 + k + 1 - 4 = k + 1 by omega, show 4 + k - 4 = k by omega, List.range_succ (n := k), List.map_append, List.append_assoc]
  rfl
theorem run_Link (h : H) (p : Int) (s : ByteArray) (hs : s.size ≤ 9223372036854775807) : run XP i_checksum_Link [vk .u32 p, vs s] h = some (vk .u32 (lnkF p (bts s)), h) := by
  have hlen := bts_length s
  have hws : IntKind.u64.wrap (s.size : Int) = (s.size : Int) := by rw [wrap_u64]; omega
  rw [run_eq, xp_checksum_Link]
  simp -implicitDefEqProofs [x_checksum_Link]
  refine loop_up 4 (fun i s' h' => h' = h ++ [.arr false 1 ((hdL p s.size i).map (vk .u8))] ∧ Sees s' [(0, vk .u32 p), (1, vs s), (5, .ref h.length i), (10, vi i)]) ?_ ?_ _ _ ⟨by simp [hdL], by simp⟩
  · rintro B f' hB hf i s' h' hi ⟨rfl, g0, g1, g5, g10, -⟩ K
    have hlt : (i : Int) < 4 := by omega
    have hw : IntKind.i64.wrap ((i : Int) + 1) = (i : Int) + 1 := wrap_i64 (by omega) (by omega)
    have hw8 : IntKind.i64.wrap (8 * (i : Int)) = ((8 * i : Nat) : Int) := by rw [wrap_i64 (by omega) (by omega)]; omega
    have hl := hdL_len p s.size i
    have hc := closeds_u8 (hdL p s.size i)
    have h12 : i + 1 ≤ 140737488355328 := by omega
    simp -implicitDefEqProofs [hB, x_checksum_Link_l0, g0, g1, g5, g10, hlt, hw8, hl, h12]
    refine K _ _ ⟨?_, ?_⟩
    · rw [hdL_lo hi]
      simp [hdP, b8, show ((8 : Int) * (i : Int)).toNat = 8 * i by omega]
    · simp [g0, g1, hw]
  · rintro B hB s' h' ⟨rfl, g0, g1, g5, g10, -⟩
    simp -implicitDefEqProofs [hB, x_checksum_Link_l0, g0, g1, g5, g10, hws]
    refine loop_up 8 (fun i s' h' => h' = h ++ [.arr false 1 ((hdL p s.size (4 + i)).map (vk .u8))] ∧ Sees s' [(1, vs s), (5, .ref h.length (4 + i)), (7, vk .u64 s.size), (25, vi i)]) ?_ ?_ _ _ ⟨rfl, by simp [g1, g5]⟩
    · rintro B f' hB hf i s' h' hi ⟨rfl, g1, g5, g7, g25, -⟩ K
      have hlt : (i : Int) < 8 := by omega
      have hw : IntKind.i64.wrap ((i : Int) + 1) = (i : Int) + 1 := wrap_i64 (by omega) (by omega)
      have hw8 : IntKind.i64.wrap (8 * (i : Int)) = ((8 * i : Nat) : Int) := by rw [wrap_i64 (by omega) (by omega)]; omega
      have hl := hdL_len p s.size (4 + i)
      have hc := closeds_u8 (hdL p s.size (4 + i))
      have h12 : 4 + i + 1 ≤ 140737488355328 := by omega
      simp -implicitDefEqProofs [hB, x_checksum_Link_l1, g1, g5, g7, g25, hlt, hw8, hl, h12]
      refine K _ _ ⟨?_, ?_⟩
      · rw [show 4 + (i + 1) = 4 + i + 1 by omega, hdL_hi]
        simp [hdN, b8, show ((8 : Int) * (i : Int)).toNat = 8 * i by omega]
      · simp [g1, g7, hw]
        omega
    · rintro B hB s' h' ⟨rfl, g1, g5, g7, g25, -⟩
      have hl := hdL_len p s.size 12
      have hb := bytesOf_u8 (hdL p s.size 12)
      have hsz : (⟨((hdL p s.size 12).map fun x => UInt8.ofNat x.toNat).toArray⟩ : ByteArray).size ≤ 9223372036854775807 := by
        show ((hdL p s.size 12).map fun x => UInt8.ofNat x.toNat).toArray.size ≤ _
        simp [hl]
      have hS := fun h => run_Sum h _ hsz
      have hbt : bts ⟨((hdL p s.size 12).map fun x => UInt8.ofNat x.toNat).toArray⟩ = hdB p (bts s).length := by simp [bts, hdB, hlen]
      rw [hbt] at hS
      have hE := fun h => run_Extend h (extF 0 (hdB p (bts s).length)) s hs
      simp -implicitDefEqProofs [hB, x_checksum_Link_l1, g1, g5, g25, hl, hb, hS, hE, lnkF]
end Go.Proofs.Sl

namespace Go.Proofs.Sl
theorem chkSp_inv {a : SP} (h : chkSp a = 0) : (rngd a.tr 1 1099511627776 = true ∧ rngd a.id 1 1099511627776 = true ∧ rngd a.par 0 1099511627776 = true ∧ rngd a.rev 0 1048576 = true ∧ rngd a.clk 1 1048576 = true) ∧ rngd a.kind 1 5 = true ∧
    (isNm a.sv = true ∧ isNm a.op = true ∧ (a.vr = eS ∨ isNm a.vr = true)) ∧ (rngd a.st (-1099511627776) 1099511627776 = true ∧ rngd a.en (-1099511627776) 1099511627776 = true) ∧ chkAL a.ats = 0 ∧ chkLL a.lks = 0 := by
  unfold chkSp at h
  split at h
  · cases h
  rename_i c1
  split at h
  · cases h
  rename_i c2
  split at h
  · cases h
  rename_i c3
  split at h
  · cases h
  rename_i c4
  split at h
  · cases h
  split at h
  · cases h
  simp only [Bool.not_eq_false, Bool.and_eq_true, Bool.or_eq_true, decide_eq_true_eq] at c1 c2 c3 c4
  have ho := orl_zero.1 h
  exact ⟨⟨c1.1, c1.2.1, c1.2.2.1, c1.2.2.2.1, c1.2.2.2.2⟩, c2, ⟨c3.1, c3.2.1, c3.2.2⟩, c4, ho _ (by simp), ho _ (by simp)⟩
theorem isNm_le {s : ByteArray} (h : isNm s = true) : s.size ≤ 64 := by
  simp only [isNm, Bool.and_eq_true, decide_eq_true_eq] at h
  exact h.2.1
theorem chkV_inv {v : AV} (h : chkV v = 0) : v.t.size ≤ 4096 ∧ (v.k = 1 ∨ v.k = 2 ∨ v.k = 3) ∧ -1099511627776 ≤ v.n ∧ v.n ≤ 1099511627776 := by
  unfold chkV at h
  split at h
  · rename_i hk
    unfold fin5 at h
    split at h
    · cases h
    rename_i hsz
    split at h
    · rename_i hok
      refine ⟨by omega, hk, ?_⟩
      unfold okV at hok
      split at hok
      · simp only [Bool.and_eq_true, decide_eq_true_eq] at hok
        omega
      · split at hok
        · simp only [Bool.and_eq_true, decide_eq_true_eq] at hok
          exact hok.2
        · simp only [Bool.and_eq_true, Bool.or_eq_true, decide_eq_true_eq] at hok
          omega
    · cases h
  · cases h
theorem ite8 {c : Prop} [Decidable c] {x : Int} (h : (if c then 8 else x) = 0) : x = 0 := by
  split at h
  · exact absurd h (by decide)
  · exact h
theorem chkAs_inv : ∀ {l : List AT} {p : Option AT}, chkAs p l = 0 → ∀ e ∈ l, isNm e.key = true ∧ chkV e.val = 0
  | [], _, _, e, he => by simp at he
  | a :: r, p, h, e, he => by
    rw [chkAs_cons] at h
    by_cases c1 : isNm a.key = false
    · rw [if_pos c1] at h; exact absurd h (by decide)
    rw [if_neg c1] at h
    have h := ite8 h
    by_cases c3 : chkV a.val = 0
    · rw [if_neg (by simpa using c3)] at h
      rcases List.mem_cons.1 he with rfl | he
      · exact ⟨by simpa using c1, c3⟩
      · exact chkAs_inv h e he
    · rw [if_pos c3] at h
      exact absurd h c3
theorem chkLs_inv : ∀ {l : List RF} {p : Option RF}, chkLs p l = 0 → ∀ e ∈ l, okR e = true
  | [], _, _, e, he => by simp at he
  | a :: r, p, h, e, he => by
    rw [chkLs_cons] at h
    by_cases c1 : okR a = false
    · rw [if_pos c1] at h; exact absurd h (by decide)
    rw [if_neg c1] at h
    have h := ite8 h
    rcases List.mem_cons.1 he with rfl | he
    · simpa using c1
    · exact chkLs_inv h e he
/-- A valid record. -/
structure SP.Va (a : SP) : Prop where
  sz : a.Sz
  ck : chkSp a = 0
theorem chkAL_inv {l : List AT} (h : chkAL l = 0) : l.length ≤ 32 ∧ ∀ e ∈ l, isNm e.key = true ∧ chkV e.val = 0 := by
  unfold chkAL at h
  split at h
  · cases h
  · exact ⟨by omega, chkAs_inv h⟩
theorem chkLL_inv {l : List RF} (h : chkLL l = 0) : l.length ≤ 16 ∧ ∀ e ∈ l, okR e = true := by
  unfold chkLL at h
  split at h
  · cases h
  · exact ⟨by omega, chkLs_inv h⟩
theorem SP.Va.bk {a : SP} (h : a.Va) : a.Bk := by
  obtain ⟨_, _, _, _, h5, h6⟩ := chkSp_inv h.ck
  exact ⟨by have := (chkAL_inv h5).1; omega, by have := (chkLL_inv h6).1; omega, h.sz.an, h.sz.ln⟩
theorem SP.Va.ok {a : SP} (h : a.Va) : a.Ok := by
  obtain ⟨⟨h1, h2, h3, h4, h5⟩, h6, ⟨h7, h8, h9⟩, ⟨h10, h11⟩, h12, h13⟩ := chkSp_inv h.ck
  rw [rngd_iff] at h1 h2 h3 h4 h5 h6 h10 h11
  have k1 := isNm_le h7
  have k2 := isNm_le h8
  have k3 : a.vr.size ≤ 64 := by
    rcases h9 with h9 | h9
    · rw [h9]; decide
    · exact isNm_le h9
  obtain ⟨l1, l2⟩ := chkAL_inv h12
  obtain ⟨l3, l4⟩ := chkLL_inv h13
  refine ⟨fun n hn => ?_, by omega, by omega, by omega, fun e he => ?_, fun e he => ?_, by omega, by omega, h.sz.an, h.sz.ln⟩
  · simp only [List.mem_cons, List.not_mem_nil, or_false] at hn
    unfold Rng
    rcases hn with rfl | rfl | rfl | rfl | rfl | rfl | rfl | rfl <;> omega
  · obtain ⟨m1, m2⟩ := l2 e he
    have m3 := isNm_le m1
    obtain ⟨m4, m5, m6⟩ := chkV_inv m2
    exact ⟨by omega, ⟨by unfold Rng; omega, by omega, by unfold Rng; omega⟩⟩
  · have m := l4 e he
    simp only [okR, Bool.and_eq_true] at m
    rw [rngd_iff, rngd_iff] at m
    exact ⟨by unfold Rng; omega, by unfold Rng; omega⟩
/-! ### Chains -/
def chF : Int → List (List UInt8) → List Int
  | _, [] => []
  | p, s :: r => lnkF p s :: chF (lnkF p s) r
def digF (fs : List (List UInt8)) : Int := fs.foldl lnkF 0
theorem chF_len : ∀ (fs : List (List UInt8)) (p : Int), (chF p fs).length = fs.length
  | [], _ => rfl
  | s :: r, p => by rw [chF, List.length_cons, chF_len r, List.length_cons]
theorem chF_take : ∀ {fs : List (List UInt8)} {p : Int} {k : Nat} {s : List UInt8}, fs[k]? = some s → chF p (fs.take (k + 1)) = chF p (fs.take k) ++ [lnkF ((fs.take k).foldl lnkF p) s]
  | [], p, k, s, h => by simp at h
  | t :: r, p, 0, s, h => by
    simp only [List.getElem?_cons_zero, Option.some.injEq] at h
    subst h
    simp [chF]
  | t :: r, p, k + 1, s, h => by
    have := chF_take (p := lnkF p t) (k := k) (s := s) (by simpa using h)
    simp only [List.take_succ_cons, chF, List.foldl_cons, this, List.cons_append]
theorem closeds_u32 : ∀ l : List Int, V.closed.closeds (l.map (vk .u32)) = true
  | [] => rfl
  | x :: l => by rw [List.map_cons, V.closed.closeds, closeds_u32 l]; rfl
theorem tx_bts (l : List UInt8) : bts ⟨l.toArray⟩ = l := by simp [bts]
theorem run_Chain (h : H) {v : V} {fs : List (List UInt8)} (hv : ∀ t, Rd (h ++ t) 1 v (fs.map tx)) (hs : ∀ f ∈ fs, f.length ≤ 100000000) (hl : fs.length ≤ 100000) : run XP i_checksum_Chain [v] h = some (.own 1 ((chF 0 fs).map (vk .u32)), h) := by
  have hL0 := (hv []).toL
  rw [List.append_nil] at hL0
  have hlm : fs.length ≤ 35184372088832 := by omega
  rw [run_eq, xp_checksum_Chain]
  simp -implicitDefEqProofs [x_checksum_Chain, hL0, hlm]
  have hL1 := (hv [.arr false 1 []]).toL
  simp -implicitDefEqProofs [hL1]
  refine loop_list fs (fun k s h' => h' = h ++ [.arr false 1 ((chF 0 (fs.take k)).map (vk .u32))] ∧ Sees s [(3, .ref h.length k), (4, vk .u32 ((fs.take k).foldl lnkF 0)), (10, v), (11, vi fs.length), (12, vi k)]) ?_ ?_ _ _ ⟨by simp [chF], by simp⟩
  · rintro B f' hB hf k e s h' he hk ⟨rfl, g3, g4, g10, g11, g12, -⟩ K
    have hlt : (k : Int) < fs.length := by omega
    have hw : IntKind.i64.wrap ((k : Int) + 1) = (k : Int) + 1 := wrap_i64 (by omega) (by omega)
    obtain ⟨q, hq, hld⟩ := (hv [.arr false 1 ((chF 0 (fs.take k)).map (vk .u32))]).at1 (i := k) (e := tx e) (by simp [he]) rfl
    have hsz : (⟨e.toArray⟩ : ByteArray).size ≤ 9223372036854775807 := by
      have := hs e (List.mem_of_getElem? he)
      show e.toArray.size ≤ _
      simp
      omega
    have hLk := fun h => run_Link h ((fs.take k).foldl lnkF 0) ⟨e.toArray⟩ hsz
    rw [tx_bts] at hLk
    have hcl : (chF 0 (fs.take k)).length = k := by rw [chF_len, List.length_take]; omega
    have hc := closeds_u32 (chF 0 (fs.take k))
    have hk1 : k + 1 ≤ 35184372088832 := by omega
    have hfo : lnkF ((fs.take k).foldl lnkF 0) e = (fs.take (k + 1)).foldl lnkF 0 := by rw [List.take_add_one, he, List.foldl_append]; rfl
    simp only [tx] at hld
    simp -implicitDefEqProofs [hB, x_checksum_Chain_l0, g3, g4, g10, g11, g12, hlt, hq, hld, hLk, hcl, hk1]
    refine K _ _ ⟨?_, ?_⟩
    · rw [chF_take he]
      simp
    · simp [g10, g11, hw, hfo]
  · rintro B hB s h' ⟨rfl, g3, g4, g10, g11, g12, -⟩
    have hcl := chF_len fs 0
    have hc := closeds_u32 (chF 0 fs)
    simp -implicitDefEqProofs [hB, x_checksum_Chain_l0, g3, g11, g12, hcl, hc]
end Go.Proofs.Sl

namespace Go.Proofs.Sl
theorem run_New {h : H} {n : Int} (hn : 0 ≤ n ∧ n ≤ 65536) : run XP i_partition_New [vi n] h = some (.tup [.ptr h.length 0, vi 0], h ++ [.box false [vi n, vb false, vnil]]) := by
  have h1 : ¬ n < 0 := by omega
  have h2 : ¬ 65536 < n := by omega
  rw [run_eq, xp_partition_New]
  simp -implicitDefEqProofs [x_partition_New, h1, h2]
theorem run_NewE (h : H) {n : Int} (hn : n < 0 ∨ 65536 < n) : run XP i_partition_New [vi n] h = some (.tup [vnp, vi 2], h) := by
  rw [run_eq, xp_partition_New]
  by_cases h1 : n < 0
  · simp -implicitDefEqProofs [x_partition_New, h1]
  · have h2 : 65536 < n := by omega
    simp -implicitDefEqProofs [x_partition_New, h1, h2]
theorem PO.new (h : H) (n : Int) : PO (h ++ [.box false [vi n, vb false, vnil]]) h.length n false [] := ⟨vnil, by simp, .inl ⟨rfl, rfl⟩⟩
section
variable {h : H} {l : Nat} {n : Int} {s : Bool} {bs : List (List SP)}
theorem run_pNumber (p : PO h l n s bs) : run XP i_partition_Partition_Number [.ptr l 0] h = some (vi n, h) := by
  obtain ⟨c, h1, h2⟩ := p
  rw [run_eq, xp_partition_Partition_Number]
  simp -implicitDefEqProofs [x_partition_Partition_Number, h1]
theorem run_pSealed (p : PO h l n s bs) : run XP i_partition_Partition_Sealed [.ptr l 0] h = some (vb s, h) := by
  obtain ⟨c, h1, h2⟩ := p
  rw [run_eq, xp_partition_Partition_Sealed]
  simp -implicitDefEqProofs [x_partition_Partition_Sealed, h1]
theorem wide_bk : ∀ bs : List (List SP), wide 1 (bs.map bkV) = true
  | [] => rfl
  | b :: bs => by rw [List.map_cons, wide, wide_bk bs]; rfl
theorem closeds_bk : ∀ bs : List (List SP), V.closed.closeds (bs.map bkV) = true
  | [] => rfl
  | b :: bs => by rw [List.map_cons, V.closed.closeds, closeds_bk bs]; rfl
theorem run_CloneB (h : H) (bs : List (List SP)) (hn : bs.length ≤ 1000) : run XP i_slices_Clone_block_Block_block_Block [.lst 1 (bs.map bkV)] h = some (.own 1 (bs.map bkV), h) := by
  have h1 := wide_bk bs
  have h2 := closeds_bk bs
  have h3 : bs.length ≤ 17592186044416 := by omega
  rw [run_eq, xp_slices_Clone_block_Block_block_Block]
  simp -implicitDefEqProofs [x_slices_Clone_block_Block_block_Block, h1, h2, h3]
theorem run_CloneB0 (h : H) : run XP i_slices_Clone_block_Block_block_Block [vnil] h = some (vnil, h) := by
  rw [run_eq, xp_slices_Clone_block_Block_block_Block]
  simp -implicitDefEqProofs [x_slices_Clone_block_Block_block_Block]
/-- The blocks, as a list. -/
def blks (bs : List (List SP)) (v : V) : Prop := (v = vnil ∧ bs = []) ∨ v = .lst 1 (bs.map bkV)
theorem blks.rd {v : V} (b : blks bs v) (h : H) : Rd h 1 v (bs.map bkV) := by
  rcases b with ⟨rfl, rfl⟩ | rfl
  · exact .nil
  · exact .lst _
theorem run_pBlocks (p : PO h l n s bs) (hn : bs.length ≤ 1000) : ∃ v, run XP i_partition_Partition_Blocks [.ptr l 0] h = some (v, h) ∧ blks bs (res0 v) := by
  obtain ⟨c, h1, h2⟩ := p
  rcases h2 with ⟨rfl, rfl⟩ | rfl
  · refine ⟨vnil, ?_, .inl ⟨rfl, rfl⟩⟩
    have hC := fun h => run_CloneB0 h
    rw [run_eq, xp_partition_Partition_Blocks]
    simp -implicitDefEqProofs [x_partition_Partition_Blocks, h1, hC]
  · refine ⟨.lst 1 (bs.map bkV), ?_, .inr rfl⟩
    have hC := fun h => run_CloneB h bs hn
    rw [run_eq, xp_partition_Partition_Blocks]
    simp -implicitDefEqProofs [x_partition_Partition_Blocks, h1, hC]
end
theorem run_Merge {h : H} {l q : Nat} {n m : Int} {s z : Bool} {bs cs : List (List SP)} (p : PO h l n s bs) (o : PO h q m z cs) (hb : Bks bs) (hc : Bks cs) (hz : ∀ e ∈ recs cs, e.Sz) :
    ∃ h', run XP i_partition_Partition_Merge [.ptr l 0, .ptr q 0] h = some (if n = m then .tup [vi (insR n s bs (recs cs)).1, vi (insR n s bs (recs cs)).2.1] else .tup [vi 0, vi 17], h') ∧ PO h' l n s (if n = m then (insR n s bs (recs cs)).2.2 else bs) ∧ (h' = h ∨ ∃ o, h' = h.set l o) := by
  obtain ⟨c, h1, h2⟩ := p
  obtain ⟨d, h3, h4⟩ := o
  by_cases hnm : n = m
  · subst hnm
    obtain ⟨h', hI, hp', hh⟩ := run_Insert (h := h) (l := l) (n := n) (s := s) ⟨c, h1, h2⟩ hb (nl_LV (recs cs)) (fun e he => hc.mem (dst_mem he)) hz (recs_len hc)
    refine ⟨h', ?_, by rw [if_pos rfl]; exact hp', hh⟩
    have hR := run_pRecords (h := h) (l := q) (n := n) (s := z) (bs := cs) ⟨d, h3, h4⟩ hc
    have hl' : h'.length = h.length := by
      rcases hh with rfl | ⟨o, rfl⟩
      · rfl
      · simp
    have htk : h'.take h.length = h' := List.take_of_length_le (by omega)
    rw [if_pos rfl, run_eq, xp_partition_Partition_Merge]
    generalize insR n s bs (recs cs) = r at *
    simp -implicitDefEqProofs [x_partition_Partition_Merge, h1, h3, hR, nl_arg0, nl_res0, hI, htk]
  · refine ⟨h, ?_, by rw [if_neg hnm]; exact ⟨c, h1, h2⟩, .inl rfl⟩
    have hne : (n != m) = true := by simpa using hnm
    rw [if_neg hnm, run_eq, xp_partition_Partition_Merge]
    simp -implicitDefEqProofs [x_partition_Partition_Merge, h1, h3, hne]
theorem run_pEqual {h : H} {l q : Nat} {n m : Int} {s z : Bool} {bs cs : List (List SP)} (p : PO h l n s bs) (o : PO h q m z cs) (hb : Bks bs) (hc : Bks cs) :
    run XP i_partition_Partition_Equal [.ptr l 0, .ptr q 0] h = some (vb (decide (n = m) && (s == z && sameL (recs bs) (recs cs))), h) := by
  have hR1 := run_pRecords p hb
  have hR2 := run_pRecords o hc
  have hE := run_EqualFS (h := h) (v := nl (recs bs)) (w := nl (recs cs)) (fun t => (nl_LV _).rd _) (fun t => (nl_LV _).rd _) (fun e he => (hb.mem (dst_mem he)).sm) (fun e he => (hc.mem (dst_mem he)).sm) (recs_len hb)
  obtain ⟨c, h1, h2⟩ := p
  obtain ⟨d, h3, h4⟩ := o
  generalize sameL (recs bs) (recs cs) = b at *
  rw [run_eq, xp_partition_Partition_Equal]
  by_cases hnm : n = m
  · subst hnm
    have hz : (n == n) = true := by simp
    cases hs : s == z with
    | true => simp -implicitDefEqProofs [x_partition_Partition_Equal, h1, h3, hR1, hR2, hE, nl_arg0, nl_res0, hz, hs]
    | false => simp -implicitDefEqProofs [x_partition_Partition_Equal, h1, h3, hz, hs]
  · have hz : (n == m) = false := by simpa using hnm
    simp -implicitDefEqProofs [x_partition_Partition_Equal, h1, h3, hz, hnm]
end Go.Proofs.Sl

namespace Go.Proofs.Sl
def rc (id : Int) : SP := ⟨16777217, id, 0, 0, 1, 3, ⟨#[115]⟩, ⟨#[]⟩, ⟨#[111]⟩, 0, 0, false, [], [], true, true⟩
theorem run_record (h : H) (id : Int) : run XP i_sleuthlaw31_record [vi id] h = some ((rc id).v, h) := by
  rw [run_eq, xp_sleuthlaw31_record]
  simp -implicitDefEqProofs [x_sleuthlaw31_record, rc, SP.v, slc, lv]
theorem run_within31 {h : H} {v : V} {D : List SP} {e : SP} (hv : ∀ t, Rd (h ++ t) 14 v (D.map SP.v)) (hD : ∀ d ∈ D, d.Sm) (he : e.Sm) (hl : D.length ≤ 100000) : run XP i_sleuthlaw31_within [v, e.v] h = some (vb (inS D e), h) := by
  rw [run_eq, xp_sleuthlaw31_within]
  simp -implicitDefEqProofs [x_sleuthlaw31_within, SP.v]
  refine loop_list D (fun k s h' => h' = h ++ [.box false e.v.cells] ∧ Sees s [(0, v), (3, .ptr h.length 0), (5, vi k)] ∧ inS D e = inS (D.drop k) e) ?_ ?_ _ _ ?_
  rotate_left
  · rintro B hB s h' ⟨rfl, ⟨g0, g3, g5, -⟩, hx⟩
    rw [List.drop_of_length_le (Nat.le_refl _)] at hx
    have hx : inS D e = false := hx
    have hL := (hv [.box false e.v.cells]).toL
    simp -implicitDefEqProofs [hB, x_sleuthlaw31_within_l0, g0, g5, hL, hx]
  · exact ⟨by simp [SP.v, V.cells], by simp, rfl⟩
  · rintro B f hB hf k d s h' hd hk ⟨rfl, ⟨g0, g3, g5, -⟩, hx⟩ K
    have hlt : (k : Int) < D.length := by omega
    have hL := (hv [.box false e.v.cells]).toL
    obtain ⟨q, hq, hld⟩ := (hv [.box false e.v.cells]).at (i := k) (e := d.v) (by simp [hd])
    have hE := fun h => run_Equal h (hD d (List.mem_of_getElem? hd)).len he.len
    have hw : IntKind.i64.wrap ((k : Int) + 1) = (k : Int) + 1 := wrap_i64 (by omega) (by omega)
    rw [drop_at hd] at hx
    simp only [inS, List.any_cons] at hx
    simp only [SP.v, V.cells] at hld hE hq hL
    cases hc : (cmpS d e == 0) with
    | true =>
      rw [hc] at hx hE
      have hx : inS D e = true := by simpa [inS] using hx
      simp -implicitDefEqProofs [hB, hf, x_sleuthlaw31_within_l0, g0, g3, g5, hL, hlt, hq, hld, hE, SP.v, V.cells, hx]
    | false =>
      rw [hc, Bool.false_or] at hx
      rw [hc] at hE
      simp -implicitDefEqProofs [hB, x_sleuthlaw31_within_l0, g0, g3, g5, hL, hlt, hq, hld, hE, SP.v, V.cells]
      refine K _ _ ⟨by simp [SP.v, V.cells], ?_, hx⟩
      simp [g0, g3, hw]
theorem run_same31 {h : H} {v w : V} {xs ys : List SP} (hv : Rd h 14 v (xs.map SP.v)) (hw : Rd h 14 w (ys.map SP.v)) (hx : ∀ e ∈ xs, e.Sm) (hy : ∀ e ∈ ys, e.Sm) (hl : xs.length ≤ 100000) : run XP i_sleuthlaw31_same [v, w] h = some (vb (sameL xs ys), h) := by
  have hL := hv.toL
  have hR := hw.toL
  rw [run_eq, xp_sleuthlaw31_same]
  by_cases hc : xs.length = ys.length
  · have hc' : ((xs.length : Int) != (ys.length : Int)) = false := by simp [hc]
    simp -implicitDefEqProofs [x_sleuthlaw31_same, hL, hR, hc']
    refine loop_list xs (fun k s h' => h' = h ∧ Sees s [(0, v), (1, w), (5, vi k)] ∧ sameL xs ys = sameL (xs.drop k) (ys.drop k)) ?_ ?_ _ _ ?_
    · rintro B f' hB hf k e s h' he hk ⟨rfl, ⟨g0, g1, g5, -⟩, hx'⟩ K
      have hlt : (k : Int) < xs.length := by omega
      obtain ⟨d, hd⟩ : ∃ d, ys[k]? = some d := ⟨_, List.getElem?_eq_getElem (by omega)⟩
      obtain ⟨q, hq, hld⟩ := hv.at (i := k) (e := e.v) (by simp [he])
      obtain ⟨q2, hq2, hld2⟩ := hw.at (i := k) (e := d.v) (by simp [hd])
      have hE := fun h => run_Equal h (hx e (List.mem_of_getElem? he)).len (hy d (List.mem_of_getElem? hd)).len
      have hw0 : IntKind.i64.wrap ((k : Int) + 1) = (k : Int) + 1 := wrap_i64 (by omega) (by omega)
      rw [drop_at he, drop_at hd, sameL] at hx'
      simp only [SP.v, V.cells] at hld hld2 hE
      cases hb : (cmpS e d == 0) with
      | true =>
        rw [hb, Bool.true_and] at hx'
        rw [hb] at hE
        simp -implicitDefEqProofs [hB, x_sleuthlaw31_same_l0, g0, g1, g5, hL, hlt, hq, hld, hq2, hld2, hE]
        refine K _ _ ⟨rfl, ?_, hx'⟩
        simp [g0, g1, hw0]
      | false =>
        rw [hb, Bool.false_and] at hx'
        rw [hb] at hE
        simp -implicitDefEqProofs [hB, hf, x_sleuthlaw31_same_l0, g0, g1, g5, hL, hlt, hq, hld, hq2, hld2, hE, hx']
    · rintro B hB s h' ⟨rfl, ⟨g0, g1, g5, -⟩, hx'⟩
      rw [List.drop_of_length_le (Nat.le_refl _), List.drop_of_length_le (by omega)] at hx'
      have hx' : sameL xs ys = true := hx'
      simp -implicitDefEqProofs [hB, x_sleuthlaw31_same_l0, g0, g5, hL, hx']
    · exact ⟨rfl, by simp, rfl⟩
  · have hc' : ((xs.length : Int) != (ys.length : Int)) = true := by
      simp only [bne_iff_ne, ne_eq]
      omega
    have hs : sameL xs ys = false := by
      cases h : sameL xs ys with
      | false => rfl
      | true => exact absurd (sameL_len h) hc
    simp -implicitDefEqProofs [x_sleuthlaw31_same, hL, hR, hc', hs]
/-- The blocks of a state. -/
def SV (v : V) (bs : List (List SP)) : Prop := (v = vnil ∧ bs = []) ∨ v = .lst 1 (bs.map nl)
theorem SV.rd {v : V} {bs : List (List SP)} (b : SV v bs) (h : H) : Rd h 1 v (bs.map nl) := by
  rcases b with ⟨rfl, rfl⟩ | rfl
  · exact .nil
  · exact .lst _
theorem SV.plain {v : V} {bs : List (List SP)} (b : SV v bs) : v.plain = true := by
  rcases b with ⟨rfl, rfl⟩ | rfl
  · rfl
  · rfl
theorem Rd.atN {h : H} {v : V} {bs : List (List SP)} (r : Rd h 1 v (bs.map nl)) {i : Nat} {b : List SP} (hb : bs[i]? = some b) : ∃ p, iaddrV h 1 v i = some p ∧ xload h 1 false p = some (nl b) := by
  obtain ⟨p, h1, h2⟩ := r.at (i := i) (e := nl b) (by simp [hb])
  exact ⟨p, h1, by rw [h2, nl_cells]; rfl⟩
theorem run_srecords {h : H} {v : V} {z : Bool} {bs : List (List SP)} (hv : SV v bs) (hb : Bks bs) : run XP i_sleuthlaw31_state_records [.agg [v, vb z]] h = some (nl (recs bs), h) := by
  have hp := hv.plain
  have hL := fun h => (hv.rd h).toL
  rw [run_eq, xp_sleuthlaw31_state_records]
  simp -implicitDefEqProofs [x_sleuthlaw31_state_records, hp]
  refine loop_list bs (fun k s h' => ∃ t, Sees s [(1, .ptr h.length 0), (4, vi k)] ∧ h' = h ++ (.box false [v, vb z] :: t) ∧ OutV (s 3) h' (h.length + 1) 14 ((bs.take k).flatten.map SP.v)) ?_ ?_ _ _ ?_
  rotate_left
  · rintro B hB s h' ⟨t, ⟨g1, g4, -⟩, rfl, ho⟩
    rw [List.take_length] at ho
    have hm : ∀ e ∈ bs.flatten, e.Sm := fun e he => (hb.mem he).sm
    obtain ⟨h2, sa, htk⟩ := ho.SA
    have ha0 := sa.a0
    have hS := sa.set hm hb.l []
    rw [List.append_nil, List.append_nil] at hS
    have htk2 : h2.take h.length = h := by
      have := congrArg (List.take h.length) htk
      rw [List.take_take, List.take_take, Nat.min_eq_left (by omega), List.take_left] at this
      exact this
    simp only [recs]
    simp -implicitDefEqProofs [hB, x_sleuthlaw31_state_records_l0, g1, g4, hp, hL, ha0, hS, ow_res0, nl_ret, htk2]
  · exact ⟨[], by simp, rfl, .inl ⟨by simp, by simp⟩⟩
  · rintro B f' hB hf k e s h' he hk ⟨t, ⟨g1, g4, -⟩, rfl, ho⟩ K
    have hlt : (k : Int) < bs.length := by omega
    have hbn := hb.n
    obtain ⟨q, hq, hld⟩ := (hv.rd (h ++ (.box false [v, vb z] :: t))).atN he
    have hw : IntKind.i64.wrap ((k : Int) + 1) = (k : Int) + 1 := wrap_i64 (by omega) (by omega)
    have hle := flat_le (xs := bs) (k + 1)
    rw [flat_up he, List.length_append] at hle
    have hfl := hb.l
    obtain ⟨x', h'', hap, ho', htk, hbl⟩ := ho.grows (lim := 837723144972) (y := nl e) ((nl_LV e).rd _).appEls (by simp) (wide_SP e) (closeds_SP e) (by simp only [List.length_map]; omega)
    have htk' : ∃ t', h'' = h ++ (.box false [v, vb z] :: t') := ⟨h''.drop (h.length + 1), by
      have := List.take_append_drop (h.length + 1) h''
      rw [htk] at this
      have e : (h ++ (O.box false [v, vb z] :: t)).take (h.length + 1) = h ++ [.box false [v, vb z]] := by
        rw [List.take_append, List.take_of_length_le (show h.length ≤ h.length + 1 by omega)]
        simp
      rw [e, List.append_assoc] at this
      exact this.symm⟩
    obtain ⟨t', rfl⟩ := htk'
    simp -implicitDefEqProofs [hB, x_sleuthlaw31_state_records_l0, g1, g4, hp, hL, hlt, hq, hld, hap]
    refine K _ _ ⟨t', ?_, rfl, ?_⟩
    · simp [g1, hw]
    · rw [flat_up he, List.map_append]
      simpa using ho'
end Go.Proofs.Sl

namespace Go.Proofs.Sl
theorem sI_l0 {β : Type} {f : Ex × St → Option β} {w : Option β} {base p q : Nat} {h : H} {v sv : V} {z : Bool} {es : List SP} (hv : ∀ h, Rd h 14 v (es.map SP.v)) (hs : ∀ e ∈ es, e.Sz) (hl : es.length ≤ 100000) (hsp : sv.plain = true)
    (hp : h[p]? = some (.box false [sv, vb z])) (hq : h[q]? = some (.box false [vnil, vb false])) (hb : base ≤ q)
    (hret : ∀ s, Sees s [(4, .ptr q 0), (5, vi 0), (6, vi (chkF es))] → chkF es ≠ 0 → f (.ret, ⟨s, h.set q (.box false [sv, vb z])⟩) = w)
    (hend : ∀ s, Sees s [(1, v), (2, .ptr p 0), (4, .ptr q 0)] → chkF es = 0 → f (.exit 0, ⟨s, h⟩) = w)
    (s0 : Sl) (g : Sees s0 [(1, v), (2, .ptr p 0), (4, .ptr q 0), (7, vi 0)]) : ob (loopW (xcode (run XP) loopW base x_sleuthlaw31_state_insert_l0) ⟨s0, h⟩) f = w := by
  have hL := (hv h).toL
  refine loop_list es (fun k s h' => h' = h ∧ Sees s [(1, v), (2, .ptr p 0), (4, .ptr q 0), (7, vi k)] ∧ chkF es = chkF (es.drop k)) ?_ ?_ _ _ ⟨rfl, by simpa using g, rfl⟩
  · rintro B f' hB hf k e s h' he hk ⟨rfl, ⟨g1, g2, g4, g7, -⟩, hx⟩ K
    have hlt : (k : Int) < es.length := by omega
    have hm := List.mem_of_getElem? he
    obtain ⟨r, hr, hld⟩ := (hv h').at (i := k) (e := e.v) (by simp [he])
    have hck := fun h => run_Check h (hs e hm)
    have w0 : IntKind.i64.wrap ((k : Int) + 1) = (k : Int) + 1 := wrap_i64 (by omega) (by omega)
    rw [drop_at he, chkF] at hx
    simp only [SP.v, V.cells] at hld hck
    by_cases hc : chkSp e = 0
    · rw [if_neg (by simpa using hc)] at hx
      rw [hc] at hck
      simp -implicitDefEqProofs [hB, x_sleuthlaw31_state_insert_l0, g1, g2, g4, g7, hL, hlt, hr, hld, hck]
      refine K _ _ ⟨rfl, ?_, hx⟩
      simp [g1, g2, g4, w0]
    · rw [if_pos hc] at hx
      have hrt := fun s g => hret s g (by rw [hx]; exact hc)
      rw [hx] at hrt
      generalize chkSp e = y at *
      have hnz : (y != 0) = true := by simpa using hc
      simp -implicitDefEqProofs [hB, hf, hnz, x_sleuthlaw31_state_insert_l0, g1, g2, g4, g7, hL, hlt, hr, hld, hck, hc, hp, hq, hsp, hb]
      refine hrt _ ?_
      simp [g4]
  · rintro B hB s h' ⟨rfl, ⟨g1, g2, g4, g7, -⟩, hx⟩
    rw [List.drop_of_length_le (Nat.le_refl _)] at hx
    simp -implicitDefEqProofs [hB, x_sleuthlaw31_state_insert_l0, g1, g7, hL]
    exact hend _ (by simp [g1, g2, g4]) hx
theorem sI_l1 {β : Type} {f : Ex × St → Option β} {w : Option β} {base p q : Nat} {h : H} {v sv : V} {z : Bool} {es : List SP} (hv : ∀ h, Rd h 14 v (es.map SP.v)) (hl : es.length ≤ 100000) (hsp : sv.plain = true)
    (hp : h[p]? = some (.box false [sv, vb z])) (hq : h[q]? = some (.box false [vnil, vb false])) (hb : base ≤ q)
    (hret : ∀ s, Sees s [(4, .ptr q 0), (5, vi 0), (6, vi 17)] → es.any (fgn 1) = true → f (.ret, ⟨s, h.set q (.box false [sv, vb z])⟩) = w)
    (hend : ∀ s, Sees s [(1, v), (2, .ptr p 0), (4, .ptr q 0)] → es.any (fgn 1) = false → f (.exit 2, ⟨s, h⟩) = w)
    (s0 : Sl) (g : Sees s0 [(1, v), (2, .ptr p 0), (4, .ptr q 0), (9, vi 0)]) : ob (loopW (xcode (run XP) loopW base x_sleuthlaw31_state_insert_l1) ⟨s0, h⟩) f = w := by
  have hL := (hv h).toL
  refine loop_list es (fun k s h' => h' = h ∧ Sees s [(1, v), (2, .ptr p 0), (4, .ptr q 0), (9, vi k)] ∧ es.any (fgn 1) = (es.drop k).any (fgn 1)) ?_ ?_ _ _ ⟨rfl, by simpa using g, rfl⟩
  · rintro B f' hB hf k e s h' he hk ⟨rfl, ⟨g1, g2, g4, g9, -⟩, hx⟩ K
    have hlt : (k : Int) < es.length := by omega
    have hv0 : v = .lst 14 (es.map SP.v) := by
      have := hv []
      have hi : (es.map SP.v)[k]? = some e.v := by simp [he]
      generalize es.map SP.v = L at *
      cases this with
      | nil => simp at hi
      | lst es => rfl
      | ref n z es e => simp at e
    have hP := fun h => run_Part' h e.tr
    have w0 : IntKind.i64.wrap ((k : Int) + 1) = (k : Int) + 1 := wrap_i64 (by omega) (by omega)
    have hi : (es.map SP.v)[k]? = some e.v := by simp [he]
    have hlm : (es.map SP.v).length = es.length := by simp
    rw [drop_at he, List.any_cons] at hx
    subst hv0
    simp only [SP.v] at hi
    generalize es.map SP.v = L at *
    cases hc : fgn 1 e with
    | false =>
      rw [hc, Bool.false_or] at hx
      have hc : ((e.tr.fdiv 1048576).fdiv 16 != 1) = false := hc
      simp -implicitDefEqProofs [hB, x_sleuthlaw31_state_insert_l1, g1, g2, g4, g9, hlm, hlt, hi, hP, hc]
      refine K _ _ ⟨rfl, ?_, hx⟩
      simp [g1, g2, g4, w0]
    | true =>
      rw [hc, Bool.true_or] at hx
      have hc : ((e.tr.fdiv 1048576).fdiv 16 != 1) = true := hc
      simp -implicitDefEqProofs [hB, hf, x_sleuthlaw31_state_insert_l1, g1, g2, g4, g9, hlm, hlt, hi, hP, hc, hp, hq, hsp, hb]
      refine hret _ ?_ hx
      simp [g4]
  · rintro B hB s h' ⟨rfl, ⟨g1, g2, g4, g9, -⟩, hx⟩
    rw [List.drop_of_length_le (Nat.le_refl _)] at hx
    simp -implicitDefEqProofs [hB, x_sleuthlaw31_state_insert_l1, g1, g9, hL]
    exact hend _ (by simp [g1, g2, g4]) hx
/-- The new ones. -/
theorem sI_l2 {β : Type} {f : Ex × St → Option β} {w : Option β} {b : Nat} {h : H} {c1 x2 x4 : V} {D W : List SP} (hD : ∀ d ∈ D, d.Sm) (hW : ∀ e ∈ W, e.Sm) (hl : D.length ≤ 100000) (hlw : W.length ≤ 100000) (hbh : b ≤ h.length)
    (hend : ∀ s h', Sees s [(1, c1), (2, x2), (4, x4)] → h'.take h.length = h → OutV (s 11) h' h.length 14 ((W.filter fun e => !inS D e).map SP.v) → f (.exit 4, ⟨s, h'⟩) = w)
    (s0 : Sl) (g : Sees s0 [(1, c1), (2, x2), (4, x4), (10, nl D), (11, vnil), (12, nl W), (13, vi 0)]) : ob (loopW (xcode (run XP) loopW b x_sleuthlaw31_state_insert_l2) ⟨s0, h⟩) f = w := by
  refine loop_list W (fun k s h' => Sees s [(1, c1), (2, x2), (4, x4), (10, nl D), (12, nl W), (13, vi k)] ∧ h'.take h.length = h ∧ h.length ≤ h'.length ∧ OutV (s 11) h' h.length 14 (((W.take k).filter fun e => !inS D e).map SP.v)) ?_ ?_ _ _ ?_
  · rintro B f' hB hf k e s h' he hk ⟨⟨g1, g2, g4, g10, g12, g13, -⟩, htk, hlen, ho⟩ K
    have hlt : (k : Int) < W.length := by omega
    have hL := ((nl_LV W).rd h').toL
    have hie := nl_at he h'
    have hin := fun h => run_within31 (h := h) (v := nl D) (D := D) (e := e) (fun t => (nl_LV D).rd _) hD (hW e (List.mem_of_getElem? he)) hl
    have w0 : IntKind.i64.wrap ((k : Int) + 1) = (k : Int) + 1 := wrap_i64 (by omega) (by omega)
    have tk : W.take (k + 1) = W.take k ++ [e] := by rw [List.take_add_one, he]; rfl
    have hw1 := wide_SP1 e
    have hc1 : V.closed.closeds [e.v] = true := closeds_SP [e]
    have n1 := nl_arg0 D
    cases hb : inS D e with
    | true =>
      rw [hb] at hin
      simp only [SP.v] at hin hie
      simp -implicitDefEqProofs [hB, x_sleuthlaw31_state_insert_l2, g10, g12, g13, hL, hlt, hie, hin, n1]
      refine K _ _ ⟨?_, htk, hlen, ?_⟩
      · simp [g1, g2, g4, g10, g12, w0]
      · rw [tk, List.filter_append]
        simpa [hb] using ho
    | false =>
      rw [hb] at hin
      have hfl := List.length_filter_le (fun e => !inS D e) (W.take k)
      have htl : (W.take k).length ≤ W.length := by rw [List.length_take]; omega
      obtain ⟨x', h'', hap, ho', htk2, hbl⟩ := ho.grow (lim := 837723144972) hlen hw1 hc1 (by simp only [List.length_map]; omega)
      simp only [SP.v] at hin hie hap hw1 hc1
      simp -implicitDefEqProofs [hB, x_sleuthlaw31_state_insert_l2, g10, g12, g13, hL, hlt, hie, hin, n1, hap]
      refine K _ _ ⟨?_, ?_, hbl, ?_⟩
      · simp [g1, g2, g4, g10, g12, w0]
      · rw [htk2, htk]
      · rw [tk, List.filter_append, List.map_append]
        simpa [hb, SP.v] using ho'
  · rintro B hB s h' ⟨⟨g1, g2, g4, g10, g12, g13, -⟩, htk, hlen, ho⟩
    rw [List.take_length] at ho
    have hL := ((nl_LV W).rd h').toL
    simp -implicitDefEqProofs [hB, x_sleuthlaw31_state_insert_l2, g12, g13, hL]
    exact hend _ _ (by simp [g1, g2, g4]) htk (by simpa using ho)
  · obtain ⟨g1, g2, g4, g10, g11, g12, g13, -⟩ := g
    exact ⟨by simp [g1, g2, g4, g10, g12, g13], List.take_length, Nat.le_refl _, .inl ⟨by simp, g11⟩⟩
end Go.Proofs.Sl

namespace Go.Proofs.Sl
def insS (z : Bool) (bs : List (List SP)) (es : List SP) : List (List SP) × Int × Int :=
  if z = true then (bs, 0, 31) else if chkF es ≠ 0 then (bs, 0, chkF es) else if es.any (fgn 1) = true then (bs, 0, 17) else
  if more bs es = [] then (bs, 0, 0) else if blE (more bs es) ≠ 0 then (bs, 0, blE (more bs es)) else (bs ++ [more bs es], (more bs es).length, 0)
theorem wide_nl : ∀ bs : List (List SP), wide 1 (bs.map nl) = true
  | [] => rfl
  | b :: bs => by
    rw [List.map_cons, wide, wide_nl bs, nl_cells]
    unfold nl
    split <;> rfl
theorem closeds_nl : ∀ bs : List (List SP), V.closed.closeds (bs.map nl) = true
  | [] => rfl
  | b :: bs => by rw [List.map_cons, V.closed.closeds, closeds_nl bs, nl_closed]; rfl
set_option maxHeartbeats 2000000 in
theorem run_sinsert {h : H} {sv v : V} {z : Bool} {bs : List (List SP)} {es : List SP} (hsv : SV sv bs) (hb : Bks bs) (lv : LV v es) (hes : ∀ e ∈ es, e.Bk) (hsz : ∀ e ∈ es, e.Sz) (hl : es.length ≤ 100000) :
    ∃ sv', run XP i_sleuthlaw31_state_insert [.agg [sv, vb z], v] h = some (.tup [.agg [sv', vb z], vi (insS z bs es).2.1, vi (insS z bs es).2.2], h) ∧ SV sv' (insS z bs es).1 := by
  have hsp := hsv.plain
  have ha0 := (SA.lst lv h).a0
  unfold insS
  cases z with
  | true =>
    refine ⟨sv, ?_, hsv⟩
    rw [run_eq, xp_sleuthlaw31_state_insert]
    simp -implicitDefEqProofs [x_sleuthlaw31_state_insert, hsp]
  | false =>
    rw [if_neg (by simp)]
    by_cases hz : chkF es = 0
    · rw [if_neg (by simpa using hz)]
      cases hf : es.any (fgn 1) with
      | true =>
        refine ⟨sv, ?_, hsv⟩
        rw [run_eq, xp_sleuthlaw31_state_insert]
        simp -implicitDefEqProofs [x_sleuthlaw31_state_insert, hsp]
        refine sI_l0 (p := h.length) (q := h.length + 1) (v := v) (sv := sv) (z := false) (es := es) (fun h => lv.rd h) hsz hl hsp (by simp) (by simp) (by omega) ?_ ?_ _ ?_
        · rintro s _ h0
          exact absurd hz h0
        · rintro s ⟨g1, g2, g4, -⟩ _
          simp -implicitDefEqProofs
          refine sI_l1 (p := h.length) (q := h.length + 1) (v := v) (sv := sv) (z := false) (es := es) (fun h => lv.rd h) hl hsp (by simp) (by simp) (by omega) ?_ ?_ _ ?_
          · rintro s ⟨g4, g5, g6, -⟩ _
            simp -implicitDefEqProofs [g4, g5, g6, hsp]
          · rintro s _ h0
            rw [hf] at h0
            cases h0
          · simp [g1, g2, g4]
        · simp
      | false =>
        rw [if_neg (by simp)]
        have hmb : ∀ e ∈ more bs es, e.Bk := fun e he => hes e (more_mem he)
        have hmz : ∀ e ∈ more bs es, e.Sz := fun e he => hsz e (more_mem he)
        have hml : (more bs es).length ≤ 100000 := Nat.le_trans (more_len bs es) hl
        have hrec := fun h => run_srecords (h := h) (z := false) hsv hb
        have hset := fun h => (SA.lst lv h).set (fun e he => (hes e he).sm) hl []
        have hwn := wide_nl bs
        have hcn := closeds_nl bs
        have hbn := hb.n
        have hsL := fun h => (hsv.rd h).appEls
        have hmd := dst_of_str (more_str bs es)
        simp only [List.append_nil] at hset
        by_cases c1 : more bs es = []
        · rw [if_pos c1]
          refine ⟨sv, ?_, hsv⟩
          rw [run_eq, xp_sleuthlaw31_state_insert]
          simp -implicitDefEqProofs [x_sleuthlaw31_state_insert, hsp]
          refine sI_l0 (p := h.length) (q := h.length + 1) (v := v) (sv := sv) (z := false) (es := es) (fun h => lv.rd h) hsz hl hsp (by simp) (by simp) (by omega) ?_ ?_ _ ?_
          · rintro s _ h0
            exact absurd hz h0
          · rintro s ⟨g1, g2, g4, -⟩ _
            simp -implicitDefEqProofs
            refine sI_l1 (p := h.length) (q := h.length + 1) (v := v) (sv := sv) (z := false) (es := es) (fun h => lv.rd h) hl hsp (by simp) (by simp) (by omega) ?_ ?_ _ ?_
            · rintro s _ h0
              rw [hf] at h0
              cases h0
            · rintro s ⟨g1, g2, g4, -⟩ _
              simp -implicitDefEqProofs [g1, g2, g4, hsp, hrec, hset, ha0, nl_res0, ow_res0]
              refine sI_l2 (c1 := v) (x2 := .ptr h.length 0) (x4 := .ptr (h.length + 1) 0) (D := recs bs) (W := dst es) (fun d hd => (hb.mem (dst_mem hd)).sm) (fun e he => (hes e (dst_mem he)).sm) (recs_len hb) (by have := dst_length es; omega) (by simp) ?_ _ ?_
              · rintro s h' ⟨g1, g2, g4, -⟩ htk ho
                obtain ⟨t, rfl⟩ := tail_of htk
                have ho : OutV (s 11) _ _ 14 ((more bs es).map SP.v) := ho
                rw [c1, List.map_nil] at ho
                rcases ho with ⟨-, h11⟩ | ⟨q, h0, -⟩
                · simp -implicitDefEqProofs [g2, g4, h11, hsp]
                · exact absurd rfl h0
              · simp [g1, g2, g4]
            · simp [g1, g2, g4]
          · simp
        · rw [if_neg c1]
          by_cases c2 : blE (more bs es) = 0
          · rw [if_neg (by simpa using c2)]
            refine ⟨.lst 1 (bs.map nl ++ [nl (more bs es)]), ?_, .inr (by simp)⟩
            rw [run_eq, xp_sleuthlaw31_state_insert]
            simp -implicitDefEqProofs [x_sleuthlaw31_state_insert, hsp]
            refine sI_l0 (p := h.length) (q := h.length + 1) (v := v) (sv := sv) (z := false) (es := es) (fun h => lv.rd h) hsz hl hsp (by simp) (by simp) (by omega) ?_ ?_ _ ?_
            · rintro s _ h0
              exact absurd hz h0
            · rintro s ⟨g1, g2, g4, -⟩ _
              simp -implicitDefEqProofs
              refine sI_l1 (p := h.length) (q := h.length + 1) (v := v) (sv := sv) (z := false) (es := es) (fun h => lv.rd h) hl hsp (by simp) (by simp) (by omega) ?_ ?_ _ ?_
              · rintro s _ h0
                rw [hf] at h0
                cases h0
              · rintro s ⟨g1, g2, g4, -⟩ _
                simp -implicitDefEqProofs [g1, g2, g4, hsp, hrec, hset, ha0, nl_res0, ow_res0]
                refine sI_l2 (c1 := v) (x2 := .ptr h.length 0) (x4 := .ptr (h.length + 1) 0) (D := recs bs) (W := dst es) (fun d hd => (hb.mem (dst_mem hd)).sm) (fun e he => (hes e (dst_mem he)).sm) (recs_len hb) (by have := dst_length es; omega) (by simp) ?_ _ ?_
                · rintro s h' ⟨g1, g2, g4, -⟩ htk ho
                  obtain ⟨t, rfl⟩ := tail_of htk
                  have ho : OutV (s 11) _ _ 14 ((more bs es).map SP.v) := ho
                  rcases ho with ⟨h0, -⟩ | ⟨q, h0, hq, h11, hq2⟩
                  · exact absurd (by simpa using h0) c1
                  · obtain ⟨j, rfl⟩ : ∃ j, q = h.length + (j + 2) := ⟨q - h.length - 2, by simp at hq; omega⟩
                    rw [List.length_map] at h11
                    have hq3 := hq2
                    rw [List.append_assoc, at_app] at hq3
                    have hq4 : t[j]? = some (.arr false 14 ((more bs es).map SP.v)) := hq3
                    have hj := (List.getElem?_eq_some_iff.1 hq4).1
                    have hBl := run_Build (SA.ref hq2) hmb hmz hml
                    obtain ⟨t2, z2, ht2, ht4, htl⟩ : ∃ t2 z2, (if blE0 (more bs es) ≠ 0 then h ++ [O.box false [sv, vb false], .box false [vnil, vb false]] ++ t else (h ++ [O.box false [sv, vb false], .box false [vnil, vb false]] ++ t).set (h.length + (j + 2)) (.arr true 14 ((more bs es).map SP.v))) = h ++ (O.box false [sv, vb false] :: .box false [vnil, vb false] :: t2) ∧ t2[j]? = some (.arr z2 14 ((more bs es).map SP.v)) ∧ j < t2.length := by
                      split
                      · exact ⟨t, false, by simp, hq4, hj⟩
                      · exact ⟨t.set j (.arr true 14 ((more bs es).map SP.v)), true, by rw [List.append_assoc, set_app]; rfl, List.getElem?_set_self hj, by simpa using hj⟩
                    rw [ht2] at hBl
                    have hq5 : ∀ r : H, (t ++ r)[j]? = some (.arr false 14 ((more bs es).map SP.v)) := fun r => by rw [List.getElem?_append_left hj]; exact hq4
                    have ht5 : ∀ r : H, (t2 ++ r)[j]? = some (.arr z2 14 ((more bs es).map SP.v)) := fun r => by rw [List.getElem?_append_left htl]; exact ht4
                    have ht6 : ∀ (r : H) (o : O), (t2 ++ r).set j o = t2.set j o ++ r := fun r o => List.set_append_left _ _ htl
                    have hcl := closeds_SP (more bs es)
                    have hm0 : (((more bs es).length : Int) == 0) = false := by
                      have : (more bs es).length ≠ 0 := by simpa using c1
                      simp only [beq_eq_false_iff_ne, ne_eq]
                      omega
                    rw [blV, hmd] at hBl
                    simp only [List.append_assoc, List.cons_append, List.nil_append] at hBl
                    rw [if_pos c2, c2] at hBl
                    have hnlm : nl (more bs es) = .lst 14 ((more bs es).map SP.v) := by rw [nl, if_neg c1]
                    rw [hnlm]
                    generalize more bs es = m at *
                    have ht7 : ∀ (o : O) (r : H), (t2.set j o ++ r)[j]? = some o := fun o r => by rw [List.getElem?_append_left (by simpa using htl), List.getElem?_set_self htl]
                    have hb2 : bs.length ≤ 5864062014804 := by omega
                    have hcl2 : V.closed.closeds (bs.map nl ++ [V.lst 14 (m.map SP.v)]) = true := by rw [closeds_app, hcn]; rfl
                    have hb1 : bs.length ≤ 5864062014805 := by omega
                    rcases hsv with ⟨rfl, rfl⟩ | rfl
                    · simp -implicitDefEqProofs [g2, g4, h11, hq4, hm0, hBl, ht4, ht5, ht6, hcl, hwn, hcn, hb1, hb2, hcl2, ht7, bkV]
                    · simp -implicitDefEqProofs [g2, g4, h11, hq4, hm0, hBl, ht4, ht5, ht6, hcl, hwn, hcn, hb1, hb2, hcl2, ht7, bkV]
                · simp [g1, g2, g4]
              · simp [g1, g2, g4]
            · simp
          · rw [if_pos c2]
            refine ⟨sv, ?_, hsv⟩
            rw [run_eq, xp_sleuthlaw31_state_insert]
            simp -implicitDefEqProofs [x_sleuthlaw31_state_insert, hsp]
            refine sI_l0 (p := h.length) (q := h.length + 1) (v := v) (sv := sv) (z := false) (es := es) (fun h => lv.rd h) hsz hl hsp (by simp) (by simp) (by omega) ?_ ?_ _ ?_
            · rintro s _ h0
              exact absurd hz h0
            · rintro s ⟨g1, g2, g4, -⟩ _
              simp -implicitDefEqProofs
              refine sI_l1 (p := h.length) (q := h.length + 1) (v := v) (sv := sv) (z := false) (es := es) (fun h => lv.rd h) hl hsp (by simp) (by simp) (by omega) ?_ ?_ _ ?_
              · rintro s _ h0
                rw [hf] at h0
                cases h0
              · rintro s ⟨g1, g2, g4, -⟩ _
                simp -implicitDefEqProofs [g1, g2, g4, hsp, hrec, hset, ha0, nl_res0, ow_res0]
                refine sI_l2 (c1 := v) (x2 := .ptr h.length 0) (x4 := .ptr (h.length + 1) 0) (D := recs bs) (W := dst es) (fun d hd => (hb.mem (dst_mem hd)).sm) (fun e he => (hes e (dst_mem he)).sm) (recs_len hb) (by have := dst_length es; omega) (by simp) ?_ _ ?_
                · rintro s h' ⟨g1, g2, g4, -⟩ htk ho
                  obtain ⟨t, rfl⟩ := tail_of htk
                  have ho : OutV (s 11) _ _ 14 ((more bs es).map SP.v) := ho
                  rcases ho with ⟨h0, -⟩ | ⟨q, h0, hq, h11, hq2⟩
                  · exact absurd (by simpa using h0) c1
                  · obtain ⟨j, rfl⟩ : ∃ j, q = h.length + (j + 2) := ⟨q - h.length - 2, by simp at hq; omega⟩
                    rw [List.length_map] at h11
                    have hq3 := hq2
                    rw [List.append_assoc, at_app] at hq3
                    have hq4 : t[j]? = some (.arr false 14 ((more bs es).map SP.v)) := hq3
                    have hj := (List.getElem?_eq_some_iff.1 hq4).1
                    have hBl := run_Build (SA.ref hq2) hmb hmz hml
                    obtain ⟨t2, z2, ht2, ht4, htl⟩ : ∃ t2 z2, (if blE0 (more bs es) ≠ 0 then h ++ [O.box false [sv, vb false], .box false [vnil, vb false]] ++ t else (h ++ [O.box false [sv, vb false], .box false [vnil, vb false]] ++ t).set (h.length + (j + 2)) (.arr true 14 ((more bs es).map SP.v))) = h ++ (O.box false [sv, vb false] :: .box false [vnil, vb false] :: t2) ∧ t2[j]? = some (.arr z2 14 ((more bs es).map SP.v)) ∧ j < t2.length := by
                      split
                      · exact ⟨t, false, by simp, hq4, hj⟩
                      · exact ⟨t.set j (.arr true 14 ((more bs es).map SP.v)), true, by rw [List.append_assoc, set_app]; rfl, List.getElem?_set_self hj, by simpa using hj⟩
                    rw [ht2] at hBl
                    have hq5 : ∀ r : H, (t ++ r)[j]? = some (.arr false 14 ((more bs es).map SP.v)) := fun r => by rw [List.getElem?_append_left hj]; exact hq4
                    have ht5 : ∀ r : H, (t2 ++ r)[j]? = some (.arr z2 14 ((more bs es).map SP.v)) := fun r => by rw [List.getElem?_append_left htl]; exact ht4
                    have ht6 : ∀ (r : H) (o : O), (t2 ++ r).set j o = t2.set j o ++ r := fun r o => List.set_append_left _ _ htl
                    have hcl := closeds_SP (more bs es)
                    have hm0 : (((more bs es).length : Int) == 0) = false := by
                      have : (more bs es).length ≠ 0 := by simpa using c1
                      simp only [beq_eq_false_iff_ne, ne_eq]
                      omega
                    rw [blV, hmd] at hBl
                    simp only [List.append_assoc, List.cons_append, List.nil_append] at hBl
                    rw [if_neg c2] at hBl
                    have hnz : (blE (more bs es) != 0) = true := by simpa using c2
                    generalize blE (more bs es) = y at *
                    generalize more bs es = m at *
                    simp -implicitDefEqProofs [g2, g4, h11, hsp, hq4, hm0, hBl, hnz]
                · simp [g1, g2, g4]
              · simp [g1, g2, g4]
            · simp
    · rw [if_pos hz]
      refine ⟨sv, ?_, hsv⟩
      rw [run_eq, xp_sleuthlaw31_state_insert]
      simp -implicitDefEqProofs [x_sleuthlaw31_state_insert, hsp]
      refine sI_l0 (p := h.length) (q := h.length + 1) (v := v) (sv := sv) (z := false) (es := es) (fun h => lv.rd h) hsz hl hsp (by simp) (by simp) (by omega) ?_ ?_ _ ?_
      · rintro s ⟨g4, g5, g6, -⟩ _
        simp -implicitDefEqProofs [g4, g5, g6, hsp]
      · rintro s _ h0
        exact absurd h0 hz
      · simp
end Go.Proofs.Sl

namespace Go.Proofs.Sl
theorem sameL_refl : ∀ l : List SP, sameL l l = true
  | [] => rfl
  | a :: l => by rw [sameL, sameL_refl l, cz]; rfl
theorem run_agrees {h : H} {l : Nat} {z : Bool} {bs : List (List SP)} {sv : V} (p : PO h l 1 z bs) (hsv : SV sv bs) (hb : Bks bs) : run XP i_sleuthlaw31_state_agrees [.agg [sv, vb z], .ptr l 0] h = some (vb true, h) := by
  have hsp := hsv.plain
  obtain ⟨v, hB, hv⟩ := run_pBlocks (h := h ++ [.box false [sv, vb z]]) (p.app _) hb.n
  have hN := fun t => run_pNumber (p.app t)
  have hS := fun t => run_pSealed (p.app t)
  have hR := fun t => run_pRecords (p.app t) hb
  have hr := fun h => run_srecords (h := h) (z := z) hsv hb
  have hm := fun h => run_same31 (h := h) (v := nl (recs bs)) (w := nl (recs bs)) ((nl_LV _).rd _) ((nl_LV _).rd _) (fun e he => (hb.mem (dst_mem he)).sm) (fun e he => (hb.mem (dst_mem he)).sm) (recs_len hb)
  have hbl := fun h => (hv.rd h).toL
  have hsl := fun h => (hsv.rd h).toL
  have hz : ((1 : Int) != 1) = false := by decide
  have hzz : (z != z) = false := by simp
  have hbn := hb.n
  have hnn : ((bs.length : Int) != (bs.length : Int)) = false := by simp
  generalize hres : res0 v = b at *
  have hba : arg0 b = some b := (hv.rd h).arg0
  simp only [sameL_refl] at hm
  rw [run_eq, xp_sleuthlaw31_state_agrees]
  simp -implicitDefEqProofs [x_sleuthlaw31_state_agrees, hsp, hB, hres, hN, hz, hS, hzz, hbl, hsl, hnn, hR, hr, hm, nl_res0, nl_arg0, same_self, optEq]
  refine loop_list bs (fun k s h' => h' = h ++ [.box false [sv, vb z]] ∧ Sees s [(2, .ptr h.length 0), (5, b), (6, vi k)]) ?_ ?_ _ _ ?_
  · rintro B f' hB' hf k e s h' he hk ⟨rfl, g2, g5, g6, -⟩ K
    have hlt : (k : Int) < bs.length := by omega
    obtain ⟨q, hq, hld⟩ := (hv.rd (h ++ [.box false [sv, vb z]])).atB he
    obtain ⟨q2, hq2, hld2⟩ := (hsv.rd (h ++ [.box false [sv, vb z]])).atN he
    have hel : e.length ≤ 100000 := by
      have h1 := flat_le (xs := bs) (k + 1)
      have := hb.l
      rw [flat_up he, List.length_append] at h1
      omega
    have hem := List.mem_of_getElem? he
    have hSp := fun h => run_bSpans h (hb.bk e hem) hel
    have hme := fun h => run_same31 (h := h) (v := nl e) (w := nl e) ((nl_LV _).rd _) ((nl_LV _).rd _) (fun a ha => (hb.bk e hem a ha).sm) (fun a ha => (hb.bk e hem a ha).sm) hel
    have hw : IntKind.i64.wrap ((k : Int) + 1) = (k : Int) + 1 := wrap_i64 (by omega) (by omega)
    simp only [sameL_refl] at hme
    simp only [bkV] at hld hSp
    simp -implicitDefEqProofs [hB', x_sleuthlaw31_state_agrees_l0, g2, g5, g6, hsp, hbl, hlt, hq, hld, hq2, hld2, hSp, ow_res0, nl_arg0, nl_res0, hme, same_self, optEq]
    refine K _ _ ⟨rfl, ?_⟩
    simp [g2, g5, hw]
  · rintro B hB' s h' ⟨rfl, g2, g5, g6, -⟩
    simp -implicitDefEqProofs [hB', x_sleuthlaw31_state_agrees_l0, g5, g6, hbl]
  · exact ⟨rfl, by simp⟩
end Go.Proofs.Sl

namespace Go.Proofs.Sl
def digS (es : List SP) : Int := digF (es.map SP.f)
theorem run_Digest {h : H} {l : Nat} {n : Int} {s : Bool} {bs : List (List SP)} (p : PO h l n s bs) (hb : Bks bs) (hv : ∀ e ∈ recs bs, e.Va) : run XP i_partition_Partition_Digest [.ptr l 0] h = some (vk .u32 (digS (recs bs)), h) := by
  have hR := run_pRecords p hb
  have hL := fun h => ((nl_LV (recs bs)).rd h).toL
  have hrl := recs_len hb
  rw [run_eq, xp_partition_Partition_Digest]
  generalize recs bs = D at *
  simp -implicitDefEqProofs [x_partition_Partition_Digest, hR, nl_res0, hL]
  refine loop_list D (fun k s h' => ∃ t, Sees s [(7, nl D), (8, vi D.length), (9, vi k)] ∧ h' = h ++ t ∧ OutV (s 3) h' h.length 1 (((D.take k).map SP.f).map tx)) ?_ ?_ _ _ ?_
  · rintro B f' hB hf k e s h' he hk ⟨t, ⟨g7, g8, g9, -⟩, rfl, ho⟩ K
    have hlt : (k : Int) < D.length := by omega
    have hie := nl_at he (h ++ t)
    have hva := hv e (List.mem_of_getElem? he)
    have hE := fun h => E_Span h hva.ok
    have hw : IntKind.i64.wrap ((k : Int) + 1) = (k : Int) + 1 := wrap_i64 (by omega) (by omega)
    have tk : D.take (k + 1) = D.take k ++ [e] := by rw [List.take_add_one, he]; rfl
    obtain ⟨x', h'', hap, ho', htk, hbl⟩ := (ho.app [.box false e.v.cells]).grow (lim := 8796093022208) (e := tx e.f) (by simp) rfl rfl (by simp only [List.length_map, List.length_take]; omega)
    have htk' : ∃ t', h'' = h ++ t' := ⟨h''.drop h.length, by
      have := List.take_append_drop h.length h''
      rw [htk] at this
      rw [List.append_assoc, List.take_left] at this
      exact this.symm⟩
    obtain ⟨t', rfl⟩ := htk'
    rw [List.append_assoc] at hap
    simp only [SP.v, V.cells, tx] at hie hE hap
    simp -implicitDefEqProofs [hB, x_partition_Partition_Digest_l0, g7, g8, g9, hlt, hie, hE, hap]
    refine K _ _ ⟨t', ?_, rfl, ?_⟩
    · simp [g7, g8, hw]
    · rw [tk, List.map_append, List.map_append]
      simpa using ho'
  · rintro B hB s h' ⟨t, ⟨g7, g8, g9, -⟩, rfl, ho⟩
    rw [List.take_length] at ho
    simp -implicitDefEqProofs [hB, x_partition_Partition_Digest_l0, g8, g9]
    by_cases hD : D = []
    · subst hD
      rcases ho with ⟨-, h3⟩ | ⟨q, h0, -⟩
      · simp -implicitDefEqProofs [h3, digS, digF]
      · exact absurd rfl h0
    · have hrd := fun r => (ho.app r).rd
      have hrd0 := ho.rd
      have hC := run_Chain (h ++ t) (v := s 3) (fs := D.map SP.f) (fun r => hrd r) (fun f hf => by
        obtain ⟨e, he, rfl⟩ := List.mem_map.1 hf
        have := SP.le (hv e he).ok
        omega) (by simpa using hrl)
      have ha0 := hrd0.arg0
      have hT := hrd0.toL
      have hlm : (((D.map SP.f).map tx).length : Int) = (D.length : Int) := by simp
      have hd0 : ((D.length : Int) == 0) = false := by
        have : D.length ≠ 0 := by simpa using hD
        simp only [beq_eq_false_iff_ne, ne_eq]
        omega
      have hpos : 0 < D.length := List.length_pos_iff.2 hD
      have hw1 : IntKind.i64.wrap ((D.length : Int) - 1) = ((D.length - 1 : Nat) : Int) := by rw [wrap_i64 (by omega) (by omega)]; omega
      have hlast : ((chF 0 (D.map SP.f)).map (vk .u32))[D.length - 1]? = some (vk .u32 (digS D)) := by
        obtain ⟨e, he⟩ : ∃ e, (D.map SP.f)[D.length - 1]? = some e := ⟨_, List.getElem?_eq_getElem (by simp; omega)⟩
        have h1 := chF_take (p := 0) he
        have h2 : D.length - 1 + 1 = (D.map SP.f).length := by simp; omega
        have h4 : (D.map SP.f).foldl lnkF 0 = lnkF (((D.map SP.f).take (D.length - 1)).foldl lnkF 0) e := by
          have : D.map SP.f = (D.map SP.f).take (D.length - 1) ++ [e] := by
            have := List.take_add_one (l := D.map SP.f) (i := D.length - 1)
            rw [h2, List.take_length, he] at this
            exact this
          rw [this, List.foldl_append, ← this]
          rfl
        have h3 : digS D = lnkF (((D.map SP.f).take (D.length - 1)).foldl lnkF 0) e := h4
        have hlen : (chF 0 ((D.map SP.f).take (D.length - 1))).length = D.length - 1 := by rw [chF_len, List.length_take, List.length_map]; omega
        rw [h2, List.take_length] at h1
        rw [List.getElem?_map, h1, List.getElem?_append_right (by omega), hlen, h3]
        simp
      have htk3 : (h ++ t).take h.length = h := by simp
      generalize (chF 0 (D.map SP.f)).map (vk .u32) = C at *
      generalize (D.map SP.f).map tx = T at *
      have hx3 := s 3
      simp -implicitDefEqProofs [hT, hlm, hd0, ha0, hC, hw1, hlast]
  · exact ⟨[], by simp, by simp, .inl ⟨by simp, by simp⟩⟩
end Go.Proofs.Sl

namespace Go.Proofs.Sl
theorem chk_rc1 : chkSp (rc 1) = 0 := by decide +kernel
theorem chk_rc2 : chkSp (rc 2) = 0 := by decide +kernel
theorem chk_rc3 : chkSp (rc 3) = 0 := by decide +kernel
theorem rc_sz (i : Int) : (rc i).Sz := ⟨by show 1 ≤ 9223372036854775807; decide, by show 0 ≤ 9223372036854775807; decide, by show 1 ≤ 9223372036854775807; decide, fun e he => (List.not_mem_nil (show e ∈ ([] : List AT) from he)).elim, fun _ => rfl, fun _ => rfl⟩
theorem rc_bk (i : Int) : (rc i).Bk := ⟨Nat.zero_le _, Nat.zero_le _, fun _ => rfl, fun _ => rfl⟩
theorem str12 : Str [rc 1, rc 2] := by
  simp only [Str, List.pairwise_cons, List.mem_cons, List.not_mem_nil, or_false, forall_eq, false_implies, implies_true, List.Pairwise.nil, and_true]
  decide +kernel
theorem str23 : Str [rc 2, rc 3] := by
  simp only [Str, List.pairwise_cons, List.mem_cons, List.not_mem_nil, or_false, forall_eq, false_implies, implies_true, List.Pairwise.nil, and_true]
  decide +kernel
theorem str123 : Str [rc 1, rc 2, rc 3] := by
  simp only [Str, List.pairwise_cons, List.mem_cons, List.not_mem_nil, or_false, forall_eq_or_imp, forall_eq, false_implies, implies_true, List.Pairwise.nil, and_true]
  decide +kernel
theorem recs_nil : recs [] = [] := rfl
theorem recs12 : recs [[rc 1, rc 2]] = [rc 1, rc 2] := dst_of_str str12
theorem recs123 : recs [[rc 1, rc 2], [rc 3]] = [rc 1, rc 2, rc 3] := dst_of_str str123
theorem more12 : more [] [rc 1, rc 2] = [rc 1, rc 2] := by
  rw [more, dst_of_str str12, recs_nil]
  rfl
theorem more3 : more [[rc 1, rc 2]] [rc 2, rc 3] = [rc 3] := by
  have h1 : inS [rc 1, rc 2] (rc 2) = true := by decide +kernel
  have h2 : inS [rc 1, rc 2] (rc 3) = false := by decide +kernel
  rw [more, dst_of_str str23, recs12]
  simp [h1, h2]
theorem blE_of {l : List SP} (hs : Str l) (h1 : blE0 l = 0) (h2 : madE l = 0) : blE l = 0 := by rw [blE, h1, dst_of_str hs, h2]; rfl
theorem blE12 : blE [rc 1, rc 2] = 0 := blE_of str12 (by decide +kernel) (by decide +kernel)
theorem blE3 : blE [rc 3] = 0 := blE_of (List.pairwise_singleton _ _) (by decide +kernel) (by decide +kernel)
theorem ins12 : insR 1 false [] [rc 1, rc 2] = (2, 0, [[rc 1, rc 2]]) := by
  have h1 : chkF [rc 1, rc 2] = 0 := by decide +kernel
  have h2 : [rc 1, rc 2].any (fgn 1) = false := by decide +kernel
  rw [insR, if_neg (by simp), if_neg (by simpa using h1), if_neg (by simp [h2]), more12, blE12]
  rfl
theorem ins3 : insR 1 false [[rc 1, rc 2]] [rc 2, rc 3] = (1, 0, [[rc 1, rc 2], [rc 3]]) := by
  have h1 : chkF [rc 2, rc 3] = 0 := by decide +kernel
  have h2 : [rc 2, rc 3].any (fgn 1) = false := by decide +kernel
  rw [insR, if_neg (by simp), if_neg (by simpa using h1), if_neg (by simp [h2]), more3, blE3]
  rfl
theorem bl0 : blen 0 = 0 := by rw [blen]; rfl
theorem bl1 {m : Nat} (h : 0 < m ∧ m < 256) : blen m = 1 := by
  rw [blen, dif_neg (by omega), show m / 256 = 0 by omega, bl0]
theorem bl4 : blen 16777217 = 4 := by
  rw [blen, dif_neg (by decide), show 16777217 / 256 = 65536 from rfl, blen, dif_neg (by decide), show 65536 / 256 = 256 from rfl, blen, dif_neg (by decide), show 256 / 256 = 1 from rfl, bl1 (by decide)]
theorem fN0 : fNum 0 = [128] := by
  rw [fNum, show (0 : Int).natAbs = 0 from rfl, bl0]
  rfl
theorem fN1 : fNum 1 = [129, 1] := by
  rw [fNum, show (1 : Int).natAbs = 1 from rfl, bl1 (by decide)]
  rfl
theorem fN2 : fNum 2 = [129, 2] := by
  rw [fNum, show (2 : Int).natAbs = 2 from rfl, bl1 (by decide)]
  rfl
theorem fN3 : fNum 3 = [129, 3] := by
  rw [fNum, show (3 : Int).natAbs = 3 from rfl, bl1 (by decide)]
  rfl
theorem fN4 : fNum 16777217 = [132, 1, 0, 0, 1] := by
  rw [fNum, show (16777217 : Int).natAbs = 16777217 from rfl, bl4]
  rfl
def rcB (x : UInt8) : List UInt8 := [132, 1, 0, 0, 1, 129, x, 128, 128, 129, 1, 129, 3, 129, 1, 115, 128, 129, 1, 111, 128, 128, 128, 128, 128]
theorem rcF {i : Int} {x : UInt8} (h : fNum i = [129, x]) : (rc i).f = rcB x := by
  have e1 : fText ⟨#[115]⟩ = [129, 1, 115] := by
    rw [fText, show ((⟨#[115]⟩ : ByteArray).size : Int) = 1 from rfl, fN1]
    rfl
  have e2 : fText ⟨#[]⟩ = [128] := by
    rw [fText, show ((⟨#[]⟩ : ByteArray).size : Int) = 0 from rfl, fN0]
    rfl
  have e3 : fText ⟨#[111]⟩ = [129, 1, 111] := by
    rw [fText, show ((⟨#[111]⟩ : ByteArray).size : Int) = 1 from rfl, fN1]
    rfl
  have e4 : fList AT.f [] = [128] := by
    rw [fList, show ((([] : List AT).length : Nat) : Int) = 0 from rfl, fN0]
    rfl
  have e5 : fList RF.f [] = [128] := by
    rw [fList, show ((([] : List RF).length : Nat) : Int) = 0 from rfl, fN0]
    rfl
  have e6 : fBool false = [128] := by rw [fBool, if_neg (by decide), fN0]
  show fNums [16777217, i, 0, 0, 1, 3] ++ (fText ⟨#[115]⟩ ++ (fText ⟨#[]⟩ ++ (fText ⟨#[111]⟩ ++ (fNums [0, 0] ++ (fBool false ++ (fList AT.f [] ++ fList RF.f [])))))) = _
  rw [e1, e2, e3, e4, e5, e6, fNums, fNums, fNums, fNums, fNums, fNums, fNums, fNums, fNums, fNums, fN4, h, fN0, fN1, fN3]
  rfl
theorem exF_step {r r2 : Int} {b : UInt8} {l : List UInt8} (h : itF 8 (xorI .u32 r b.toNat) = r2) : exF r (b :: l) = exF r2 l := by rw [exF, h]
theorem xh1 : extF 0 [0, 0, 0, 0, 25, 0, 0, 0, 0, 0, 0, 0] = 2752627988 := by
  rw [extF, show xorI .u32 4294967295 0 = 4294967295 by decide +kernel]
  rw [exF_step (r2 := 2911022254) (by decide +kernel), exF_step (r2 := 245270573) (by decide +kernel), exF_step (r2 := 2677759109) (by decide +kernel), exF_step (r2 := 3080238136) (by decide +kernel), exF_step (r2 := 3529610601) (by decide +kernel), exF_step (r2 := 430319931) (by decide +kernel), exF_step (r2 := 2842903715) (by decide +kernel), exF_step (r2 := 2981246230) (by decide +kernel), exF_step (r2 := 911119026) (by decide +kernel), exF_step (r2 := 1394101420) (by decide +kernel), exF_step (r2 := 4015743546) (by decide +kernel), exF_step (r2 := 1542339307) (by decide +kernel)]
  decide +kernel
theorem xr1 : extF 2752627988 [132, 1, 0, 0, 1, 129, 1, 128, 128, 129, 1, 129, 3, 129, 1, 115, 128, 129, 1, 111, 128, 128, 128, 128, 128] = 3051982707 := by
  rw [extF, show xorI .u32 4294967295 2752627988 = 1542339307 by decide +kernel]
  rw [exF_step (r2 := 1066287484) (by decide +kernel), exF_step (r2 := 3465516703) (by decide +kernel), exF_step (r2 := 3430240165) (by decide +kernel), exF_step (r2 := 2541147381) (by decide +kernel), exF_step (r2 := 878939838) (by decide +kernel), exF_step (r2 := 1858344475) (by decide +kernel), exF_step (r2 := 2077371201) (by decide +kernel), exF_step (r2 := 832403436) (by decide +kernel), exF_step (r2 := 750043589) (by decide +kernel), exF_step (r2 := 2261597794) (by decide +kernel), exF_step (r2 := 1913695656) (by decide +kernel), exF_step (r2 := 1484604863) (by decide +kernel), exF_step (r2 := 4279156828) (by decide +kernel), exF_step (r2 := 1812243384) (by decide +kernel), exF_step (r2 := 3402345894) (by decide +kernel), exF_step (r2 := 3873979930) (by decide +kernel), exF_step (r2 := 4188814353) (by decide +kernel), exF_step (r2 := 2454802475) (by decide +kernel), exF_step (r2 := 1271789494) (by decide +kernel), exF_step (r2 := 2871719824) (by decide +kernel), exF_step (r2 := 284552600) (by decide +kernel), exF_step (r2 := 2593614413) (by decide +kernel), exF_step (r2 := 2084568445) (by decide +kernel), exF_step (r2 := 1278876763) (by decide +kernel), exF_step (r2 := 1242984588) (by decide +kernel)]
  decide +kernel
theorem lk1 : lnkF 0 (rcB 1) = 3051982707 := by
  rw [lnkF, show hdB 0 (rcB 1).length = [0, 0, 0, 0, 25, 0, 0, 0, 0, 0, 0, 0] by decide +kernel, xh1, rcB, xr1]
theorem xh2 : extF 0 [115, 143, 233, 181, 25, 0, 0, 0, 0, 0, 0, 0] = 3737304874 := by
  rw [extF, show xorI .u32 4294967295 0 = 4294967295 by decide +kernel]
  rw [exF_step (r2 := 3477736279) (by decide +kernel), exF_step (r2 := 1506145135) (by decide +kernel), exF_step (r2 := 2752387427) (by decide +kernel), exF_step (r2 := 4124444762) (by decide +kernel), exF_step (r2 := 1390295104) (by decide +kernel), exF_step (r2 := 1093256068) (by decide +kernel), exF_step (r2 := 1160611236) (by decide +kernel), exF_step (r2 := 1704202044) (by decide +kernel), exF_step (r2 := 2110067310) (by decide +kernel), exF_step (r2 := 3452168535) (by decide +kernel), exF_step (r2 := 2233630161) (by decide +kernel), exF_step (r2 := 557662421) (by decide +kernel)]
  decide +kernel
theorem xr2 : extF 3737304874 [132, 1, 0, 0, 1, 129, 2, 128, 128, 129, 1, 129, 3, 129, 1, 115, 128, 129, 1, 111, 128, 128, 128, 128, 128] = 1922063850 := by
  rw [extF, show xorI .u32 4294967295 3737304874 = 557662421 by decide +kernel]
  rw [exF_step (r2 := 2741986448) (by decide +kernel), exF_step (r2 := 1616908400) (by decide +kernel), exF_step (r2 := 1912091677) (by decide +kernel), exF_step (r2 := 2936501128) (by decide +kernel), exF_step (r2 := 4209764295) (by decide +kernel), exF_step (r2 := 1730154931) (by decide +kernel), exF_step (r2 := 1075433947) (by decide +kernel), exF_step (r2 := 3370936377) (by decide +kernel), exF_step (r2 := 3396289901) (by decide +kernel), exF_step (r2 := 2931361935) (by decide +kernel), exF_step (r2 := 773864791) (by decide +kernel), exF_step (r2 := 4116457086) (by decide +kernel), exF_step (r2 := 3460646136) (by decide +kernel), exF_step (r2 := 165988997) (by decide +kernel), exF_step (r2 := 1164265645) (by decide +kernel), exF_step (r2 := 2146319300) (by decide +kernel), exF_step (r2 := 2258527384) (by decide +kernel), exF_step (r2 := 1751810759) (by decide +kernel), exF_step (r2 := 3846482862) (by decide +kernel), exF_step (r2 := 822337900) (by decide +kernel), exF_step (r2 := 2923586603) (by decide +kernel), exF_step (r2 := 996957433) (by decide +kernel), exF_step (r2 := 152167325) (by decide +kernel), exF_step (r2 := 2944375391) (by decide +kernel), exF_step (r2 := 2372903445) (by decide +kernel)]
  decide +kernel
theorem lk2 : lnkF 3051982707 (rcB 2) = 1922063850 := by
  rw [lnkF, show hdB 3051982707 (rcB 2).length = [115, 143, 233, 181, 25, 0, 0, 0, 0, 0, 0, 0] by decide +kernel, xh2, rcB, xr2]
theorem xh3 : extF 0 [234, 93, 144, 114, 25, 0, 0, 0, 0, 0, 0, 0] = 3231833749 := by
  rw [extF, show xorI .u32 4294967295 0 = 4294967295 by decide +kernel]
  rw [exF_step (r2 := 626011276) (by decide +kernel), exF_step (r2 := 563950212) (by decide +kernel), exF_step (r2 := 3622161730) (by decide +kernel), exF_step (r2 := 808758396) (by decide +kernel), exF_step (r2 := 1409790930) (by decide +kernel), exF_step (r2 := 851220207) (by decide +kernel), exF_step (r2 := 3172018344) (by decide +kernel), exF_step (r2 := 674233409) (by decide +kernel), exF_step (r2 := 3006837059) (by decide +kernel), exF_step (r2 := 1385748217) (by decide +kernel), exF_step (r2 := 2341350511) (by decide +kernel), exF_step (r2 := 1063133546) (by decide +kernel)]
  decide +kernel
theorem xr3 : extF 3231833749 [132, 1, 0, 0, 1, 129, 3, 128, 128, 129, 1, 129, 3, 129, 1, 115, 128, 129, 1, 111, 128, 128, 128, 128, 128] = 1215840405 := by
  rw [extF, show xorI .u32 4294967295 3231833749 = 1063133546 by decide +kernel]
  rw [exF_step (r2 := 1333217564) (by decide +kernel), exF_step (r2 := 2939813109) (by decide +kernel), exF_step (r2 := 3325051541) (by decide +kernel), exF_step (r2 := 2812270665) (by decide +kernel), exF_step (r2 := 3406158507) (by decide +kernel), exF_step (r2 := 1268032316) (by decide +kernel), exF_step (r2 := 1857806646) (by decide +kernel), exF_step (r2 := 2497326784) (by decide +kernel), exF_step (r2 := 1106233234) (by decide +kernel), exF_step (r2 := 55565148) (by decide +kernel), exF_step (r2 := 3993950683) (by decide +kernel), exF_step (r2 := 975830066) (by decide +kernel), exF_step (r2 := 3266503502) (by decide +kernel), exF_step (r2 := 2640095235) (by decide +kernel), exF_step (r2 := 3785763935) (by decide +kernel), exF_step (r2 := 1830807330) (by decide +kernel), exF_step (r2 := 1126030006) (by decide +kernel), exF_step (r2 := 3832164480) (by decide +kernel), exF_step (r2 := 1887031883) (by decide +kernel), exF_step (r2 := 3881263123) (by decide +kernel), exF_step (r2 := 2166315139) (by decide +kernel), exF_step (r2 := 332524716) (by decide +kernel), exF_step (r2 := 1844285666) (by decide +kernel), exF_step (r2 := 2156924421) (by decide +kernel), exF_step (r2 := 3079126890) (by decide +kernel)]
  decide +kernel
theorem lk3 : lnkF 1922063850 (rcB 3) = 1215840405 := by
  rw [lnkF, show hdB 1922063850 (rcB 3).length = [234, 93, 144, 114, 25, 0, 0, 0, 0, 0, 0, 0] by decide +kernel, xh3, rcB, xr3]
theorem dig123 : (digS [rc 1, rc 2, rc 3] != 0) = true := by
  have h : digS [rc 1, rc 2, rc 3] = lnkF (lnkF (lnkF 0 (rcB 1)) (rcB 2)) (rcB 3) := by
    show lnkF (lnkF (lnkF 0 (rc 1).f) (rc 2).f) (rc 3).f = _
    rw [rcF fN1, rcF fN2, rcF fN3]
  rw [h, lk1, lk2, lk3]
  decide
theorem rc_va1 : (rc 1).Va := ⟨rc_sz 1, chk_rc1⟩
theorem rc_va2 : (rc 2).Va := ⟨rc_sz 2, chk_rc2⟩
theorem rc_va3 : (rc 3).Va := ⟨rc_sz 3, chk_rc3⟩
theorem known31 (h : H) : run XP i_sleuthlaw31_known [] h = some (vb true, h) := by
  have hN := fun h => run_New (h := h) (n := 1) (by omega)
  have hrc := fun h i => run_record h i
  have bk0 : Bks [] := ⟨by simp, by simp, by simp⟩
  have bk1 : Bks [[rc 1, rc 2]] := ⟨by simp [rc_bk], by simp, by simp⟩
  have bk2 : Bks [[rc 1, rc 2], [rc 3]] := ⟨by simp [rc_bk], by simp, by simp⟩
  obtain ⟨h1, I1, P1, e1⟩ := run_Insert (PO.new h 1) bk0 (v := .lst 14 [(rc 1).v, (rc 2).v]) (es := [rc 1, rc 2]) (.inr rfl) (by simp [rc_bk]) (by simp [rc_sz]) (by simp)
  rw [ins12] at I1 P1
  obtain ⟨h2, I2, P2, e2⟩ := run_Insert P1 bk1 (v := .lst 14 [(rc 2).v, (rc 3).v]) (es := [rc 2, rc 3]) (.inr rfl) (by simp [rc_bk]) (by simp [rc_sz]) (by simp)
  rw [ins3] at I2 P2
  obtain ⟨v, hB, hv⟩ := run_pBlocks P2 (by simp)
  have hR := run_pRecords P2 bk2
  have hD := run_Digest P2 bk2 (by rw [recs123]; simp [rc_va1, rc_va2, rc_va3])
  rw [recs123] at hR hD
  have hbl := fun h => (hv.rd h).toL
  have hrl := fun h => ((nl_LV [rc 1, rc 2, rc 3]).rd h).toL
  have hd := dig123
  generalize digS [rc 1, rc 2, rc 3] = d at *
  have htk : h2.take h.length = h := by
    have : h1.take h.length = h := by
      rcases e1 with rfl | ⟨o, rfl⟩
      · simp
      · rw [List.take_set, List.set_eq_of_length_le (by simp)]
        simp
    rcases e2 with rfl | ⟨o, rfl⟩
    · exact this
    · rw [List.take_set, List.set_eq_of_length_le (by simp; omega)]
      exact this
  have c1 : ∀ i, (rc i).v.cells.length = 14 := fun i => (SP_cells _).1
  have c2 : ∀ i, cellsOk (rc i).v.cells = true := fun i => (SP_cells _).2
  have c3 : ∀ i, (rc i).v.closed = true := fun i => rfl
  have c4 : ∀ i, res0 (rc i).v = (rc i).v := fun i => rfl
  have c5 : ∀ i, frz0 (rc i).v = some (rc i).v := fun i => rfl
  rw [run_eq, xp_sleuthlaw31_known]
  simp only at I1 I2
  generalize hres : res0 v = b at *
  simp -implicitDefEqProofs [x_sleuthlaw31_known, hN, hrc, c1, c2, c3, c4, c5, I1, I2, hB, hres, hbl, hR, nl_res0, hrl, hD, hd, htk]
end Go.Proofs.Sl

namespace Go.Proofs.Sl
theorem chkF_all : ∀ {l : List SP}, chkF l = 0 ↔ ∀ e ∈ l, chkSp e = 0
  | [] => by simp [chkF]
  | a :: r => by
    rw [chkF]
    by_cases h : chkSp a = 0
    · rw [if_neg (by simpa using h), chkF_all]
      simp [h]
    · rw [if_pos h]
      simp [h]
theorem blE_nil : blE [] = 0 := by decide +kernel
theorem any_sub {l m : List SP} {p : SP → Bool} (h : ∀ e ∈ l, e ∈ m) (hm : m.any p = false) : l.any p = false := by
  rw [List.any_eq_false] at hm ⊢
  exact fun e he => hm e (h e he)
/-- The law's way and the partition's are one, as long as there are few blocks. -/
theorem ins_same (es : List SP) : ∃ c e B, insR 1 false [] es = (c, e, B) ∧ insS false [] es = (B, c, e) ∧ ((B = [] ∧ c = 0) ∨ (B = [more [] es] ∧ more [] es ≠ [] ∧ e = 0 ∧ chkF es = 0 ∧ es.any (fgn 1) = false ∧ blE (more [] es) = 0)) := by
  unfold insR insS
  by_cases h1 : chkF es = 0
  · cases h2 : es.any (fgn 1) with
    | true => exact ⟨0, 17, [], by simp [h1], by simp [h1], .inl ⟨rfl, rfl⟩⟩
    | false =>
      by_cases h3 : more [] es = []
      · exact ⟨0, 0, [], by simp [h1, h3, blE_nil], by simp [h1, h3], .inl ⟨rfl, rfl⟩⟩
      · by_cases h4 : blE (more [] es) = 0
        · exact ⟨(more [] es).length, 0, [more [] es], by simp [h1, h3, h4], by simp [h1, h3, h4], .inr ⟨rfl, h3, rfl, h1, rfl, h4⟩⟩
        · exact ⟨0, blE (more [] es), [], by simp [h1, h4], by simp [h1, h3, h4], .inl ⟨rfl, rfl⟩⟩
  · exact ⟨0, chkF es, [], by simp [h1], by simp [h1], .inl ⟨rfl, rfl⟩⟩
theorem more_nil {l : List SP} (h : Str l) : more [] l = l := by
  rw [more, dst_of_str h, recs_nil]
  exact List.filter_eq_self.2 fun _ _ => rfl
/-- What has gone in goes into an empty one. -/
theorem ins_again {es : List SP} {c e : Int} {B : List (List SP)} (h : insR 1 false [] es = (c, e, B)) : ∃ c', insR 1 false [] (recs B) = (c', 0, B) := by
  obtain ⟨c2, e2, B2, h1, h2, h3⟩ := ins_same es
  rw [h] at h1
  simp only [Prod.mk.injEq] at h1
  obtain ⟨rfl, rfl, rfl⟩ := h1
  rcases h3 with ⟨rfl, rfl⟩ | ⟨rfl, k1, k2, k3, k4, k5⟩
  · refine ⟨0, ?_⟩
    have hc : chkF [] = 0 := rfl
    have hm : more [] [] = [] := more_nil List.Pairwise.nil
    rw [recs_nil, insR, hm, blE_nil]
    simp [hc]
  · have hR : recs [more [] es] = more [] es := by
      have : [more [] es].flatten = more [] es := by simp
      rw [recs, this]
      exact dst_of_str (more_str _ _)
    refine ⟨(more [] es).length, ?_⟩
    have hm : more [] (more [] es) = more [] es := more_nil (more_str _ _)
    have hc : chkF (more [] es) = 0 := by
      have := chkF_all.1 k3
      exact chkF_all.2 fun e he => this e (more_mem he)
    have ha : (more [] es).any (fgn 1) = false := any_sub (fun e he => more_mem he) k4
    rw [hR, insR, hm, hc, ha, k5]
    simp [k1]
theorem pre_bk {x : SP} (hx : x.Pre) (ha : x.ats.length ≤ 40) (hl : x.lks.length ≤ 20) : x.Bk := ⟨by omega, by omega, hx.an, hx.ln⟩
theorem pre_sz {x : SP} (hx : x.Pre) : x.Sz := ⟨hx.sv, hx.vr, hx.op, fun e he => ⟨(hx.ats e he).key, (hx.ats e he).t⟩, hx.an, hx.ln⟩
theorem PO.put {h : H} {l q : Nat} {n : Int} {s : Bool} {bs : List (List SP)} (p : PO h l n s bs) (hq : q ≠ l) {h' : H} (e : h' = h ∨ ∃ o, h' = h.set q o) : PO h' l n s bs := by
  rcases e with rfl | ⟨o, rfl⟩
  · exact p
  · obtain ⟨c, h1, h2⟩ := p
    exact ⟨c, by rw [List.getElem?_set_ne hq]; exact h1, h2⟩
theorem lv_len {α : Type} {v : α → V} {k : Nat} {l : List α} {n : Bool} (hn : n = true → l = []) (h : H) : (lv k (slc v l n)).toL h = some (l.map v) := by
  cases n with
  | true => rw [hn rfl]; rfl
  | false => rfl
theorem PO.one {h' : H} {n : Int} {s : Bool} {bs : List (List SP)} {H : H} {l : Nat} (p : PO h' l n s bs) (e : h' = H ∨ ∃ o, h' = H.set l o) (hl : l < H.length) : ∃ c, h' = H.set l (.box false [vi n, vb s, c]) := by
  obtain ⟨c, h1, -⟩ := p
  refine ⟨c, ?_⟩
  rcases e with rfl | ⟨o, rfl⟩
  · obtain ⟨h2, h3⟩ := List.getElem?_eq_some_iff.1 h1
    rw [← h3, List.set_getElem_self]
  · rw [List.getElem?_set_self hl] at h1
    obtain rfl := Option.some.inj h1
    rfl
theorem SV.nil : SV vnil [] := .inl ⟨rfl, rfl⟩
set_option maxHeartbeats 4000000 in
theorem refuses_big {n : Int} {x : SP} (hx : x.Pre) (hb : 40 < x.ats.length ∨ 20 < x.lks.length) : run XP i_sleuthlaw31_PartitionRefuses [vi n, x.v] [] = some (vb true, []) := by
  have hk := fun h => known31 h
  have hA := lv_len (v := AT.v) (k := 4) hx.an
  have hL := lv_len (v := RF.v) (k := 2) hx.ln
  have sA : (lv 4 (slc AT.v x.ats x.an)).plain = true := lv_plain _ _
  have sL : (lv 2 (slc RF.v x.lks x.ln)).plain = true := lv_plain _ _
  rw [run_eq, xp_sleuthlaw31_PartitionRefuses]
  unfold SP.v
  generalize lv 4 (slc AT.v x.ats x.an) = A at *
  generalize lv 2 (slc RF.v x.lks x.ln) = L at *
  by_cases h1 : 40 < (x.ats.length : Int)
  · simp -implicitDefEqProofs [x_sleuthlaw31_PartitionRefuses, hk, hA, sA, sL, h1]
  · have h2 : 20 < (x.lks.length : Int) := by omega
    simp -implicitDefEqProofs [x_sleuthlaw31_PartitionRefuses, hk, hA, hL, sA, sL, h1, h2]
set_option maxRecDepth 4000 in
set_option maxHeartbeats 8000000 in
theorem refuses_small {n : Int} {x : SP} (hn : Rng n) (hx : x.Pre) (ha : x.ats.length ≤ 40) (hl : x.lks.length ≤ 20) : run XP i_sleuthlaw31_PartitionRefuses [vi n, x.v] [] = some (vb true, []) := by
  have hk := fun h => known31 h
  have hA := lv_len (v := AT.v) (k := 4) hx.an
  have hL := lv_len (v := RF.v) (k := 2) hx.ln
  have sA : (lv 4 (slc AT.v x.ats x.an)).plain = true := lv_plain _ _
  have sL : (lv 2 (slc RF.v x.lks x.ln)).plain = true := lv_plain _ _
  have h1 : ¬ 40 < (x.ats.length : Int) := by omega
  have h2 : ¬ 20 < (x.lks.length : Int) := by omega
  have hN1 := fun h => run_New (h := h) (n := 1) (by omega)
  have hrc := fun h => run_record h 1
  have bk0 : Bks [] := ⟨by simp, by simp, by simp⟩
  have hes : ∀ e ∈ [rc 1, x], e.Bk := by
    simp only [List.mem_cons, List.not_mem_nil, or_false, forall_eq_or_imp, forall_eq]
    exact ⟨rc_bk 1, pre_bk hx ha hl⟩
  have hsz : ∀ e ∈ [rc 1, x], e.Sz := by
    simp only [List.mem_cons, List.not_mem_nil, or_false, forall_eq_or_imp, forall_eq]
    exact ⟨rc_sz 1, pre_sz hx⟩
  obtain ⟨c, e, B, iR, iS, hB3⟩ := ins_same [rc 1, x]
  have hbB : Bks B := by
    rcases hB3 with ⟨rfl, -⟩ | ⟨rfl, -⟩
    · exact bk0
    · have := more_len [] [rc 1, x]
      simp only [List.length_cons, List.length_nil] at this
      exact ⟨by simp only [List.mem_singleton, forall_eq]; exact fun e he => hes e (more_mem he), by simp, by simp; omega⟩
  have hzB : ∀ e ∈ recs B, e.Sz := by
    rcases hB3 with ⟨rfl, -⟩ | ⟨rfl, -⟩
    · simp [recs_nil]
    · intro e he
      have := dst_mem he
      simp only [List.flatten_cons, List.flatten_nil, List.append_nil] at this
      exact hsz e (more_mem this)
  have lv2 : LV (.lst 14 [(rc 1).v, x.v]) [rc 1, x] := .inr rfl
  obtain ⟨c2, iA⟩ := ins_again iR
  by_cases hg : 0 ≤ n ∧ n ≤ 65536
  · have hN := fun h => run_New (h := h) (n := n) hg
    obtain ⟨sv, S1, S2⟩ := run_sinsert (h := [.box false x.v.cells, .box false [vi n, vb false, vnil], .box false [vi 1, vb false, vnil]]) (z := false) SV.nil bk0 lv2 hes hsz (by simp)
    rw [iS] at S1 S2
    have hsp := S2.plain
    obtain ⟨h', I1, P1, e1⟩ := run_Insert (h := [.box false x.v.cells, .box false [vi n, vb false, vnil], .box false [vi 1, vb false, vnil], .box false [sv, vb false]]) (l := 2) (n := 1) (s := false) (bs := []) ⟨vnil, rfl, .inl ⟨rfl, rfl⟩⟩ bk0 lv2 hes hsz (by simp)
    rw [iR] at I1 P1
    obtain ⟨d, rfl⟩ := P1.one e1 (by simp)
    have hag := run_agrees P1 S2 hbB
    have Q1 : PO ([.box false x.v.cells, .box false [vi n, vb false, vnil], .box false [vi 1, vb false, vnil], .box false [sv, vb false]].set 2 (.box false [vi 1, vb false, d])) 1 n false [] := ⟨vnil, rfl, .inl ⟨rfl, rfl⟩⟩
    obtain ⟨h3, M1, P3, e3⟩ := run_Merge Q1 P1 bk0 hbB hzB
    obtain ⟨d3, rfl⟩ := P3.one e3 (by simp)
    have P4 := P1.put (q := 1) (by omega) (.inr ⟨.box false [vi n, vb false, d3], rfl⟩)
    simp only [List.set_cons_succ, List.set_cons_zero] at I1 hag M1 P3 P4
    have c1 : (rc 1).v.cells.length = 14 := (SP_cells _).1
    have c2 : cellsOk (rc 1).v.cells = true := (SP_cells _).2
    have c3 : (rc 1).v.closed = true := rfl
    have c4 : res0 (rc 1).v = (rc 1).v := rfl
    have c5 : frz0 (rc 1).v = some (rc 1).v := rfl
    have g1 : decide (0 ≤ n) = true := by simp; omega
    have g2 : decide (n ≤ 65536) = true := by simp; omega
    have hr1 := hrc
    by_cases hn1 : n = 1
    · subst hn1
      have hE := run_pEqual P3 P4 (by rw [if_pos rfl, iA]; exact hbB) hbB
      rw [if_pos rfl, iA] at hE
      rw [if_pos rfl, iA] at M1
      simp only [sameL_refl] at hE
      generalize (rc 1).v = r at *
      rw [run_eq, xp_sleuthlaw31_PartitionRefuses]
      simp only [SP.v, cells_agg] at *
      generalize lv 4 (slc AT.v x.ats x.an) = A at *
      generalize lv 2 (slc RF.v x.lks x.ln) = L at *
      simp -implicitDefEqProofs [x_sleuthlaw31_PartitionRefuses, hk, hA, hL, sA, sL, h1, h2, hN1, hr1, c1, c2, c3, c4, c5, S1, hsp, I1, hag, M1, hE, same_self, optEq]
    · rw [if_neg hn1] at M1
      have hn2 : (n != 1) = true := by simpa using hn1
      generalize (rc 1).v = r at *
      rw [run_eq, xp_sleuthlaw31_PartitionRefuses]
      simp only [SP.v, cells_agg] at *
      generalize lv 4 (slc AT.v x.ats x.an) = A at *
      generalize lv 2 (slc RF.v x.lks x.ln) = L at *
      simp -implicitDefEqProofs [x_sleuthlaw31_PartitionRefuses, hk, hA, hL, sA, sL, h1, h2, hN1, hN, g1, g2, hg.1, hg.2, hn1, hn2, hr1, c1, c2, c3, c4, c5, S1, hsp, I1, hag, M1, same_self, optEq]
  · have hN := fun h => run_NewE h (n := n) (by omega)
    obtain ⟨sv, S1, S2⟩ := run_sinsert (h := [.box false x.v.cells, .box false [vi 1, vb false, vnil]]) (z := false) SV.nil bk0 lv2 hes hsz (by simp)
    rw [iS] at S1 S2
    have hsp := S2.plain
    obtain ⟨h', I1, P1, e1⟩ := run_Insert (h := [.box false x.v.cells, .box false [vi 1, vb false, vnil], .box false [sv, vb false]]) (l := 1) (n := 1) (s := false) (bs := []) ⟨vnil, rfl, .inl ⟨rfl, rfl⟩⟩ bk0 lv2 hes hsz (by simp)
    rw [iR] at I1 P1
    obtain ⟨d, rfl⟩ := P1.one e1 (by simp)
    have hag := run_agrees P1 S2 hbB
    simp only [List.set_cons_succ, List.set_cons_zero] at I1 hag
    have c1 : (rc 1).v.cells.length = 14 := (SP_cells _).1
    have c2 : cellsOk (rc 1).v.cells = true := (SP_cells _).2
    have c3 : (rc 1).v.closed = true := rfl
    have c4 : res0 (rc 1).v = (rc 1).v := rfl
    have c5 : frz0 (rc 1).v = some (rc 1).v := rfl
    have g1 : (decide (0 ≤ n) && decide (n ≤ 65536)) = false := by simp; omega
    have hr1 := hrc
    generalize (rc 1).v = r at *
    rw [run_eq, xp_sleuthlaw31_PartitionRefuses]
    simp only [SP.v, cells_agg] at *
    generalize lv 4 (slc AT.v x.ats x.an) = A at *
    generalize lv 2 (slc RF.v x.lks x.ln) = L at *
    by_cases g3 : 0 ≤ n
    · have g4 : ¬ n ≤ 65536 := by omega
      simp -implicitDefEqProofs [x_sleuthlaw31_PartitionRefuses, hk, hA, hL, sA, sL, h1, h2, hN1, hN, g3, g4, hr1, c1, c2, c3, c4, c5, S1, hsp, I1, hag, same_self, optEq]
    · simp -implicitDefEqProofs [x_sleuthlaw31_PartitionRefuses, hk, hA, hL, sA, sL, h1, h2, hN1, hN, g3, hr1, c1, c2, c3, c4, c5, S1, hsp, I1, hag, same_self, optEq]
theorem refuses_law {n : Int} {x : SP} (hn : Rng n) (hx : x.Pre) : run XP i_sleuthlaw31_PartitionRefuses [vi n, x.v] [] = some (vb true, []) := by
  by_cases h : 40 < x.ats.length ∨ 20 < x.lks.length
  · exact refuses_big hx h
  · exact refuses_small hn hx (by omega) (by omega)
end Go.Proofs.Sl

