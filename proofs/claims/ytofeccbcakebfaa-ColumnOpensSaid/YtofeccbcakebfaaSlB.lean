/- A part of the proof. -/
import Derived.Deep.LoopGhost
import Derived.ProofKit
import Derived.Test.YtofeccbcakebfaaSlA
set_option linter.unusedVariables false
set_option linter.unusedSimpArgs false
set_option linter.unnecessarySimpa false
namespace Go.Proofs.Sl
section
variable {P : Program} {φ : Nat → Option FuncId} {h h' : H} {g g' : G} {w w' : World} {N : Nat} {s : Sl} {a : Act}

/-- What is behind a list value. -/
def RowW (φ : Nat → Option FuncId) (g : G) (h : H) (w : World) (es : List V) (m : Value) : Prop :=
  (es = [] ∧ ∃ p c, m = .slice p 0 c) ∨ ∃ b o c k ms, m = .slice (some ⟨b, o, none⟩) es.length c ∧ es.length ≤ c ∧ rels φ g h false es ms ∧ (∀ u ∈ ms, u.cells.size = k) ∧
    ∀ (i : Nat) (u : Value), ms[i]? = some u → ∀ (j : Nat) (x : Value), u.cells[j]? = some x → w.cell? ⟨b, o + i * k + j, none⟩ = some x

theorem RowW.frozen (S : SR φ h g w) {b o c k : Nat} {es : List V} {ms : List Value} (hc : es.length ≤ c) (r : rels φ g h true es ms) (row : RowM g.M b o k ms) : RowW φ g h w es (.slice (some ⟨b, o, none⟩) es.length c) :=
  .inr ⟨b, o, c, k, ms, rfl, hc, rels_closed (fun _ _ _ e => e) false _ _ r, row.1, fun i u e j x e' => S.mem _ _ _ (row.2 i u e j x e')⟩

theorem arrN_ok {l n : Nat} {p : Bool × Nat × List V} (e : arrN h l n = some p) : h[l]? = some (.arr p.1 p.2.1 p.2.2) ∧ p.2.2.length = n := by
  unfold arrN at e
  obtain ⟨q, e1, e⟩ := ob_eq_some.1 e
  split at e
  · rename_i hn
    injection e with e
    subst e
    unfold arrAt at e1
    split at e1
    · rename_i z k es hl
      injection e1 with e1
      subst e1
      exact ⟨hl, hn⟩
    · cases e1
  · cases e
theorem boxAt_ok {l : Nat} {p : Bool × List V} (e : boxAt h l = some p) : h[l]? = some (.box p.1 p.2) := by
  unfold boxAt at e
  split at e
  · rename_i z cs hl
    injection e with e
    subst e
    exact hl
  · cases e

theorem SR.arrRow (S : SR φ h g w) {l k : Nat} {z : Bool} {es : List V} (hl : h[l]? = some (.arr z k es)) :
    ∃ ms, rels φ g h false es ms ∧ (∀ u ∈ ms, u.cells.size = k) ∧ es.length ≤ g.c (.obj l) ∧
      ∀ (i : Nat) (u : Value), ms[i]? = some u → ∀ (j : Nat) (x : Value), u.cells[j]? = some x → w.cell? ⟨g.b (.obj l), i * k + j, none⟩ = some x := by
  obtain ⟨cur, E, ms, e, s', n1, n2, r, wd, t, _, _⟩ := S.arr l z k es hl
  have hsz := wide_sizes wd r
  have hf := flat_length hsz
  rw [← rels_length r] at hf
  refine ⟨ms, r, hsz, n1, fun i u eu j x ex => ?_⟩
  have e2 := flat_get hsz eu ex
  rw [cell_row e, ← Array.getElem?_toList]
  have hj : i * k + j < es.length * k := by rw [← hf]; exact (List.getElem?_eq_some_iff.1 e2).1
  rw [← t, List.getElem?_take, if_pos hj] at e2
  exact e2
theorem RowW.arr (S : SR φ h g w) {l k c : Nat} {z : Bool} {es : List V} (hl : h[l]? = some (.arr z k es)) (hc : c = g.c (.obj l)) : RowW φ g h w es (hdr (g.b (.obj l)) es.length c) := by
  obtain ⟨ms, r, hsz, n1, hcell⟩ := S.arrRow hl
  subst hc
  exact .inr ⟨_, 0, _, k, ms, rfl, n1, r, hsz, fun i u eu j x ex => by rw [Nat.zero_add]; exact hcell i u eu j x ex⟩

theorem toL_ok (S : SR φ h g w) {v : V} {m : Value} {es : List V} (r : rel φ g h false v m) (e : v.toL h = some es) : RowW φ g h w es m := by
  unfold V.toL at e
  split at e
  · injection e with e
    exact .inl ⟨e.symm, none, 0, rel_s r⟩
  · injection e with e
    subst e
    simp only [rel] at r
    rcases r with ⟨b, o, c, ms, rfl, hc, r, row⟩ | ⟨r, a, c, rfl⟩
    · exact RowW.frozen S hc r row
    · exact .inl ⟨r, some a, c, rfl⟩
  · injection e with e
    subst e
    simp only [rel] at r
    obtain ⟨_, ⟨b, o, c, ms, rfl, hc, r, row⟩, _⟩ := r
    exact RowW.frozen S hc r row
  · injection e with e
    subst e
    simp only [rel] at r
    obtain ⟨_, ⟨b, o, c, ms, rfl, hc, r, row⟩, _⟩ := r
    exact RowW.frozen S hc r row
  · rename_i l n
    split at e
    · rename_i z k es' hl
      split at e
      · rename_i hn
        injection e with e
        subst e
        simp only [rel] at r
        obtain ⟨_, _, _, r⟩ := r
        rw [(r _ _ _ hl).2 hn, ← hn]
        exact RowW.arr S hl rfl
      · cases e
    · cases e
  · cases e

theorem RowW.len {es : List V} {m : Value} (r : RowW φ g h w es m) : ∃ p c, m = .slice p es.length c := by
  rcases r with ⟨rfl, p, c, rfl⟩ | ⟨b, o, c, k, ms, rfl, _⟩
  · exact ⟨p, c, rfl⟩
  · exact ⟨_, _, rfl⟩

/-! ### Loads -/
theorem rel_rdCells {v : V} {m : Value} (r : rel φ g h false v m) : rel φ g h false (rdCells v) m := by
  unfold rdCells
  split
  · simp only [rel] at r ⊢
    exact .inl r.2
  · simp only [rel] at r ⊢
    exact .inl r.2
  · exact r
theorem rels_rdCells : ∀ {l : List V} {ms : List Value}, rels φ g h false l ms → rels φ g h false (l.map rdCells) ms
  | [], _, r => r
  | v :: l, ms, r => by
    obtain ⟨m, s, rfl, r1, r2⟩ := rels_cons.1 r
    exact rels_cons'.2 ⟨rel_rdCells r1, rels_rdCells r2⟩

theorem loadVar_ok {t : TypeId} {n : Nat} {b : Bool} (hs : sizeIs P t n = true) (ha : aggIs P t b = true) {bk o0 off : Nat} {l : List Value} (hcell : ∀ (j : Nat) (u : Value), l[j]? = some u → w.cell? ⟨bk, o0 + j, none⟩ = some u)
    {cs : List V} {z : Bool} (r : rels φ g h z cs l) {v : V} (e : rdRow n b off cs = some v) : ∃ mv, (loadVar t ⟨bk, o0 + off, none⟩).run P w = .ok mv w ∧ rel φ g h z v mv := by
  unfold rdRow at e
  have hl := rels_length r
  split at e
  · rename_i hb
    subst hb
    split at e
    · rename_i hn
      injection e with e
      subst e
      refine ⟨.agg ((l.drop off).take n).toArray, ?_, by simp only [rel]; exact ⟨_, rfl, rels_take (rels_drop r off) n⟩⟩
      have hlen : ((l.drop off).take n).length = n := by simp; omega
      have := run_loadCells_list (P := P) w ⟨bk, o0 + off, none⟩ ((l.drop off).take n) (fun j u eu => by
        rw [Addr.add_lit]
        rw [List.getElem?_take] at eu
        split at eu
        · rw [List.getElem?_drop] at eu
          rw [Nat.add_assoc]
          exact hcell _ _ eu
        · cases eu)
      rw [hlen] at this
      simp [loadVar, run_isAgg ha, run_sizeOf hs, this]
    · cases e
  · rename_i hb
    have hb : b = false := by simpa using hb
    subst hb
    obtain ⟨m, e1, r1⟩ := rels_get r e
    refine ⟨m, ?_, r1⟩
    simp [loadVar, run_isAgg ha, hcell _ _ e1]

theorem load_ok (S : SR φ h g w) {t : TypeId} {n : Nat} {b : Bool} (hs : sizeIs P t n = true) (ha : aggIs P t b = true) {x v : V} {mx : Value} (r : rel φ g h false x mx) (e : xload h n b x = some v) :
    ∃ mv, (Instr.loadAt t mx).run P w = .ok mv w ∧ rel φ g h false v mv := by
  unfold xload at e
  split at e
  · rename_i l o
    obtain ⟨p, e1, e⟩ := ob_eq_some.1 e
    have hb := boxAt_ok e1
    simp only [rel] at r
    obtain ⟨-, rfl, _⟩ := r
    obtain ⟨ms, E, hh, rr, hok, _, _⟩ := S.box _ _ _ hb
    have hcell : ∀ (j : Nat) (u : Value), ms.toList[j]? = some u → w.cell? ⟨g.b (.obj l), 0 + j, none⟩ = some u := fun j u eu => by
      rw [cell_row hh, Nat.zero_add, ← Array.getElem?_toList]
      exact eu
    cases b with
    | true =>
      simp only [if_true] at e
      obtain ⟨mv, h1, h2⟩ := loadVar_ok (w := w) hs ha hcell (rels_rdCells rr) e
      refine ⟨mv, ?_, h2⟩
      rw [Nat.zero_add] at h1
      simp [Instr.loadAt, Instr.sureAddr, h1]
    | false =>
      simp only [Bool.false_eq_true, if_false] at e
      obtain ⟨c, e2, e⟩ := ob_eq_some.1 e
      injection e with e
      subst e
      obtain ⟨m, e3, r3⟩ := rels_get rr e2
      have hm := hcell _ _ e3
      rw [Nat.zero_add] at hm
      refine ⟨m, by simp [Instr.loadAt, Instr.sureAddr, loadVar, run_isAgg ha, hm], ?_⟩
      cases c with
      | own k es =>
        have hca : cellAt h l o = some (.own k es) := by rw [cellAt_of hb]; exact e2
        simp only [rdCell]
        have r4 := r3
        simp only [rel] at r4
        simp only [rel]
        refine ⟨trivial, r4.2, _, hca, .inl ⟨k, es, rfl, Nat.le_refl _, fun _ => ?_⟩⟩
        obtain ⟨_, _, _, _, _, _, _, _, _, _, _, _, _, hv⟩ := S.ownCells hca
        rw [hv] at hm
        exact (Option.some.inj hm).symm
      | spent k es gs => exact rel_rdCells r3
      | _ => exact r3
  · rename_i u o
    simp only [rel] at r
    obtain ⟨bk, q, m, rfl, r1, hM⟩ := r
    obtain ⟨mv, h1, h2⟩ := loadVar_ok (w := w) (l := m.cells.toList) hs ha (fun j u eu => S.mem _ _ _ (hM j u (by rw [← Array.getElem?_toList]; exact eu))) (rel_cells r1) e
    exact ⟨mv, by simp [Instr.loadAt, Instr.sureAddr, h1], rel_closed (fun _ _ _ e => e) false _ _ h2⟩
  · rename_i l m i j
    obtain ⟨p, e1, e⟩ := ob_eq_some.1 e
    obtain ⟨el, e2, e⟩ := ob_eq_some.1 e
    obtain ⟨ha1, ha2⟩ := arrN_ok e1
    simp only [rel] at r
    obtain ⟨-, -, -, r⟩ := r
    have hp := (r _ _ _ ha1).2 ha2
    subst hp
    obtain ⟨ms', r', hsz, n1, hcell⟩ := S.arrRow ha1
    obtain ⟨me, e3, r3⟩ := rels_get r' e2
    obtain ⟨mv, h1, h2⟩ := loadVar_ok (w := w) (l := me.cells.toList) (bk := g.b (.obj l)) (o0 := i * p.2.1) hs ha (fun j u eu => hcell i me e3 j u (by
      rw [Array.getElem?_toList] at eu
      exact eu)) (rel_cells r3) e
    exact ⟨mv, by simp [Instr.loadAt, Instr.sureAddr, h1], h2⟩
  · cases e

/-! ### Elements -/
theorem fptr_row {b o k i : Nat} {es : List V} {ms : List Value} (r : rels φ g h true es ms) (row : RowM g.M b o k ms) {e : V} (he : es[i]? = some e) : rel φ g h false (.fptr e 0) (.pointer (some ⟨b, o + i * k, none⟩)) := by
  obtain ⟨m, e1, r1⟩ := rels_get r he
  simp only [rel]
  exact ⟨b, o + i * k, m, rfl, r1, fun j u eu => row.2 i m e1 j u eu⟩

theorem iaddr_ok (S : SR φ h g w) {t e0 : TypeId} {k i : Nat} (hu : P.underlying t = some (.slice e0)) (hs : sizeIs P e0 k = true) {x v : V} {mx : Value} {kk : IntKind}
    (e : (match x with
      | .ref l n => ob (arrN h l n) fun p => if i < n ∧ k = p.2.1 then some (.eptr l n i 0) else none
      | .lst k' es => if k = k' then ob es[i]? fun e => some (.fptr e 0) else none
      | .lnk _ _ k' es => if k = k' then ob es[i]? fun e => some (.fptr e 0) else none
      | _ => none) = some v) (r : rel φ g h false x mx) :
    ∃ mv, (Instr.indexAt t mx (.int kk (i : Int))).run P w = .ok mv w ∧ rel φ g h false v mv := by
  have key : ∀ b o n c, i < n → (Instr.indexAt t (.slice (some ⟨b, o, none⟩) n c) (.int kk (i : Int))).run P w = .ok (.pointer (some ⟨b, o + i * k, none⟩)) w := by
    intro b o n c hi
    have : (0 : Int) ≤ (i : Int) ∧ (i : Int) < (n : Int) := by omega
    simp [Instr.indexAt, run_underlying hu, asIntOf, hi, run_sizeOf hs, Addr.add_lit]
  split at e
  · rename_i l n
    obtain ⟨p, e1, e⟩ := ob_eq_some.1 e
    split at e
    · rename_i hi
      injection e with e
      subst e
      obtain ⟨ha1, ha2⟩ := arrN_ok e1
      simp only [rel] at r
      obtain ⟨-, -, hl, r⟩ := r
      rw [(r _ _ _ ha1).2 ha2]
      refine ⟨_, key _ _ _ _ hi.1, ?_⟩
      simp only [rel]
      refine ⟨trivial, ⟨_, rfl⟩, hl, fun q k2 es2 h2 => ⟨(r _ _ _ h2).1, fun _ => ?_⟩⟩
      rw [ha1] at h2
      injection h2 with h2
      injection h2 with _ h2 _
      rw [hi.2, h2, Nat.zero_add, Nat.add_zero]
    · cases e
  · rename_i k' es
    split at e
    · rename_i hk
      subst hk
      obtain ⟨el, e1, e⟩ := ob_eq_some.1 e
      injection e with e
      subst e
      simp only [rel] at r
      rcases r with ⟨b, o, c, ms, rfl, hc, r, row⟩ | ⟨r, _⟩
      · exact ⟨_, key _ _ _ _ (List.getElem?_eq_some_iff.1 e1).1, fptr_row r row e1⟩
      · rw [r] at e1; cases e1
    · cases e
  · rename_i l q k' es
    split at e
    · rename_i hk
      subst hk
      obtain ⟨el, e1, e⟩ := ob_eq_some.1 e
      injection e with e
      subst e
      simp only [rel] at r
      obtain ⟨_, ⟨b, o, c, ms, rfl, hc, r, row⟩, _⟩ := r
      exact ⟨_, key _ _ _ _ (List.getElem?_eq_some_iff.1 e1).1, fptr_row r row e1⟩
    · cases e
  · cases e

/-- A part of a frozen list. -/
theorem part_row {b o k c x y : Nat} {es : List V} {ms : List Value} (r : rels φ g h true es ms) (row : RowM g.M b o k ms) (hxy : x ≤ y) (hy : y ≤ es.length) (hc : es.length ≤ c) (q : Nat) (hq : q = o + x * k ∨ c = x) :
    rel φ g h false (.lst k ((es.take y).drop x)) (.slice (some ⟨b, q, none⟩) (y - x) (c - x)) := by
  simp only [rel]
  refine .inl ⟨b, q, c - x, (ms.take y).drop x, ?_, by simp; omega, rels_drop (rels_take r y) x, ?_⟩
  · simp; omega
  · refine ⟨fun m hm => row.1 m (List.mem_of_mem_take (List.mem_of_mem_drop hm)), fun i m e j u eu => ?_⟩
    rw [List.getElem?_drop, List.getElem?_take] at e
    split at e
    · rename_i hlt
      rcases hq with hq | hq
      · have := row.2 _ m e j u eu
        rw [hq, ← this, Nat.add_mul]
        congr 1
        omega
      · omega
    · cases e

theorem slLst_ok {t e0 : TypeId} {k : Nat} (hu : P.underlying t = some (.slice e0)) (hs : sizeIs P e0 k = true) {es : List V} {b o c x y : Nat} {ms : List Value} {lo hi : Option V} {mlo mhi : Option Value} (r : rels φ g h true es ms) (row : RowM g.M b o k ms) (hc : es.length ≤ c)
    (e : bounds es.length lo hi = some (x, y)) (rl : optRel φ g h lo mlo) (rh : optRel φ g h hi mhi) :
    ∃ mv, (Instr.sliceAt t (.slice (some ⟨b, o, none⟩) es.length c) mlo mhi none).run P w = .ok mv w ∧ rel φ g h false (.lst k ((es.take y).drop x)) mv := by
  obtain ⟨hb, hxy, hy⟩ := bounds_ok (P := P) e rl rh hc true w
  by_cases hcx : c = x
  · subst hcx
    refine ⟨.slice (some ⟨b, o, none⟩) (y - c) (c - c), by simp [Instr.sliceAt, Instr.slice, run_underlying hu, hb, run_sizeOf hs], part_row r row hxy hy hc o (.inr rfl)⟩
  · exact ⟨.slice (some ⟨b, o + x * k, none⟩) (y - x) (c - x), by simp [Instr.sliceAt, Instr.slice, run_underlying hu, hb, run_sizeOf hs, hcx, Addr.add_lit], part_row r row hxy hy hc _ (.inl rfl)⟩

/-- The same of an empty one, wherever it lies. -/
theorem slLst0_ok {t e0 : TypeId} {k : Nat} (hu : P.underlying t = some (.slice e0)) (hs : sizeIs P e0 k = true) {a : Addr} {c x y : Nat} {lo hi : Option V} {mlo mhi : Option Value}
    (e : bounds (0 : Nat) lo hi = some (x, y)) (rl : optRel φ g h lo mlo) (rh : optRel φ g h hi mhi) :
    ∃ mv, (Instr.sliceAt t (.slice (some a) 0 c) mlo mhi none).run P w = .ok mv w ∧ rel φ g h false (.lst k ((([] : List V).take y).drop x)) mv := by
  obtain ⟨hb, hxy, hy⟩ := bounds_ok (P := P) e rl rh (Nat.zero_le c) true w
  obtain rfl : y = 0 := by omega
  obtain rfl : x = 0 := by omega
  refine ⟨.slice (some a) 0 c, ?_, ?_⟩
  · by_cases hc : c = 0
    · subst hc
      simp [Instr.sliceAt, Instr.slice, run_underlying hu, hb, run_sizeOf hs]
    · simp [Instr.sliceAt, Instr.slice, run_underlying hu, hb, run_sizeOf hs, hc, Addr.add]
  · simp only [rel]
    exact .inr ⟨by simp, a, c, rfl⟩

/-! ### The text of a list of bytes -/
theorem bytesOf_ok {k : Nat} : ∀ {es : List V} {l : List UInt8} {ms : List Value}, bytesOf es = some l → rels φ g h false es ms → (∀ u ∈ ms, u.cells.size = k) →
    ∃ ns : List Int, ms = ns.map (Value.int .u8) ∧ l = ns.map (fun n => UInt8.ofNat n.toNat) ∧ (ms = [] ∨ k = 1)
  | [], l, ms, e, r, _ => by
    simp only [bytesOf, Option.some.injEq] at e
    subst e
    rw [rels_nil] at r
    exact ⟨[], r, rfl, .inl r⟩
  | v :: es, l, ms, e, r, hk => by
    obtain ⟨m, s, rfl, r1, r2⟩ := rels_cons.1 r
    unfold bytesOf at e
    split at e
    · rename_i h0; cases h0
    · rename_i n rest h0
      injection h0 with h1 h2
      subst h1 h2
      obtain ⟨l', e1, e⟩ := ob_eq_some.1 e
      injection e with e
      subst e
      obtain ⟨ns, h1, h2, _⟩ := bytesOf_ok e1 r2 fun u hu => hk u (List.mem_cons_of_mem _ hu)
      have hm := rel_s r1
      refine ⟨n :: ns, by rw [hm, h1]; rfl, by rw [h2]; rfl, .inr ?_⟩
      have := hk m (by simp)
      rw [hm] at this
      exact this.symm
    · cases e

theorem foldl_bytes : ∀ (ns : List Int) (s : ByteArray), ns.foldl (fun r n => r.push (UInt8.ofNat n.toNat)) s = ⟨s.data ++ (ns.map fun n => UInt8.ofNat n.toNat).toArray⟩
  | [], s => by simp
  | n :: ns, s => by
    rw [List.foldl_cons, foldl_bytes ns]
    simp [ByteArray.push]

theorem toStr_ok {src dst e0 : TypeId} (hs : P.underlying src = some (.slice e0)) (he : P.underlying e0 = some (.int .u8)) (hd : P.underlying dst = some .string) {es : List V} {m : Value} {l : List UInt8} (r : RowW φ g h w es m) (e : bytesOf es = some l) :
    (convert src dst m).run P w = .ok (.string ⟨l.toArray⟩) w := by
  rcases r with ⟨rfl, p, c, rfl⟩ | ⟨b, o, c, k, ms, rfl, _, r, hk, hcell⟩
  · simp only [bytesOf, Option.some.injEq] at e
    subst e
    rw [run_convert_bytes_string w src dst e0 p 0 c hs he hd]
    cases p with
    | none => simp [Conv.bytesToString]; rfl
    | some a =>
      have hl : (loadCells a 0).run P w = .ok #[] w := run_loadCells_list w a [] fun j u eu => by simp at eu
      simp [Conv.bytesToString, hl]
      rfl
  · rw [run_convert_bytes_string w src dst e0 _ _ _ hs he hd]
    obtain ⟨ns, h1, h2, h3⟩ := bytesOf_ok e r hk
    have hload : (loadCells ⟨b, o, none⟩ es.length).run P w = .ok (ns.map (Value.int .u8)).toArray w := by
      rw [← h1, rels_length r]
      refine run_loadCells_list w _ ms fun j u eu => ?_
      rw [Addr.add_lit]
      have hk1 : k = 1 := h3.resolve_left fun h0 => by rw [h0] at eu; simp at eu
      subst hk1
      have hu := hk u (List.mem_of_getElem? eu)
      have hun : u.cells = #[u] := by
        rw [h1, List.getElem?_map] at eu
        cases hn : ns[j]? with
        | none => rw [hn] at eu; cases eu
        | some n => rw [hn] at eu; injection eu with eu; rw [← eu]; rfl
      have := hcell j u eu 0 u (by rw [hun]; rfl)
      simpa using this
    rw [run_bytesToString w _ _ _ ns hload, foldl_bytes, h2]
    simp [ByteArray.empty, ByteArray.emptyWithCapacity]
    rfl

/-- The machine's step of an operation that reads. -/
theorem read_ok (R : SR φ h g w) (S : Slots φ g h N s a) {o : Oper} {x : XO} (k : chkOp P φ N o.op x = true) {v : V} (e : xread s h x = some v) :
    ∃ mv, (execOp a.eval o).run P w = .ok (.value mv) w ∧ rel φ g h false v mv := by
  obtain ⟨dst, op, ty, pos, after, guard⟩ := o
  simp only at k
  unfold chkOp at k
  split at k
  all_goals first | (simp only [xread, reduceCtorEq] at e; done) | skip
  -- load
  · simp only [Bool.and_eq_true] at k
    simp only [xread] at e
    obtain ⟨mv, h1, h2⟩ := load_ok (P := P) R k.1.1 k.1.2 (opd_ok S k.2) e
    exact ⟨mv, by simp only [execOp, Sem.run_bind, h1]; rfl, h2⟩
  -- text
  · simp only [Bool.and_eq_true] at k
    obtain ⟨⟨k0, k1⟩, k2⟩ := k
    obtain ⟨d, hu, hd⟩ := isUnd_ok k0
    obtain ⟨e0, rfl, hd2⟩ := dSlice_ok hd
    obtain ⟨d2, hu2, hd3⟩ := isUnd_ok hd2
    have := dInt_ok hd3
    subst this
    obtain ⟨d4, hu4, hd4⟩ := isUnd_ok k1
    have := dStr_ok hd4
    subst this
    simp only [xread] at e
    obtain ⟨es, e1, e⟩ := ob_eq_some.1 e
    obtain ⟨l, e2, e⟩ := ob_eq_some.1 e
    injection e with e
    subst e
    refine ⟨_, ?_, rel_of rfl⟩
    simp only [execOp, Sem.run_bind, toStr_ok (P := P) hu hu2 hu4 (toL_ok R (opd_ok S k2) e1) e2]
    rfl
  -- a part of a list
  · rename_i t y lo hi kk x lo' hi'
    simp only [Bool.and_eq_true] at k
    obtain ⟨⟨⟨k0, k1⟩, k2⟩, k3⟩ := k
    obtain ⟨d, hu, hd⟩ := isUnd_ok k0
    obtain ⟨e0, rfl, hd2⟩ := dSlice_ok hd
    have r := opd_ok S k1
    simp only [xread] at e
    split at e
    · rename_i k' es hx
      split at e
      · rename_i hk
        subst hk
        obtain ⟨⟨p, q⟩, e1, e⟩ := ob_eq_some.1 e
        injection e with e
        subst e
        rw [hx] at r
        simp only [rel] at r
        rcases r with ⟨b, o, c, ms, rm, hc, r, row⟩ | ⟨r, a, c, rm⟩
        · obtain ⟨mv, h1, h2⟩ := slLst_ok (P := P) (w := w) hu hd2 r row hc e1 (opt_ok S k2) (opt_ok S k3)
          refine ⟨mv, ?_, h2⟩
          simp only [execOp, Sem.run_bind, rm, Option.map_none, h1]
          rfl
        · subst r
          obtain ⟨mv, h1, h2⟩ := slLst0_ok (P := P) (φ := φ) (g := g) (h := h) (w := w) (a := a) (c := c) hu hd2 e1 (opt_ok S k2) (opt_ok S k3)
          refine ⟨mv, ?_, h2⟩
          simp only [execOp, Sem.run_bind, rm, Option.map_none, h1]
          rfl
      · cases e
    · rename_i l o k' es hx
      split at e
      · rename_i hk
        subst hk
        obtain ⟨⟨p, q⟩, e1, e⟩ := ob_eq_some.1 e
        injection e with e
        subst e
        rw [hx] at r
        simp only [rel] at r
        obtain ⟨_, ⟨b, o, c, ms, rm, hc, r, row⟩, _⟩ := r
        obtain ⟨mv, h1, h2⟩ := slLst_ok (P := P) (w := w) hu hd2 r row hc e1 (opt_ok S k2) (opt_ok S k3)
        refine ⟨mv, ?_, h2⟩
        simp only [execOp, Sem.run_bind, rm, Option.map_none, h1]
        rfl
      · cases e
    · rename_i hx
      obtain ⟨⟨p, q⟩, e1, e⟩ := ob_eq_some.1 e
      injection e with e
      subst e
      rw [hx] at r
      have hbd := bounds_ok (P := P) e1 (opt_ok S k2) (opt_ok S k3) (Nat.le_refl _) true w
      have hp : p = 0 := by omega
      have hq : q = 0 := by omega
      subst hp hq
      refine ⟨_, ?_, rel_of rfl⟩
      simp [execOp, rel_s r, Instr.sliceAt, Instr.slice, run_underlying hu, hbd.1, run_sizeOf hd2]
    · cases e
  -- the address of an element
  · rename_i t y i kk x i'
    simp only [Bool.and_eq_true] at k
    obtain ⟨⟨k0, k1⟩, k2⟩ := k
    obtain ⟨d, hu, hd⟩ := isUnd_ok k0
    obtain ⟨e0, rfl, hd2⟩ := dSlice_ok hd
    simp only [xread] at e
    obtain ⟨n, e1, e⟩ := ob_eq_some.1 e
    obtain ⟨ki, hi⟩ := asNat_ok (opd_ok S k2) e1
    obtain ⟨mv, h1, h2⟩ := iaddr_ok (P := P) R hu hd2 (kk := ki) e (opd_ok S k1)
    refine ⟨mv, ?_, h2⟩
    simp only [execOp, Sem.run_bind, hi, h1]
    rfl
  -- the address of an array's element
  · rename_i t y i n kk x i'
    simp only [Bool.and_eq_true] at k
    obtain ⟨⟨k0, k1⟩, k2⟩ := k
    obtain ⟨d, hu, hd⟩ := isUnd_ok k0
    obtain ⟨n', e0, rfl, hd2⟩ := dArr_ok hd
    simp only [Bool.and_eq_true, beq_iff_eq] at hd2
    obtain ⟨rfl, hs⟩ := hd2
    simp only [xread] at e
    obtain ⟨j, e1, e⟩ := ob_eq_some.1 e
    obtain ⟨ki, hi⟩ := asNat_ok (opd_ok S k2) e1
    have r := opd_ok S k1
    split at e
    · rename_i hj
      split at e
      · rename_i l o hx
        injection e with e
        subst e
        rw [hx] at r
        simp only [rel] at r
        refine ⟨.pointer (some ⟨g.b (.obj l), o + j * kk, none⟩), ?_, by simp only [rel]; exact ⟨trivial, trivial, r.2.2⟩⟩
        simp [execOp, r.2.1, hi, Instr.indexAt, run_underlying hu, asIntOf, Instr.sureAddr, hj, run_sizeOf hs, Addr.add_lit]
      · rename_i u o hx
        injection e with e
        subst e
        rw [hx] at r
        simp only [rel] at r
        obtain ⟨b, q, m, r1, r2, r3⟩ := r
        refine ⟨.pointer (some ⟨b, q + o + j * kk, none⟩), ?_, by simp only [rel]; exact ⟨b, q, m, by rw [Nat.add_assoc], r2, r3⟩⟩
        simp [execOp, r1, hi, Instr.indexAt, run_underlying hu, asIntOf, Instr.sureAddr, hj, run_sizeOf hs, Addr.add_lit]
      · cases e
    · cases e
  -- a length
  · rename_i c str x
    simp only [Bool.and_eq_true, chkFirst, beq_iff_eq] at k
    obtain ⟨k, k2⟩ := k
    split at k
    · rename_i b hc
      simp only [Bool.and_eq_true, beq_iff_eq] at k
      obtain ⟨rfl, k⟩ := k
      split at k2
      · rename_i t ht
        obtain ⟨d, hu, hd⟩ := isUnd_ok k2
        have r := opds_ok S k
        simp only [evs] at r
        obtain ⟨m, l1, hl, r1, r⟩ := rels_cons.1 r
        rw [rels_nil] at r
        subst r
        have hargs : (c.args.map a.eval) = #[m] := by
          apply Array.ext'
          rw [Array.toList_map, hl]
        cases str
        · have hd : dSlice (fun _ => true) d = true := hd
          obtain ⟨e0, rfl, _⟩ := dSlice_ok hd
          simp only [xread] at e
          obtain ⟨es, e1, e⟩ := ob_eq_some.1 e
          injection e with e
          subst e
          obtain ⟨p, cp, rfl⟩ := (toL_ok R r1 e1).len
          refine ⟨_, ?_, rel_of rfl⟩
          simp [execOp, resolve, hc, hargs, invoke, builtin, Builtin.len_, ht, run_underlying hu, goInt]
        · have hd : dStr d = true := hd
          have := dStr_ok hd
          subst this
          simp only [xread] at e
          split at e
          · rename_i bs hx
            injection e with e
            subst e
            rw [hx] at r1
            have := rel_s r1
            subst this
            refine ⟨_, ?_, rel_of rfl⟩
            simp [execOp, resolve, hc, hargs, invoke, builtin, Builtin.len_, ht, run_underlying hu, goInt]
          · cases e
      · cases k2
    · cases k
  · cases k
end
end Go.Proofs.Sl

namespace Go.Proofs.Sl
section
variable {P : Program} {φ : Nat → Option FuncId} {h h' : H} {g g' : G} {w w' : World} {N : Nat} {s : Sl} {a : Act}

theorem setCell_id {b o : Nat} {m : Value} (e : w.cell? ⟨b, o, none⟩ = some m) : w.setCell ⟨b, o, none⟩ m = w := by
  unfold World.cell? at e
  split at e
  · rename_i c t f hb
    simp only [Option.isSome_none, Bool.false_eq_true, if_false] at e
    have : (w.setCell ⟨b, o, none⟩ m).heap = w.heap := by
      apply Array.ext_getElem?
      intro i
      by_cases hi : i = b
      · subst hi
        rw [setCell_same hb, hb]
        congr 2
        apply Array.ext_getElem?
        intro j
        by_cases hj : j = o
        · subst hj
          rw [Array.getElem?_setIfInBounds_self_of_lt (Array.getElem?_eq_some_iff.1 e).1, e]
        · rw [Array.getElem?_setIfInBounds_ne (Ne.symm hj)]
      · rw [setCell_get hi]
    cases w
    simp only [World.setCell] at this ⊢
    rw [this]
  · cases e

theorem list_set_same {l : Nat} {x : O} (e : h[l]? = some x) : h.set l x = h := by
  apply List.ext_getElem?
  intro i
  rw [set_get]
  split
  · rename_i hi
    subst hi
    rw [if_pos (lt_of_get e), e]
  · rfl

theorem Ext.obj {l : Nat} (X : Ext h g w h' g' w') (e : IsBox h l) : g'.b (.obj l) = g.b (.obj l) := (X.later.box l e).2

/-- An array as a frozen list. -/
theorem SR.frozenArr (S : SR φ h g w) {l k : Nat} {es : List V} (hl : h[l]? = some (.arr true k es)) {m : Value} (r : rel φ g h false (.ref l es.length) m) : rel φ g h true (.lst k es) m := by
  simp only [rel] at r ⊢
  obtain ⟨_, _, _, r⟩ := r
  rw [(r _ _ _ hl).2 rfl]
  obtain ⟨cur, E, ms, e, s, n1, n2, rr, wd, t, k2, _⟩ := S.arr l true k es hl
  obtain ⟨hc, hM⟩ := k2 rfl
  have hsz := wide_sizes wd rr
  have hf := flat_length hsz
  rw [← rels_length rr] at hf
  refine .inl ⟨_, 0, _, ms, rfl, n1, rels_true es ms hc rr, RowM.of_flat hsz fun j u eu => ?_⟩
  have hj : j < es.length * k := by rw [← hf]; exact (List.getElem?_eq_some_iff.1 eu).1
  rw [Nat.zero_add, hM, if_pos hj, ← Array.getElem?_toList]
  rw [← t, List.getElem?_take, if_pos hj] at eu
  exact eu

theorem set_set_comm {l l' : Nat} {x y : O} (hn : l ≠ l') : (h.set l' y).set l x = (h.set l x).set l' y := by
  rw [List.set_comm _ _ (Ne.symm hn)]

/-- One cell of a box is stored. -/
theorem stCell_ok {base l o : Nat} {cs : List V} {old new c : V} {m : Value} {hh hh' : H} (hl : l < hh.length) (hbx : ∃ z cs0, hh[l]? = some (.box z cs0)) (S : SR φ (hh.set l (.box false cs)) g w) (ho : cs[o]? = some old) (r : rel φ g (hh.set l (.box false cs)) false new m)
    (e : stCell base l o old new hh = some (c, hh')) :
    m.oneCell' = true ∧ hh'.length = hh.length ∧ (∃ z cs0, hh'[l]? = some (.box z cs0)) ∧ ∃ g', SR φ (hh'.set l (.box false (cs.set o c))) g' (w.setCell ⟨g.b (.obj l), o, none⟩ m) ∧ Ext (hh.set l (.box false cs)) g w (hh'.set l (.box false (cs.set o c))) g' (w.setCell ⟨g.b (.obj l), o, none⟩ m) := by
  have hb : (hh.set l (.box false cs))[l]? = some (.box false cs) := set_get_same hl
  have hca : cellAt (hh.set l (.box false cs)) l o = some old := by rw [cellAt_of hb]; exact ho
  have hset : ∀ x, (hh.set l (.box false cs)).set l x = hh.set l x := fun x => by rw [List.set_set]
  -- an ordinary value
  have plain : ∀ v : V, old.tl = none → v.tl = none → v.cell = true → rel φ g (hh.set l (.box false cs)) false v m →
      m.oneCell' = true ∧ hh.length = hh.length ∧ (∃ z cs0, hh[l]? = some (.box z cs0)) ∧ ∃ g', SR φ (hh.set l (.box false (cs.set o v))) g' (w.setCell ⟨g.b (.obj l), o, none⟩ m) ∧ Ext (hh.set l (.box false cs)) g w (hh.set l (.box false (cs.set o v))) g' (w.setCell ⟨g.b (.obj l), o, none⟩ m) := by
    intro v h1 h2 h3 h4
    have := S.put hb ho h1 h2 h3 h4
    rw [hset] at this
    exact ⟨cell_oneCell h4 h3, rfl, hbx, g, this⟩
  unfold stCell at e
  split at e
  · rename_i k es0 gs
    split at e
    · rename_i l' o' k' es
      split at e
      · rename_i hc
        obtain ⟨rfl, rfl, rfl, hlen⟩ := hc
        injection e with e
        injection e with e1 e2
        subst e1 e2
        have r1 := r
        simp only [rel] at r
        obtain ⟨_, _, x, hx, r⟩ := r
        rw [hca] at hx
        injection hx with hx
        subst hx
        have hm : m = hdr (g.b (.cell l o)) gs.length (g.c (.cell l o)) := by
          rcases r with ⟨_, _, h1, _⟩ | ⟨k', es', gs', h1, h2, h3⟩
          · cases h1
          · injection h1 with h1 h4 h5
            subst h1 h4 h5
            rw [h3 hlen.symm, hlen]
        subst hm
        have := S.grown hb ho
        rw [hset] at this
        exact ⟨rfl, rfl, hbx, g, this⟩
      · cases e
    · cases e
  · rename_i k es
    split at e
    · rename_i l' o' k' es'
      split at e
      · rename_i hc
        obtain ⟨rfl, rfl, rfl, hlen⟩ := hc
        injection e with e
        injection e with e1 e2
        subst e1 e2
        simp only [rel] at r
        obtain ⟨_, _, x, hx, r⟩ := r
        rw [hca] at hx
        injection hx with hx
        subst hx
        have hm : m = hdr (g.b (.cell l o)) es.length (g.c (.cell l o)) := by
          rcases r with ⟨k', es2, h1, h2, h3⟩ | ⟨_, _, _, h1, _⟩
          · injection h1 with h1 h4
            subst h1 h4
            rw [h3 hlen.symm, hlen]
          · cases h1
        subst hm
        obtain ⟨_, _, _, _, _, _, _, _, _, _, _, _, _, hv⟩ := S.ownCells hca
        have hset2 : cs.set o (.own k es) = cs := by
          apply List.ext_getElem?
          intro i
          rw [List.getElem?_set]
          split
          · rename_i hi
            subst hi
            rw [if_pos (List.getElem?_eq_some_iff.1 ho).1, ho]
          · rfl
        rw [setCell_id hv, hset2]
        exact ⟨rfl, rfl, hbx, g, S, Ext.refl _ _ _⟩
      · cases e
    · cases e
  · rename_i hns hno
    have h1 : old.tl = none := by
      cases old <;> first | rfl | exact absurd rfl (hns _ _ _) | exact absurd rfl (hno _ _)
    split at e <;> first | (cases e; done) | skip
    · rename_i l' o' k es
      injection e with e
      injection e with e1 e2
      subst e1 e2
      refine plain _ h1 rfl rfl ?_
      simp only [rel] at r ⊢
      exact .inl r.2.1
    · rename_i l' n
      obtain ⟨p, e1, e⟩ := ob_eq_some.1 e
      obtain ⟨ha1, ha2⟩ := arrN_ok e1
      have hll : l ≠ l' := by
        rintro rfl
        obtain ⟨z, cs0, hbx⟩ := hbx
        rw [hbx] at ha1
        cases ha1
      have ha3 : (hh.set l (.box false cs))[l']? = some (.arr p.1 p.2.1 p.2.2) := by rw [set_get_ne hll]; exact ha1
      split at e
      · rename_i hp
        injection e with e
        injection e with e1 e2
        subst e1 e2
        rw [hp] at ha3
        refine plain _ h1 rfl rfl ?_
        rw [← ha2] at r
        exact rel_closed (fun _ _ _ e => e) false _ _ (S.frozenArr ha3 r)
      · rename_i hp
        have hp : p.1 = false := by simpa using hp
        rw [hp] at ha3
        split at e
        · rename_i hcl
          injection e with e
          injection e with e1 e2
          subst e1 e2
          obtain ⟨g', S', X'⟩ := S.moveIn hb ho h1 ha3 hcl
          have hm : m = hdr (g.b (.obj l')) p.2.2.length (g.c (.obj l')) := by
            simp only [rel] at r
            obtain ⟨_, _, _, r⟩ := r
            rw [(r _ _ _ ha3).2 ha2, ha2]
          subst hm
          have hh2 : ((hh.set l (.box false cs)).set l' .dead).set l (.box false (cs.set o (.own p.2.1 p.2.2))) = (hh.set l' .dead).set l (.box false (cs.set o (.own p.2.1 p.2.2))) := by
            rw [← set_set_comm hll, List.set_set]
          rw [hh2] at S' X'
          refine ⟨rfl, by simp, ?_, g', S', X'⟩
          obtain ⟨z, cs0, hbx⟩ := hbx
          exact ⟨z, cs0, by rw [set_get_ne (Ne.symm hll)]; exact hbx⟩
        · cases e
    · rename_i n1 n2 n3 n4 n5 n6 n7 n8 n9 n10
      split at e
      · injection e with e
        injection e with e1 e2
        subst e1 e2
        have hcell : new.cell = true ∧ new.tl = none := by
          cases new with
          | s x => cases x <;> first | exact ⟨rfl, rfl⟩ | exact absurd rfl (n7 _) | exact absurd rfl (n8 _)
          | agg => exact absurd rfl (n5 _)
          | tup => exact absurd rfl (n6 _)
          | lnk => exact absurd rfl (n9 _ _ _ _)
          | gro => exact absurd rfl (n1 _ _ _ _)
          | own => exact absurd rfl (n2 _ _)
          | spent => exact absurd rfl (n3 _ _ _)
          | ref => exact absurd rfl (n10 _ _)
          | eptr => exact absurd rfl (n4 _ _ _ _)
          | _ => exact ⟨rfl, rfl⟩
        exact plain _ h1 hcell.2 hcell.1 r
      · cases e

/-- The cells are stored one after the other. -/
theorem stCells_ok {base l b0 off0 : Nat} : ∀ (ns : List V) (o : Nat) (hh hh' : H) (cs cs' : List V) (g : G) (w : World) (ms : List Value) (i : Nat), l < hh.length → (∃ z cs0, hh[l]? = some (.box z cs0)) → SR φ (hh.set l (.box false cs)) g w →
    g.b (.obj l) = b0 → o = off0 + i → rels φ g (hh.set l (.box false cs)) false ns ms → stCells base l o ns hh cs = some (cs', hh') →
    ∃ g' w', (storeCells ⟨b0, off0, none⟩ ms i).run P w = .ok () w' ∧ SR φ (hh'.set l (.box false cs')) g' w' ∧ Ext (hh.set l (.box false cs)) g w (hh'.set l (.box false cs')) g' w'
  | [], o, hh, hh', cs, cs', g, w, ms, i, hl, hbx, S, hb0, ho, r, e => by
    rw [rels_nil] at r
    subst r
    simp only [stCells, Option.some.injEq, Prod.mk.injEq] at e
    obtain ⟨rfl, rfl⟩ := e
    exact ⟨g, w, by simp [storeCells], S, Ext.refl _ _ _⟩
  | n :: ns, o, hh, hh', cs, cs', g, w, ms, i, hl, hbx, S, hb0, ho, r, e => by
    obtain ⟨m, ms', rfl, r1, r2⟩ := rels_cons.1 r
    simp only [stCells] at e
    obtain ⟨old, e1, e⟩ := ob_eq_some.1 e
    obtain ⟨⟨c, h2⟩, e2, e⟩ := ob_eq_some.1 e
    obtain ⟨hone, hlen, hbx', g1, S1, X1⟩ := stCell_ok hl hbx S e1 r1 e2
    have hb : (hh.set l (.box false cs))[l]? = some (.box false cs) := set_get_same hl
    obtain ⟨⟨mv, hmv, _⟩, hfr⟩ := S.there hb e1
    subst hb0
    have ho' : o + 1 = off0 + (i + 1) := by omega
    have hl2 : l < h2.length := by rw [hlen]; exact hl
    obtain ⟨g2, w2, e3, S2, X2⟩ := stCells_ok ns (o + 1) h2 hh' (cs.set o c) cs' g1 _ ms' (i + 1) hl2 hbx' S1 (X1.obj ⟨_, _, hb⟩) ho' (rels_later X1.later _ _ _ r2) e
    refine ⟨g2, w2, ?_, S2, X1.trans X2⟩
    simp only [storeCells, Sem.run_bind, Addr.add_lit]
    rw [run_store P w _ m .plain hone, ← ho, hmv]
    simp only [hfr, Bool.false_eq_true, if_false, Result.andThen_ok]
    exact e3
end
end Go.Proofs.Sl

namespace Go.Proofs.Sl
section
variable {P : Program} {φ : Nat → Option FuncId} {h h' : H} {g g' : G} {w w' : World} {N : Nat} {s : Sl} {a : Act}

/-- What append takes over: n elements, and their cells. -/
structure Src (P : Program) (w : World) (size : Nat) (x : Value) (n : Nat) (news : List Value) : Prop where
  len : ∀ w, (Builtin.lenOf x).run P w = .ok n w
  cells : (Builtin.firstCells size n x).run P w = .ok news.toArray w
  cells' : (Builtin.firstCells size n x).run P w.drew = .ok news.toArray w.drew

theorem RowW.cellsList {b o k : Nat} {ms : List Value} (hk : ∀ u ∈ ms, u.cells.size = k) (hcell : ∀ (i : Nat) (u : Value), ms[i]? = some u → ∀ (j : Nat) (x : Value), u.cells[j]? = some x → w.cell? ⟨b, o + i * k + j, none⟩ = some x) :
    ∀ (j : Nat) (u : Value), (flat ms)[j]? = some u → w.cell? ((⟨b, o, none⟩ : Addr).add j) = some u := by
  intro j u eu
  obtain ⟨i, j', m, e1, e2, rfl⟩ := flat_split hk eu
  rw [Addr.add_lit, ← Nat.add_assoc]
  exact hcell i m e1 j' u e2

theorem Src.row {k : Nat} {es : List V} {m : Value} (hw : wide k es = true) (r : RowW φ g h w es m) : ∃ ms, rels φ g h false es ms ∧ Src P w k m es.length (flat ms) := by
  rcases r with ⟨rfl, p, c, rfl⟩ | ⟨b, o, c, k', ms, rfl, hc, r, hk, hcell⟩
  · cases p with
    | none => exact ⟨[], rels_nil.2 rfl, fun w => by simp [Builtin.lenOf], by simp [Builtin.firstCells, flat], by simp [Builtin.firstCells, flat]⟩
    | some a => exact ⟨[], rels_nil.2 rfl, fun w => by simp [Builtin.lenOf], run_firstCells_some w k 0 a 0 c [] (by simp) (fun j u eu => by simp at eu), run_firstCells_some w.drew k 0 a 0 c [] (by simp) (fun j u eu => by simp at eu)⟩
  · have hk2 := wide_sizes hw r
    have hf := flat_length hk2
    rw [← rels_length r] at hf
    have hcl := RowW.cellsList hk hcell
    exact ⟨ms, r, fun w => by simp [Builtin.lenOf], run_firstCells_some w k es.length ⟨b, o, none⟩ es.length c (flat ms) hf hcl, run_firstCells_some w.drew k es.length ⟨b, o, none⟩ es.length c (flat ms) hf hcl⟩

theorem ofBytes_rels (s : ByteArray) : rels φ g h false (ofBytes s) (s.data.toList.map fun b => Value.int .u8 b.toNat) := by
  unfold ofBytes
  refine rels_of (by simp) fun i v m e1 e2 => ?_
  rw [List.getElem?_map] at e1 e2
  cases hb : s.data.toList[i]? with
  | none => rw [hb] at e1; cases e1
  | some b =>
    rw [hb] at e1 e2
    injection e1 with e1
    injection e2 with e2
    subst e1 e2
    exact rel_of rfl
theorem flat_ints (l : List Value) (hl : ∀ u ∈ l, u.cells = #[u]) : flat l = l := by
  induction l with
  | nil => rfl
  | cons x l ih =>
    simp only [flat, List.flatMap_cons, hl x (by simp)]
    have := ih fun u hu => hl u (List.mem_cons_of_mem _ hu)
    rw [flat] at this
    rw [this]
    rfl
theorem Src.str (s : ByteArray) (k : Nat) : Src P w k (.string s) (ofBytes s).length (flat (s.data.toList.map fun b => Value.int .u8 b.toNat)) := by
  have hn : (ofBytes s).length = s.size := by
    simp only [ofBytes, List.length_map, Array.length_toList]
    rfl
  have hfl : flat (s.data.toList.map fun b => Value.int .u8 b.toNat) = s.data.toList.map fun b => Value.int .u8 b.toNat := flat_ints _ fun u hu => by
    obtain ⟨b, _, rfl⟩ := List.mem_map.1 hu
    rfl
  have hx : (s.extract 0 s.size).data.map (fun b => Value.int .u8 b.toNat) = (s.data.toList.map fun b => Value.int .u8 b.toNat).toArray := by
    rw [ByteArray.extract_zero_size]
    apply Array.ext'
    rw [Array.toList_map]
  rw [hfl, hn]
  exact ⟨fun w => by simp [Builtin.lenOf], by simp only [Builtin.firstCells, Sem.run_pure, hx], by simp only [Builtin.firstCells, Sem.run_pure, hx]⟩

/-- The types of an append. -/
structure AppT (P : Program) (t u e : TypeId) (it : TypeInfo) (zv : Value) (k : Nat) : Prop where
  ht : P.underlying t = some (.slice e)
  hu : P.underlying u = some .string ∨ ∃ e', P.underlying u = some (.slice e')
  hi : P.info? e = some it
  hz : it.zero = some zv
  hk : it.size = k
  zs : zv.cells.size = k

theorem run_app_nil0 {t u e ty : TypeId} {i : TypeInfo} {z : Value} {k : Nat} (T : AppT P t u e i z k) {x : Value} {news : List Value} (S : Src P w k x 0 news) :
    (Builtin.append_ #[t, u] ty #[.slice none 0 0, x]).run P w = .ok (.slice none 0 0) w := by
  have hs := S.cells
  have hk := T.hk
  subst hk
  rcases T.hu with hd | ⟨e', hd⟩ <;> simp [Builtin.append_, run_underlying T.ht, run_underlying hd, sizeOf, typeInfo, T.hi, S.len, hs]

theorem run_app_nil {t u e ty : TypeId} {i : TypeInfo} {z : Value} {k n : Nat} (T : AppT P t u e i z k) {x : Value} {news : List Value} (S : Src P w k x n news) (h0 : 0 < n) (h63 : (n : Int) ≤ 9223372036854775807) (h48 : n * i.bytes ≤ 281474976710656) :
    (Builtin.append_ #[t, u] ty #[.slice none 0 0, x]).run P w = .ok (.slice (some ⟨w.heap.size, 0, none⟩) n (grownCap w n 0 e)) (w.drew.alloc (.cells (news.toArray ++ Builtin.zeroCells z.cells (grownCap w n 0 e - n)) e)) := by
  have hs := S.cells'
  have hk := T.hk
  subst hk
  have hn : n ≠ 0 := by omega
  have h63' : ¬ (9223372036854775807 < (n : Int)) := by omega
  have h48' : ¬ (281474976710656 < Builtin.nextslicecap n 0 * i.bytes) := by rw [nextslicecap_zero h0]; omega
  rcases T.hu with hd | ⟨e', hd⟩ <;> simp [Builtin.append_, run_underlying T.ht, run_underlying hd, sizeOf, typeInfo, zeroValue, T.hi, T.hz, S.len, hn, h63', h48', Question.forced, run_firstCells_none, hs, newRow, grownCap]

theorem run_app_grow {t u e ty : TypeId} {i : TypeInfo} {z : Value} {k n : Nat} (T : AppT P t u e i z k) {x : Value} {news : List Value} (S : Src P w k x n news)
    (b : Addr) (sLen sCap : Nat) (olds : List Value) (hlo : olds.length = sLen * k) (holds : ∀ j v, olds[j]? = some v → w.cell? (b.add j) = some v)
    (hg : sCap < sLen + n) (h63 : ((sLen + n : Nat) : Int) ≤ 9223372036854775807) (hfit : Builtin.nextslicecap (sLen + n) sCap * i.bytes ≤ 281474976710656) :
    (Builtin.append_ #[t, u] ty #[.slice (some b) sLen sCap, x]).run P w =
      .ok (.slice (some ⟨w.heap.size, 0, none⟩) (sLen + n) (grownCap w (sLen + n) sCap e))
        (w.drew.alloc (.cells (olds.toArray ++ news.toArray ++ Builtin.zeroCells z.cells (grownCap w (sLen + n) sCap e - (sLen + n))) e)) := by
  have hs := S.cells'
  have hk := T.hk
  subst hk
  have hn : ¬ (sLen + n ≤ sCap) := by omega
  have h63' : ¬ (9223372036854775807 < ((sLen : Int) + (n : Int))) := by omega
  have h48' : ¬ (281474976710656 < Builtin.nextslicecap (sLen + n) sCap * i.bytes) := by omega
  have hfo := run_firstCells_some (P := P) w.drew i.size sLen b sLen sCap olds hlo (by simpa using holds)
  rcases T.hu with hd | ⟨e', hd⟩
  · simp [Builtin.append_, run_underlying T.ht, run_underlying hd, sizeOf, typeInfo, zeroValue, T.hi, T.hz, S.len, hn, h63', h48', Question.forced, hs, hfo, newRow, grownCap]
    congr 2
    apply Array.ext'
    simp [List.append_assoc]
  · simp [Builtin.append_, run_underlying T.ht, run_underlying hd, sizeOf, typeInfo, zeroValue, T.hi, T.hz, S.len, hn, h63', h48', Question.forced, hs, hfo, newRow, grownCap]
    congr 2
    apply Array.ext'
    simp [List.append_assoc]

theorem run_app_room {t u e ty : TypeId} {i : TypeInfo} {z : Value} {k n : Nat} (T : AppT P t u e i z k) {x : Value} {news : List Value} (S : Src P w k x n news)
    (b sLen sCap : Nat) {cur : Array Value} {E : TypeId} (hc : w.heap[b]? = some (.cells cur E (0, 0))) (h1 : ∀ u ∈ news, u.oneCell' = true) (hroom : sLen + n ≤ sCap) (hfit : sLen * k + news.length ≤ cur.size) :
    (Builtin.append_ #[t, u] ty #[.slice (some ⟨b, 0, none⟩) sLen sCap, x]).run P w =
      .ok (.slice (some ⟨b, 0, none⟩) (sLen + n) sCap) (w.setRow b (cur.toList.take (sLen * k) ++ news ++ cur.toList.drop (sLen * k + news.length)).toArray) := by
  have hs := S.cells
  have hk := T.hk
  subst hk
  have hst := run_storeCells_at P b (sLen * i.size) E news 0 cur w hc (by simpa using hfit) h1
  simp only [Nat.add_zero] at hst
  rcases T.hu with hd | ⟨e', hd⟩ <;> simp [Builtin.append_, run_underlying T.ht, run_underlying hd, sizeOf, typeInfo, T.hi, S.len, hroom, hs, Addr.add_lit, hst]

theorem zeroCells_size {z : Array Value} {k n : Nat} (hz : z.size = k) : (Builtin.zeroCells z n).toList.length = n * k := by
  rw [Array.length_toList, size_zeroCells, hz]

theorem appEls_ok (R : SR φ h g w) {y : V} {my : Value} {ys : List V} {k : Nat} (r : rel φ g h false y my) (e : appEls h y = some ys) (hw : wide k ys = true) : ∃ ms, rels φ g h false ys ms ∧ Src P w k my ys.length (flat ms) := by
  unfold appEls at e
  split at e
  · rename_i b
    injection e with e
    subst e
    rw [rel_s r]
    exact ⟨_, ofBytes_rels b, Src.str b k⟩
  · have rr := toL_ok R r e
    exact Src.row hw rr

theorem append_ok (R : SR φ h g w) {t u e ty : TypeId} {i : TypeInfo} {z : Value} {k lim : Nat} (T : AppT P t u e i z k) (hlim : lim ≤ maxLen) (hby : lim * i.bytes ≤ 140737488355328)
    {x y v : V} {mx my : Value} (rx : rel φ g h false x mx) (ry : rel φ g h false y my) (ex : xappend h k lim x y = some (v, h')) :
    ∃ mv g' w', (Builtin.append_ #[t, u] ty #[mx, my]).run P w = .ok mv w' ∧ SR φ h' g' w' ∧ Ext h g w h' g' w' ∧ rel φ g' h' false v mv := by
  have h63 : ∀ n, n ≤ lim → (n : Int) ≤ 9223372036854775807 := fun n hn => by simp only [maxLen] at hlim; omega
  have hbytes : ∀ n, n ≤ lim → n * i.bytes ≤ 140737488355328 := fun n hn => Nat.le_trans (Nat.mul_le_mul_right _ hn) hby
  have hmax : ∀ n, n ≤ lim → n ≤ maxLen := fun n hn => Nat.le_trans hn hlim
  unfold xappend at ex
  obtain ⟨ys, ey, ex⟩ := ob_eq_some.1 ex
  split at ex
  · rename_i hc
    obtain ⟨hwd, hcl⟩ := hc
    obtain ⟨nms, ry', S⟩ := appEls_ok (P := P) R ry ey hwd
    have hsz := wide_sizes hwd ry'
    have hfl := flat_length hsz
    rw [← rels_length ry'] at hfl
    have hone := flat_one hwd ry'
    split at ex
    -- nothing yet
    · rw [rel_s rx]
      split at ex
      · rename_i h0
        injection ex with ex
        injection ex with e1 e2
        subst e1 e2
        rw [h0] at S
        exact ⟨_, g, w, run_app_nil0 T S, R, Ext.refl _ _ _, rel_of rfl⟩
      · rename_i h0
        split at ex
        · rename_i hl
          injection ex with ex
          injection ex with e1 e2
          subst e1 e2
          have hpos : 0 < ys.length := by omega
          have hr := run_app_nil (ty := ty) T S hpos (h63 _ hl) (Nat.le_trans (hbytes _ hl) (by decide))
          have hge := grownCap_ge w ys.length 0 e
          have hle := grownCap_le_maxLen w ys.length 0 e (hmax _ hl)
          have hp := R.drew.push (.arr false k ys) ((flat nms).toArray ++ Builtin.zeroCells z.cells (grownCap w ys.length 0 e - ys.length)) e (grownCap w ys.length 0 e) (fun _ _ h => by cases h) (fun z0 k0 es0 h => by
            injection h with h1 h2 h3
            subst h1 h2 h3
            refine ⟨rfl, nms, ?_, hge, hle, ry', hwd, ?_⟩
            · rw [Array.size_append, List.size_toArray, hfl, size_zeroCells, T.zs, ← Nat.add_mul]
              congr 1
              omega
            · rw [Array.toList_append, List.take_append_of_le_length (by rw [hfl]; exact Nat.le_refl _), ← hfl, List.take_length])
          refine ⟨_, _, _, hr, hp.1, (Ext.drew h g w).trans hp.2, ?_⟩
          simp only [rel]
          refine ⟨trivial, ⟨_, _, rfl⟩, by simp, fun q k0 es0 ee => ?_⟩
          rw [List.getElem?_concat_length] at ee
          injection ee with ee
          injection ee with _ _ ee
          subst ee
          exact ⟨Nat.le_refl _, fun _ => by simp only [hdr, G.setB, if_true]; rfl⟩
        · cases ex
    -- an array of ours
    · rename_i l n _
      obtain ⟨p, e1, ex⟩ := ob_eq_some.1 ex
      obtain ⟨ha, hn⟩ := arrN_ok e1
      split at ex
      · rename_i hp
        obtain ⟨hz, rfl, hl⟩ := hp
        injection ex with ex
        injection ex with e2 e3
        subst e2 e3
        rw [hz] at ha
        simp only [rel] at rx
        obtain ⟨-, -, hlt, rx⟩ := rx
        rw [(rx _ _ _ ha).2 hn]
        obtain ⟨cur, E, ms, hcur, hs, n1, n2, rr, wd, tk, _, _⟩ := R.arr _ _ _ _ ha
        have hmsz := wide_sizes wd rr
        have hmf := flat_length hmsz
        rw [← rels_length rr] at hmf
        by_cases hroom : n + ys.length ≤ g.c (.obj l)
        · have hr := run_app_room (ty := ty) T S (g.b (.obj l)) n (g.c (.obj l)) hcur hone hroom (by rw [hfl, hs, ← Nat.add_mul]; exact Nat.mul_le_mul_right _ hroom)
          have hs2 := R.appIn ha ry' hwd hcur (by rw [hn]; exact hroom)
          rw [hn] at hs2
          refine ⟨_, g, _, hr, hs2.1, hs2.2, ?_⟩
          simp only [rel]
          refine ⟨trivial, ⟨_, _, rfl⟩, by simpa using hlt, fun q k0 es0 ee => ?_⟩
          rw [set_get_same hlt] at ee
          injection ee with ee
          injection ee with _ _ ee
          subst ee
          rw [List.length_append, hn]
          exact ⟨Nat.le_refl _, fun _ => rfl⟩
        · have hpos : 0 < ys.length := by omega
          have holds : ∀ j v, (flat ms)[j]? = some v → w.cell? ((⟨g.b (.obj l), 0, none⟩ : Addr).add j) = some v := fun j u eu => by
            have hj : j < p.2.2.length * p.2.1 := by rw [← hmf]; exact (List.getElem?_eq_some_iff.1 eu).1
            rw [Addr.add_lit, cell_row hcur, Nat.zero_add, ← Array.getElem?_toList]
            rw [← tk, List.getElem?_take, if_pos hj] at eu
            exact eu
          have hr := run_app_grow (ty := ty) T S ⟨g.b (.obj l), 0, none⟩ n (g.c (.obj l)) (flat ms) (by rw [hmf, hn]) holds (by omega) (h63 _ hl) (growslice_fits (by omega) (hbytes _ hl))
          have hge := grownCap_ge w (n + ys.length) (g.c (.obj l)) e
          have hle := grownCap_le_maxLen w (n + ys.length) (g.c (.obj l)) e (hmax _ hl)
          have hzl := zeroCells_size (n := grownCap w (n + ys.length) (g.c (.obj l)) e - (n + ys.length)) T.zs
          have hs2 := R.appGrow ha rr wd ry' hwd (Builtin.zeroCells z.cells (grownCap w (n + ys.length) (g.c (.obj l)) e - (n + ys.length))).toList (grownCap w (n + ys.length) (g.c (.obj l)) e) e
            (by rw [hzl, hn, ← Nat.add_mul]; congr 1; omega) (by rw [hn]; exact hge) hle hpos
          have hcells : ((flat ms).toArray ++ (flat nms).toArray ++ Builtin.zeroCells z.cells (grownCap w (n + ys.length) (g.c (.obj l)) e - (n + ys.length))) =
              (flat ms ++ flat nms ++ (Builtin.zeroCells z.cells (grownCap w (n + ys.length) (g.c (.obj l)) e - (n + ys.length))).toList).toArray := by
            apply Array.ext'
            simp
          rw [hcells] at hr
          refine ⟨_, _, _, hr, hs2.1, hs2.2, ?_⟩
          simp only [rel]
          refine ⟨trivial, ⟨_, _, rfl⟩, by simpa using hlt, fun q k0 es0 ee => ?_⟩
          rw [set_get_same hlt] at ee
          injection ee with ee
          injection ee with _ _ ee
          subst ee
          rw [List.length_append, hn]
          exact ⟨Nat.le_refl _, fun _ => by simp [hdr, G.setB]⟩
      · cases ex
    -- the list of a cell
    · rename_i l o k' es _
      obtain ⟨p, e1, ex1⟩ := ob_eq_some.1 ex
      obtain ⟨c, e2, ex2⟩ := ob_eq_some.1 ex1
      clear ex ex1
      have hb := boxAt_ok e1
      have hca : cellAt h l o = some c := by rw [cellAt_of hb]; exact e2
      split at ex2
      · rename_i k'' es'
        split at ex2
        · rename_i hp
          obtain ⟨hz, hlen, rfl, rfl, hl⟩ := hp
          simp only [rel] at rx
          obtain ⟨_, _, x, hx, rx⟩ := rx
          rw [hca] at hx
          injection hx with hx
          subst hx
          have hmx : mx = hdr (g.b (.cell l o)) es'.length (g.c (.cell l o)) := by
            rcases rx with ⟨k1, es1, h1, h2, h3⟩ | ⟨_, _, _, h1, _⟩
            · injection h1 with h1 h4
              subst h1 h4
              rw [h3 hlen.symm, hlen]
            · cases h1
          subst hmx
          obtain ⟨cur, E, ms, hcur, hs, n1, n2, rr, hmsz, hmf, hrow, hin, hnone, hv⟩ := R.ownCells hca
          have hfit : ∀ m, es'.length + m ≤ g.c (.cell l o) → es'.length * k + m * k ≤ cur.size := fun m hm => by
            rw [hs, ← Nat.add_mul]
            exact Nat.mul_le_mul_right _ hm
          split at ex2
          · rename_i h0
            injection ex2 with ex2
            injection ex2 with e3 e4
            subst e3 e4
            have hf0 : flat nms = [] := List.eq_nil_of_length_eq_zero (by rw [hfl, h0, Nat.zero_mul])
            have hr := run_app_room (ty := ty) T S (g.b (.cell l o)) es'.length (g.c (.cell l o)) hcur hone (by omega) (by rw [hfl]; exact hfit _ (by omega))
            have hw : w.setRow (g.b (.cell l o)) (cur.toList.take (es'.length * k) ++ flat nms ++ cur.toList.drop (es'.length * k + (flat nms).length)).toArray = w := by
              rw [hf0, List.append_nil, List.length_nil, Nat.add_zero, List.take_append_drop, Array.toArray_toList]
              exact setRow_self w _ cur E (0, 0) hcur
            rw [hw, h0] at hr
            refine ⟨_, g, w, hr, R, Ext.refl _ _ _, ?_⟩
            simp only [rel]
            exact ⟨trivial, ⟨_, 0, _, ms, rfl, n1, rr, hrow⟩, _, hca, .inl ⟨_, _, rfl, Nat.le_refl _, fun _ => rfl⟩⟩
          · rename_i h0
            have hpos : 0 < ys.length := by omega
            injection ex2 with ex2
            injection ex2 with e3 e4
            subst e3 e4
            rw [hz] at hb
            have ryt := rels_true ys nms hcl ry'
            by_cases hroom : es'.length + ys.length ≤ g.c (.cell l o)
            · have hr := run_app_room (ty := ty) T S (g.b (.cell l o)) es'.length (g.c (.cell l o)) hcur hone hroom (by rw [hfl]; exact hfit _ hroom)
              have hsize : es'.length * k + ys.length * k ≤ cur.size := hfit _ hroom
              obtain ⟨g', S', X', r'⟩ := R.ownGrown hb e2 rr hmsz ryt hwd hpos (g.b (.cell l o)) (g.c (.cell l o)) _ _ E (setRow_heap w (g.b (.cell l o)) cur (cur.toList.take (es'.length * k) ++ flat nms ++ cur.toList.drop (es'.length * k + (flat nms).length)).toArray E (0, 0) hcur)
                (by
                  have hlt : cur.toList.length = cur.size := Array.length_toList
                  rw [List.size_toArray, List.length_append, List.length_append, List.length_take, List.length_drop, hlt, hfl, ← hs]
                  omega) hroom n2 (by
                  intro j u eu
                  rw [List.getElem?_toArray]
                  have htk : cur.toList.take (es'.length * k) = flat ms := by
                    apply List.ext_getElem?
                    intro q
                    rw [List.getElem?_take]
                    split
                    · rename_i hq
                      rw [Array.getElem?_toList]
                      cases hfm : (flat ms)[q]? with
                      | none =>
                        rw [List.getElem?_eq_none_iff] at hfm
                        omega
                      | some u => exact hin q u hfm
                    · rename_i hq
                      rw [eq_comm, List.getElem?_eq_none_iff]
                      omega
                  rw [htk, List.getElem?_append_left (by
                    have := (List.getElem?_eq_some_iff.1 eu).1
                    exact this)]
                  exact eu) rfl rfl rfl (by simp) (fun q _ hq => setRow_other w _ q _ hq) (.inl rfl) (fun _ j hj u eu => by
                  have h1 := R.mem _ _ _ eu
                  rw [cell_row hcur] at h1
                  cases hfm : (flat ms)[j]? with
                  | none =>
                    rw [List.getElem?_eq_none_iff] at hfm
                    omega
                  | some u' =>
                    have := hin j u' hfm
                    rw [this] at h1
                    exact h1)
              exact ⟨_, g', _, hr, S', X', r'⟩
            · have holds : ∀ j v, (flat ms)[j]? = some v → w.cell? ((⟨g.b (.cell l o), 0, none⟩ : Addr).add j) = some v := fun j u eu => by
                rw [Addr.add_lit, cell_row hcur, Nat.zero_add]
                exact hin j u eu
              have hr := run_app_grow (ty := ty) T S ⟨g.b (.cell l o), 0, none⟩ es'.length (g.c (.cell l o)) (flat ms) hmf holds (by omega) (h63 _ hl) (growslice_fits (by omega) (hbytes _ hl))
              have hge := grownCap_ge w (es'.length + ys.length) (g.c (.cell l o)) e
              have hle := grownCap_le_maxLen w (es'.length + ys.length) (g.c (.cell l o)) e (hmax _ hl)
              obtain ⟨g', S', X', r'⟩ := R.ownGrown hb e2 rr hmsz ryt hwd hpos w.heap.size (grownCap w (es'.length + ys.length) (g.c (.cell l o)) e) _ _ e
                (heap_alloc_new w.drew (.cells ((flat ms).toArray ++ (flat nms).toArray ++ Builtin.zeroCells z.cells (grownCap w (es'.length + ys.length) (g.c (.cell l o)) e - (es'.length + ys.length))) e))
                (by
                  rw [Array.size_append, Array.size_append, List.size_toArray, List.size_toArray, hmf, hfl, size_zeroCells, T.zs, ← Nat.add_mul, ← Nat.add_mul]
                  congr 1
                  omega) hge hle (by
                  intro j u eu
                  rw [← Array.getElem?_toList, Array.toList_append, Array.toList_append, List.getElem?_append_left (by
                    have := (List.getElem?_eq_some_iff.1 eu).1
                    simpa using this)]
                  exact eu) rfl rfl rfl (by rw [World.alloc, Array.size_push]; exact Nat.le_succ _) (fun q hq _ => alloc_get (w := w.drew) hq) (.inr rfl) (fun hb0 => by
                    have := R.lt (a := .cell l o) ⟨_, _, hca, rfl⟩
                    omega)
              exact ⟨_, g', _, hr, S', X', r'⟩
        · cases ex2
      · cases ex2
    · cases ex
  · cases ex
end
end Go.Proofs.Sl

namespace Go.Proofs.Sl
section
variable {P : Program} {φ : Nat → Option FuncId} {h h' : H} {g g' : G} {w w' : World} {N : Nat} {s : Sl} {a : Act}

/-! ### Freezing -/
theorem frz_ok (R : SR φ h g w) {v v' : V} {m : Value} (r : rel φ g h false v m) (e : frz h v = some (v', h')) : ∃ g', SR φ h' g' w ∧ Ext h g w h' g' w ∧ rel φ g' h' false v' m := by
  unfold frz at e
  split at e
  · rename_i l n
    obtain ⟨p, e1, e⟩ := ob_eq_some.1 e
    obtain ⟨ha, hn⟩ := arrN_ok e1
    split at e
    · rename_i hc
      injection e with e
      injection e with e2 e3
      subst e2 e3
      obtain ⟨g', S', X', k⟩ := R.freeze ha hc
      rw [← hn] at r
      exact ⟨g', S', X', rel_closed (fun _ _ _ e => e) false _ _ (k m r)⟩
    · cases e
  · obtain ⟨u, e1, e⟩ := ob_eq_some.1 e
    injection e with e
    injection e with e2 e3
    subst e2 e3
    exact ⟨g, R, Ext.refl _ _ _, frz0_ok r e1⟩
theorem keep_ok (R : SR φ h g w) {rr : Bool} {v v' : V} {m : Value} (r : rel φ g h false v m) (e : keep rr h v = some (v', h')) : ∃ g', SR φ h' g' w ∧ Ext h g w h' g' w ∧ rel φ g' h' false v' m := by
  unfold keep at e
  split at e
  · exact frz_ok R r e
  · obtain ⟨u, e1, e⟩ := ob_eq_some.1 e
    injection e with e
    injection e with e2 e3
    subst e2 e3
    exact ⟨g, R, Ext.refl _ _ _, frz0_ok r e1⟩
theorem keeps_ok {rr : Bool} : ∀ {l l' : List V} {ms : List Value} {h h' : H} {g : G}, SR φ h g w → rels φ g h false l ms → keeps rr h l = some (l', h') → ∃ g', SR φ h' g' w ∧ Ext h g w h' g' w ∧ rels φ g' h' false l' ms
  | [], l', ms, h, h', g, R, r, e => by
    simp only [keeps, Option.some.injEq, Prod.mk.injEq] at e
    obtain ⟨rfl, rfl⟩ := e
    exact ⟨g, R, Ext.refl _ _ _, r⟩
  | v :: l, l', ms, h, h', g, R, r, e => by
    obtain ⟨m, ms', rfl, r1, r2⟩ := rels_cons.1 r
    simp only [keeps] at e
    obtain ⟨⟨v', h1⟩, e1, e⟩ := ob_eq_some.1 e
    obtain ⟨⟨l2, h2⟩, e2, e⟩ := ob_eq_some.1 e
    injection e with e
    injection e with e3 e4
    subst e3 e4
    obtain ⟨g1, R1, X1, r3⟩ := keep_ok R r1 e1
    obtain ⟨g2, R2, X2, r4⟩ := keeps_ok R1 (rels_later X1.later _ _ _ r2) e2
    exact ⟨g2, R2, X1.trans X2, rels_cons'.2 ⟨rel_later X2.later _ _ _ r3, r4⟩⟩

/-! ### A new box -/
theorem rel_new_ptr {o : O} {b c : Nat} {g : G} (hb : ∃ z cs, o = .box z cs) : rel φ (g.setB (.obj h.length) b c) (h ++ [o]) false (.ptr h.length 0) (.pointer (some ⟨b, 0, none⟩)) := by
  simp only [rel]
  obtain ⟨z, cs, rfl⟩ := hb
  exact ⟨trivial, by simp [G.setB], z, cs, by rw [List.getElem?_concat_length]⟩

theorem noTl_cells : ∀ {cs : List V}, cellsOk cs = true → ∀ {ms : List Value}, rels φ g h false cs ms → (∀ (i : Nat) (x : V), cs[i]? = some x → x.tl = none) → noTl cs := fun _ _ _ k => k

theorem alloc_ok (R : SR φ h g w) {t : TypeId} {z : List V} (k : zeroIs P t z = true) :
    ∃ g' w', (Instr.alloc t true (.tuple #[])).run P w = .ok (.pointer (some ⟨w.heap.size, 0, none⟩)) w' ∧ SR φ (h ++ [.box false z]) g' w' ∧ Ext h g w (h ++ [.box false z]) g' w' ∧ rel φ g' (h ++ [.box false z]) false (.ptr h.length 0) (.pointer (some ⟨w.heap.size, 0, none⟩)) := by
  unfold zeroIs at k
  split at k
  · rename_i i hi
    split at k
    · rename_i zv hz
      rw [Bool.and_eq_true] at k
      obtain ⟨r, c1, c2, c3⟩ := eqZ_ok (φ := φ) (g := g) (h := h) k.2
      have hp := R.push (.box false z) zv.cells t 0 (fun z0 cs0 e => by
        injection e with e1 e2
        subst e1 e2
        exact ⟨rfl, rels_closed (fun _ _ _ e => e) false _ _ r, c1, c3⟩) (fun _ _ _ e => by cases e)
      refine ⟨_, _, ?_, hp.1, hp.2, rel_new_ptr ⟨_, _, rfl⟩⟩
      simp [Instr.alloc, zeroValue, run_typeInfo hi, hz, newVar, newRow]
    · cases k
  · cases k

theorem cell_tl_rel {v : V} {m : Value} (hc : v.cell = true) (hn : ∀ k es, v ≠ .own k es) (hs : ∀ k es gs, v ≠ .spent k es gs) : v.tl = none := by
  cases v <;> first | rfl | exact absurd rfl (hn _ _) | exact absurd rfl (hs _ _ _)

theorem noOwn_ok : ∀ {l : List V}, noOwn l = true → noTl l
  | [], _ => fun i x e => by simp at e
  | v :: l, k => fun i x e => by
    have h2 : v.tl = none ∧ noOwn l = true := by
      cases v <;> first | exact ⟨rfl, k⟩ | (cases k; done)
    cases i with
    | zero => simp only [List.getElem?_cons_zero, Option.some.injEq] at e; subst e; exact h2.1
    | succ i => exact noOwn_ok h2.2 i x (by simpa using e)

theorem box_ok (R : SR φ h g w) {cs : List V} {m : Value} (r : rels φ g h false cs m.cells.toList) (hc : cellsOk cs = true) (hn : noTl cs) (t : TypeId) :
    ∃ g' w', (Instr.box t m).run P w = .ok (.pointer (some ⟨w.heap.size, 0, none⟩)) w' ∧ SR φ (h ++ [.box false cs]) g' w' ∧ Ext h g w (h ++ [.box false cs]) g' w' ∧ rel φ g' (h ++ [.box false cs]) false (.ptr h.length 0) (.pointer (some ⟨w.heap.size, 0, none⟩)) := by
  have hp := R.push (.box false cs) m.cells t 0 (fun z0 cs0 e => by
    injection e with e1 e2
    subst e1 e2
    exact ⟨rfl, r, hc, hn⟩) (fun _ _ _ e => by cases e)
  refine ⟨_, _, ?_, hp.1, hp.2, rel_new_ptr ⟨_, _, rfl⟩⟩
  simp [Instr.box, newVar, newRow]

/-! ### A literal of elements -/
def keyed : Nat → List Value → List (Nat × Value)
  | _, [] => []
  | i, m :: l => (i, m) :: keyed (i + 1) l

theorem foldl_row (off : Nat) : ∀ (vs : List Value) (j : Nat) (cells : Array Value), off + j + vs.length ≤ cells.size →
    ((vs.toArray.zipIdx j).foldl (fun cs (c, j) => cs.setIfInBounds (off + j) c) cells) = (cells.toList.take (off + j) ++ vs ++ cells.toList.drop (off + j + vs.length)).toArray
  | [], j, cells, _ => by
    rw [show ([] : List Value).toArray.zipIdx j = #[] from by simp]
    simp
  | v :: vs, j, cells, hs => by
    have hs' : off + j + (vs.length + 1) ≤ cells.size := by simpa using hs
    have ih := foldl_row off vs (j + 1) (cells.setIfInBounds (off + j) v) (by simp; omega)
    simp only [← Array.foldl_toList, Array.toList_zipIdx, List.zipIdx_cons, List.foldl_cons] at ih ⊢
    rw [ih]
    apply Array.ext'
    simp only [Array.toList_setIfInBounds, List.length_cons]
    have hlt : off + j < cells.toList.length := by rw [Array.length_toList]; omega
    rw [← Nat.add_assoc, List.take_succ_eq_append_getElem (by rw [List.length_set]; exact hlt), List.getElem_set_self, List.take_set_of_le (Nat.le_refl _), List.drop_set_of_lt (by omega), show off + j + 1 + vs.length = off + j + (vs.length + 1) by omega]
    simp

theorem fill_keyed {k : Nat} : ∀ (ms : List Value) (i : Nat) (cells : Array Value), (i + ms.length) * k ≤ cells.size → (∀ m ∈ ms, m.cells.size = k) →
    Instr.fill (fun i => some (i * k, k)) cells (keyed i ms) = some ((cells.toList.take (i * k) ++ flat ms ++ cells.toList.drop ((i + ms.length) * k)).toArray)
  | [], i, cells, _, _ => by simp [keyed, Instr.fill, flat]
  | m :: ms, i, cells, hs, hk => by
    have h1 := hk m (by simp)
    have hs' : (i + (ms.length + 1)) * k ≤ cells.size := by simpa using hs
    have e1 : (i + 1) * k = i * k + k := Nat.succ_mul i k
    have e2 : (i + (ms.length + 1)) * k = (i + 1) * k + ms.length * k := by rw [show i + (ms.length + 1) = i + 1 + ms.length by omega, Nat.add_mul]
    simp only [keyed, Instr.fill]
    rw [if_neg (by simp only [Bool.or_eq_true, decide_eq_true_eq, not_or, ne_eq, Decidable.not_not]; constructor <;> omega)]
    have hf := foldl_row (i * k) m.cells.toList 0 cells (by rw [Array.length_toList, h1]; omega)
    simp only [Nat.add_zero, Array.toArray_toList] at hf
    rw [hf, fill_keyed ms (i + 1) _ (by
      rw [List.size_toArray, List.length_append, List.length_append, List.length_take, List.length_drop]
      simp only [Array.length_toList, h1]
      rw [show i + 1 + ms.length = i + (ms.length + 1) by omega]
      omega) fun x hx => hk x (List.mem_cons_of_mem _ hx)]
    congr 2
    have hl : (cells.toList.take (i * k) ++ m.cells.toList).length = (i + 1) * k := by
      rw [List.length_append, List.length_take]
      simp only [Array.length_toList, h1]
      omega
    rw [List.take_left' hl]
    have hd : ∀ q, (cells.toList.take (i * k) ++ m.cells.toList ++ cells.toList.drop (i * k + m.cells.toList.length)).drop ((i + 1) * k + q) = cells.toList.drop ((i + 1) * k + q) := by
      intro q
      rw [List.drop_append, List.drop_eq_nil_of_le (by omega), List.nil_append, List.drop_drop, hl, Array.length_toList, h1]
      congr 1
      omega
    rw [show i + 1 + ms.length = i + 1 + ms.length from rfl, Nat.add_mul (i + 1), hd, ← e2]
    simp [flat, List.append_assoc]

theorem chkKeys_ok (S : Slots φ g h N s a) : ∀ {ps : List (Nat × Operand)} {xs : List Opd} {i : Nat}, chkKeys φ N i ps xs = true → rels φ g h false (evs s xs) (ps.map fun p => a.eval p.2) ∧ ps.map (fun p => (p.1, a.eval p.2)) = keyed i (ps.map fun p => a.eval p.2)
  | [], [], i, _ => ⟨rels_nil.2 rfl, rfl⟩
  | (j, o) :: ps, x :: xs, i, k => by
    simp only [chkKeys, Bool.and_eq_true, beq_iff_eq] at k
    obtain ⟨h1, h2⟩ := chkKeys_ok S k.2
    refine ⟨rels_cons'.2 ⟨opd_ok S k.1.2, h1⟩, ?_⟩
    simp only [List.map_cons, keyed, h2, k.1.1]
  | [], _ :: _, _, k => by simp [chkKeys] at k
  | _ :: _, [], _, k => by simp [chkKeys] at k

theorem run_buildSlice {t e : TypeId} {k len : Nat} (hu : P.underlying t = some (.slice e)) (hs : sizeIs P e k = true) (hz : hasZero P e = true) {ps : Array (Nat × Value)} {ms : List Value} (hp : ps.toList = keyed 0 ms) (hl : len = ms.length) (hk : ∀ m ∈ ms, m.cells.size = k) (hb : len * k ≤ 2 ^ 24) (w : World) :
    (Instr.buildSlice t len ps).run P w = .ok (.slice (some ⟨w.heap.size, 0, none⟩) len len) (w.alloc (.cells (flat ms).toArray e)) := by
  subst hl
  have hb' : ¬ (16777216 < ms.length * k) := by omega
  unfold hasZero at hz
  split at hz
  · rename_i i hi
    split at hz
    · rename_i zv hzv
      have hfill : ∀ cells : Array Value, cells.size = ms.length * k → Instr.fill (fun i => some (i * k, k)) cells ps.toList = some (flat ms).toArray := by
        intro cells hc
        rw [hp, fill_keyed ms 0 cells (by rw [Nat.zero_add, hc]; exact Nat.le_refl _) hk]
        congr 2
        rw [Nat.zero_mul, List.take_zero, List.nil_append, Nat.zero_add, ← hc, ← Array.length_toList, List.drop_length, List.append_nil]
      by_cases h0 : ms.length * k = 0
      · have := hfill ((Array.range (ms.length * k)).map ((#[] : Array Value)[· % (#[] : Array Value).size]!)) (by simp)
        simp only [Instr.buildSlice, Sem.run_bind, run_underlying hu, Result.andThen_ok, run_sizeOf hs, Nat.reducePow, gt_iff_lt, hb', if_false, if_pos h0, Sem.run_pure]
        simp only [this, Sem.run_bind, Result.andThen_ok, newRow, Sem.run_pure, run_newObj, World.alloc]
      · have := hfill ((Array.range (ms.length * k)).map (zv.cells[· % zv.cells.size]!)) (by simp)
        simp only [Instr.buildSlice, Sem.run_bind, run_underlying hu, Result.andThen_ok, run_sizeOf hs, Nat.reducePow, gt_iff_lt, hb', if_false, h0, zeroValue, run_typeInfo hi, hzv, Sem.run_pure]
        simp only [this, Sem.run_bind, Result.andThen_ok, newRow, Sem.run_pure, run_newObj, World.alloc]
    · cases hz
  · cases hz
end
end Go.Proofs.Sl

namespace Go.Proofs.Sl
section
variable {P : Program} {φ : Nat → Option FuncId} {h h' : H} {g g' : G} {w w' : World} {N : Nat} {s : Sl} {a : Act}

theorem SR.arrChange (S : SR φ h g w) {l k : Nat} {es es2 : List V} {ms2 : List Value} (ha : h[l]? = some (.arr false k es)) (hlen : es2.length = es.length) (r2 : rels φ g h false es2 ms2) (hwd : wide k es2 = true) {cur cur2 : Array Value} {E : TypeId}
    (hcur : w.heap[g.b (.obj l)]? = some (.cells cur E (0, 0))) (hsz : cur2.size = cur.size) (ht : cur2.toList.take (es.length * k) = flat ms2) :
    SR φ (h.set l (.arr false k es2)) g (w.setRow (g.b (.obj l)) cur2) ∧ Ext h g w (h.set l (.arr false k es2)) g (w.setRow (g.b (.obj l)) cur2) := by
  have hlt := lt_of_get ha
  have hlive : live h (.obj l) := .inr ⟨_, _, _, ha⟩
  obtain ⟨cur', E', ms, e, s, n1, n2, r, wd, t, _, k3⟩ := S.arr l false k es ha
  rw [hcur] at e
  injection e with e
  injection e with e1 e2
  subst e1 e2
  have hg : g.setB (.obj l) (g.b (.obj l)) (g.c (.obj l)) = g := by
    cases g
    simp only [G.setB, G.mk.injEq, and_true]
    constructor <;> (funext x; split <;> simp_all)
  have L : Later g h g (h.set l (.arr false k es2)) := by
    have := Later.arrSet (g := g) (es2 := es2) (z2 := false) ha (b := g.b (.obj l)) (c := g.c (.obj l)) (by omega) fun _ => ⟨rfl, rfl⟩
    rwa [hg] at this
  have hne : ∀ a, live h a → a ≠ .obj l → g.b a ≠ g.b (.obj l) := fun a ha hn e => hn (S.inj a _ ha hlive e)
  have hlv := live_arrSet (z2 := false) (es2 := es2) ha
  refine ⟨S.mk' L (· = .obj l) ?_ ?_ ?_ ?_ ?_ ?_ ?_, ⟨L, rfl, rfl, rfl, by simp, fun q hq hn => setRow_get (fun e => hn _ hlive e.symm), fun a hv => .inl ⟨a, (hlv a).1 hv, rfl⟩, fun q z k' d ed => .inl ?_⟩⟩
  · intro q hn hv
    have hq : l ≠ q := fun e => hn (by rw [e])
    exact ⟨set_get_ne hq, rfl, rfl, setRow_get (hne _ ((hlv _).1 hv) hn), fun _ => rfl⟩
  · intro q p hn hv
    have v1 := (hlv _).1 hv
    have hb := live_cell_box v1
    have hq : l ≠ q := by
      rintro rfl
      obtain ⟨z, d, hb⟩ := hb
      rw [ha] at hb
      cases hb
    exact ⟨cellAt_set_ne hq, rfl, rfl, setRow_get (hne _ v1 (by simp)), setRow_cell (hne (.obj q) (.inl hb) (by simp; omega)), fun _ => rfl⟩
  · intro q z d ht ee
    injection ht with ht
    subst ht
    rw [set_get_same hlt] at ee
    cases ee
  · intro q z k' d ht' ee
    injection ht' with ht'
    subst ht'
    rw [set_get_same hlt] at ee
    injection ee with ee
    injection ee with e1 e2 e3
    subst e1 e2 e3
    exact ⟨_, E, ms2, setRow_heap w _ cur _ E _ hcur, by rw [hsz]; exact s, by rw [hlen]; exact n1, n2, rels_later L _ _ _ r2, hwd, by rw [hlen]; exact ht, fun h => by (cases h), fun _ => k3 rfl⟩
  · intro q p x n ht
    cases ht
  · intro a b va vb eab
    exact S.inj a b ((hlv a).1 va) ((hlv b).1 vb) eab
  · intro b p u eu
    rw [setRow_cell fun eb => ?_]
    · exact S.mem b p u eu
    · subst eb
      rw [k3 rfl] at eu
      cases eu
  · by_cases e' : l = q
    · subst e'
      rw [set_get_same hlt] at ed
      injection ed with ed
      injection ed with e1 e2 e3
      subst e1 e2 e3
      exact ⟨_, _, ha, rfl⟩
    · rw [set_get_ne e'] at ed
      exact ⟨z, d, ed, rfl⟩

theorem putRow_eq : ∀ (cs : List V) (j : Nat) (c : List V), j + cs.length ≤ c.length → putRow j cs c = c.take j ++ cs ++ c.drop (j + cs.length)
  | [], j, c, _ => by simp [putRow]
  | n :: ns, j, c, hl => by
    have hl' : j + (ns.length + 1) ≤ c.length := by simpa using hl
    simp only [putRow]
    rw [putRow_eq ns (j + 1) _ (by rw [List.length_set]; omega)]
    rw [List.take_succ_eq_append_getElem (by rw [List.length_set]; omega), List.getElem_set_self, List.take_set_of_le (Nat.le_refl _), List.drop_set_of_lt (by omega), List.length_cons, show j + 1 + ns.length = j + (ns.length + 1) by omega]
    simp

theorem cellsOk_append {a b : List V} : cellsOk (a ++ b) = true ↔ cellsOk a = true ∧ cellsOk b = true := by
  induction a with
  | nil => simp [cellsOk]
  | cons v a ih => simp only [List.cons_append, cellsOk, Bool.and_eq_true, ih, and_assoc]
theorem cellsOk_take {a : List V} (k : cellsOk a = true) (n : Nat) : cellsOk (a.take n) = true := by
  have := k
  rw [← List.take_append_drop n a] at this
  exact (cellsOk_append.1 this).1
theorem cellsOk_drop {a : List V} (k : cellsOk a = true) (n : Nat) : cellsOk (a.drop n) = true := by
  have := k
  rw [← List.take_append_drop n a] at this
  exact (cellsOk_append.1 this).2

/-- An element with some of its cells overwritten. -/
theorem putEl_ok {e : V} {m : Value} {cs : List V} {nms : List Value} {j : Nat} (r : rel φ g h false e m) (rc : rels φ g h false cs nms) (hj : j + cs.length ≤ e.cells.length) (hok : cellsOk cs = true) (heo : cellsOk e.cells = true) :
    ∃ m2, rel φ g h false (putEl j cs e) m2 ∧ (putEl j cs e).cells.length = e.cells.length ∧ cellsOk (putEl j cs e).cells = true ∧ m2.cells.toList = m.cells.toList.take j ++ nms ++ m.cells.toList.drop (j + nms.length) := by
  have hl := rels_length rc
  by_cases hagg : ∃ c, e = .agg c
  · obtain ⟨c, rfl⟩ := hagg
    simp only [V.cells] at hj heo
    simp only [rel] at r
    obtain ⟨arr, rfl, r⟩ := r
    refine ⟨.agg (arr.toList.take j ++ nms ++ arr.toList.drop (j + nms.length)).toArray, ?_, ?_, ?_, by simp [Value.cells]⟩
    · simp only [putEl, rel]
      refine ⟨_, rfl, ?_⟩
      rw [putRow_eq cs j c hj, ← hl]
      exact rels_append (rels_append (rels_take r j) rc) (rels_drop r _)
    · simp only [putEl, V.cells]
      rw [putRow_eq cs j c hj]
      simp only [List.length_append, List.length_take, List.length_drop]
      omega
    · simp only [putEl, V.cells]
      rw [putRow_eq cs j c hj]
      exact cellsOk_append.2 ⟨cellsOk_append.2 ⟨cellsOk_take heo j, hok⟩, cellsOk_drop heo _⟩
  · have hec : e.cells = [e] := by cases e <;> first | rfl | exact absurd ⟨_, rfl⟩ hagg
    have hmc : m.cells = #[m] := cells_notAgg (rel_notAgg r fun c hc => hagg ⟨c, hc⟩)
    have hpe : putEl j cs e = cs.headD e := by cases e <;> first | rfl | exact absurd ⟨_, rfl⟩ hagg
    rw [hpe]
    rw [hec] at hj heo ⊢
    cases cs with
    | nil =>
      rw [rels_nil] at rc
      subst rc
      exact ⟨m, r, by simp [hec], by simpa [hec] using heo, by simp⟩
    | cons c cs =>
      have h0 : cs = [] := List.eq_nil_of_length_eq_zero (by simp at hj; omega)
      have hj0 : j = 0 := by simp at hj; omega
      subst h0 hj0
      obtain ⟨m', s', rfl, r1, r2⟩ := rels_cons.1 rc
      rw [rels_nil] at r2
      subst r2
      have hcell : c.cell = true := by simpa [cellsOk] using hok
      have hcc : c.cells = [c] := by cases c <;> first | rfl | (simp [V.cell] at hcell)
      have hmc' : m'.cells = #[m'] := cells_notAgg (rel_notAgg r1 fun q hq => by subst hq; simp [V.cell] at hcell)
      refine ⟨m', r1, by simp [hcc], by simpa [hcc] using hok, by simp [hmc', hmc]⟩

theorem wide_set {k : Nat} {l : List V} (hw : wide k l = true) {i : Nat} {v : V} (h1 : v.cells.length = k) (h2 : cellsOk v.cells = true) : wide k (l.set i v) = true := by
  induction l generalizing i with
  | nil => exact hw
  | cons x l ih =>
    rw [wide_cons] at hw
    cases i with
    | zero => exact wide_cons.2 ⟨h1, h2, hw.2.2⟩
    | succ i => exact wide_cons.2 ⟨hw.1, hw.2.1, ih hw.2.2⟩

theorem flat_set {k : Nat} {ms : List Value} (hs : ∀ m ∈ ms, m.cells.size = k) {i : Nat} {m m2 : Value} (e : ms[i]? = some m) (h2 : m2.cells.size = k) : flat (ms.set i m2) = (flat ms).take (i * k) ++ m2.cells.toList ++ (flat ms).drop ((i + 1) * k) := by
  induction ms generalizing i with
  | nil => simp at e
  | cons x ms ih =>
    have hx := hs x (by simp)
    have hxl : x.cells.toList.length = k := by rw [Array.length_toList]; exact hx
    cases i with
    | zero =>
      simp only [List.set_cons_zero, flat, List.flatMap_cons, Nat.zero_mul, List.take_zero, List.nil_append, Nat.zero_add, Nat.one_mul]
      rw [List.drop_left' hxl]
    | succ i =>
      simp only [List.set_cons_succ, flat, List.flatMap_cons]
      have := ih (fun y hy => hs y (by simp [hy])) (i := i) (by simpa using e)
      rw [flat, flat] at this
      have t1 : ∀ (q : Nat) (F : List Value), (x.cells.toList ++ F).take ((q + 1) * k) = x.cells.toList ++ F.take (q * k) := fun q F => by
        rw [show (q + 1) * k = x.cells.toList.length + q * k by rw [hxl, Nat.succ_mul]; omega, List.take_length_add_append]
      have t2 : ∀ (q : Nat) (F : List Value), (x.cells.toList ++ F).drop ((q + 1) * k) = F.drop (q * k) := fun q F => by
        rw [show (q + 1) * k = x.cells.toList.length + q * k by rw [hxl, Nat.succ_mul]; omega, List.drop_length_add_append]
      rw [this, t1, t2]
      simp [List.append_assoc]

theorem row_split {C nms : List Value} {A j k L : Nat} (h1 : A + k ≤ L) (h2 : L ≤ C.length) (h3 : j + nms.length ≤ k) :
    (C.take (A + j) ++ nms ++ C.drop (A + j + nms.length)).take L = (C.take L).take A ++ ((((C.take L).drop A).take k).take j ++ nms ++ (((C.take L).drop A).take k).drop (j + nms.length)) ++ (C.take L).drop (A + k) := by
  have p1 : (C.take L).take A = C.take A := by rw [List.take_take, Nat.min_eq_left (by omega)]
  have p2 : (((C.take L).drop A).take k) = (C.drop A).take k := by rw [List.drop_take, List.take_take, Nat.min_eq_left (by omega)]
  have p3 : ((C.drop A).take k).take j = (C.drop A).take j := by rw [List.take_take, Nat.min_eq_left (by omega)]
  have p4 : C.take (A + j) = C.take A ++ (C.drop A).take j := List.take_add
  have p5 : ((C.drop A).take k).drop (j + nms.length) = (C.drop (A + j + nms.length)).take (k - (j + nms.length)) := by
    rw [List.drop_take, List.drop_drop, Nat.add_assoc]
  have hl : (C.take (A + j) ++ nms).length = A + j + nms.length := by
    rw [List.length_append, List.length_take, Nat.min_eq_left (by omega)]
  rw [p1, p2, p3, p5, List.take_append, hl, List.take_of_length_le (by omega), p4]
  have p6 : (C.take L).drop (A + k) = (C.drop (A + k)).take (L - (A + k)) := List.drop_take
  have p7 : (C.drop (A + j + nms.length)).take (L - (A + j + nms.length)) = (C.drop (A + j + nms.length)).take (k - (j + nms.length)) ++ (C.drop (A + k)).take (L - (A + k)) := by
    have e1 : L - (A + j + nms.length) = (k - (j + nms.length)) + (L - (A + k)) := by omega
    rw [e1, List.take_add, List.drop_drop]
    congr 3
    omega
  rw [p6, p7]
  simp [List.append_assoc]

/-- Some cells of an element are stored. -/
theorem elStore_ok (R : SR φ h g w) {l k i j : Nat} {es : List V} {e : V} {cs : List V} {nms : List Value} (ha : h[l]? = some (.arr false k es)) (he : es[i]? = some e) (rc : rels φ g h false cs nms) (hj : j + cs.length ≤ e.cells.length) (hok : cellsOk cs = true) :
    ∃ g' w', (storeCells ⟨g.b (.obj l), i * k + j, none⟩ nms).run P w = .ok () w' ∧ SR φ (h.set l (.arr false k (es.set i (putEl j cs e)))) g' w' ∧ Ext h g w (h.set l (.arr false k (es.set i (putEl j cs e)))) g' w' := by
  obtain ⟨cur, E, ms, hcur, hs, n1, n2, r, wd, t, _, _⟩ := R.arr l false k es ha
  have hsz := wide_sizes wd r
  obtain ⟨m, em, rm⟩ := rels_get r he
  obtain ⟨hek, heo⟩ := wide_get wd he
  obtain ⟨m2, r2, l2, o2, c2⟩ := putEl_ok rm rc hj hok heo
  have hmk : m.cells.size = k := by rw [cells_size rm]; exact hek
  have hlc := rels_length rc
  have hm2 : m2.cells.size = k := by rw [cells_size r2, l2]; exact hek
  have hfl := flat_length hsz
  rw [← rels_length r] at hfl
  have hi : i < es.length := (List.getElem?_eq_some_iff.1 he).1
  have hik : (i + 1) * k ≤ es.length * k := Nat.mul_le_mul_right _ hi
  have hsm : (i + 1) * k = i * k + k := Nat.succ_mul i k
  have hck : es.length * k ≤ cur.size := by rw [hs]; exact Nat.mul_le_mul_right _ n1
  have hcl : cur.toList.length = cur.size := Array.length_toList
  have hst := run_storeCells_at P (g.b (.obj l)) (i * k + j) E nms 0 cur w hcur (by omega) (cellsOk_one rc hok)
  simp only [Nat.add_zero] at hst
  have hc := R.arrChange ha (es2 := es.set i (putEl j cs e)) (ms2 := ms.set i m2) (by simp) (rels_set r r2 i) (wide_set wd (l2.trans hek) o2) hcur
    (cur2 := (cur.toList.take (i * k + j) ++ nms ++ cur.toList.drop (i * k + j + nms.length)).toArray) (by
      rw [List.size_toArray]
      simp only [List.length_append, List.length_take, List.length_drop, hcl]
      omega) (by
      rw [flat_set hsz em hm2, c2]
      have hmcells : m.cells.toList = ((flat ms).drop (i * k)).take k := by
        apply List.ext_getElem?
        intro q
        rw [List.getElem?_take]
        split
        · rename_i hq
          rw [List.getElem?_drop]
          have hq2 : q < m.cells.size := by omega
          rw [Array.getElem?_toList, Array.getElem?_eq_getElem hq2]
          exact (flat_get hsz em (Array.getElem?_eq_getElem hq2)).symm
        · rename_i hq
          rw [List.getElem?_eq_none_iff, Array.length_toList]
          omega
      rw [hmcells, ← t]
      rw [hsm]
      exact row_split (C := cur.toList) (nms := nms) (A := i * k) (j := j) (k := k) (L := es.length * k) (by omega) (by omega) (by omega))
  exact ⟨g, _, hst, hc.1, hc.2⟩
end
end Go.Proofs.Sl

namespace Go.Proofs.Sl
section
variable {P : Program} {φ : Nat → Option FuncId} {h h' : H} {g g' : G} {w w' : World} {N : Nat} {s : Sl} {a : Act}

/-- What an operation has done. -/
def Done (P : Program) (φ : Nat → Option FuncId) (a : Act) (o : Oper) (h : H) (g : G) (w : World) (v : V) (h' : H) : Prop :=
  ∃ nx g' w', (execOp a.eval o).run P w = .ok nx w' ∧ SR φ h' g' w' ∧ Ext h g w h' g' w' ∧ ((∃ mv, nx = .value mv ∧ rel φ g' h' false v mv) ∨ (nx = .skip ∧ v = .u))

theorem frz0_tl {v v' : V} (e : frz0 v = some v') : v'.tl = none := by
  cases v <;> simp only [frz0, Option.some.injEq, reduceCtorEq] at e <;> subst e <;> rfl
theorem frz_tl {v v' : V} (e : frz h v = some (v', h')) : v'.tl = none := by
  unfold frz at e
  split at e
  · obtain ⟨p, e1, e⟩ := ob_eq_some.1 e
    split at e
    · injection e with e
      injection e with e2 e3
      subst e2
      rfl
    · cases e
  · obtain ⟨u, e1, e⟩ := ob_eq_some.1 e
    injection e with e
    injection e with e2 e3
    subst e2
    exact frz0_tl e1
theorem keep_tl {r : Bool} {v v' : V} (e : keep r h v = some (v', h')) : v'.tl = none := by
  unfold keep at e
  split at e
  · exact frz_tl e
  · obtain ⟨u, e1, e⟩ := ob_eq_some.1 e
    injection e with e
    injection e with e2 e3
    subst e2
    exact frz0_tl e1
theorem keep0s_length : ∀ {l l' : List V}, keep0s l = some l' → l'.length = l.length
  | [], l', e => by simp only [keep0s, Option.some.injEq] at e; subst e; rfl
  | v :: l, l', e => by
    simp only [keep0s] at e
    obtain ⟨v', e1, e⟩ := ob_eq_some.1 e
    obtain ⟨l2, e2, e⟩ := ob_eq_some.1 e
    injection e with e
    subst e
    simp [keep0s_length e2]
theorem keeps_length {r : Bool} : ∀ {l l' : List V} {h h' : H}, keeps r h l = some (l', h') → l'.length = l.length
  | [], l', h, h', e => by simp only [keeps, Option.some.injEq, Prod.mk.injEq] at e; obtain ⟨rfl, _⟩ := e; rfl
  | v :: l, l', h, h', e => by
    simp only [keeps] at e
    obtain ⟨⟨v', h1⟩, e1, e⟩ := ob_eq_some.1 e
    obtain ⟨⟨l2, h2⟩, e2, e⟩ := ob_eq_some.1 e
    injection e with e
    injection e with e3 e4
    subst e3
    simp [keeps_length e2]
theorem evs_length (s : Sl) : ∀ (l : List Opd), (evs s l).length = l.length
  | [] => rfl
  | x :: l => by simp [evs, evs_length s l]

theorem store_ok (R : SR φ h g w) {base n : Nat} {t : TypeId} (hs : sizeIs P t n = true) {x v : V} {mx mv : Value} (rx : rel φ g h false x mx) (rv : rel φ g h false v mv) (e : xstore base h n x v = some h') :
    ∃ g' w', (Instr.storeAt t mx mv).run P w = .ok () w' ∧ SR φ h' g' w' ∧ Ext h g w h' g' w' := by
  unfold xstore at e
  split at e
  · rename_i hn
    have hsz : mv.cells.size = n := by rw [cells_size rv, hn]
    have hrc := rel_cells rv
    have hrun : ∀ ad w', (storeCells ad mv.cells.toList).run P w = .ok () w' → (Instr.storeAt t (.pointer (some ad)) mv).run P w = .ok () w' := fun ad w' hh => by
      simp [Instr.storeAt, Instr.sureAddr, storeVar, run_sizeOf hs, hsz, hh]
    split at e
    · rename_i l o
      obtain ⟨p, e1, e⟩ := ob_eq_some.1 e
      have hb := boxAt_ok e1
      split at e
      · cases e
      · rename_i hp
        have hp : p.1 = false := by simpa using hp
        obtain ⟨q, e2, e⟩ := ob_eq_some.1 e
        injection e with e
        subst e
        rw [hp] at hb
        have hset := list_set_same hb
        simp only [rel] at rx
        obtain ⟨-, rfl, _⟩ := rx
        obtain ⟨g', w', h1, h2, h3⟩ := stCells_ok (P := P) (φ := φ) (off0 := o) (b0 := g.b (.obj l)) v.cells o h q.2 p.2 q.1 g w mv.cells.toList 0 (lt_of_get hb) ⟨_, _, hb⟩ (by rw [hset]; exact R) rfl rfl (by rw [hset]; exact hrc) e2
        rw [hset] at h3
        exact ⟨g', w', hrun _ _ h1, h2, h3⟩
    · rename_i l m i j
      obtain ⟨p, e1, e⟩ := ob_eq_some.1 e
      obtain ⟨ha, hm⟩ := arrN_ok e1
      split at e
      · cases e
      · rename_i hp
        have hp : p.1 = false := by simpa using hp
        obtain ⟨el, e2, e⟩ := ob_eq_some.1 e
        obtain ⟨cs, e3, e⟩ := ob_eq_some.1 e
        split at e
        · rename_i hc
          injection e with e
          subst e
          simp only [rel] at rx
          obtain ⟨-, -, -, rx⟩ := rx
          rw [(rx _ _ _ ha).2 hm]
          rw [hp] at ha
          have hl := keep0s_length e3
          have hj : j + cs.length ≤ el.cells.length := by omega
          obtain ⟨g', w', h1, h2, h3⟩ := elStore_ok (P := P) R ha e2 (keep0s_ok hrc e3) hj hc.2.2
          exact ⟨g', w', hrun _ _ h1, h2, h3⟩
        · cases e
    · cases e
  · cases e

theorem slArr_ok (R : SR φ h g w) {t e0 : TypeId} {n : Nat} (hu : P.underlying t = some (.array n e0)) (hs : sizeIs P e0 1 = true) {l : Nat} {z : Bool} {cs : List V} (hb : h[l]? = some (.box z cs)) (hn : cs.length = n) (hc : V.closed.closeds cs = true) :
    ∃ g' mv, (Instr.sliceAt t (.pointer (some ⟨g.b (.obj l), 0, none⟩)) none none none).run P w = .ok mv w ∧ SR φ (h.set l (.box true cs)) g' w ∧ Ext h g w (h.set l (.box true cs)) g' w ∧ rel φ g' (h.set l (.box true cs)) false (.lst 1 cs) mv := by
  obtain ⟨g', S', X', hgb, ms, r, hM, hone⟩ := R.freezeBox hb hc
  have hms : ∀ m ∈ ms, m.cells = #[m] := fun m hm => by
    have := hone m hm
    cases m <;> first | rfl | (simp [Value.oneCell'] at this)
  refine ⟨g', .slice (some ⟨g.b (.obj l), 0, none⟩) n n, ?_, S', X', ?_⟩
  · simp only [Instr.sliceAt, Sem.run_bind, run_underlying hu, Result.andThen_ok, Instr.sureAddr, Sem.run_pure, Instr.sliceBounds, run_sizeOf hs]
    simp [Addr.add_zero']
  · simp only [rel]
    refine .inl ⟨g.b (.obj l), 0, n, ms, by rw [hn], by omega, r, ?_, fun i m em j u eu => ?_⟩
    · intro m hm
      rw [hms m hm]
      rfl
    · rw [hms m (List.mem_of_getElem? em)] at eu
      have hj : j = 0 := by
        have := (Array.getElem?_eq_some_iff.1 eu).1
        simpa using this
      subst hj
      simp only [List.getElem?_toArray, List.getElem?_cons_zero, Option.some.injEq] at eu
      subst eu
      rw [Nat.zero_add, Nat.mul_one, Nat.add_zero]
      exact hM i m em

/-- A literal that nobody will write to. -/
theorem bs_ok (R : SR φ h g w) (S : Slots φ g h N s a) {o : Oper} {m : Bool} {k0 : Nat} {ps : List Opd} (k : chkOp P φ N o.op (.bslice m k0 ps) = true) {v : V} (e : xpure s (.bslice false k0 ps) = some v) : Done P φ a o h g w v h := by
  obtain ⟨dst, op, ty, pos, after, guard⟩ := o
  simp only at k
  cases op <;> simp only [chkOp, Bool.false_eq_true] at k
  rename_i t len parts
  simp only [Bool.and_eq_true, beq_iff_eq, decide_eq_true_eq] at k
  obtain ⟨⟨⟨k1, k2⟩, k3⟩, k4⟩ := k
  obtain ⟨d, hu, hd⟩ := isUnd_ok k1
  obtain ⟨e0, rfl, hd2⟩ := dSlice_ok hd
  simp only [Bool.and_eq_true] at hd2
  simp only [xpure] at e
  obtain ⟨l, e1, e⟩ := ob_eq_some.1 e
  split at e
  · rename_i hc
    injection e with e
    subst e
    obtain ⟨r1, r2⟩ := chkKeys_ok S k4
    have r := keep0s_ok r1 e1
    have hl := rels_length r
    have hlen : l.length = len := by rw [keep0s_length e1, evs_length, k2]
    have hsz := wide_sizes hc.2 r
    have hf := flat_length hsz
    have hrun := run_buildSlice (P := P) hu hd2.1 hd2.2 (ps := parts.map fun (i, x) => (i, a.eval x)) (ms := parts.toList.map fun p => a.eval p.2) (len := len) (by simpa using r2) (by omega) hsz k3.1 w
    have hfx := R.fix (flat (parts.toList.map fun p => a.eval p.2)).toArray e0 (fun j => (flat (parts.toList.map fun p => a.eval p.2))[j]?) (fun j u eu => by rw [List.getElem?_toArray]; exact eu)
    refine ⟨_, _, _, ?_, hfx.1, hfx.2, .inl ⟨.slice (some ⟨w.heap.size, 0, none⟩) len len, rfl, ?_⟩⟩
    · simp only [execOp, Sem.run_bind, hrun]
      rfl
    · simp only [rel]
      refine .inl ⟨w.heap.size, 0, len, _, by rw [hlen], by omega, rels_true _ _ hc.1 (rels_later hfx.2.later _ _ _ r), RowM.of_flat hsz fun j u eu => ?_⟩
      rw [Nat.zero_add]
      simp only [G.setM, if_true]
      exact eu
  · cases e

theorem elemZ_ok {t : TypeId} {k : Nat} {z : V} (e : elemZ P t k z = true) : ∃ i zv, P.info? t = some i ∧ i.size = k ∧ i.zero = some zv ∧ rel φ g h true z zv := by
  unfold elemZ at e
  split at e
  · rename_i i hi
    rw [Bool.and_eq_true, beq_iff_eq] at e
    obtain ⟨e1, e2⟩ := e
    split at e2
    · rename_i ar hz
      split at e2
      · rename_i zs
        refine ⟨i, _, hi, e1, hz, ?_⟩
        simp only [rel]
        exact ⟨_, rfl, (eqZ_ok e2).1⟩
      · cases e2
    · rename_i zv _ hz
      obtain ⟨r, _⟩ := eqZ_ok (φ := φ) (g := g) (h := h) e2
      exact ⟨i, zv, hi, e1, hz, (rels_cons'.1 r).1⟩
    · cases e2
  · cases e
theorem wrap_len {n : Nat} (h : n ≤ 9223372036854775807) : IntKind.i64.wrap (n : Int) = n := by
  simp only [IntKind.wrap, IntKind.bits, IntKind.signed]
  simp
  omega
theorem flat_rep {k : Nat} {zv : Value} (hk : zv.cells.size = k) (c : Nat) : ((Array.range (c * k)).map fun j => (if c * k = 0 then (#[] : Array Value) else zv.cells)[j % (if c * k = 0 then (#[] : Array Value) else zv.cells).size]!).toList = flat (List.replicate c zv) := by
  have hsz : ∀ m ∈ List.replicate c zv, m.cells.size = k := fun m hm => by rw [(List.mem_replicate.1 hm).2]; exact hk
  by_cases h0 : c * k = 0
  · have hl := flat_length hsz
    rw [List.length_replicate, h0] at hl
    rw [List.eq_nil_of_length_eq_zero hl]
    simp [h0]
  · simp only [if_neg h0]
    apply List.ext_getElem?
    intro q
    have hl := flat_length hsz
    rw [List.length_replicate] at hl
    by_cases hq : q < c * k
    · have hk0 : 0 < k := Nat.pos_of_ne_zero fun e => h0 (by rw [e, Nat.mul_zero])
      have h1 : q / k < c := by rw [Nat.div_lt_iff_lt_mul hk0]; exact hq
      have h2 : q % k < zv.cells.size := by rw [hk]; exact Nat.mod_lt _ hk0
      have h3 : (List.replicate c zv)[q / k]? = some zv := by rw [List.getElem?_replicate, if_pos h1]
      have h4 := flat_get hsz h3 (Array.getElem?_eq_getElem h2)
      have h5 : q / k * k + q % k = q := by rw [Nat.mul_comm]; exact Nat.div_add_mod q k
      rw [h5] at h4
      rw [h4, Array.getElem?_toList, Array.getElem?_map, Array.getElem?_range, if_pos hq, Option.map_some, hk]
      rw [getElem!_pos zv.cells (q % k) h2]
    · rw [List.getElem?_eq_none (by simp; omega), List.getElem?_eq_none (by omega)]
theorem rels_rep {z : Bool} {v : V} {m : Value} (r : rel φ g h z v m) : ∀ n : Nat, rels φ g h z (List.replicate n v) (List.replicate n m)
  | 0 => rels_nil.2 rfl
  | n + 1 => by
    rw [List.replicate_succ, List.replicate_succ]
    exact rels_cons'.2 ⟨r, rels_rep r n⟩
theorem wide_rep {k : Nat} {v : V} (hw : wide k [v] = true) : ∀ n : Nat, wide k (List.replicate n v) = true
  | 0 => rfl
  | n + 1 => by
    rw [List.replicate_succ]
    have := wide_cons.1 hw
    exact wide_cons.2 ⟨this.1, this.2.1, wide_rep hw n⟩
theorem mkslice_ok (R : SR φ h g w) {t e0 : TypeId} {k lim n : Nat} {z : V} (hu : P.underlying t = some (.slice e0)) (hz : elemZ P e0 k z = true) (hb : bytesIs P e0 (fun b => decide (lim * b ≤ 2 ^ 47)) = true) (hm : lim ≤ maxLen) (hn : n ≤ lim) (hw : wide k [z] = true) {k1 k2 : IntKind} :
    ∃ g' w' mv, (Instr.makeSlice t (.int k1 n) (.int k2 n)).run P w = .ok mv w' ∧ SR φ (h ++ [.arr false k (List.replicate n z)]) g' w' ∧ Ext h g w (h ++ [.arr false k (List.replicate n z)]) g' w' ∧ rel φ g' (h ++ [.arr false k (List.replicate n z)]) false (.ref h.length n) mv := by
  obtain ⟨i, zv, hi, hs, hzv, r⟩ := elemZ_ok (φ := φ) (g := g) (h := h) hz
  have hbi : lim * i.bytes ≤ 140737488355328 := by
    unfold bytesIs at hb
    rw [hi] at hb
    simpa using hb
  have hzs : zv.cells.size = k := by rw [cells_size r]; exact (wide_cons.1 hw).1
  have hf := flat_rep hzs n
  have hfl := flat_length (k := k) (ms := List.replicate n zv) fun m hm => by rw [(List.mem_replicate.1 hm).2]; exact hzs
  rw [List.length_replicate] at hfl
  have hwr : IntKind.i64.wrap (n : Int) = n := wrap_len (by have : maxLen = 9223372036854775807 := rfl; omega)
  have hnb : n * i.bytes ≤ 140737488355328 := Nat.le_trans (Nat.mul_le_mul_right _ hn) hbi
  have hnb' : ¬ ((i.bytes : Int) * (n : Int) > 2 ^ 48) := by
    have : (i.bytes : Int) * (n : Int) = ((n * i.bytes : Nat) : Int) := by rw [Int.natCast_mul, Int.mul_comm]
    omega
  have hp := R.push (.arr false k (List.replicate n z)) (flat (List.replicate n zv)).toArray e0 n (fun _ _ h => by cases h) (fun z1 k1 es1 h => by
    injection h with h1 h2 h3
    subst h1 h2 h3
    refine ⟨rfl, List.replicate n zv, by rw [List.size_toArray, hfl], by simp, by omega, rels_rep (rel_closed (fun _ _ _ e => e) false _ _ r) n, wide_rep hw n, ?_⟩
    rw [List.length_replicate, ← hfl, List.take_length])
  refine ⟨_, _, .slice (some ⟨w.heap.size, 0, none⟩) n n, ?_, hp.1, hp.2, ?_⟩
  · have harr : ((Array.range (n * k)).map fun j => (if n * k = 0 then (#[] : Array Value) else zv.cells)[j % (if n * k = 0 then (#[] : Array Value) else zv.cells).size]!) = (flat (List.replicate n zv)).toArray := by
      apply Array.ext'
      rw [hf]
    have hge : ¬ ((n : Int) < 0) := by omega
    have hle : ¬ (281474976710656 < (i.bytes : Int) * (n : Int)) := by
      have e2 : (2 : Int) ^ 48 = 281474976710656 := by decide
      rw [e2] at hnb'
      exact hnb'
    by_cases h0 : n * k = 0
    · have hnil : flat (List.replicate n zv) = [] := List.eq_nil_of_length_eq_zero (by rw [hfl, h0])
      simp [hge, hle, hnil, Instr.makeSlice, run_underlying hu, asInt, asIntOf, typeInfo, hi, hwr, hnb', sizeOf, hs, h0, newRow]
      congr 2
      apply Array.eq_empty_of_size_eq_zero
      simp
    · simp only [if_neg h0] at harr
      simp [hge, hle, Instr.makeSlice, run_underlying hu, asInt, asIntOf, typeInfo, hi, hwr, hnb', sizeOf, hs, h0, newRow, zeroValue, hzv, harr]
  · simp only [rel]
    refine ⟨trivial, ⟨_, _, rfl⟩, by simp, fun q k2 es2 ee => ?_⟩
    rw [List.getElem?_concat_length] at ee
    injection ee with ee
    injection ee with _ _ ee
    subst ee
    exact ⟨by simp, fun _ => by simp [hdr, G.setB]⟩
theorem eff_ok (R : SR φ h g w) (S : Slots φ g h N s a) {cf : CallF} {base : Nat} {o : Oper} {x : XO} (k : chkOp P φ N o.op x = true) (hc1 : ∀ m f xs, x ≠ .call m f xs) (hc2 : ∀ m f xs, x ≠ .callv m f xs) {v : V} (e : xeff cf base s h x = some (v, h')) :
    Done P φ a o h g w v h' := by
  obtain ⟨dst, op, ty, pos, after, guard⟩ := o
  simp only at k
  unfold chkOp at k
  split at k
  all_goals first | (simp only [xeff, reduceCtorEq] at e; done) | skip
  -- a new variable
  · simp only [xeff, Option.some.injEq, Prod.mk.injEq] at e
    obtain ⟨rfl, rfl⟩ := e
    obtain ⟨g', w', h1, h2, h3, h4⟩ := alloc_ok (P := P) R k
    exact ⟨_, g', w', by simp only [execOp, Sem.run_bind, h1]; rfl, h2, h3, .inl ⟨_, rfl, h4⟩⟩
  -- with a value
  · rename_i t y rr x
    have r := opd_ok S k
    simp only [xeff] at e
    split at e
    · rename_i cs hx
      split at e
      · rename_i hc
        injection e with e
        injection e with e1 e2
        subst e1 e2
        rw [hx] at r
        simp only [rel] at r
        obtain ⟨ar, hm, r⟩ := r
        obtain ⟨g', w', h1, h2, h3, h4⟩ := box_ok (P := P) (m := .agg ar) R r hc.1 (noOwn_ok hc.2) t
        refine ⟨_, g', w', ?_, h2, h3, .inl ⟨_, rfl, h4⟩⟩
        simp only [execOp, Sem.run_bind, hm, h1]
        rfl
      · cases e
    · rename_i hna
      obtain ⟨⟨u, h1⟩, e1, e⟩ := ob_eq_some.1 e
      split at e
      · rename_i hcell
        injection e with e
        injection e with e2 e3
        subst e2 e3
        obtain ⟨g1, R1, X1, r1⟩ := keep_ok R r e1
        have hmc : (a.eval y).cells = #[a.eval y] := cells_notAgg (rel_notAgg r1 fun q hq => by subst hq; simp [V.cell] at hcell)
        obtain ⟨g', w', h1, h2, h3, h4⟩ := box_ok (P := P) (m := a.eval y) (cs := [u]) R1 (by rw [hmc]; exact rels_cons'.2 ⟨r1, rels_nil.2 rfl⟩) (by simpa [cellsOk] using hcell) (fun i x ex => by
          cases i with
          | zero => simp only [List.getElem?_cons_zero, Option.some.injEq] at ex; subst ex; exact keep_tl e1
          | succ i => simp at ex) t
        refine ⟨_, g', w', ?_, h2, X1.trans h3, .inl ⟨_, rfl, h4⟩⟩
        simp only [execOp, Sem.run_bind, h1]
        rfl
      · cases e
  -- a struct
  · rename_i t ps rr z parts
    cases rr
    · simp [xeff] at e
    · simp only [xeff] at e
      obtain ⟨⟨l, h1⟩, e1, e⟩ := ob_eq_some.1 e
      obtain ⟨cs, e2, e⟩ := ob_eq_some.1 e
      injection e with e
      injection e with e3 e4
      subst e3 e4
      have rp : rels φ g h false (evParts s parts) (ps.toList.map fun p => a.eval p.2) := by
        have k' := k
        unfold chkBuild at k'
        rw [Bool.and_eq_true] at k'
        have k2 := k'.2
        split at k2
        · split at k2
          · exact evParts_ok S k2
          · cases k2
        · split at k2
          · exact evParts_ok S k2
          · cases k2
        · cases k2
      obtain ⟨g', R', X', r'⟩ := keeps_ok R rp e1
      obtain ⟨cells, h1, h2⟩ := build_ok (a := a) k r' e2
      refine ⟨_, g', w, ?_, R', X', .inl ⟨.agg cells, rfl, by simp only [rel]; exact ⟨_, rfl, h2⟩⟩⟩
      simp only [execOp, Sem.run_bind, h1]
      rfl
  -- a list
  · rename_i t len parts m k0 ps
    cases m
    · simp [xeff] at e
    · simp only [Bool.and_eq_true, beq_iff_eq, decide_eq_true_eq] at k
      obtain ⟨⟨⟨k1, k2⟩, k3⟩, k4⟩ := k
      obtain ⟨d, hu, hd⟩ := isUnd_ok k1
      obtain ⟨e0, rfl, hd2⟩ := dSlice_ok hd
      simp only [Bool.and_eq_true] at hd2
      simp only [xeff] at e
      obtain ⟨⟨l, h1⟩, e1, e⟩ := ob_eq_some.1 e
      split at e
      · rename_i hwd
        injection e with e
        injection e with e3 e4
        subst e3 e4
        obtain ⟨r1, r2⟩ := chkKeys_ok S k4
        obtain ⟨g', R', X', r⟩ := keeps_ok R r1 e1
        have hl := rels_length r
        have hlen : l.length = len := by rw [keeps_length e1, evs_length, k2]
        have hsz := wide_sizes hwd r
        have hf := flat_length hsz
        have hmax : len ≤ maxLen := Nat.le_trans k3.2 (by decide)
        have hrun := run_buildSlice (P := P) hu hd2.1 hd2.2 (ps := parts.map fun (i, x) => (i, a.eval x)) (ms := parts.toList.map fun p => a.eval p.2) (len := len) (by simpa using r2) (by omega) hsz k3.1 w
        have hp := R'.push (.arr false k0 l) (flat (parts.toList.map fun p => a.eval p.2)).toArray e0 len (fun _ _ h => by cases h) (fun z1 k1 es1 h => by
          injection h with h1 h2 h3
          subst h1 h2 h3
          refine ⟨rfl, _, ?_, by omega, hmax, r, hwd, ?_⟩
          · rw [List.size_toArray, hf, ← hl, hlen]
          · rw [hl, ← hf, List.take_length])
        refine ⟨_, _, _, ?_, hp.1, X'.trans hp.2, .inl ⟨.slice (some ⟨w.heap.size, 0, none⟩) len len, rfl, ?_⟩⟩
        · simp only [execOp, Sem.run_bind, hrun]
          rfl
        · simp only [rel]
          refine ⟨trivial, ⟨_, _, by rw [hlen]⟩, by simp, fun q k2 es2 ee => ?_⟩
          rw [List.getElem?_concat_length] at ee
          injection ee with ee
          injection ee with _ _ ee
          subst ee
          exact ⟨Nat.le_refl _, fun _ => by simp [hdr, G.setB, hlen]⟩
      · cases e
  -- a store
  · rename_i t y u n x v'
    simp only [Bool.and_eq_true] at k
    simp only [xeff] at e
    obtain ⟨h1, e1, e⟩ := ob_eq_some.1 e
    injection e with e
    injection e with e2 e3
    subst e2 e3
    obtain ⟨g', w', h2, h3, h4⟩ := store_ok (P := P) R k.1.1 (opd_ok S k.1.2) (opd_ok S k.2) e1
    exact ⟨_, g', w', by simp only [execOp, Sem.run_bind, h2]; rfl, h3, h4, .inr ⟨rfl, rfl⟩⟩
  -- a function
  · rename_i id A B rr f A' B'
    cases rr
    · simp [xeff] at e
    · simp only [Bool.and_eq_true, beq_iff_eq] at k
      simp only [xeff] at e
      obtain ⟨⟨l, h1⟩, e1, e⟩ := ob_eq_some.1 e
      obtain ⟨⟨l2, h2⟩, e2, e⟩ := ob_eq_some.1 e
      injection e with e
      injection e with e3 e4
      subst e3 e4
      obtain ⟨g1, R1, X1, r1⟩ := keeps_ok R (opds_ok S k.1.2) e1
      obtain ⟨g2, R2, X2, r2⟩ := keeps_ok R1 (rels_later X1.later _ _ _ (opds_ok S k.2)) e2
      refine ⟨_, g2, w, by simp [execOp, Instr.makeFunc], R2, X1.trans X2, .inl ⟨.func (.func id) (A.map a.eval) (B.map a.eval), rfl, ?_⟩⟩
      simp only [rel]
      refine ⟨id, _, _, k.1.1, rfl, ?_, ?_⟩
      · rw [Array.toList_map]; exact rels_later X2.later _ _ _ r1
      · rw [Array.toList_map]; exact r2
  -- an array as a list
  · rename_i t y n x
    simp only [Bool.and_eq_true] at k
    obtain ⟨d, hu, hd⟩ := isUnd_ok k.1
    obtain ⟨n', e0, rfl, hd2⟩ := dArr_ok hd
    simp only [Bool.and_eq_true, beq_iff_eq] at hd2
    obtain ⟨rfl, hs⟩ := hd2
    have r := opd_ok S k.2
    simp only [xeff] at e
    split at e
    · rename_i l hx
      obtain ⟨p, e1, e⟩ := ob_eq_some.1 e
      split at e
      · rename_i hc
        injection e with e
        injection e with e2 e3
        subst e2 e3
        rw [hx] at r
        simp only [rel] at r
        obtain ⟨g', mv, h1, h2, h3, h4⟩ := slArr_ok (P := P) R hu hs (boxAt_ok e1) hc.1 hc.2
        refine ⟨_, g', w, ?_, h2, h3, .inl ⟨mv, rfl, h4⟩⟩
        simp only [execOp, Sem.run_bind, r.2.1, Option.map_none, h1]
        rfl
      · cases e
    · cases e
  -- append
  · rename_i c k0 lim x y
    simp only [Bool.and_eq_true, chkFirst, beq_iff_eq] at k
    obtain ⟨k, k2⟩ := k
    split at k
    · rename_i b hc
      simp only [Bool.and_eq_true, beq_iff_eq] at k
      obtain ⟨rfl, k⟩ := k
      split at k2
      · rename_i t u ht hu
        simp only [Bool.and_eq_true] at k2
        obtain ⟨k2, k3⟩ := k2
        obtain ⟨d, hut, hd⟩ := isUnd_ok k2
        obtain ⟨e0, rfl, hd2⟩ := dSlice_ok hd
        simp only [Bool.and_eq_true] at hd2
        obtain ⟨⟨hs, hz⟩, hb⟩ := hd2
        obtain ⟨d2, huu, hd3⟩ := isUnd_ok k3
        have hu' : P.underlying u = some .string ∨ ∃ e', P.underlying u = some (.slice e') := by
          simp only [Bool.or_eq_true] at hd3
          rcases hd3 with hd3 | hd3
          · rw [dStr_ok hd3] at huu; exact .inl huu
          · obtain ⟨e', rfl, _⟩ := dSlice_ok hd3; exact .inr ⟨e', huu⟩
        have r := opds_ok S k
        simp only [evs] at r
        obtain ⟨m1, l1, hl, r1, r⟩ := rels_cons.1 r
        obtain ⟨m2, l2, rfl, r2, r⟩ := rels_cons.1 r
        rw [rels_nil] at r
        subst r
        have hargs : (c.args.map a.eval) = #[m1, m2] := by
          apply Array.ext'
          rw [Array.toList_map, hl]
        unfold sizeIs at hs
        unfold hasZero at hz
        unfold bytesIs at hb
        split at hs
        · rename_i i hi
          rw [hi] at hz hb
          simp only at hz hb
          split at hz
          · rename_i zv hzv
            simp only [beq_iff_eq, Bool.and_eq_true, bne_iff_ne, ne_eq, decide_eq_true_eq] at hs hz hb
            have T : AppT P t u e0 i zv k0 := ⟨hut, hu', hi, hzv, hs, by rw [hz, hs]⟩
            simp only [xeff] at e
            have hby : lim * i.bytes ≤ 140737488355328 := by
              have h1 := hb.1.2
              rw [Nat.mul_assoc] at h1
              have : (2 : Nat) ^ 48 = 281474976710656 := by decide
              omega
            obtain ⟨mv, g', w', h1, h2, h3, h4⟩ := append_ok (P := P) (ty := ty) R T (by have := hb.2; omega) hby r1 r2 e
            refine ⟨_, g', w', ?_, h2, h3, .inl ⟨mv, rfl, h4⟩⟩
            have hat : (Builtin.append_ c.argTypes ty #[m1, m2]).run P w = (Builtin.append_ #[t, u] ty #[m1, m2]).run P w := by
              simp only [Builtin.append_, ht, hu, List.getElem?_toArray, List.getElem?_cons_zero, List.getElem?_cons_succ]
            simp only [execOp, resolve, hc, hargs, Sem.run_bind, Sem.run_pure, Result.andThen_ok, invoke, builtin, hat, h1]
          · cases hz
        · cases hs
      · cases k2
    · cases k
  · exact absurd rfl (hc1 _ _ _)
  · exact absurd rfl (hc2 _ _ _)
  -- make
  · rename_i t y u k0 z lim x v'
    simp only [Bool.and_eq_true, decide_eq_true_eq] at k
    obtain ⟨⟨⟨q1, q2⟩, q3⟩, q4⟩ := k
    obtain ⟨d, hu, hd⟩ := isUnd_ok q1
    obtain ⟨e0, rfl, hd2⟩ := dSlice_ok hd
    rw [Bool.and_eq_true] at hd2
    simp only [xeff] at e
    obtain ⟨n, e1, e⟩ := ob_eq_some.1 e
    obtain ⟨c, e2, e⟩ := ob_eq_some.1 e
    split at e
    · rename_i hc
      obtain ⟨rfl, hn, hw, _⟩ := hc
      injection e with e
      injection e with e3 e4
      subst e3 e4
      obtain ⟨j1, m1⟩ := asNat_ok (opd_ok S q3) e1
      obtain ⟨j2, m2⟩ := asNat_ok (opd_ok S q4) e2
      obtain ⟨g', w', mv, h1, h2, h3, h4⟩ := mkslice_ok (P := P) R hu hd2.1 hd2.2 q2 hn hw (k1 := j1) (k2 := j2)
      refine ⟨_, g', w', ?_, h2, h3, .inl ⟨mv, rfl, h4⟩⟩
      simp only [execOp, m1, m2, Sem.run_bind, h1]
      rfl
    · cases e
  · simp [xeff, Opd.ev] at e
  · cases k
end
end Go.Proofs.Sl

namespace Go.Proofs.Sl
section
variable {P : Program} {φ : Nat → Option FuncId} {h h' : H} {g g' : G} {w w' : World} {N : Nat} {s : Sl} {a : Act}

/-! ### What a call hands back -/
def RetOk (φ : Nat → Option FuncId) (n : Nat) (h : H) (g : G) (w : World) (v : V) (mv : Value) : Prop := match v with
  | .own k es => ∃ b c, n ≤ b ∧ Fresh φ h g w k es mv b c
  | v => rel φ g h false v mv

/-- The functions of the table are what 'cf' says. -/
def FOk (P : Program) (φ : Nat → Option FuncId) (cf : CallF) : Prop := ∀ f id args h v h', φ f = some id → cf f args h = some (v, h') → ∀ g w ms, SR φ h g w → rels φ g h false args ms →
  Calls P id ms.toArray w fun e w' => ∃ mv g', e = .returned mv ∧ SR φ h' g' w' ∧ Ext h g w h' g' w' ∧ RetOk φ w.heap.size h' g' w' v mv
/-- The table's functions are there. -/
def TOk (P : Program) (φ : Nat → Option FuncId) : Prop := ∀ f id, φ f = some id → ∃ fn : Func, P.funcs[id]? = some fn ∧ (fn.name == "runtime.NumGoroutine") = false ∧ fn.body.isNone = false

theorem TOk.run (T : TOk P φ) {f : Nat} {id : FuncId} (e : φ f = some id) (args : Array Value) (w : World) : (callFunc id args).run P w = .ok (.enter id args) w := by
  obtain ⟨fn, h1, h2, h3⟩ := T f id e
  simp only [callFunc, Sem.run_bind, run_program, Result.andThen_ok, h1, h2, h3, Bool.false_eq_true, if_false, Sem.run_pure]

theorem res0_ok {h0 : H} {g0 : G} {w0 : World} (R : SR φ h g w) (X : Ext h0 g0 w0 h g w) {v : V} {mv : Value} {n : Nat} (r : RetOk φ n h g w v mv) : ∃ g', SR φ h g' w ∧ Ext h0 g0 w0 h g' w ∧ rel φ g' h false (res0 v) mv := by
  by_cases hv : ∃ k es, v = .own k es
  · obtain ⟨k, es, rfl⟩ := hv
    obtain ⟨b, c, hb, F⟩ := r
    obtain ⟨g', S', L', hgb, r'⟩ := R.protect F
    exact ⟨g', S', X.later' L' (fun key hk => .inl ⟨hk, by rw [hgb]⟩) (fun l z k es e => .inl ⟨e, by rw [hgb]⟩), rel_closed (fun _ _ _ e => e) false _ _ r'⟩
  · have h1 : res0 v = v := by cases v <;> first | rfl | exact absurd ⟨_, _, rfl⟩ hv
    have h2 : rel φ g h false v mv := by cases v <;> first | exact r | exact absurd ⟨_, _, rfl⟩ hv
    rw [h1]
    exact ⟨g, R, X, h2⟩

theorem resM_ok {h0 : H} {g0 : G} {w0 : World} (R : SR φ h g w) (X : Ext h0 g0 w0 h g w) {v v2 : V} {mv : Value} {n : Nat} (hn : w0.heap.size ≤ n) (r : RetOk φ n h g w v mv) (e : resM h v = some (v2, h')) : ∃ g', SR φ h' g' w ∧ Ext h0 g0 w0 h' g' w ∧ rel φ g' h' false v2 mv := by
  unfold resM at e
  split at e
  · rename_i k es
    injection e with e
    injection e with e1 e2
    subst e1 e2
    obtain ⟨b, c, hb, F⟩ := r
    obtain ⟨S', L', r'⟩ := R.adopt F
    have hgo : ∀ key, key ≠ .obj h.length → (g.setB (.obj h.length) b c).b key = g.b key := fun key hk => by simp [G.setB, hk]
    refine ⟨_, S', X.later' L' (fun key hk => ?_) (fun l z k1 es1 e => ?_), r'⟩
    · rcases live_snoc hk with h1 | h1 | ⟨q, z, cs, x, n, _, h2, _⟩
      · refine .inl ⟨h1, hgo key ?_⟩
        rintro rfl
        exact absurd (live_lt h1) (Nat.lt_irrefl _)
      · subst h1
        right
        simp only [G.setB, if_true]
        omega
      · cases h2
    · rcases getElem?_snoc e with ⟨h1, h2⟩ | ⟨h1, h2⟩
      · exact .inl ⟨h2, hgo _ (by simp; omega)⟩
      · subst h1
        right
        simp only [G.setB, if_true]
        omega
  · injection e with e
    injection e with e1 e2
    subst e1 e2
    exact ⟨g, R, X, r⟩
  · injection e with e
    injection e with e1 e2
    subst e1 e2
    exact ⟨g, R, X, r⟩
  · cases e

/-! ### The state of a function on its way -/
def SO (φ : Nat → Option FuncId) (N : Nat) (h0 : H) (g0 : G) (w0 : World) (st : St) (a : Act) (w : World) : Prop := ∃ g, SR φ st.h g w ∧ Ext h0 g0 w0 st.h g w ∧ Slots φ g st.h N st.s a

theorem arg0_ok {v v' : V} {m : Value} (r : rel φ g h false v m) (e : arg0 v = some v') : rel φ g h false v' m := by
  unfold arg0 at e
  split at e <;> first | (cases e; done) | skip
  · injection e with e
    subst e
    simp only [rel] at r ⊢
    exact .inl r.2.1
  · injection e with e
    subst e
    exact r
theorem arg0s_ok : ∀ {l l' : List V} {ms : List Value}, rels φ g h false l ms → arg0s l = some l' → rels φ g h false l' ms
  | [], l', ms, r, e => by
    simp only [arg0s, Option.some.injEq] at e
    subst e
    exact r
  | v :: l, l', ms, r, e => by
    simp only [arg0s] at e
    obtain ⟨v', e1, e⟩ := ob_eq_some.1 e
    obtain ⟨l2, e2, e⟩ := ob_eq_some.1 e
    injection e with e
    subst e
    obtain ⟨m, s, rfl, r1, r2⟩ := rels_cons.1 r
    exact rels_cons'.2 ⟨arg0_ok r1 e1, arg0s_ok r2 e2⟩

variable {h0 : H} {g0 : G} {w0 : World}

theorem xcall_ok (T : TOk P φ) {cf : CallF} (F : FOk P φ cf) (R : SR φ h g w) (X : Ext h0 g0 w0 h g w) {m : Bool} {f : Nat} {id : FuncId} {args : List V} {v : V} {ms : List Value} (hf : φ f = some id) (r : rels φ g h false args ms) (e : xcall cf h m f args = some (v, h')) :
    Calls P id ms.toArray w fun e w' => ∃ mv g', e = .returned mv ∧ SR φ h' g' w' ∧ Ext h0 g0 w0 h' g' w' ∧ (Later g h g' h') ∧ rel φ g' h' false v mv := by
  unfold xcall at e
  obtain ⟨args', e1, e⟩ := ob_eq_some.1 e
  obtain ⟨⟨u, h1⟩, e2, e⟩ := ob_eq_some.1 e
  refine Calls.mono (F f id args' h u h1 hf e2 g w ms R (arg0s_ok r e1)) ?_
  rintro ee w' ⟨mv, g', rfl, R', X', r'⟩
  have go : ∀ g2, SR φ h' g2 w' ∧ Ext h g w h' g2 w' ∧ rel φ g2 h' false v mv → ∃ mv' g', Ending.returned mv = .returned mv' ∧ SR φ h' g' w' ∧ Ext h0 g0 w0 h' g' w' ∧ Later g h g' h' ∧ rel φ g' h' false v mv' := by
    rintro g2 ⟨k1, k2, k3⟩
    exact ⟨mv, g2, rfl, k1, X.trans k2, k2.later, k3⟩
  split at e
  · obtain ⟨g2, k1, k2, k3⟩ := resM_ok R' X' (Nat.le_refl _) r' e
    exact go g2 ⟨k1, k2, k3⟩
  · injection e with e
    injection e with e3 e4
    subst e3 e4
    obtain ⟨g2, k1, k2, k3⟩ := res0_ok R' X' r'
    exact go g2 ⟨k1, k2, k3⟩

/-- What is said of an operation that runs. -/
theorem xop_ok (T : TOk P φ) {cf : CallF} (F : FOk P φ cf) {base : Nat} (R : SR φ h g w) (X : Ext h0 g0 w0 h g w) (S : Slots φ g h N s a) {o : Oper} {x : XO} (k : chkOp P φ N o.op x = true) (hd : ∀ t, o.dst = some t → t < N) {v : V}
    (e : xop cf base s h x = some (v, h')) {K : Act → World → Prop} {Q : Exit → Act → World → Prop} (hK : ∀ a' w', SO φ N h0 g0 w0 ⟨put s o.dst v, h'⟩ a' w' → (∃ mv g', a' = a.put o.dst mv ∧ SR φ h' g' w' ∧ Ext h0 g0 w0 h' g' w' ∧ Later g h g' h' ∧ rel φ g' h' false v mv) → K a' w') : o.wp P a w K Q := by
  have pure : ∀ mv, (∀ w, (execOp a.eval o).run P w = .ok (.value mv) w) ∧ rel φ g h false v mv → h' = h → o.wp P a w K Q := by
    rintro mv ⟨h1, h2⟩ rfl
    unfold Oper.wp
    rw [h1 w, Oper.upon_value]
    exact hK _ _ ⟨g, R, X, S.put hd h2⟩ ⟨mv, g, rfl, R, X, Later.refl _ _, h2⟩
  have done : Done P φ a o h g w v h' → o.wp P a w K Q := by
    rintro ⟨nx, g', w', h1, h2, h3, h4⟩
    unfold Oper.wp
    rw [h1]
    rcases h4 with ⟨mv, rfl, h4⟩ | ⟨rfl, rfl⟩
    · rw [Oper.upon_value]
      exact hK _ _ ⟨g', h2, X.trans h3, (S.later h3.later).put hd h4⟩ ⟨mv, g', rfl, h2, X.trans h3, h3.later, h4⟩
    · rw [Oper.upon_skip]
      have hu : rel φ g' h' false V.u undef := rel_of rfl
      exact hK _ _ ⟨g', h2, X.trans h3, (S.later h3.later).put hd hu⟩ ⟨undef, g', rfl, h2, X.trans h3, h3.later, hu⟩
  have call : ∀ m f id args ms, φ f = some id → rels φ g h false args ms → xcall cf h m f args = some (v, h') → (execOp a.eval o).run P w = .ok (.enter id ms.toArray) w → o.wp P a w K Q := by
    intro m f id args ms hf r e h1
    unfold Oper.wp
    rw [h1, Oper.upon_enter]
    refine Calls.mono (xcall_ok T F R X hf r e) ?_
    rintro ee w' ⟨mv, g', rfl, h2, h3, h4, h5⟩
    exact hK _ _ ⟨g', h2, h3, (S.later h4).put hd h5⟩ ⟨mv, g', rfl, h2, h3, h4, h5⟩
  unfold xop at e
  split at e
  · obtain ⟨u, e1, e⟩ := ob_eq_some.1 e
    injection e with e
    injection e with e2 e3
    subst e2 e3
    by_cases hb : ∃ k0 ps, x = .bslice false k0 ps
    · obtain ⟨k0, ps, rfl⟩ := hb
      exact done (bs_ok R S k e1)
    · have hb2 : ∀ m k0 ps, x ≠ .bslice m k0 ps := by
        rintro m k0 ps rfl
        cases m
        · exact hb ⟨_, _, rfl⟩
        · simp [xpure] at e1
      obtain ⟨mv, h1⟩ := pure_ok S k hb2 e1
      exact pure mv h1 rfl
  · obtain ⟨u, e1, e⟩ := ob_eq_some.1 e
    injection e with e
    injection e with e2 e3
    subst e2 e3
    obtain ⟨mv, h1, h2⟩ := read_ok R S k e1
    unfold Oper.wp
    rw [h1, Oper.upon_value]
    exact hK _ _ ⟨g, R, X, S.put hd h2⟩ ⟨mv, g, rfl, R, X, Later.refl _ _, h2⟩
  · by_cases hc1 : ∃ m f xs, x = .call m f xs
    · obtain ⟨m, f, xs, rfl⟩ := hc1
      simp only [xeff] at e
      obtain ⟨dst, op, ty, pos, after, guard⟩ := o
      cases op <;> simp only [chkOp, Bool.false_eq_true] at k
      rename_i c
      rw [Bool.and_eq_true] at k
      obtain ⟨k1, k2⟩ := k
      split at k1
      · rename_i id hcal
        simp only [beq_iff_eq] at k1
        refine call m f id (evs s xs) _ k1 (opds_ok S k2) e ?_
        have hargs : c.args.map a.eval = (c.args.toList.map a.eval).toArray := by
          apply Array.ext'
          simp
        simp only [execOp, resolve, hcal, Act.eval, Deferred.ofValue, Sem.run_bind, Sem.run_pure, Result.andThen_ok, invoke, Array.empty_append, Array.append_empty, T.run k1, hargs]
      · cases k1
    · by_cases hc2 : ∃ m f xs, x = .callv m f xs
      · obtain ⟨m, f, xs, rfl⟩ := hc2
        simp only [xeff] at e
        obtain ⟨dst, op, ty, pos, after, guard⟩ := o
        cases op <;> simp only [chkOp, Bool.false_eq_true] at k
        rename_i c
        rw [Bool.and_eq_true] at k
        obtain ⟨k1, k2⟩ := k
        split at k1
        · rename_i y hcal
          have rf := opd_ok S k1
          split at e
          · rename_i f' A B hx
            rw [hx] at rf
            simp only [rel] at rf
            obtain ⟨id, MA, MB, hid, hy, rA, rB⟩ := rf
            refine call m f' id (A ++ evs s xs ++ B) (MA.toList ++ c.args.toList.map a.eval ++ MB.toList) hid (rels_append (rels_append rA (opds_ok S k2)) rB) e ?_
            have hargs : (MA ++ c.args.map a.eval) ++ MB = (MA.toList ++ c.args.toList.map a.eval ++ MB.toList).toArray := by
              apply Array.ext'
              simp
            simp only [execOp, resolve, hcal, hy, Deferred.ofValue, Sem.run_bind, Sem.run_pure, Result.andThen_ok, invoke, T.run hid, hargs]
          · cases e
        · cases k1
      · exact done (eff_ok R S k (fun m f xs e => hc1 ⟨m, f, xs, e⟩) (fun m f xs e => hc2 ⟨m, f, xs, e⟩) e)
end
end Go.Proofs.Sl

namespace Go.Proofs.Sl

/-- Objects older than this call name nothing new. -/
def HGr (base : Nat) (h h' : H) : Prop := h.length ≤ h'.length ∧ ∀ q o', q < base → h'[q]? = some o' → ∃ o, h[q]? = some o ∧ o'.top ≤ max o.top (q + 1)

section
variable {h h' h'' : H} {base : Nat}
theorem HGr.refl (base : Nat) (h : H) : HGr base h h := ⟨Nat.le_refl _, fun q o' _ e => ⟨o', e, Nat.le_max_left _ _⟩⟩
theorem HGr.trans (a : HGr base h h') (b : HGr base h' h'') : HGr base h h'' := ⟨Nat.le_trans a.1 b.1, fun q o' hq e => by
  obtain ⟨o1, e1, t1⟩ := b.2 q o' hq e
  obtain ⟨o2, e2, t2⟩ := a.2 q o1 hq e1
  exact ⟨o2, e2, by omega⟩⟩
theorem HGr.push (hb : base ≤ h.length) (o : O) : HGr base h (h ++ [o]) := ⟨by simp, fun q o' hq e => by
  rw [List.getElem?_append_left (by omega)] at e
  exact ⟨o', e, Nat.le_max_left _ _⟩⟩
theorem HGr.set {l : Nat} {o o2 : O} (e : h[l]? = some o) (ht : l < base → o2.top ≤ max o.top (l + 1)) : HGr base h (h.set l o2) := ⟨by simp, fun q o' hq e' => by
  rw [set_get] at e'
  split at e'
  · rename_i hl
    subst hl
    rw [if_pos (lt_of_get e)] at e'
    injection e' with e'
    subst e'
    exact ⟨o, e, ht hq⟩
  · exact ⟨o', e', Nat.le_max_left _ _⟩⟩

mutual
theorem closed_top : ∀ (v : V), v.closed = true → v.top = 0
  | .s _, _ => rfl
  | .agg cs, k => by simpa [V.top] using closeds_tops cs (by simpa [V.closed] using k)
  | .tup cs, k => by simpa [V.top] using closeds_tops cs (by simpa [V.closed] using k)
  | .lst .., _ => rfl
  | .lnk .., k => by simp [V.closed] at k
  | .gro .., k => by simp [V.closed] at k
  | .own .., k => by simp [V.closed] at k
  | .spent .., k => by simp [V.closed] at k
  | .ref .., k => by simp [V.closed] at k
  | .ptr .., k => by simp [V.closed] at k
  | .eptr .., k => by simp [V.closed] at k
  | .fptr .., _ => rfl
  | .fn f a b, k => by
    simp only [V.closed, Bool.and_eq_true] at k
    simp [V.top, closeds_tops a k.1, closeds_tops b k.2]
theorem closeds_tops : ∀ (l : List V), V.closed.closeds l = true → V.top.tops l = 0
  | [], _ => rfl
  | v :: l, k => by
    simp only [V.closed.closeds, Bool.and_eq_true] at k
    simp [V.top.tops, closed_top v k.1, closeds_tops l k.2]
end

theorem tops_set (o : Nat) (c : V) : ∀ (cs : List V), V.top.tops (cs.set o c) ≤ max (V.top.tops cs) c.top := by
  intro cs
  induction cs generalizing o with
  | nil => simp [V.top.tops]
  | cons x cs ih =>
    cases o with
    | zero => simp only [List.set_cons_zero, V.top.tops]; omega
    | succ o =>
      have := ih o
      simp only [List.set_cons_succ, V.top.tops]
      omega
theorem tops_append (a b : List V) : V.top.tops (a ++ b) = max (V.top.tops a) (V.top.tops b) := by
  induction a with
  | nil => simp [V.top.tops]
  | cons x a ih => simp only [List.cons_append, V.top.tops, ih]; omega

theorem frz_HG {v v' : V} (e : frz h v = some (v', h')) : HGr base h h' := by
  unfold frz at e
  split at e
  · obtain ⟨p, e1, e⟩ := ob_eq_some.1 e
    obtain ⟨ha, hn⟩ := arrN_ok e1
    split at e
    · injection e with e
      injection e with e2 e3
      subst e2 e3
      exact HGr.set ha fun _ => Nat.le_max_left _ _
    · cases e
  · obtain ⟨u, e1, e⟩ := ob_eq_some.1 e
    injection e with e
    injection e with e2 e3
    subst e3
    exact HGr.refl _ _
theorem keep_HG {r : Bool} {v v' : V} (e : keep r h v = some (v', h')) : HGr base h h' := by
  unfold keep at e
  split at e
  · exact frz_HG e
  · obtain ⟨u, e1, e⟩ := ob_eq_some.1 e
    injection e with e
    injection e with e2 e3
    subst e3
    exact HGr.refl _ _
theorem keeps_HG {r : Bool} : ∀ {l l' : List V} {h h' : H}, keeps r h l = some (l', h') → HGr base h h'
  | [], l', h, h', e => by
    simp only [keeps, Option.some.injEq, Prod.mk.injEq] at e
    obtain ⟨_, rfl⟩ := e
    exact HGr.refl _ _
  | v :: l, l', h, h', e => by
    simp only [keeps] at e
    obtain ⟨⟨v', h1⟩, e1, e⟩ := ob_eq_some.1 e
    obtain ⟨⟨l2, h2⟩, e2, e⟩ := ob_eq_some.1 e
    injection e with e
    injection e with e3 e4
    subst e4
    exact (keep_HG e1).trans (keeps_HG e2)

theorem stCell_HG {base l o : Nat} {old new c : V} (hbx : ∃ z cs0, h[l]? = some (.box z cs0)) (e : stCell base l o old new h = some (c, h')) : HGr base h h' ∧ (l < base → c.top ≤ l + 1) ∧ h'[l]? = h[l]? := by
  unfold stCell at e
  split at e
  · split at e
    · split at e
      · injection e with e
        injection e with e1 e2
        subst e1 e2
        exact ⟨HGr.refl _ _, fun _ => Nat.zero_le _, rfl⟩
      · cases e
    · cases e
  · split at e
    · split at e
      · injection e with e
        injection e with e1 e2
        subst e1 e2
        exact ⟨HGr.refl _ _, fun _ => Nat.zero_le _, rfl⟩
      · cases e
    · cases e
  · split at e <;> first | (cases e; done) | skip
    · injection e with e
      injection e with e1 e2
      subst e1 e2
      exact ⟨HGr.refl _ _, fun _ => Nat.zero_le _, rfl⟩
    · rename_i l' n
      obtain ⟨p, e1, e⟩ := ob_eq_some.1 e
      obtain ⟨ha, hn⟩ := arrN_ok e1
      split at e
      · injection e with e
        injection e with e1 e2
        subst e1 e2
        exact ⟨HGr.refl _ _, fun _ => Nat.zero_le _, rfl⟩
      · split at e
        · injection e with e
          injection e with e1 e2
          subst e1 e2
          refine ⟨HGr.set ha fun _ => Nat.zero_le _, fun _ => Nat.zero_le _, set_get_ne ?_⟩
          rintro rfl
          obtain ⟨z, cs0, hbx⟩ := hbx
          rw [hbx] at ha
          cases ha
        · cases e
    · split at e
      · rename_i hc
        injection e with e
        injection e with e1 e2
        subst e1 e2
        refine ⟨HGr.refl _ _, fun hl => ?_, rfl⟩
        rcases hc with hc | hc
        · omega
        · exact hc
      · cases e
theorem stCells_HG {base l : Nat} : ∀ (ns : List V) (o : Nat) (h h' : H) (cs cs' : List V), (∃ z cs0, h[l]? = some (.box z cs0)) → stCells base l o ns h cs = some (cs', h') →
    HGr base h h' ∧ h'[l]? = h[l]? ∧ (l < base → V.top.tops cs' ≤ max (V.top.tops cs) (l + 1))
  | [], o, h, h', cs, cs', hbx, e => by
    simp only [stCells, Option.some.injEq, Prod.mk.injEq] at e
    obtain ⟨rfl, rfl⟩ := e
    exact ⟨HGr.refl _ _, rfl, fun _ => Nat.le_max_left _ _⟩
  | n :: ns, o, h, h', cs, cs', hbx, e => by
    simp only [stCells] at e
    obtain ⟨old, e1, e⟩ := ob_eq_some.1 e
    obtain ⟨⟨c, h2⟩, e2, e⟩ := ob_eq_some.1 e
    obtain ⟨k1, k2, k3⟩ := stCell_HG hbx e2
    obtain ⟨k4, k5, k6⟩ := stCells_HG ns (o + 1) h2 h' (cs.set o c) cs' (by rw [k3]; exact hbx) e
    refine ⟨k1.trans k4, k5.trans k3, fun hl => ?_⟩
    have := k6 hl
    have := tops_set o c cs
    have := k2 hl
    omega

theorem xstore_HG {n : Nat} {x v : V} (e : xstore base h n x v = some h') : HGr base h h' := by
  unfold xstore at e
  split at e
  · split at e
    · rename_i l o
      obtain ⟨p, e1, e⟩ := ob_eq_some.1 e
      have hb := boxAt_ok e1
      split at e
      · cases e
      · obtain ⟨q, e2, e⟩ := ob_eq_some.1 e
        injection e with e
        subst e
        obtain ⟨k1, k2, k3⟩ := stCells_HG _ _ _ _ _ _ ⟨_, _, hb⟩ e2
        rw [hb] at k2
        refine k1.trans (HGr.set k2 fun hl => ?_)
        simp only [O.top]
        exact k3 hl
    · rename_i l m i j
      obtain ⟨p, e1, e⟩ := ob_eq_some.1 e
      obtain ⟨ha, hm⟩ := arrN_ok e1
      split at e
      · cases e
      · obtain ⟨el, e2, e⟩ := ob_eq_some.1 e
        obtain ⟨cs, e3, e⟩ := ob_eq_some.1 e
        split at e
        · rename_i hc
          injection e with e
          subst e
          refine HGr.set ha fun hl => ?_
          simp only [O.top]
          have h1 := tops_set i (putEl j cs el) p.2.2
          have h2 : (putEl j cs el).top ≤ V.top.tops p.2.2 := by
            have hel : el.top ≤ V.top.tops p.2.2 := by
              have : ∀ (l : List V) (i : Nat) (x : V), l[i]? = some x → x.top ≤ V.top.tops l := by
                intro l
                induction l with
                | nil => intro i x e; simp at e
                | cons y l ih =>
                  intro i x e
                  cases i with
                  | zero => simp only [List.getElem?_cons_zero, Option.some.injEq] at e; subst e; simp only [V.top.tops]; omega
                  | succ i =>
                    have := ih i x (by simpa using e)
                    simp only [V.top.tops]
                    omega
              exact this _ _ _ e2
            have hcs := closeds_tops cs hc.2.1
            have hpr : ∀ (cs : List V) (j : Nat) (c : List V), V.top.tops (putRow j cs c) ≤ max (V.top.tops c) (V.top.tops cs) := by
              intro cs
              induction cs with
              | nil => intro j c; simp only [putRow]; omega
              | cons n ns ih =>
                intro j c
                have h1 := ih (j + 1) (c.set j n)
                have h2 := tops_set j n c
                simp only [putRow, V.top.tops]
                omega
            have hh : ∀ v : V, (cs.headD v).top ≤ max v.top (V.top.tops cs) := by
              intro v
              cases cs with
              | nil => simp [V.top.tops]
              | cons x cs => simp only [List.headD_cons, V.top.tops]; omega
            by_cases hagg : ∃ c, el = .agg c
            · obtain ⟨c, rfl⟩ := hagg
              have h4 := hpr cs j c
              simp only [putEl, V.top] at hel ⊢
              omega
            · have hpe : putEl j cs el = cs.headD el := by cases el <;> first | rfl | exact absurd ⟨_, rfl⟩ hagg
              rw [hpe]
              refine Nat.le_trans (hh _) ?_
              omega
          omega
        · cases e
    · cases e
  · cases e

theorem xappend_HG (hb : base ≤ h.length) {k lim : Nat} {x y v : V} (e : xappend h k lim x y = some (v, h')) : HGr base h h' := by
  unfold xappend at e
  obtain ⟨ys, ey, e⟩ := ob_eq_some.1 e
  split at e
  · rename_i hc
    have hys := closeds_tops ys hc.2
    split at e
    · split at e
      · injection e with e
        injection e with e1 e2
        subst e2
        exact HGr.refl _ _
      · split at e
        · injection e with e
          injection e with e1 e2
          subst e2
          exact HGr.push hb _
        · cases e
    · obtain ⟨p, e1, e2⟩ := ob_eq_some.1 e
      obtain ⟨ha, hn⟩ := arrN_ok e1
      split at e2
      · injection e2 with e2
        injection e2 with e3 e4
        subst e4
        refine HGr.set ha fun _ => ?_
        simp only [O.top, tops_append, hys]
        omega
      · cases e2
    · obtain ⟨p, e1, e2⟩ := ob_eq_some.1 e
      obtain ⟨c, e3, e4⟩ := ob_eq_some.1 e2
      split at e4
      · split at e4
        · split at e4
          · injection e4 with e4
            injection e4 with e5 e6
            subst e6
            exact HGr.refl _ _
          · injection e4 with e4
            injection e4 with e5 e6
            subst e6
            refine HGr.set (boxAt_ok e1) fun _ => ?_
            simp only [O.top]
            refine Nat.le_trans (tops_set _ _ _) ?_
            simp only [V.top]
            omega
        · cases e4
      · cases e4
    · cases e
  · cases e

/-- The functions keep to it. -/
def CfHG (cf : CallF) : Prop := ∀ f args h v h', cf f args h = some (v, h') → ∀ base, base ≤ h.length → HGr base h h'

theorem xcall_HG {cf : CallF} (F : CfHG cf) (hb : base ≤ h.length) {m : Bool} {f : Nat} {args : List V} {v : V} (e : xcall cf h m f args = some (v, h')) : HGr base h h' := by
  unfold xcall at e
  obtain ⟨args', e1, e⟩ := ob_eq_some.1 e
  obtain ⟨⟨u, h1⟩, e2, e⟩ := ob_eq_some.1 e
  have k1 := F f args' h u h1 e2 base hb
  split at e
  · unfold resM at e
    split at e
    · injection e with e
      injection e with e3 e4
      subst e4
      exact k1.trans (HGr.push (Nat.le_trans hb k1.1) _)
    · injection e with e
      injection e with e3 e4
      subst e4
      exact k1
    · injection e with e
      injection e with e3 e4
      subst e4
      exact k1
    · cases e
  · injection e with e
    injection e with e3 e4
    subst e4
    exact k1

theorem xop_HG {cf : CallF} (F : CfHG cf) (hb : base ≤ h.length) {s : Sl} {o : XO} {v : V} (e : xop cf base s h o = some (v, h')) : HGr base h h' := by
  unfold xop at e
  split at e
  · obtain ⟨u, e1, e⟩ := ob_eq_some.1 e
    injection e with e
    injection e with e2 e3
    subst e3
    exact HGr.refl _ _
  · obtain ⟨u, e1, e⟩ := ob_eq_some.1 e
    injection e with e
    injection e with e2 e3
    subst e3
    exact HGr.refl _ _
  · unfold xeff at e
    split at e
    · injection e with e
      injection e with e2 e3
      subst e3
      exact HGr.push hb _
    · split at e
      · split at e
        · injection e with e
          injection e with e2 e3
          subst e3
          exact HGr.push hb _
        · cases e
      · obtain ⟨⟨u, h1⟩, e1, e⟩ := ob_eq_some.1 e
        split at e
        · injection e with e
          injection e with e2 e3
          subst e3
          exact (keep_HG e1).trans (HGr.push (Nat.le_trans hb (keep_HG (base := base) e1).1) _)
        · cases e
    · obtain ⟨⟨u, h1⟩, e1, e⟩ := ob_eq_some.1 e
      obtain ⟨cs, e2, e⟩ := ob_eq_some.1 e
      injection e with e
      injection e with e2 e3
      subst e3
      exact keeps_HG e1
    · obtain ⟨⟨u, h1⟩, e1, e⟩ := ob_eq_some.1 e
      split at e
      · injection e with e
        injection e with e2 e3
        subst e3
        exact (keeps_HG e1).trans (HGr.push (Nat.le_trans hb (keeps_HG (base := base) e1).1) _)
      · cases e
    · obtain ⟨⟨u, h1⟩, e1, e⟩ := ob_eq_some.1 e
      obtain ⟨⟨u2, h2⟩, e2, e⟩ := ob_eq_some.1 e
      injection e with e
      injection e with e3 e4
      subst e4
      exact (keeps_HG e1).trans (keeps_HG e2)
    · obtain ⟨h1, e1, e⟩ := ob_eq_some.1 e
      injection e with e
      injection e with e3 e4
      subst e4
      exact xstore_HG e1
    · obtain ⟨n1, e1, e⟩ := ob_eq_some.1 e
      obtain ⟨n2, e2, e⟩ := ob_eq_some.1 e
      split at e
      · injection e with e
        injection e with e3 e4
        subst e4
        exact HGr.push hb _
      · cases e
    · split at e
      · obtain ⟨p, e1, e⟩ := ob_eq_some.1 e
        split at e
        · injection e with e
          injection e with e3 e4
          subst e4
          exact HGr.set (boxAt_ok e1) fun _ => Nat.le_max_left _ _
        · cases e
      · cases e
    · exact xappend_HG hb e
    · exact xcall_HG F hb e
    · split at e
      · exact xcall_HG F hb e
      · cases e
    · cases e

theorem xstep_HG {cf : CallF} (F : CfHG cf) {o : XOp} {st st' : St} (hb : base ≤ st.h.length) (e : xstep cf base o st = some st') : HGr base st.h st'.h := by
  unfold xstep at e
  obtain ⟨wt, e1, e⟩ := ob_eq_some.1 e
  split at e
  · obtain ⟨p, e2, e⟩ := ob_eq_some.1 e
    injection e with e
    subst e
    exact xop_HG F hb (v := p.1) (h' := p.2) e2
  · injection e with e
    subst e
    exact HGr.refl _ _
theorem xops_HG {cf : CallF} (F : CfHG cf) : ∀ (ops : List XOp) {st st' : St}, base ≤ st.h.length → xops cf base ops st = some st' → HGr base st.h st'.h
  | [], st, st', hb, e => by
    simp only [xops, Option.some.injEq] at e
    subst e
    exact HGr.refl _ _
  | o :: r, st, st', hb, e => by
    simp only [xops] at e
    obtain ⟨s1, e1, e⟩ := ob_eq_some.1 e
    have k1 := xstep_HG F hb e1
    exact k1.trans (xops_HG F r (Nat.le_trans hb k1.1) e)
theorem xtrace_xops {cf : CallF} : ∀ (ops : List XOp) {st : St} {tr : List St}, xtrace cf base ops st = some tr → ∃ st', lastSt tr = some st' ∧ xops cf base ops st = some st' ∧ tr.length = ops.length + 1 ∧ tr[0]? = some st
  | [], st, tr, e => by
    simp only [xtrace, Option.some.injEq] at e
    subst e
    exact ⟨st, rfl, rfl, rfl, rfl⟩
  | o :: r, st, tr, e => by
    simp only [xtrace] at e
    obtain ⟨s1, e1, e⟩ := ob_eq_some.1 e
    obtain ⟨l, e2, e⟩ := ob_eq_some.1 e
    injection e with e
    subst e
    obtain ⟨st', h1, h2, h3, h4⟩ := xtrace_xops r e2
    refine ⟨st', ?_, ?_, by simp [h3], rfl⟩
    · cases l with
      | nil => simp at h3
      | cons y l => exact h1
    · simp only [xops, e1, ob_some, h2]
theorem xregion_xops {cf : CallF} {ops : List XOp} {d : Option (List (Nat × Option Nat))} {st st' : St} (e : xregion cf base ops d st = some st') : xops cf base ops st = some st' := by
  unfold xregion at e
  split at e
  · exact e
  · obtain ⟨tr, e1, e⟩ := ob_eq_some.1 e
    split at e
    · obtain ⟨s1, h1, h2, _⟩ := xtrace_xops ops e1
      rw [h1] at e
      injection e with e
      subst e
      exact h2
    · cases e

theorem loopN_HG (b : Body) (hb : ∀ st r, base ≤ st.h.length → b st = some r → HGr base st.h r.2.h) : ∀ (n : Nat) {st : St} {r : Ex × St}, base ≤ st.h.length → loopN n b st = some r → HGr base st.h r.2.h
  | 0, st, r, _, e => by cases e
  | n + 1, st, r, h0, e => by
    simp only [loopN] at e
    obtain ⟨r1, e1, e⟩ := ob_eq_some.1 e
    have k1 := hb st r1 h0 e1
    unfold thenC at e
    split at e
    · exact k1.trans (loopN_HG b hb n (Nat.le_trans h0 k1.1) e)
    · injection e with e
      subst e
      exact k1

theorem xcode_HG {cf : CallF} (F : CfHG cf) (n : Nat) : ∀ (c : XC) {st : St} {r : Ex × St}, base ≤ st.h.length → xcode cf (loopN n) base c st = some r → HGr base st.h r.2.h
  | .skip, st, r, _, e => by
    simp only [xcode, Option.some.injEq] at e
    subst e
    exact HGr.refl _ _
  | .region ops d, st, r, hb, e => by
    simp only [xcode] at e
    obtain ⟨s1, e1, e⟩ := ob_eq_some.1 e
    injection e with e
    subst e
    exact xops_HG F ops hb (xregion_xops e1)
  | .seq a b, st, r, hb, e => by
    simp only [xcode] at e
    obtain ⟨r1, e1, e⟩ := ob_eq_some.1 e
    have k1 := xcode_HG F n a hb e1
    unfold thenC at e
    split at e
    · exact k1.trans (xcode_HG F n b (Nat.le_trans hb k1.1) e)
    · injection e with e
      subst e
      exact k1
  | .cond c a b, st, r, hb, e => by
    simp only [xcode] at e
    split at e
    · split at e
      · exact xcode_HG F n a hb e
      · exact xcode_HG F n b hb e
    · cases e
  | .block i b, st, r, hb, e => by
    simp only [xcode] at e
    obtain ⟨r1, e1, e⟩ := ob_eq_some.1 e
    have k1 := xcode_HG F n b hb e1
    injection e with e
    subst e
    unfold outOf
    split
    · split <;> exact k1
    · exact k1
  | .loop b, st, r, hb, e => by
    simp only [xcode] at e
    exact loopN_HG _ (fun st r h0 e => xcode_HG F n b h0 e) n hb e
  | .exit i, st, r, _, e => by
    simp only [xcode, Option.some.injEq] at e
    subst e
    exact HGr.refl _ _
  | .ret, st, r, _, e => by
    simp only [xcode, Option.some.injEq] at e
    subst e
    exact HGr.refl _ _

theorem xfun_HG {cf : CallF} (F : CfHG cf) (n : Nat) {X : XF} {args : List V} {v : V} (e : xfun cf (loopN n) X args h = some (v, h')) (hb : base ≤ h.length) : HGr base h h' := by
  unfold xfun at e
  split at e
  · obtain ⟨r, e1, e⟩ := ob_eq_some.1 e
    have k1 := xcode_HG (base := h.length) (st := ⟨args0 args, h⟩) F n X.body (Nat.le_refl _) e1
    have go : ∀ tail : List O, HGr base h (r.2.h.take h.length ++ tail) := by
      intro tail
      refine ⟨by have := k1.1; simp only at this; simp; omega, fun q o' hq e => ?_⟩
      rw [List.getElem?_append_left (by have := k1.1; simp only at this; simp; omega), List.getElem?_take, if_pos (by omega)] at e
      exact k1.2 q o' (by omega) e
    unfold xback at e
    split at e
    · cases e
    · obtain ⟨p, e2, e⟩ := ob_eq_some.1 e
      injection e with e
      injection e with e3 e4
      subst e4
      exact go _
  · cases e

theorem runN_HG (XP : Nat → Option XF) : ∀ n, CfHG (runN XP n)
  | 0 => fun f args h v h' e => by cases e
  | n + 1 => fun f args h v h' e base hb => by
    simp only [runN] at e
    obtain ⟨X, e1, e⟩ := ob_eq_some.1 e
    exact xfun_HG (runN_HG XP n) n e hb
end
end Go.Proofs.Sl

namespace Go.Proofs.Sl

def chkGuard (N : Nat) (ops : Array Oper) : Option (Nat × Bool) → Option (Nat × Bool) → Bool
  | none, none => true
  | some (j, b), some (t, b') => b == b' && decide (t < N) && (match (ops[j]?).bind (·.dst) with
    | some t' => t == t'
    | none => false)
  | _, _ => false
def chkDst (N : Nat) : Option Nat → Option Nat → Bool
  | none, none => true
  | some t, some t' => t == t' && decide (t < N)
  | _, _ => false
def chkX (P : Program) (φ : Nat → Option FuncId) (N : Nat) (ops : Array Oper) (o : Oper) (x : XOp) : Bool :=
  chkDst N o.dst x.dst && chkGuard N ops o.guard x.guard && chkOp P φ N o.op x.op
def chkXs (P : Program) (φ : Nat → Option FuncId) (N : Nat) (ops : Array Oper) : List Oper → List XOp → Bool
  | [], [] => true
  | o :: r, x :: l => chkX P φ N ops o x && chkXs P φ N ops r l
  | _, _ => false

section
variable {P : Program} {φ : Nat → Option FuncId} {h h' : H} {g g' : G} {w w' : World} {N : Nat} {s : Sl} {a : Act} {ops : Array Oper} {h0 : H} {g0 : G} {w0 : World} {cf : CallF} {base : Nat}

theorem chkDst_ok {d d' : Option Nat} (k : chkDst N d d' = true) : d = d' ∧ ∀ t, d = some t → t < N := by
  cases d <;> cases d' <;> simp only [chkDst, Bool.false_eq_true, Bool.and_eq_true, beq_iff_eq, decide_eq_true_eq] at k
  · exact ⟨rfl, fun t e => by cases e⟩
  · obtain ⟨rfl, k⟩ := k
    exact ⟨rfl, fun t e => by injection e with e; subst e; exact k⟩

theorem wanted_ok (S : Slots φ g h N s a) {o : Oper} {gd : Option (Nat × Bool)} (k : chkGuard N ops o.guard gd = true) {b : Bool} (e : wanted s gd = some b) : Region.wanted o (yielded ops a.tmps) = b := by
  unfold Region.wanted
  cases hg : o.guard with
  | none =>
    rw [hg] at k
    cases gd with
    | none =>
      simp only [wanted, Option.some.injEq] at e
      exact e
    | some _ => simp [chkGuard] at k
  | some p =>
    obtain ⟨j, b0⟩ := p
    rw [hg] at k
    cases gd with
    | none => simp [chkGuard] at k
    | some q =>
      obtain ⟨t, b1⟩ := q
      simp only [chkGuard, Bool.and_eq_true, beq_iff_eq, decide_eq_true_eq] at k
      obtain ⟨⟨rfl, ht⟩, k⟩ := k
      split at k
      · rename_i t' hd
        simp only [beq_iff_eq] at k
        subst k
        have hr := S.rel t ht
        have htm : a.tmps[t]? = some (a.tmps.getD t undef) := by
          rw [Array.getD_eq_getD_getElem?, Array.getElem?_eq_getElem (by rw [S.size]; exact ht)]
          rfl
        simp only [wanted] at e
        simp only [yielded, hd, Option.bind_some, htm]
        split at e
        · rename_i c hs
          rw [hs] at hr
          rw [rel_s hr]
          injection e with e
        · rename_i c hs
          rw [hs] at hr
          rw [rel_s hr]
          injection e with e
        · cases e
      · cases k

theorem wpOp_ok (T : TOk P φ) (F : FOk P φ cf) {i : Nat} {o : Oper} {x : XOp} (ho : ops[i]? = some o) (k : chkX P φ N ops o x = true) {st st' : St} (so : SO φ N h0 g0 w0 st a w) (e : xstep cf base x st = some st') {K : Act → World → Prop} {Q : Exit → Act → World → Prop}
    (hK : ∀ a' w', SO φ N h0 g0 w0 st' a' w' → K a' w') : wpOp P ops Q i K a w := by
  obtain ⟨g, R, X, S⟩ := so
  simp only [chkX, Bool.and_eq_true] at k
  obtain ⟨⟨k1, k2⟩, k3⟩ := k
  obtain ⟨hd, hN⟩ := chkDst_ok k1
  unfold xstep at e
  obtain ⟨b, e1, e⟩ := ob_eq_some.1 e
  have hw := wanted_ok S k2 e1
  simp only [wpOp, ho, hw]
  cases b with
  | true =>
    simp only [if_true] at e ⊢
    obtain ⟨p, e2, e⟩ := ob_eq_some.1 e
    injection e with e
    subst e
    left
    refine xop_ok T F R X S k3 hN (v := p.1) (h' := p.2) e2 fun a' w' so' _ => hK a' w' ?_
    rw [← hd]
    exact so'
  | false =>
    simp only [Bool.false_eq_true, if_false] at e ⊢
    injection e with e
    subst e
    refine hK _ _ ⟨g, R, X, ?_⟩
    have := S.put (d := o.dst) hN (v := .u) (mv := undef) (rel_of rfl)
    rw [hd] at this ⊢
    exact this

theorem chkXs_get : ∀ {os : List Oper} {xs : List XOp}, chkXs P φ N ops os xs = true → os.length = xs.length ∧ ∀ (i : Nat) (o : Oper) (x : XOp), os[i]? = some o → xs[i]? = some x → chkX P φ N ops o x = true
  | [], [], _ => ⟨rfl, fun i o x e => by simp at e⟩
  | o :: os, x :: xs, k => by
    simp only [chkXs, Bool.and_eq_true] at k
    obtain ⟨h1, h2⟩ := chkXs_get k.2
    refine ⟨by simp [h1], fun i o' x' e1 e2 => ?_⟩
    cases i with
    | zero =>
      simp only [List.getElem?_cons_zero, Option.some.injEq] at e1 e2
      subst e1 e2
      exact k.1
    | succ i => exact h2 i o' x' (by simpa using e1) (by simpa using e2)
  | [], _ :: _, k => by simp [chkXs] at k
  | _ :: _, [], k => by simp [chkXs] at k

/-- In the order of the text. -/
theorem wpOps_text (T : TOk P φ) (F : FOk P φ cf) {xs : List XOp} (k : chkXs P φ N ops ops.toList xs = true) {Q : Exit → Act → World → Prop} : ∀ (m i : Nat) (st st' : St) (a : Act) (w : World), i + m = ops.size → SO φ N h0 g0 w0 st a w → xops cf base (xs.drop i) st = some st' →
    (∀ a' w', SO φ N h0 g0 w0 st' a' w' → Q .normal a' w') → wpOps P ops Q (List.range' i m) a w
  | 0, i, st, st', a, w, hm, so, e, hQ => by
    have hl := (chkXs_get k).1
    rw [List.drop_eq_nil_of_le (by rw [← hl, Array.length_toList]; omega)] at e
    simp only [xops, Option.some.injEq] at e
    subst e
    simp only [List.range'_zero, wpOps]
    exact hQ a w so
  | m + 1, i, st, st', a, w, hm, so, e, hQ => by
    obtain ⟨hl, hk⟩ := chkXs_get k
    rw [Array.length_toList] at hl
    have hi : i < xs.length := by omega
    have hio : i < ops.size := by omega
    rw [List.drop_eq_getElem_cons hi] at e
    simp only [xops] at e
    obtain ⟨s1, e1, e⟩ := ob_eq_some.1 e
    rw [List.range'_succ, wpOps_cons]
    have ho := Array.getElem?_eq_getElem hio
    exact wpOp_ok T F ho (hk i _ _ (by rw [Array.getElem?_toList]; exact ho) (List.getElem?_eq_getElem hi)) so e1 fun a' w' so' => wpOps_text T F k m (i + 1) s1 st' a' w' (by omega) so' e hQ

theorem region_text (T : TOk P φ) (F : FOk P φ cf) {xs : List XOp} (k : chkXs P φ N ops ops.toList xs = true) {Q : Exit → Act → World → Prop} {st st' : St} (so : SO φ N h0 g0 w0 st a w) (e : xops cf base xs st = some st')
    (hQ : ∀ a' w', SO φ N h0 g0 w0 st' a' w' → Q .normal a' w') (id : Nat) : (Code.region id ops false).wp P Q a w := by
  refine wp_region ?_
  rw [List.range_eq_range']
  exact wpOps_text T F k ops.size 0 st st' a w (by omega) so (by simpa using e) hQ
end
end Go.Proofs.Sl

namespace Go.Proofs.Sl

/-! ### Equality -/
mutual
theorem V.eq_eq : ∀ (a b : V), a.eq b = true → a = b
  | .s x, b, k => by cases b <;> simp only [V.eq, Bool.false_eq_true] at k; rw [valEq_eq k]
  | .agg x, b, k => by cases b <;> simp only [V.eq, Bool.false_eq_true] at k; rw [V.eqs_eq _ _ k]
  | .tup x, b, k => by cases b <;> simp only [V.eq, Bool.false_eq_true] at k; rw [V.eqs_eq _ _ k]
  | .lst n x, b, k => by
    cases b <;> simp only [V.eq, Bool.false_eq_true, Bool.and_eq_true, beq_iff_eq] at k
    rw [k.1, V.eqs_eq _ _ k.2]
  | .lnk l o n x, b, k => by
    cases b <;> simp only [V.eq, Bool.false_eq_true, Bool.and_eq_true, beq_iff_eq] at k
    rw [k.1.1.1, k.1.1.2, k.1.2, V.eqs_eq _ _ k.2]
  | .gro l o n x, b, k => by
    cases b <;> simp only [V.eq, Bool.false_eq_true, Bool.and_eq_true, beq_iff_eq] at k
    rw [k.1.1.1, k.1.1.2, k.1.2, V.eqs_eq _ _ k.2]
  | .own n x, b, k => by
    cases b <;> simp only [V.eq, Bool.false_eq_true, Bool.and_eq_true, beq_iff_eq] at k
    rw [k.1, V.eqs_eq _ _ k.2]
  | .spent n x y, b, k => by
    cases b <;> simp only [V.eq, Bool.false_eq_true, Bool.and_eq_true, beq_iff_eq] at k
    rw [k.1.1, V.eqs_eq _ _ k.1.2, V.eqs_eq _ _ k.2]
  | .ref l n, b, k => by
    cases b <;> simp only [V.eq, Bool.false_eq_true, Bool.and_eq_true, beq_iff_eq] at k
    rw [k.1, k.2]
  | .ptr l n, b, k => by
    cases b <;> simp only [V.eq, Bool.false_eq_true, Bool.and_eq_true, beq_iff_eq] at k
    rw [k.1, k.2]
  | .eptr l n i j, b, k => by
    cases b <;> simp only [V.eq, Bool.false_eq_true, Bool.and_eq_true, beq_iff_eq] at k
    rw [k.1.1.1, k.1.1.2, k.1.2, k.2]
  | .fptr v o, b, k => by
    cases b <;> simp only [V.eq, Bool.false_eq_true, Bool.and_eq_true, beq_iff_eq] at k
    rw [V.eq_eq _ _ k.1, k.2]
  | .fn f x y, b, k => by
    cases b <;> simp only [V.eq, Bool.false_eq_true, Bool.and_eq_true, beq_iff_eq] at k
    rw [k.1.1, V.eqs_eq _ _ k.1.2, V.eqs_eq _ _ k.2]
theorem V.eqs_eq : ∀ (a b : List V), V.eq.eqs a b = true → a = b
  | [], b, k => by cases b <;> simp only [V.eq.eqs, Bool.false_eq_true] at k; rfl
  | x :: a, b, k => by
    cases b <;> simp only [V.eq.eqs, Bool.false_eq_true, Bool.and_eq_true] at k
    rw [V.eq_eq _ _ k.1, V.eqs_eq _ _ k.2]
end
theorem O.eq_eq {a b : O} (k : a.eq b = true) : a = b := by
  cases a <;> cases b <;> simp only [O.eq, Bool.false_eq_true, Bool.and_eq_true, beq_iff_eq] at k
  · rw [k.1, V.eqs_eq _ _ k.2]
  · rw [k.1.1, k.1.2, V.eqs_eq _ _ k.2]
  · rfl
theorem H.eq_eq : ∀ {a b : H}, H.eq a b = true → a = b
  | [], b, k => by cases b <;> simp only [H.eq, Bool.false_eq_true] at k; rfl
  | x :: a, b, k => by
    cases b <;> simp only [H.eq, Bool.false_eq_true, Bool.and_eq_true] at k
    rw [O.eq_eq k.1, H.eq_eq k.2]

/-! ### What is looked at -/
def Opd.rd : Opd → List Nat
  | .t n => [n]
  | .c _ => []
def rds (l : List Opd) : List Nat := l.flatMap Opd.rd
def rdParts (l : List (Nat × Nat × Opd)) : List Nat := l.flatMap fun p => p.2.2.rd
def rdOpt : Option Opd → List Nat
  | some x => x.rd
  | none => []
def XO.reads : XO → List Nat
  | .cp x | .box _ x | .load _ _ x | .nilchk x | .un _ x | .conv _ x | .toStr x | .slArr _ x | .faddr x _ | .field _ _ _ x | .extract x _ | .len _ x => x.rd
  | .pick a b c => a.rd ++ (b.rd ++ c.rd)
  | .alloc _ => []
  | .build _ _ ps => rdParts ps
  | .bslice _ _ ps | .minmax _ ps | .call _ _ ps => rds ps
  | .store _ x v | .bin _ x v | .eqv _ _ x v | .mkslice _ _ _ x v | .iaddr _ x v | .iaddrA _ _ x v | .idxS x v | .idxA _ _ _ x v | .append _ _ x v => x.rd ++ v.rd
  | .mkfn _ _ a b => rds a ++ rds b
  | .slStr x lo hi | .slLst _ x lo hi => x.rd ++ (rdOpt lo ++ rdOpt hi)
  | .callv _ f xs => f.rd ++ rds xs
def XOp.reads (o : XOp) : List Nat := (match o.guard with
  | some (t, _) => [t]
  | none => []) ++ o.op.reads

section
variable {s s' : Sl} {h : H} {cf : CallF} {base : Nat}
def Agree (s s' : Sl) (l : List Nat) : Prop := ∀ t ∈ l, s t = s' t
theorem Agree.left {a b : List Nat} (k : Agree s s' (a ++ b)) : Agree s s' a := fun t ht => k t (List.mem_append_left _ ht)
theorem Agree.right {a b : List Nat} (k : Agree s s' (a ++ b)) : Agree s s' b := fun t ht => k t (List.mem_append_right _ ht)
theorem ev_agree {x : Opd} (k : Agree s s' x.rd) : x.ev s = x.ev s' := by
  cases x with
  | t n => exact k n (by simp [Opd.rd])
  | c v => rfl
theorem evs_agree : ∀ {l : List Opd}, Agree s s' (rds l) → evs s l = evs s' l
  | [], _ => rfl
  | x :: l, k => by
    simp only [rds, List.flatMap_cons] at k
    simp only [evs]
    rw [ev_agree k.left, evs_agree k.right]
theorem evParts_agree : ∀ {l : List (Nat × Nat × Opd)}, Agree s s' (rdParts l) → evParts s l = evParts s' l
  | [], _ => rfl
  | p :: l, k => by
    simp only [rdParts, List.flatMap_cons] at k
    simp only [evParts]
    rw [ev_agree k.left, evParts_agree k.right]
theorem evOpt_agree {x : Option Opd} (k : Agree s s' (rdOpt x)) : evOpt s x = evOpt s' x := by
  cases x with
  | none => rfl
  | some x => simp only [evOpt]; rw [ev_agree k]

theorem xpure_agree {o : XO} (k : Agree s s' o.reads) : xpure s o = xpure s' o := by
  cases o <;> simp only [XO.reads] at k
  case cp => simp only [xpure, ev_agree k]
  case pick => simp only [xpure, ev_agree k.left, ev_agree k.right.left, ev_agree k.right.right]
  case build r _ _ => cases r <;> simp only [xpure, evParts_agree k]
  case bslice r _ _ => cases r <;> simp only [xpure, evs_agree k]
  case nilchk => simp only [xpure, ev_agree k]
  case bin => simp only [xpure, ev_agree k.left, ev_agree k.right]
  case eqv => simp only [xpure, ev_agree k.left, ev_agree k.right]
  case un => simp only [xpure, ev_agree k]
  case conv => simp only [xpure, ev_agree k]
  case mkfn r _ _ _ => cases r <;> simp only [xpure, evs_agree k.left, evs_agree k.right]
  case slStr => simp only [xpure, ev_agree k.left, evOpt_agree k.right.left, evOpt_agree k.right.right]
  case faddr => simp only [xpure, ev_agree k]
  case idxS => simp only [xpure, ev_agree k.left, ev_agree k.right]
  case idxA => simp only [xpure, ev_agree k.left, ev_agree k.right]
  case field => simp only [xpure, ev_agree k]
  case extract => simp only [xpure, ev_agree k]
  case minmax => simp only [xpure, evs_agree k]
  all_goals rfl
theorem xread_agree {o : XO} (k : Agree s s' o.reads) : xread s h o = xread s' h o := by
  cases o <;> simp only [XO.reads] at k
  case load => simp only [xread, ev_agree k]
  case toStr => simp only [xread, ev_agree k]
  case slLst => simp only [xread, ev_agree k.left, evOpt_agree k.right.left, evOpt_agree k.right.right]
  case iaddr => simp only [xread, ev_agree k.left, ev_agree k.right]
  case iaddrA => simp only [xread, ev_agree k.left, ev_agree k.right]
  case len r _ => cases r <;> simp only [xread, ev_agree k]
  all_goals rfl
theorem xeff_agree {o : XO} (k : Agree s s' o.reads) : xeff cf base s h o = xeff cf base s' h o := by
  cases o <;> simp only [XO.reads] at k
  case box => simp only [xeff, ev_agree k]
  case build r _ _ => cases r <;> simp only [xeff, evParts_agree k]
  case bslice r _ _ => cases r <;> simp only [xeff, evs_agree k]
  case store => simp only [xeff, ev_agree k.left, ev_agree k.right]
  case mkfn r _ _ _ => cases r <;> simp only [xeff, evs_agree k.left, evs_agree k.right]
  case mkslice => simp only [xeff, ev_agree k.left, ev_agree k.right]
  case slArr => simp only [xeff, ev_agree k]
  case append => simp only [xeff, ev_agree k.left, ev_agree k.right]
  case call => simp only [xeff, evs_agree k]
  case callv => simp only [xeff, ev_agree k.left, evs_agree k.right]
  all_goals rfl
theorem wanted_agree {g : Option (Nat × Bool)} (k : Agree s s' (match g with
    | some (t, _) => [t]
    | none => [])) : wanted s g = wanted s' g := by
  cases g with
  | none => rfl
  | some p => simp only [wanted]; rw [k p.1 (by simp)]
end
end Go.Proofs.Sl

namespace Go.Proofs.Sl

/-! ### Who comes before whom -/
def depsOf (o : Oper) : List Nat := (o.after.toList.filter fun e => Region.binds .any e).map (·.on)
inductive Reach (ops : Array Oper) : Nat → Nat → Prop
  | one {i j : Nat} {o : Oper} (h : ops[i]? = some o) (k : j ∈ depsOf o) : Reach ops i j
  | more {i k j : Nat} {o : Oper} (h : ops[i]? = some o) (e : k ∈ depsOf o) (r : Reach ops k j) : Reach ops i j
def maskOf (A : List Nat) : List Nat → Nat
  | [] => 0
  | j :: r => (1 <<< j ||| A.getD j 0) ||| maskOf A r
def ancs : List (List Nat) → List Nat → List Nat
  | [], acc => acc
  | ds :: r, acc => ancs r (acc ++ [maskOf acc ds])
def chkAnc (A : List Nat) : Nat → List Oper → List Nat → Bool
  | _, [], [] => true
  | i, o :: r, m :: l => m == maskOf A (depsOf o) && (depsOf o).all (fun j => decide (j < i)) && chkAnc A (i + 1) r l
  | _, _, _ => false

theorem maskOf_bit {A : List Nat} {j : Nat} : ∀ {l : List Nat}, (maskOf A l).testBit j = true → ∃ k ∈ l, j = k ∨ (A.getD k 0).testBit j = true
  | [], e => by simp [maskOf] at e
  | k :: l, e => by
    simp only [maskOf, Nat.testBit_or, Bool.or_eq_true] at e
    rcases e with (e | e) | e
    · refine ⟨k, by simp, .inl ?_⟩
      rw [Nat.one_shiftLeft, Nat.testBit_two_pow] at e
      simpa using (of_decide_eq_true e).symm
    · exact ⟨k, by simp, .inr e⟩
    · obtain ⟨q, h1, h2⟩ := maskOf_bit e
      exact ⟨q, List.mem_cons_of_mem _ h1, h2⟩
theorem chkAnc_get {A : List Nat} : ∀ {os : List Oper} {l : List Nat} {i0 : Nat}, chkAnc A i0 os l = true → os.length = l.length ∧ ∀ (i : Nat) (o : Oper) (m : Nat), os[i]? = some o → l[i]? = some m → m = maskOf A (depsOf o) ∧ ∀ j ∈ depsOf o, j < i0 + i
  | [], [], _, _ => ⟨rfl, fun i o m e => by simp at e⟩
  | o :: os, m :: l, i0, k => by
    simp only [chkAnc, Bool.and_eq_true, beq_iff_eq, List.all_eq_true, decide_eq_true_eq] at k
    obtain ⟨h1, h2⟩ := chkAnc_get k.2
    refine ⟨by simp [h1], fun i o' m' e1 e2 => ?_⟩
    cases i with
    | zero =>
      simp only [List.getElem?_cons_zero, Option.some.injEq] at e1 e2
      subst e1 e2
      exact ⟨k.1.1, fun j hj => by have := k.1.2 j hj; omega⟩
    | succ i =>
      obtain ⟨h3, h4⟩ := h2 i o' m' (by simpa using e1) (by simpa using e2)
      exact ⟨h3, fun j hj => by have := h4 j hj; omega⟩
  | [], _ :: _, _, k => by simp [chkAnc] at k
  | _ :: _, [], _, k => by simp [chkAnc] at k
theorem anc_reach {ops : Array Oper} {A : List Nat} (k : chkAnc A 0 ops.toList A = true) : ∀ (i : Nat) (j : Nat), (A.getD i 0).testBit j = true → Reach ops i j := by
  obtain ⟨hl, hk⟩ := chkAnc_get k
  intro i
  induction i using Nat.strongRecOn with
  | _ i ih =>
    intro j e
    rw [List.getD_eq_getElem?_getD] at e
    cases hm : A[i]? with
    | none => rw [hm] at e; simp at e
    | some m =>
      rw [hm] at e
      have hi : i < ops.toList.length := by rw [hl]; exact (List.getElem?_eq_some_iff.1 hm).1
      have ho := List.getElem?_eq_getElem hi
      obtain ⟨h1, h2⟩ := hk i _ m ho hm
      rw [Array.getElem?_toList] at ho
      rw [Option.getD_some, h1] at e
      obtain ⟨q, h3, h4⟩ := maskOf_bit e
      rcases h4 with rfl | h4
      · exact .one ho h3
      · exact .more ho h3 (ih q (by have := h2 q h3; omega) j h4)

/-! ### What must be in order -/
/-- Does y write what x looks at, or what x writes? -/
def noConf (x y : XOp) : Bool := match y.dst with
  | some t => !(x.reads.contains t) && (match x.dst with
    | some u => u != t
    | none => true)
  | none => true
def hasPair (d : List (Nat × Option Nat)) (j i : Nat) : Bool := d.any fun p => p.1 == j && (match p.2 with
  | some r => r == i
  | none => true)
def chkPair (d : List (Nat × Option Nat)) (i mi : Nat) (x : XOp) (j mj : Nat) (y : XOp) : Bool :=
  i == j || mi.testBit j || mj.testBit i || (noConf x y && (y.op.cls != 2 || x.op.cls == 0 || (x.op.cls == 1 && hasPair d j i)))
def chkRow (d : List (Nat × Option Nat)) (i mi : Nat) (x : XOp) : Nat → List Nat → List XOp → Bool
  | _, [], [] => true
  | j, mj :: l, y :: r => chkPair d i mi x j mj y && chkRow d i mi x (j + 1) l r
  | _, _, _ => false
def chkPairs (d : List (Nat × Option Nat)) (A : List Nat) (xs : List XOp) : Nat → List Nat → List XOp → Bool
  | _, [], [] => true
  | i, mi :: l, x :: r => chkRow d i mi x 0 A xs && chkPairs d A xs (i + 1) l r
  | _, _, _ => false
theorem chkRow_get {d : List (Nat × Option Nat)} {i mi : Nat} {x : XOp} : ∀ {l : List Nat} {r : List XOp} {j0 : Nat}, chkRow d i mi x j0 l r = true → ∀ (j mj : Nat) (y : XOp), l[j]? = some mj → r[j]? = some y → chkPair d i mi x (j0 + j) mj y = true
  | [], [], _, _, j, mj, y, e, _ => by simp at e
  | m :: l, z :: r, j0, k, j, mj, y, e1, e2 => by
    simp only [chkRow, Bool.and_eq_true] at k
    cases j with
    | zero =>
      simp only [List.getElem?_cons_zero, Option.some.injEq] at e1 e2
      subst e1 e2
      exact k.1
    | succ j =>
      have := chkRow_get k.2 j mj y (by simpa using e1) (by simpa using e2)
      rwa [show j0 + 1 + j = j0 + (j + 1) by omega] at this
  | [], _ :: _, _, k, _, _, _, _, _ => by simp [chkRow] at k
  | _ :: _, [], _, k, _, _, _, _, _ => by simp [chkRow] at k
theorem chkPairs_get {d : List (Nat × Option Nat)} {A : List Nat} {xs : List XOp} : ∀ {l : List Nat} {r : List XOp} {i0 : Nat}, chkPairs d A xs i0 l r = true → ∀ (i mi : Nat) (x : XOp), l[i]? = some mi → r[i]? = some x → chkRow d (i0 + i) mi x 0 A xs = true
  | [], [], _, _, i, mi, x, e, _ => by simp at e
  | m :: l, z :: r, i0, k, i, mi, x, e1, e2 => by
    simp only [chkPairs, Bool.and_eq_true] at k
    cases i with
    | zero =>
      simp only [List.getElem?_cons_zero, Option.some.injEq] at e1 e2
      subst e1 e2
      exact k.1
    | succ i =>
      have := chkPairs_get k.2 i mi x (by simpa using e1) (by simpa using e2)
      rwa [show i0 + 1 + i = i0 + (i + 1) by omega] at this
  | [], _ :: _, _, k, _, _, _, _, _ => by simp [chkPairs] at k
  | _ :: _, [], _, k, _, _, _, _, _ => by simp [chkPairs] at k

def chkDraw (ops : Array Oper) (xs : List XOp) (d : List (Nat × Option Nat)) (A : List Nat) : Bool := chkAnc A 0 ops.toList A && chkPairs d A xs 0 A xs

/-! ### The slots -/
/-- The slots behind those operations that p names. -/
def mix (D : Nat → Option Nat) (val : Nat → V) (p : Nat → Bool) (s0 : Sl) : Nat → Sl
  | 0 => s0
  | i + 1 => if p i = true then put (mix D val p s0 i) (D i) (val i) else mix D val p s0 i

section
variable {D : Nat → Option Nat} {val : Nat → V} {p q : Nat → Bool} {s0 : Sl}
theorem put_apply {s : Sl} {d : Option Nat} {v : V} {t : Nat} : put s d v t = if d = some t then v else s t := by
  cases d with
  | none => simp [put]
  | some u =>
    simp only [put, upd, Option.some.injEq]
    by_cases h : u = t
    · rw [if_pos h, if_pos h.symm]
    · rw [if_neg h, if_neg fun e => h e.symm]
theorem mix_congr {t : Nat} : ∀ (n : Nat), (∀ i, i < n → D i = some t → p i = q i) → mix D val p s0 n t = mix D val q s0 n t
  | 0, _ => rfl
  | n + 1, k => by
    have ih := mix_congr n fun i hi e => k i (by omega) e
    simp only [mix]
    by_cases hd : D n = some t
    · rw [k n (by omega) hd]
      split
      · simp only [put_apply, hd, if_true]
      · exact ih
    · split <;> split <;> (try simp only [put_apply, if_neg hd]) <;> exact ih
theorem mix_stop (k : Nat) (p : Nat → Bool) : ∀ (n : Nat), (∀ i, k ≤ i → i < n → p i = false) → k ≤ n → mix D val p s0 n = mix D val p s0 k
  | 0, _, hk => by rw [show k = 0 by omega]
  | n + 1, h, hk => by
    by_cases hn : k = n + 1
    · rw [hn]
    · simp only [mix]
      rw [h n (by omega) (by omega)]
      simp only [Bool.false_eq_true, if_false]
      exact mix_stop k p n (fun i h1 h2 => h i h1 (by omega)) (by omega)
/-- One operation more. -/
theorem mix_more {i : Nat} (hp : p i = false) : ∀ (n : Nat), i < n → (∀ j, i < j → j < n → ∀ t, D i = some t → D j = some t → p j = false) → mix D val (fun j => if j = i then true else p j) s0 n = put (mix D val p s0 n) (D i) (val i) := by
  intro n
  induction n with
  | zero => intro h; omega
  | succ n ih =>
    intro hi hlast
    funext t
    simp only [mix]
    by_cases hn : n = i
    · subst hn
      simp only [if_true, hp, Bool.false_eq_true, if_false]
      have : mix D val (fun j => if j = n then true else p j) s0 n = mix D val p s0 n := by
        funext t
        refine mix_congr n fun j hj _ => ?_
        rw [if_neg (by omega)]
      rw [this]
    · simp only [if_neg hn]
      rw [ih (by omega) fun j h1 h2 => hlast j h1 (by omega)]
      by_cases hd : D i = some t
      · by_cases hd2 : D n = some t
        · rw [hlast n (by omega) (by omega) t hd hd2]
          simp
        · split <;> (try simp only [put_apply, hd, if_neg hd2, if_true])
      · split <;> (try simp only [put_apply, if_neg hd])
end
end Go.Proofs.Sl

namespace Go.Proofs.Sl

/-- The states of a region in the order of the text. -/
structure TrOk (cf : CallF) (base : Nat) (xs : List XOp) (st : St) (T : Nat → St) (D : Nat → Option Nat) (val : Nat → V) : Prop where
  zero : T 0 = st
  step : ∀ (i : Nat) (x : XOp), xs[i]? = some x → xstep cf base x (T i) = some (T (i + 1))
  dst : ∀ (i : Nat) (x : XOp), xs[i]? = some x → D i = x.dst
  val : ∀ (i : Nat) (t : Nat), D i = some t → val i = (T (i + 1)).s t

section
variable {cf : CallF} {base : Nat} {xs : List XOp} {st : St} {T : Nat → St} {D : Nat → Option Nat} {val : Nat → V}

theorem xstep_form {x : XOp} {a b : St} (e : xstep cf base x a = some b) : ∃ wt, wanted a.s x.guard = some wt ∧ ((wt = true ∧ ∃ v, xop cf base a.s a.h x.op = some (v, b.h) ∧ b.s = put a.s x.dst v) ∨ (wt = false ∧ b.h = a.h ∧ b.s = put a.s x.dst .u)) := by
  unfold xstep at e
  obtain ⟨wt, e1, e⟩ := ob_eq_some.1 e
  refine ⟨wt, e1, ?_⟩
  cases wt with
  | true =>
    simp only [if_true] at e
    obtain ⟨p, e2, e⟩ := ob_eq_some.1 e
    injection e with e
    subst e
    exact .inl ⟨rfl, p.1, e2, rfl⟩
  | false =>
    simp only [Bool.false_eq_true, if_false] at e
    injection e with e
    subst e
    exact .inr ⟨rfl, rfl, rfl⟩

theorem xop_pure {s : Sl} {h h' : H} {o : XO} {v : V} (hc : o.cls ≠ 2) (e : xop cf base s h o = some (v, h')) : h' = h ∧ ((o.cls = 0 ∧ xpure s o = some v) ∨ (o.cls = 1 ∧ xread s h o = some v)) := by
  unfold xop at e
  split at e
  · rename_i h0
    obtain ⟨u, e1, e⟩ := ob_eq_some.1 e
    injection e with e
    injection e with e2 e3
    subst e2 e3
    exact ⟨rfl, .inl ⟨h0, e1⟩⟩
  · rename_i h0
    obtain ⟨u, e1, e⟩ := ob_eq_some.1 e
    injection e with e
    injection e with e2 e3
    subst e2 e3
    exact ⟨rfl, .inr ⟨h0, e1⟩⟩
  · rename_i h0 h1
    have : o.cls = 2 := by
      unfold XO.cls at h0 h1 ⊢
      split at h0 <;> simp_all
    exact absurd this hc

theorem TrOk.slot (K : TrOk cf base xs st T D val) {i : Nat} (hi : i < xs.length) : (T (i + 1)).s = put (T i).s (D i) (val i) := by
  have hx := List.getElem?_eq_getElem hi
  obtain ⟨wt, _, h⟩ := xstep_form (K.step i _ hx)
  have hd := K.dst i _ hx
  have key : ∀ v, (T (i + 1)).s = put (T i).s xs[i].dst v → (T (i + 1)).s = put (T i).s (D i) (val i) := by
    intro v hv
    rw [hv, ← hd]
    cases hD : D i with
    | none => rfl
    | some t =>
      have := K.val i t hD
      rw [this, hv, ← hd, hD]
      simp [put_apply]
  rcases h with ⟨_, v, _, hv⟩ | ⟨_, _, hv⟩
  · exact key v hv
  · exact key _ hv
theorem TrOk.heap (K : TrOk cf base xs st T D val) {i : Nat} {x : XOp} (hx : xs[i]? = some x) (hc : x.op.cls ≠ 2) : (T (i + 1)).h = (T i).h := by
  obtain ⟨wt, _, h⟩ := xstep_form (K.step i _ hx)
  rcases h with ⟨_, v, e, _⟩ | ⟨_, e, _⟩
  · exact (xop_pure hc e).1
  · exact e
theorem TrOk.all (K : TrOk cf base xs st T D val) : ∀ (i : Nat), i ≤ xs.length → (T i).s = mix D val (fun _ => true) st.s i
  | 0, _ => by rw [K.zero]; rfl
  | i + 1, hi => by
    rw [K.slot (by omega), K.all i (by omega)]
    rfl

/-- What was read would have been read at another point, too. -/
structure StOk (xs : List XOp) (T : Nat → St) (d : List (Nat × Option Nat)) : Prop where
  all : ∀ j i : Nat, hasPair d j i = true → ∀ x, xs[i]? = some x → j < xs.length → ((T j).h = (T (j + 1)).h) ∨ wanted (T i).s x.guard = some false ∨ ∃ v, xread (T i).s (T i).h x.op = some v ∧ xread (T i).s (if j < i then (T j).h else (T (j + 1)).h) x.op = some v

theorem stable_get {tr : List St} {d : List (Nat × Option Nat)} (k : stable xs tr d = true) : ∀ c ∈ d, stable1 xs tr c = true := by
  induction d with
  | nil => intro c hc; cases hc
  | cons p d ih =>
    simp only [stable, Bool.and_eq_true] at k
    intro c hc
    rcases List.mem_cons.1 hc with rfl | hc
    · exact k.1
    · exact ih k.2 c hc
theorem stOk_of {tr : List St} {d : List (Nat × Option Nat)} (hT : ∀ i, i ≤ xs.length → tr[i]? = some (T i)) (k : stable xs tr d = true) : StOk xs T d := by
  refine ⟨fun j i hp x hx hj => ?_⟩
  obtain ⟨c, hc, hp⟩ := List.any_eq_true.1 hp
  obtain ⟨c1, c2⟩ := c
  simp only [Bool.and_eq_true, beq_iff_eq] at hp
  obtain ⟨rfl, hp⟩ := hp
  have := stable_get k _ hc
  simp only [stable1, hT c1 (by omega), hT (c1 + 1) (by omega)] at this
  cases c2 with
  | none =>
    left
    exact same_eq this
  | some r =>
    simp only [beq_iff_eq] at hp
    subst hp
    have hr : r < xs.length := (List.getElem?_eq_some_iff.1 hx).1
    simp only [hT r (by omega), hx] at this
    right
    split at this
    · left; assumption
    · right
      unfold optEq at this
      split at this
      · rename_i a b ha hb
        have hab := same_eq this
        subst hab
        exact ⟨a, ha, hb⟩
      · cases this

theorem read_up (K : TrOk cf base xs st T D val) {d : List (Nat × Option Nat)} (Z : StOk xs T d) {i : Nat} {x : XOp} (hx : xs[i]? = some x) (hw : wanted (T i).s x.guard ≠ some false) : ∀ (q m : Nat), m + q = i → (∀ j y, m ≤ j → j < i → xs[j]? = some y → y.op.cls = 2 → hasPair d j i = true) →
    xread (T i).s (T m).h x.op = xread (T i).s (T i).h x.op
  | 0, m, hm, _ => by rw [show m = i by omega]
  | q + 1, m, hm, hp => by
    have hi := (List.getElem?_eq_some_iff.1 hx).1
    have hy := List.getElem?_eq_getElem (show m < xs.length by omega)
    have ih := read_up K Z hx hw q (m + 1) (by omega) fun j y h1 h2 => hp j y (by omega) h2
    by_cases hc : xs[m].op.cls = 2
    · rcases Z.all m i (hp m _ (Nat.le_refl _) (by omega) hy hc) x hx (by omega) with h1 | h1 | ⟨v, h1, h2⟩
      · rw [h1]; exact ih
      · exact absurd h1 hw
      · rw [if_pos (by omega)] at h2
        rw [h1, h2]
    · rw [← K.heap hy hc]; exact ih
theorem read_down (K : TrOk cf base xs st T D val) {d : List (Nat × Option Nat)} (Z : StOk xs T d) {i : Nat} {x : XOp} (hx : xs[i]? = some x) (hcx : x.op.cls ≠ 2) (hw : wanted (T i).s x.guard ≠ some false) : ∀ (q m : Nat), i + q = m → m ≤ xs.length → (∀ j y, i < j → j < m → xs[j]? = some y → y.op.cls = 2 → hasPair d j i = true) →
    xread (T i).s (T m).h x.op = xread (T i).s (T i).h x.op
  | 0, m, hm, _, _ => by rw [show m = i by omega]
  | q + 1, m, hm, hmn, hp => by
    obtain ⟨m', rfl⟩ : ∃ m', m = m' + 1 := ⟨i + q, by omega⟩
    have hy := List.getElem?_eq_getElem (show m' < xs.length by omega)
    have ih := read_down K Z hx hcx hw q m' (by omega) (by omega) fun j y h1 h2 => hp j y h1 (by omega)
    by_cases hc : xs[m'].op.cls = 2
    · have hne : i ≠ m' := by
        rintro rfl
        rw [hy] at hx
        injection hx with hx
        subst hx
        exact hcx hc
      rcases Z.all m' i (hp m' _ (by omega) (by omega) hy hc) x hx (by omega) with h1 | h1 | ⟨v, h1, h2⟩
      · rw [← h1]; exact ih
      · exact absurd h1 hw
      · rw [if_neg (by omega)] at h2
        rw [h1, h2]
    · rw [K.heap hy hc]; exact ih
theorem heap_same (K : TrOk cf base xs st T D val) {i : Nat} : ∀ (q m : Nat), m + q = i → i ≤ xs.length → (∀ j y, m ≤ j → j < i → xs[j]? = some y → y.op.cls ≠ 2) → (T m).h = (T i).h
  | 0, m, hm, _, _ => by rw [show m = i by omega]
  | q + 1, m, hm, hi, hp => by
    have hy := List.getElem?_eq_getElem (show m < xs.length by omega)
    rw [← K.heap hy (hp m _ (Nat.le_refl _) (by omega) hy)]
    exact heap_same K q (m + 1) (by omega) hi fun j y h1 h2 => hp j y (by omega) h2

/-- An operation run out of the text's order does what it does there. -/
theorem step_any (K : TrOk cf base xs st T D val) {d : List (Nat × Option Nat)} (Z : StOk xs T d) {i m : Nat} {x : XOp} (hx : xs[i]? = some x) (hm : m ≤ xs.length) {s : Sl} (hag : Agree s (T i).s x.reads)
    (heff : x.op.cls = 2 → (T m).h = (T i).h) (hup : x.op.cls = 1 → ∀ j y, m ≤ j → j < i → xs[j]? = some y → y.op.cls = 2 → hasPair d j i = true) (hdown : x.op.cls = 1 → ∀ j y, i < j → j < m → xs[j]? = some y → y.op.cls = 2 → hasPair d j i = true) :
    xstep cf base x ⟨s, (T m).h⟩ = some ⟨put s (D i) (val i), if x.op.cls = 2 then (T (i + 1)).h else (T m).h⟩ := by
  have hd := K.dst i x hx
  have hi := (List.getElem?_eq_some_iff.1 hx).1
  obtain ⟨wt, hw, hf⟩ := xstep_form (K.step i x hx)
  have hwa : wanted s x.guard = some wt := by
    rw [← hw]
    refine wanted_agree ?_
    exact Agree.left (b := x.op.reads) hag
  have hop : Agree s (T i).s x.op.reads := hag.right
  have hput : ∀ v, (T (i + 1)).s = put (T i).s x.dst v → put s x.dst v = put s (D i) (val i) := by
    intro v hv
    rw [hd]
    cases hdd : x.dst with
    | none => rfl
    | some t =>
      have := K.val i t (by rw [hd, hdd])
      rw [this, hv, hdd]
      simp [put_apply]
  unfold xstep
  rw [hwa, ob_some]
  rcases hf with ⟨rfl, v, e, hv⟩ | ⟨rfl, e, hv⟩
  · simp only [if_true]
    have hx2 : xop cf base s (T m).h x.op = some (v, if x.op.cls = 2 then (T (i + 1)).h else (T m).h) := by
      by_cases hc : x.op.cls = 2
      · rw [if_pos hc, heff hc]
        unfold xop at e ⊢
        rw [hc] at e ⊢
        simp only at e ⊢
        rw [xeff_agree hop]
        exact e
      · rw [if_neg hc]
        obtain ⟨h1, h2⟩ := xop_pure hc e
        unfold xop
        rcases h2 with ⟨h2, h3⟩ | ⟨h2, h3⟩
        · rw [h2]
          simp only
          rw [xpure_agree hop, h3]
          rfl
        · rw [h2]
          simp only
          have hwn : wanted (T i).s x.guard ≠ some false := by rw [hw]; simp
          have hrd : xread (T i).s (T m).h x.op = xread (T i).s (T i).h x.op := by
            rcases Nat.le_total m i with hmi | hmi
            · exact read_up K Z hx hwn (i - m) m (by omega) (hup h2)
            · exact read_down K Z hx hc hwn (m - i) m (by omega) hm (hdown h2)
          rw [xread_agree hop, hrd, h3]
          rfl
    rw [hx2, ob_some, hput v hv]
  · simp only [Bool.false_eq_true, if_false]
    rw [hput _ hv]
    split
    · rename_i hc
      rw [heff hc, e]
    · rfl
end
end Go.Proofs.Sl

namespace Go.Proofs.Sl
section
variable {P : Program} {φ : Nat → Option FuncId} {h h' : H} {g g' : G} {w w' : World} {N : Nat} {s : Sl} {a : Act} {ops : Array Oper} {h0 : H} {g0 : G} {w0 : World} {cf : CallF} {base : Nat}
variable {xs : List XOp} {st : St} {T : Nat → St} {D : Nat → Option Nat} {val : Nat → V} {d : List (Nat × Option Nat)} {A : List Nat}

def isL (l : Array Bool) (i : Nat) : Bool := l.getD i false
def ClosedL (ops : Array Oper) (l : Array Bool) : Prop := ∀ (i : Nat) (o : Oper), isL l i = true → ops[i]? = some o → ∀ j ∈ depsOf o, isL l j = true

theorem ready_iff {l : Array Bool} (hs : l.size = ops.size) {i : Nat} : i ∈ Region.ready .any ops l ↔ i < ops.size ∧ isL l i = false ∧ ∀ o, ops[i]? = some o → ∀ j ∈ depsOf o, isL l j = true := by
  unfold Region.ready
  rw [List.mem_filter, List.mem_range]
  constructor
  · rintro ⟨hi, h⟩
    rw [Bool.and_eq_true] at h
    obtain ⟨h1, h2⟩ := h
    refine ⟨hi, ?_, fun o ho j hj => ?_⟩
    · simp only [Bool.not_eq_true', Array.getD_eq_getD_getElem?] at h1
      rw [Array.getElem?_eq_getElem (by omega)] at h1
      simp only [isL, Array.getD_eq_getD_getElem?, Array.getElem?_eq_getElem (show i < l.size by omega)]
      simpa using h1
    · rw [ho] at h2
      simp only [Option.map_some, Option.getD_some, Array.all_eq_true', Bool.or_eq_true, Bool.not_eq_true'] at h2
      simp only [depsOf, List.mem_map, List.mem_filter, Array.mem_toList_iff] at hj
      obtain ⟨e, ⟨he, hb⟩, rfl⟩ := hj
      rcases h2 e he with h3 | h3
      · rw [hb] at h3; cases h3
      · exact h3
  · rintro ⟨hi, h1, h2⟩
    refine ⟨hi, ?_⟩
    rw [Bool.and_eq_true]
    have ho := Array.getElem?_eq_getElem hi
    refine ⟨?_, ?_⟩
    · simp only [Bool.not_eq_true', Array.getD_eq_getD_getElem?]
      rw [Array.getElem?_eq_getElem (by omega)]
      simp only [isL, Array.getD_eq_getD_getElem?, Array.getElem?_eq_getElem (show i < l.size by omega)] at h1
      simpa using h1
    · rw [ho]
      simp only [Option.map_some, Option.getD_some, Array.all_eq_true', Bool.or_eq_true, Bool.not_eq_true']
      intro e he
      cases hb : Region.binds .any e with
      | false => exact .inl rfl
      | true =>
        right
        refine h2 _ ho e.on ?_
        simp only [depsOf, List.mem_map, List.mem_filter, Array.mem_toList_iff]
        exact ⟨e, ⟨he, hb⟩, rfl⟩

theorem reach_listed {l : Array Bool} (hc : ClosedL ops l) {i j : Nat} (r : Reach ops i j) : (∀ o, ops[i]? = some o → ∀ q ∈ depsOf o, isL l q = true) → isL l j = true := by
  induction r with
  | one ho k => intro h; exact h _ ho _ k
  | more ho e r ih => intro h; exact ih fun o h1 => hc _ o (h _ ho _ e) h1

theorem isL_set {l : Array Bool} {i j : Nat} (hi : i < l.size) : isL (l.setIfInBounds i true) j = if j = i then true else isL l j := by
  simp only [isL, Array.getD_eq_getD_getElem?]
  by_cases hj : j = i
  · subst hj
    rw [if_pos rfl, Array.getElem?_setIfInBounds_self_of_lt hi]
    rfl
  · rw [if_neg hj, Array.getElem?_setIfInBounds_ne (Ne.symm hj)]

theorem any_ok (Tk : TOk P φ) (F : FOk P φ cf) (hlen : ops.size = xs.length) (k1 : ∀ (i : Nat) (o : Oper) (x : XOp), ops.toList[i]? = some o → xs[i]? = some x → chkX P φ N ops o x = true) (k2 : chkDraw ops xs d A = true) (K : TrOk cf base xs st T D val) (Z : StOk xs T d)
    {Q : Exit → Act → World → Prop} (hQ : ∀ a' w', SO φ N h0 g0 w0 (T xs.length) a' w' → Q .normal a' w') : ∀ (fuel : Nat) (l : Array Bool) (m : Nat) (a : Act) (w : World), l.size = ops.size → ClosedL ops l → l.toList.countP (fun b => b == false) ≤ fuel → m ≤ xs.length →
      (∀ (j : Nat) (y : XOp), xs[j]? = some y → y.op.cls = 2 → (isL l j = true ↔ j < m)) → SO φ N h0 g0 w0 ⟨mix D val (isL l) st.s xs.length, (T m).h⟩ a w → wpAny P .any ops Q fuel l a w := by
  simp only [chkDraw, Bool.and_eq_true] at k2
  obtain ⟨ka, kp⟩ := k2
  obtain ⟨hal, hag⟩ := chkAnc_get ka
  rw [Array.length_toList] at hal
  have hreach := anc_reach ka
  have hpair : ∀ i j x y, xs[i]? = some x → xs[j]? = some y → i ≠ j → Reach ops i j ∨ Reach ops j i ∨ (noConf x y = true ∧ (y.op.cls = 2 → x.op.cls = 0 ∨ (x.op.cls = 1 ∧ hasPair d j i = true))) := by
    intro i j x y hx hy hij
    have hi : i < A.length := by rw [← hal, hlen]; exact (List.getElem?_eq_some_iff.1 hx).1
    have hj : j < A.length := by rw [← hal, hlen]; exact (List.getElem?_eq_some_iff.1 hy).1
    have hmi := List.getElem?_eq_getElem hi
    have hmj := List.getElem?_eq_getElem hj
    have := chkRow_get (chkPairs_get kp i _ x hmi hx) j _ y hmj hy
    simp only [Nat.zero_add, chkPair, Bool.or_eq_true, beq_iff_eq, Bool.and_eq_true, bne_iff_ne, ne_eq] at this
    rcases this with ((h | h) | h) | ⟨h1, h2⟩
    · exact absurd h hij
    · exact .inl (hreach i j (by rw [List.getD_eq_getElem?_getD, hmi]; exact h))
    · exact .inr (.inl (hreach j i (by rw [List.getD_eq_getElem?_getD, hmj]; exact h)))
    · refine .inr (.inr ⟨h1, fun hc => ?_⟩)
      rcases h2 with (h2 | h2) | h2
      · exact absurd hc h2
      · exact .inl h2
      · exact .inr h2
  have hlt : ∀ i j, Reach ops i j → j < i := by
    intro i j r
    induction r with
    | @one i j o ho k =>
      have hi : i < A.length := by rw [← hal]; exact (Array.getElem?_eq_some_iff.1 ho).1
      have := (hag i o _ (by rw [Array.getElem?_toList]; exact ho) (List.getElem?_eq_getElem hi)).2 j k
      omega
    | @more i q j o ho e r ih =>
      have hi : i < A.length := by rw [← hal]; exact (Array.getElem?_eq_some_iff.1 ho).1
      have := (hag i o _ (by rw [Array.getElem?_toList]; exact ho) (List.getElem?_eq_getElem hi)).2 q e
      omega
  -- all is done
  have finish : ∀ (l : Array Bool) (m : Nat) (a : Act) (w : World), l.size = ops.size → m ≤ xs.length → (∀ (j : Nat) (y : XOp), xs[j]? = some y → y.op.cls = 2 → (isL l j = true ↔ j < m)) → (∀ i, i < xs.length → isL l i = true) →
      SO φ N h0 g0 w0 ⟨mix D val (isL l) st.s xs.length, (T m).h⟩ a w → Q .normal a w := by
    intro l m a w hs hm hE hall so
    refine hQ a w ?_
    have hs1 : mix D val (isL l) st.s xs.length = (T xs.length).s := by
      rw [K.all xs.length (Nat.le_refl _)]
      funext t
      exact mix_congr _ fun i hi _ => hall i hi
    have hh : (T m).h = (T xs.length).h := heap_same K (xs.length - m) m (by omega) (Nat.le_refl _) fun j y h1 h2 hy hc => by
      have := (hE j y hy hc).1 (hall j h2)
      omega
    rw [hs1, hh] at so
    exact so
  intro fuel
  induction fuel with
  | zero =>
    intro l m a w hs hc hf hm hE so
    have hall : ∀ i, i < xs.length → isL l i = true := by
      intro i hi
      have h0 : l.toList.countP (fun b => b == false) = 0 := by omega
      rw [List.countP_eq_zero] at h0
      have hi2 : i < l.size := by omega
      have := h0 l[i] (by rw [Array.mem_toList_iff]; exact Array.getElem_mem hi2)
      simp only [isL, Array.getD_eq_getD_getElem?, Array.getElem?_eq_getElem hi2]
      simpa using this
    refine ⟨?_, finish l m a w hs hm hE hall so⟩
    cases hr : Region.ready .any ops l with
    | nil => rfl
    | cons i r =>
      have hi : i ∈ Region.ready .any ops l := by rw [hr]; simp
      obtain ⟨h1, h2, _⟩ := (ready_iff hs).1 hi
      rw [hall i (by omega)] at h2
      cases h2
  | succ fuel ih =>
    intro l m a w hs hc hf hm hE so
    refine ⟨fun hr => finish l m a w hs hm hE ?_ so, fun i hi => ?_⟩
    · intro i
      induction i using Nat.strongRecOn with
      | _ i ihi =>
        intro hi
        cases hl : isL l i with
        | true => rfl
        | false =>
          have : i ∈ Region.ready .any ops l := (ready_iff hs).2 ⟨by omega, hl, fun o ho j hj => by
            have hji := hlt i j (.one ho hj)
            exact ihi j hji (by omega)⟩
          rw [hr] at this
          cases this
    · obtain ⟨hin, hli, hdeps⟩ := (ready_iff hs).1 hi
      have hix : i < xs.length := by omega
      have hx := List.getElem?_eq_getElem hix
      have ho := Array.getElem?_eq_getElem hin
      have hil : i < l.size := by omega
      -- who is in order with i
      have before : ∀ j, Reach ops i j → isL l j = true := fun j r => reach_listed hc r hdeps
      have after : ∀ j, Reach ops j i → isL l j = false := fun j r => by
        cases hj : isL l j with
        | false => rfl
        | true =>
          have := reach_listed hc r fun o h1 => hc j o hj h1
          rw [hli] at this
          cases this
      have conf : ∀ j y, xs[j]? = some y → noConf xs[i] y = false → j ≠ i → (isL l j = true ↔ j < i) := by
        intro j y hy hn hji
        rcases hpair i j _ y hx hy (Ne.symm hji) with h | h | ⟨h, _⟩
        · exact ⟨fun _ => hlt i j h, fun _ => before j h⟩
        · have := hlt j i h
          rw [after j h]
          exact ⟨fun e => by (cases e), fun e => by omega⟩
        · rw [hn] at h
          cases h
      have hagree : Agree (mix D val (isL l) st.s xs.length) (T i).s xs[i].reads := by
        intro t ht
        have e1 : mix D val (isL l) st.s xs.length t = mix D val (fun j => decide (j < i)) st.s xs.length t := by
          refine mix_congr _ fun j hj hdj => ?_
          by_cases hji : j = i
          · subst hji
            rw [hli]
            simp
          · have hy := List.getElem?_eq_getElem hj
            have hyd := K.dst j _ hy
            have hn : noConf xs[i] xs[j] = false := by
              unfold noConf
              rw [← hyd, hdj]
              simp only [Bool.and_eq_false_iff, Bool.not_eq_false']
              exact .inl (by simpa using ht)
            have := conf j _ hy hn hji
            cases hl : isL l j with
            | true => simpa using this.1 hl
            | false =>
              have h2 : ¬ j < i := fun h => by
                have := this.2 h
                rw [hl] at this
                cases this
              simpa using h2
        have e2 : mix D val (fun j => decide (j < i)) st.s xs.length = mix D val (fun j => decide (j < i)) st.s i := mix_stop i _ xs.length (fun j h1 _ => by simpa using h1) (by omega)
        have e3 : mix D val (fun j => decide (j < i)) st.s i t = mix D val (fun _ => true) st.s i t := mix_congr i fun j hj _ => by simpa using hj
        rw [e1, e2, e3, K.all i (by omega)]
      have effs : xs[i].op.cls = 2 → ∀ j y, xs[j]? = some y → y.op.cls = 2 → j ≠ i → (isL l j = true ↔ j < i) := by
        intro hci j y hy hcj hji
        rcases hpair i j _ y hx hy (Ne.symm hji) with h | h | ⟨_, h⟩
        · exact ⟨fun _ => hlt i j h, fun _ => before j h⟩
        · have := hlt j i h
          rw [after j h]
          exact ⟨fun e => by (cases e), fun e => by omega⟩
        · rcases h hcj with h | h
          · omega
          · omega
      have hheap : xs[i].op.cls = 2 → (T m).h = (T i).h := by
        intro hci
        rcases Nat.le_total m i with hmi | hmi
        · refine heap_same K (i - m) m (by omega) (by omega) fun j y h1 h2 hy hcj => ?_
          have e1 := (effs hci j y hy hcj (by omega)).2 h2
          have := (hE j y hy hcj).1 e1
          omega
        · refine (heap_same K (m - i) i (by omega) hm fun j y h1 h2 hy hcj => ?_).symm
          have e1 := (hE j y hy hcj).2 h2
          by_cases hji : j = i
          · subst hji
            rw [hli] at e1
            cases e1
          · have := (effs hci j y hy hcj hji).1 e1
            omega
      have rdp : xs[i].op.cls = 1 → ∀ j y, xs[j]? = some y → y.op.cls = 2 → j ≠ i → ¬ (isL l j = true ↔ j < i) → hasPair d j i = true := by
        intro hci j y hy hcj hji hno
        rcases hpair i j _ y hx hy (Ne.symm hji) with h | h | ⟨_, h⟩
        · exact absurd ⟨fun _ => hlt i j h, fun _ => before j h⟩ hno
        · have := hlt j i h
          exact absurd (by rw [after j h]; exact ⟨fun e => by (cases e), fun e => by omega⟩) hno
        · rcases h hcj with h | h
          · omega
          · exact h.2
      have hstep := step_any K Z hx hm hagree hheap
        (fun hci j y h1 h2 hy hcj => rdp hci j y hy hcj (by omega) fun e => by
          have := (hE j y hy hcj).1 (e.2 h2)
          omega)
        (fun hci j y h1 h2 hy hcj => rdp hci j y hy hcj (by omega) fun e => by
          have := e.1 ((hE j y hy hcj).2 h2)
          omega)
      refine wpOp_ok Tk F ho (k1 i _ _ (by rw [Array.getElem?_toList]; exact ho) hx) so hstep fun a' w' so' => ?_
      have hl' : ∀ j, isL (l.setIfInBounds i true) j = if j = i then true else isL l j := fun j => isL_set hil
      have hmix : mix D val (isL (l.setIfInBounds i true)) st.s xs.length = put (mix D val (isL l) st.s xs.length) (D i) (val i) := by
        rw [show isL (l.setIfInBounds i true) = fun j => if j = i then true else isL l j from funext hl']
        refine mix_more hli xs.length hix fun j hij hj t h1 h2 => ?_
        have hy := List.getElem?_eq_getElem hj
        have hxd := K.dst i _ hx
        have hyd := K.dst j _ hy
        have hn : noConf xs[i] xs[j] = false := by
          unfold noConf
          rw [← hyd, h2]
          simp only [← hxd, h1, bne_self_eq_false, Bool.and_false]
        have := conf j _ hy hn (by omega)
        cases hl : isL l j with
        | false => rfl
        | true =>
          have := this.1 hl
          omega
      have hcnt : (l.setIfInBounds i true).toList.countP (fun b => b == false) ≤ fuel := by
        rw [Array.toList_setIfInBounds, List.countP_set (by rw [Array.length_toList]; exact hil)]
        have hli' : l.toList[i]'(by rw [Array.length_toList]; exact hil) = false := by
          simp only [isL, Array.getD_eq_getD_getElem?, Array.getElem?_eq_getElem hil] at hli
          simpa using hli
        rw [hli']
        simp only [beq_self_eq_true, if_true, show (true == false) = false from rfl, Bool.false_eq_true, if_false]
        omega
      have hcl : ClosedL ops (l.setIfInBounds i true) := by
        intro j o hj hoj q hq
        rw [hl'] at hj ⊢
        split
        · rfl
        · split at hj
          · rename_i hji
            subst hji
            exact hdeps o hoj q hq
          · exact hc j o hj hoj q hq
      rw [← hmix] at so'
      by_cases hci : xs[i].op.cls = 2
      · rw [if_pos hci] at so'
        refine ih _ (i + 1) a' w' (by simpa using hs) hcl hcnt (by omega) (fun j y hy hcj => ?_) so'
        rw [hl']
        split
        · rename_i hji
          subst hji
          exact ⟨fun _ => by omega, fun _ => rfl⟩
        · rename_i hji
          rw [effs hci j y hy hcj hji]
          omega
      · rw [if_neg hci] at so'
        refine ih _ m a' w' (by simpa using hs) hcl hcnt hm (fun j y hy hcj => ?_) so'
        rw [hl']
        split
        · rename_i hji
          subst hji
          rw [hx] at hy
          injection hy with hy
          subst hy
          exact absurd hcj hci
        · exact hE j y hy hcj

theorem SO.drew (so : SO φ N h0 g0 w0 st a w) : SO φ N h0 g0 w0 st a { w with drawn := w.drawn + 1 } := by
  obtain ⟨g, R, X, S⟩ := so
  exact ⟨g, R.drew, X.trans (Ext.drew _ _ _), S⟩

theorem xtrace_get : ∀ (xs : List XOp) {st : St} {tr : List St}, xtrace cf base xs st = some tr → ∀ (i : Nat) (x : XOp), xs[i]? = some x → ∃ s1 s2, tr[i]? = some s1 ∧ tr[i + 1]? = some s2 ∧ xstep cf base x s1 = some s2
  | [], st, tr, e, i, x, hx => by simp at hx
  | o :: r, st, tr, e, i, x, hx => by
    simp only [xtrace] at e
    obtain ⟨s1, e1, e⟩ := ob_eq_some.1 e
    obtain ⟨l, e2, e⟩ := ob_eq_some.1 e
    injection e with e
    subst e
    cases i with
    | zero =>
      simp only [List.getElem?_cons_zero, Option.some.injEq] at hx
      subst hx
      obtain ⟨_, _, _, _, h4⟩ := xtrace_xops r e2
      exact ⟨st, s1, rfl, by simpa using h4, e1⟩
    | succ i =>
      obtain ⟨a1, a2, h1, h2, h3⟩ := xtrace_get r e2 i x (by simpa using hx)
      exact ⟨a1, a2, by simpa using h1, by simpa using h2, h3⟩

theorem lastSt_get : ∀ {tr : List St} {st : St}, lastSt tr = some st → tr[tr.length - 1]? = some st
  | [], _, e => by cases e
  | [x], st, e => by
    simp only [lastSt, Option.some.injEq] at e
    subst e
    rfl
  | x :: y :: l, st, e => by
    have := lastSt_get (tr := y :: l) (st := st) e
    simpa using this

theorem region_draw (Tk : TOk P φ) (F : FOk P φ cf) (hfol : P.follows .mixedOrders = true) (k1 : chkXs P φ N ops ops.toList xs = true) (k2 : chkDraw ops xs d A = true) {Q : Exit → Act → World → Prop} {st' : St} (so : SO φ N h0 g0 w0 st a w)
    (e : xregion cf base xs (some d) st = some st') (hQ : ∀ a' w', SO φ N h0 g0 w0 st' a' w' → Q .normal a' w') (id : Nat) : (Code.region id ops true).wp P Q a w := by
  obtain ⟨hlen, hk⟩ := chkXs_get k1
  rw [Array.length_toList] at hlen
  simp only [xregion] at e
  obtain ⟨tr, e1, e⟩ := ob_eq_some.1 e
  split at e
  · rename_i hst
    obtain ⟨st2, h1, h2, h3, h4⟩ := xtrace_xops xs e1
    have hlast := lastSt_get e
    have hT : ∀ i, i ≤ xs.length → tr[i]? = some (tr.getD i st) := fun i hi => by
      rw [List.getD_eq_getElem?_getD, List.getElem?_eq_getElem (show i < tr.length by omega)]
      rfl
    have K : TrOk cf base xs st (fun i => tr.getD i st) (fun i => (xs[i]?).bind (·.dst)) (fun i => match (xs[i]?).bind (·.dst) with
        | some t => (tr.getD (i + 1) st).s t
        | none => .u) := by
      refine ⟨?_, fun i x hx => ?_, fun i x hx => by rw [hx]; rfl, fun i t ht => by simp only [ht]⟩
      · rw [List.getD_eq_getElem?_getD, h4]
        rfl
      · obtain ⟨s1, s2, a1, a2, a3⟩ := xtrace_get xs e1 i x hx
        simp only [List.getD_eq_getElem?_getD, a1, a2, Option.getD_some]
        exact a3
    have Z : StOk xs (fun i => tr.getD i st) d := stOk_of hT hst
    have hend : tr.getD xs.length st = st' := by
      rw [List.getD_eq_getElem?_getD]
      rw [h3, show xs.length + 1 - 1 = xs.length by omega] at hlast
      rw [hlast]
      rfl
    have hfalse : ∀ i, isL (Array.replicate ops.size false) i = false := fun i => by
      simp only [isL, Array.getD_eq_getD_getElem?, Array.getElem?_replicate]
      split <;> rfl
    refine wp_region_any hfol ?_
    refine any_ok Tk F hlen hk k2 K Z (Q := Q) (h0 := h0) (g0 := g0) (w0 := w0) (fun a' w' so' => hQ a' w' (by
      simp only [hend] at so'
      exact so')) ops.size _ 0 a _ (by simp) (fun i o hi => by rw [hfalse] at hi; cases hi) ?_ (Nat.zero_le _) (fun j y _ _ => by rw [hfalse]; exact ⟨fun e => by (cases e), fun e => by omega⟩) ?_
    · have := List.countP_le_length (p := fun b => b == false) (l := (Array.replicate ops.size false).toList)
      simpa using this
    · have hm : mix (fun i => (xs[i]?).bind (·.dst)) (fun i => match (xs[i]?).bind (·.dst) with
        | some t => (tr.getD (i + 1) st).s t
        | none => .u) (isL (Array.replicate ops.size false)) st.s xs.length = st.s := by
        rw [mix_stop 0 _ xs.length (fun i _ _ => hfalse i) (Nat.zero_le _)]
        rfl
      rw [hm, K.zero]
      exact so.drew
  · cases e
end
end Go.Proofs.Sl

namespace Go.Proofs.Sl

def chkCode (P : Program) (φ : Nat → Option FuncId) (N : Nat) : Code → XC → Bool
  | .skip, .skip => true
  | .region _ ops false, .region xs none => chkXs P φ N ops ops.toList xs
  | .region _ ops true, .region xs (some d) => chkXs P φ N ops ops.toList xs && chkDraw ops xs d (ancs (ops.toList.map depsOf) [])
  | .seq a b, .seq x y => chkCode P φ N a x && chkCode P φ N b y
  | .cond c a b, .cond z x y => chkOpd φ N c z && chkCode P φ N a x && chkCode P φ N b y
  | .block i b, .block j x => i == j && chkCode P φ N b x
  | .loop b, .loop x => chkCode P φ N b x
  | .exit i, .exit j => i == j
  | .ret, .ret => true
  | _, _ => false

def Ex.toExit : Ex → Exit
  | .norm => .normal
  | .exit i => .exit i
  | .ret => .ret

section
variable {P : Program} {φ : Nat → Option FuncId} {N : Nat} {h0 : H} {g0 : G} {w0 : World} {cf : CallF} {base : Nat}

theorem code_ok (hfol : P.follows .mixedOrders = true) (Tk : TOk P φ) (F : FOk P φ cf) (n : Nat) : ∀ (x : XC) (c : Code), chkCode P φ N c x = true → ∀ (st : St) (r : Ex × St) (a : Act) (w : World) (Q : Exit → Act → World → Prop), xcode cf (loopN n) base x st = some r →
    SO φ N h0 g0 w0 st a w → (∀ a' w', SO φ N h0 g0 w0 r.2 a' w' → Q r.1.toExit a' w') → c.wp P Q a w := by
  intro x
  induction x with
  | skip =>
    intro c k st r a w Q e so hQ
    cases c <;> simp only [chkCode, Bool.false_eq_true] at k
    simp only [xcode, Option.some.injEq] at e
    subst e
    exact wp_skip (hQ a w so)
  | region xs d =>
    intro c k st r a w Q e so hQ
    simp only [xcode] at e
    obtain ⟨st', e1, e⟩ := ob_eq_some.1 e
    injection e with e
    subst e
    cases c <;> try (cases d <;> simp [chkCode] at k; done)
    rename_i id ops draw
    cases draw
    · cases d with
      | none => exact region_text Tk F k so e1 (fun a' w' so' => hQ a' w' so') id
      | some d => simp [chkCode] at k
    · cases d with
      | none => simp [chkCode] at k
      | some d =>
        simp only [chkCode, Bool.and_eq_true] at k
        exact region_draw Tk F hfol k.1 k.2 so e1 (fun a' w' so' => hQ a' w' so') id
  | seq x y ihx ihy =>
    intro c k st r a w Q e so hQ
    cases c <;> simp only [chkCode, Bool.false_eq_true, Bool.and_eq_true] at k
    simp only [xcode] at e
    obtain ⟨⟨ex, s1⟩, e1, e⟩ := ob_eq_some.1 e
    refine wp_seq (ihx _ k.1 st _ a w _ e1 so fun a' w' so' => ?_)
    cases ex with
    | norm => exact ihy _ k.2 s1 r a' w' Q e so' hQ
    | exit i =>
      simp only [thenC, Option.some.injEq] at e
      subst e
      exact hQ a' w' so'
    | ret =>
      simp only [thenC, Option.some.injEq] at e
      subst e
      exact hQ a' w' so'
  | cond z x y ihx ihy =>
    intro c k st r a w Q e so hQ
    cases c <;> simp only [chkCode, Bool.false_eq_true, Bool.and_eq_true] at k
    rename_i z' tc ec
    simp only [xcode] at e
    split at e
    · rename_i t ht
      have hr : a.eval z' = .bool t := by
        obtain ⟨g, R, X, S⟩ := so
        have := opd_ok S k.1.1
        rw [ht] at this
        exact rel_s this
      refine wp_cond hr ?_
      cases t
      · exact ihy _ k.2 st r a w Q e so hQ
      · exact ihx _ k.1.2 st r a w Q e so hQ
    · cases e
  | block j x ih =>
    intro c k st r a w Q e so hQ
    cases c <;> simp only [chkCode, Bool.false_eq_true, Bool.and_eq_true, beq_iff_eq] at k
    obtain ⟨rfl, k⟩ := k
    simp only [xcode] at e
    obtain ⟨⟨ex, s1⟩, e1, e⟩ := ob_eq_some.1 e
    injection e with e
    subst e
    refine wp_block (ih _ k st _ a w _ e1 so fun a' w' so' => ?_)
    cases ex with
    | norm => exact hQ a' w' so'
    | exit i =>
      simp only [outOf] at hQ
      simp only [Ex.toExit, Exit.inBlock]
      split
      · rename_i hi
        rw [if_pos hi.symm] at hQ
        exact hQ a' w' so'
      · rename_i hi
        rw [if_neg fun h => hi h.symm] at hQ
        exact hQ a' w' so'
    | ret => exact hQ a' w' so'
  | loop x ih =>
    intro c k st r a w Q e so hQ
    cases c <;> simp only [chkCode, Bool.false_eq_true] at k
    simp only [xcode] at e
    refine wp_loop_ghost (fun m a w => ∃ st, SO φ N h0 g0 w0 st a w ∧ loopN m (xcode cf (loopN n) base x) st = some r) n ⟨st, so, e⟩ ?_
    rintro m a w ⟨st, so, e⟩
    cases m with
    | zero => cases e
    | succ m =>
      simp only [loopN] at e
      obtain ⟨⟨ex, s1⟩, e1, e⟩ := ob_eq_some.1 e
      refine ih _ k st _ a w _ e1 so fun a' w' so' => ?_
      cases ex with
      | norm => exact ⟨m, by omega, s1, so', e⟩
      | exit i =>
        simp only [thenC, Option.some.injEq] at e
        subst e
        exact hQ a' w' so'
      | ret =>
        simp only [thenC, Option.some.injEq] at e
        subst e
        exact hQ a' w' so'
  | exit j =>
    intro c k st r a w Q e so hQ
    cases c <;> simp only [chkCode, Bool.false_eq_true, beq_iff_eq] at k
    subst k
    simp only [xcode, Option.some.injEq] at e
    subst e
    exact wp_exit (hQ a w so)
  | ret =>
    intro c k st r a w Q e so hQ
    cases c <;> simp only [chkCode, Bool.false_eq_true] at k
    simp only [xcode, Option.some.injEq] at e
    subst e
    exact wp_ret (hQ a w so)
end
end Go.Proofs.Sl

namespace Go.Proofs.Sl

/-- What has been frozen on the way out; fb: boxes, too. -/
structure Frz (fb : Bool) (base : Nat) (h h1 : H) : Prop where
  len : h1.length = h.length
  get : ∀ l, h1[l]? = h[l]? ∨ (base ≤ l ∧ ((∃ k es z, h[l]? = some (.arr z k es) ∧ h1[l]? = some (.arr true k es)) ∨ (fb = true ∧ ∃ cs z, h[l]? = some (.box z cs) ∧ h1[l]? = some (.box true cs))))

theorem Frz.refl (fb : Bool) (base : Nat) (h : H) : Frz fb base h h := ⟨rfl, fun _ => .inl rfl⟩
theorem Frz.old {fb : Bool} {base : Nat} {h h1 : H} (Z : Frz fb base h h1) {l : Nat} (hl : l < base) : h1[l]? = h[l]? := by
  rcases Z.get l with e | ⟨e, _⟩
  · exact e
  · omega
theorem Frz.arr {fb : Bool} {base : Nat} {h h1 : H} (Z : Frz fb base h h1) {l k : Nat} {z : Bool} {es : List V} (e : h[l]? = some (.arr z k es)) : ∃ z', h1[l]? = some (.arr z' k es) ∧ (z = true → z' = true) := by
  rcases Z.get l with e1 | ⟨_, ⟨k', es', z', e1, e2⟩ | ⟨_, cs, z', e1, e2⟩⟩
  · exact ⟨z, by rw [e1, e], id⟩
  · rw [e] at e1
    injection e1 with e1
    injection e1 with h1 h2 h3
    subst h1 h2 h3
    exact ⟨true, e2, fun _ => rfl⟩
  · rw [e] at e1
    cases e1
theorem Frz.box {fb : Bool} {base : Nat} {h h1 : H} (Z : Frz fb base h h1) {l : Nat} {z : Bool} {cs : List V} (e : h[l]? = some (.box z cs)) : (∃ z', h1[l]? = some (.box z' cs)) ∧ (fb = false → h1[l]? = some (.box z cs)) := by
  rcases Z.get l with e1 | ⟨_, ⟨k', es', z', e1, e2⟩ | ⟨hf, cs', z', e1, e2⟩⟩
  · exact ⟨⟨z, by rw [e1, e]⟩, fun _ => by rw [e1, e]⟩
  · rw [e] at e1
    cases e1
  · rw [e] at e1
    injection e1 with e1
    injection e1 with h1 h2
    subst h1 h2
    exact ⟨⟨true, e2⟩, fun h => by rw [hf] at h; cases h⟩
theorem Frz.setArr {fb : Bool} {base : Nat} {h h1 : H} (Z : Frz fb base h h1) {l k : Nat} {z : Bool} {es : List V} (hl : base ≤ l) (e : h[l]? = some (.arr z k es)) : Frz fb base h (h1.set l (.arr true k es)) := by
  refine ⟨by simp [Z.len], fun q => ?_⟩
  rw [set_get]
  split
  · rename_i hq
    subst hq
    rw [if_pos (by rw [Z.len]; exact lt_of_get e)]
    exact .inr ⟨hl, .inl ⟨k, es, z, e, rfl⟩⟩
  · exact Z.get q
theorem Frz.setBox {base : Nat} {h h1 : H} (Z : Frz true base h h1) {l : Nat} {z : Bool} {cs : List V} (hl : base ≤ l) (e : h[l]? = some (.box z cs)) : Frz true base h (h1.set l (.box true cs)) := by
  refine ⟨by simp [Z.len], fun q => ?_⟩
  rw [set_get]
  split
  · rename_i hq
    subst hq
    rw [if_pos (by rw [Z.len]; exact lt_of_get e)]
    exact .inr ⟨hl, .inr ⟨rfl, cs, z, e, rfl⟩⟩
  · exact Z.get q

def RK.fits (fb : Bool) : RK → Bool
  | .v => true
  | .o => !fb
  | .f => fb

def chkRes (P : Program) (N : Nat) (fb : Bool) : List ResultVar → List ((Nat ⊕ (Nat × Nat × Bool)) × RK) → Bool
  | [], [] => true
  | .tmp t :: r, (.inl u, k) :: l => t == u && decide (t < N) && k.fits fb && chkRes P N fb r l
  | .cell t ty :: r, (.inr (u, n, g), k) :: l => t == u && decide (t < N) && sizeIs P ty n && aggIs P ty g && k.fits fb && chkRes P N fb r l
  | _, _ => false
def fbOf (l : List ((Nat ⊕ (Nat × Nat × Bool)) × RK)) : Bool := l.any fun p => match p.2 with
  | .f => true
  | _ => false

section
variable {P : Program} {φ : Nat → Option FuncId} {h h' : H} {g g' : G} {w w' : World} {N : Nat} {s : Sl} {a : Act} {base : Nat}

/-- The machine's reading of one result. -/
def resF (tmps : Array Value) : ResultVar → Sem Value
  | .tmp t => pure (tmps.getD t undef)
  | .cell ad t => do loadVar t (← asAddr (tmps.getD ad undef))

/-- A result on its way back. -/
def Fin (φ : Nat → Option FuncId) (base lt : Nat) (tail : List O) (h : H) (g : G) (v : V) (mv : Value) : Prop :=
  (v.top ≤ base ∧ rel φ g h false v mv) ∨ (tail ≠ [] ∧ v = .ptr base 0 ∧ base ≤ lt ∧ IsBox h lt ∧ mv = .pointer (some ⟨g.b (.obj lt), 0, none⟩))

theorem Fin.later {lt : Nat} {tail : List O} {v : V} {mv : Value} (f : Fin φ base lt tail h g v mv) (L : Later g h g' h') : Fin φ base lt tail h' g' v mv := by
  rcases f with ⟨h1, h2⟩ | ⟨h0, h1, h2, h3, h4⟩
  · exact .inl ⟨h1, rel_later L _ _ _ h2⟩
  · obtain ⟨h5, h6⟩ := L.box lt h3
    exact .inr ⟨h0, h1, h2, h5, by rw [h6]; exact h4⟩

/-- The machine's result. -/
theorem resV_ok (R : SR φ h g w) (S : Slots φ g h N s a) {rv : ResultVar} {r : Nat ⊕ (Nat × Nat × Bool)} {k : RK} {fb : Bool} {rr : List ResultVar} {l : List ((Nat ⊕ (Nat × Nat × Bool)) × RK)} (hk : chkRes P N fb (rv :: rr) ((r, k) :: l) = true) {v : V} (e : resV s h r = some v) :
    k.fits fb = true ∧ chkRes P N fb rr l = true ∧ ∃ mv, (resF a.tmps rv).run P w = .ok mv w ∧ rel φ g h false v mv := by
  cases rv with
  | tmp t => cases r with
    | inl u =>
      simp only [chkRes, Bool.and_eq_true, beq_iff_eq, decide_eq_true_eq] at hk
      obtain ⟨⟨⟨rfl, ht⟩, h1⟩, h2⟩ := hk
      simp only [resV, Option.some.injEq] at e
      subst e
      exact ⟨h1, h2, _, rfl, S.rel t ht⟩
    | inr p => simp [chkRes] at hk
  | cell ad ty => cases r with
    | inl u => simp [chkRes] at hk
    | inr p =>
      obtain ⟨u, n, gg⟩ := p
      simp only [chkRes, Bool.and_eq_true, beq_iff_eq, decide_eq_true_eq] at hk
      obtain ⟨⟨⟨⟨⟨rfl, ht⟩, hs⟩, ha⟩, h1⟩, h2⟩ := hk
      simp only [resV] at e
      have hr := S.rel ad ht
      obtain ⟨mv, h3, h4⟩ := load_ok (P := P) R hs ha hr e
      refine ⟨h1, h2, mv, ?_, h4⟩
      have hp : ∃ q, a.tmps.getD ad undef = .pointer (some q) := by
        unfold xload at e
        split at e
        · rename_i hx; rw [hx] at hr; simp only [rel] at hr; exact ⟨_, hr.2.1⟩
        · rename_i hx; rw [hx] at hr; simp only [rel] at hr; obtain ⟨_, _, _, hr, _⟩ := hr; exact ⟨_, hr⟩
        · rename_i hx; rw [hx] at hr; simp only [rel] at hr; exact hr.2.1
        · cases e
      obtain ⟨q, hq⟩ := hp
      rw [hq] at h3
      simp only [Instr.loadAt, Instr.sureAddr, Sem.run_bind, Sem.run_pure, Result.andThen_ok] at h3
      simp only [resF, hq, asAddr, Sem.run_bind, Sem.run_pure, Result.andThen_ok, h3]

theorem retV_ok {fb : Bool} {k : RK} {v v' : V} {mv : Value} {tail tail' : List O} {lt : Nat} {h1 : H} {g1 : G} (hfit : k.fits fb = true) (Z : Frz fb base h h1) (R1 : SR φ h1 g1 w) (L1 : Later g h g1 h1) (hb : base ≤ h.length) (r : rel φ g h false v mv) (ht : Tail h base lt tail)
    (e : retV base h k v tail = some (v', tail')) :
    ∃ h2 g2 lt', Frz fb base h h2 ∧ SR φ h2 g2 w ∧ Ext h1 g1 w h2 g2 w ∧ Tail h base lt' tail' ∧ (tail ≠ [] → lt' = lt ∧ tail' = tail) ∧ (fb = true → tail' = tail) ∧ Fin φ base lt' tail' h2 g2 (res0 v') mv := by
  have same : ∀ u : V, u.top ≤ base → rel φ g1 h1 false (res0 u) mv → (res0 u).top ≤ base → ∃ h2 g2 lt', Frz fb base h h2 ∧ SR φ h2 g2 w ∧ Ext h1 g1 w h2 g2 w ∧ Tail h base lt' tail ∧ (tail ≠ [] → lt' = lt ∧ tail = tail) ∧ (fb = true → tail = tail) ∧ Fin φ base lt' tail h2 g2 (res0 u) mv :=
    fun u _ h2 h3 => ⟨h1, g1, lt, Z, R1, Ext.refl _ _ _, ht, fun _ => ⟨rfl, rfl⟩, fun _ => rfl, .inl ⟨h3, h2⟩⟩
  have r1 := rel_later L1 _ _ _ r
  cases k with
  | v =>
    simp only [retV] at e
    split at e
    · rename_i l n
      split at e
      · rename_i hl
        injection e with e
        injection e with e1 e2
        subst e1 e2
        exact same _ (by simp only [V.top]; omega) r1 (by simp only [res0, V.top]; omega)
      · rename_i hl
        obtain ⟨p, e1, e⟩ := ob_eq_some.1 e
        obtain ⟨ha, hn⟩ := arrN_ok e1
        split at e
        · rename_i hc
          injection e with e
          injection e with e2 e3
          subst e2 e3
          obtain ⟨z', ha1, _⟩ := Z.arr ha
          obtain ⟨g2, R2, X2, hfr⟩ := R1.freeze ha1 hc
          rw [← hn] at r1
          have hv : res0 (if p.1 = true then V.lst p.2.1 p.2.2 else V.own p.2.1 p.2.2) = .lst p.2.1 p.2.2 := by split <;> rfl
          rw [hv]
          exact ⟨_, g2, lt, Z.setArr (by omega) ha, R2, X2, ht, fun _ => ⟨rfl, rfl⟩, fun _ => rfl, .inl ⟨Nat.zero_le _, rel_closed (fun _ _ _ e => e) false _ _ (hfr mv r1)⟩⟩
        · cases e
    · injection e with e
      injection e with e1 e2
      subst e1 e2
      refine same _ (Nat.zero_le _) ?_ (Nat.zero_le _)
      simp only [rel] at r1
      simp only [res0, rel]
      exact .inl r1.2.1
    · cases e
    · cases e
    · cases e
    · split at e
      · rename_i n1 n2 n3 n4 n5 hx
        injection e with e
        injection e with e1 e2
        subst e1 e2
        have hr0 : res0 v = v := by
          cases v <;> first | rfl | exact absurd rfl (n4 _ _)
        refine same v hx ?_ ?_
        · rw [hr0]; exact r1
        · rw [hr0]; exact hx
      · cases e
  | o =>
    simp only [retV] at e
    split at e
    · rename_i l
      split at e
      · rename_i hl
        injection e with e
        injection e with e1 e2
        subst e1 e2
        exact same _ (by simp only [V.top]; omega) r1 (by simp only [res0, V.top]; omega)
      · rename_i hl
        obtain ⟨p, e1, e⟩ := ob_eq_some.1 e
        have hbx := boxAt_ok e1
        split at e
        · rename_i hc
          injection e with e
          injection e with e2 e3
          subst e2 e3
          have ht0 : tail = [] := List.eq_nil_of_length_eq_zero hc.2
          subst ht0
          have hfb : fb = false := by simpa [RK.fits] using hfit
          refine ⟨h1, g1, l, Z, R1, Ext.refl _ _ _, .inr ⟨p.1, p.2, by omega, hbx, hc.1, rfl⟩, fun h => (h rfl).elim, fun h => by (rw [hfb] at h; cases h), .inr ⟨by simp, rfl, by omega, ⟨_, _, (Z.box hbx).2 hfb⟩, ?_⟩⟩
          simp only [rel] at r1
          exact r1.2.1
        · cases e
    · injection e with e
      injection e with e1 e2
      subst e1 e2
      exact same _ (Nat.zero_le _) r1 (Nat.zero_le _)
    · cases e
  | f =>
    simp only [retV] at e
    split at e
    · rename_i l o
      split at e
      · cases e
      · rename_i hl
        obtain ⟨p, e1, e⟩ := ob_eq_some.1 e
        have hbx := boxAt_ok e1
        split at e
        · rename_i hc
          injection e with e
          injection e with e2 e3
          subst e2 e3
          have hfb : fb = true := by simpa [RK.fits] using hfit
          subst hfb
          obtain ⟨⟨z', hb1⟩, _⟩ := Z.box hbx
          obtain ⟨g2, R2, X2, hgb, ms, rr, hM, hone⟩ := R1.freezeBox hb1 hc
          refine ⟨_, g2, lt, Z.setBox (by omega) hbx, R2, X2, ht, fun _ => ⟨rfl, rfl⟩, fun _ => rfl, .inl ⟨by simp [res0, V.top], ?_⟩⟩
          simp only [rel] at r1
          simp only [res0, rel]
          refine ⟨g1.b (.obj l), 0, .agg ms.toArray, by rw [Nat.zero_add]; exact r1.2.1, ⟨ms.toArray, rfl, rr⟩, fun j u eu => ?_⟩
          rw [Nat.zero_add]
          simp only [Value.cells, List.getElem?_toArray] at eu
          exact hM j u eu
        · cases e
    · injection e with e
      injection e with e1 e2
      subst e1 e2
      refine same _ (Nat.zero_le _) ?_ (Nat.zero_le _)
      exact r1
    · injection e with e
      injection e with e1 e2
      subst e1 e2
      exact same _ (Nat.zero_le _) r1 (Nat.zero_le _)
    · cases e

theorem retVs_ok {fb : Bool} (R : SR φ h g w) (S : Slots φ g h N s a) (hb : base ≤ h.length) : ∀ (rv : List ResultVar) (l : List ((Nat ⊕ (Nat × Nat × Bool)) × RK)) (tail tail' : List O) (vs : List V) (lt : Nat) (h1 : H) (g1 : G), chkRes P N fb rv l = true → retVs base s h l tail = some (vs, tail') →
    Frz fb base h h1 → SR φ h1 g1 w → Later g h g1 h1 → Tail h base lt tail →
    ∃ h2 g2 lt' ms, Frz fb base h h2 ∧ SR φ h2 g2 w ∧ Ext h1 g1 w h2 g2 w ∧ Tail h base lt' tail' ∧ (tail ≠ [] → lt' = lt ∧ tail' = tail) ∧ (fb = true → tail' = tail) ∧
      (rv.mapM (resF a.tmps)).run P w = .ok ms w ∧ vs.length = ms.length ∧ ∀ (i : Nat) (v : V) (m : Value), vs[i]? = some v → ms[i]? = some m → Fin φ base lt' tail' h2 g2 (res0 v) m
  | [], [], tail, tail', vs, lt, h1, g1, hk, e, Z, R1, L1, ht => by
    simp only [retVs, Option.some.injEq, Prod.mk.injEq] at e
    obtain ⟨rfl, rfl⟩ := e
    exact ⟨h1, g1, lt, [], Z, R1, Ext.refl _ _ _, ht, fun _ => ⟨rfl, rfl⟩, fun _ => rfl, by simp, rfl, fun i v m e => by simp at e⟩
  | rv :: rr, (r, k) :: l, tail, tail', vs, lt, h1, g1, hk, e, Z, R1, L1, ht => by
    simp only [retVs] at e
    obtain ⟨v, e1, e⟩ := ob_eq_some.1 e
    obtain ⟨⟨v1, t1⟩, e2, e⟩ := ob_eq_some.1 e
    obtain ⟨⟨v2, t2⟩, e3, e⟩ := ob_eq_some.1 e
    injection e with e
    injection e with e4 e5
    subst e4 e5
    obtain ⟨hfit, hk2, mv, hrun, hrel⟩ := resV_ok (P := P) R S hk e1
    obtain ⟨h2, g2, lt2, Z2, R2, X2, ht2, hs2, hf2, F2⟩ := retV_ok hfit Z R1 L1 hb hrel ht e2
    obtain ⟨h3, g3, lt3, ms, Z3, R3, X3, ht3, hs3, hf3, hrun3, hlen, F3⟩ := retVs_ok R S hb rr l t1 t2 v2 lt2 h2 g2 hk2 e3 Z2 R2 (L1.trans X2.later) ht2
    have hF2 : Fin φ base lt3 t2 h3 g3 (res0 v1) mv := by
      have F2' := F2.later X3.later
      rcases F2' with ⟨q1, q2⟩ | ⟨q0, q1, q2, q3, q4⟩
      · exact .inl ⟨q1, q2⟩
      · obtain ⟨e1, e2⟩ := hs3 q0
        rw [e1, e2]
        exact .inr ⟨q0, q1, q2, q3, q4⟩
    refine ⟨h3, g3, lt3, mv :: ms, Z3, R3, X2.trans X3, ht3, fun hne => ?_, fun hf => (hf3 hf).trans (hf2 hf), ?_, by simp [hlen], fun i v m ev em => ?_⟩
    · obtain ⟨q1, q2⟩ := hs2 hne
      have : t1 ≠ [] := by rw [q2]; exact hne
      obtain ⟨q3, q4⟩ := hs3 this
      exact ⟨q3.trans q1, q4.trans q2⟩
    · rw [List.mapM_cons, Sem.run_bind, hrun, Result.andThen_ok, Sem.run_bind, hrun3]
      rfl
    · cases i with
      | zero =>
        simp only [List.getElem?_cons_zero, Option.some.injEq] at ev em
        subst ev em
        exact hF2
      | succ i => exact F3 i v m (by simpa using ev) (by simpa using em)
  | [], _ :: _, _, _, _, _, _, _, hk, _, _, _, _, _ => by simp [chkRes] at hk
  | rv :: _, [], _, _, _, _, _, _, hk, _, _, _, _, _ => by cases rv <;> simp [chkRes] at hk
end
end Go.Proofs.Sl

namespace Go.Proofs.Sl

def chkFun (P : Program) (φ : Nat → Option FuncId) (fn : Func) (X : XF) : Bool := match fn.body with
  | some c => chkCode P φ fn.ntmps c X.body && decide (X.np ≤ fn.ntmps) && chkRes P fn.ntmps (fbOf X.results) fn.results.toList X.results
  | none => false

section
variable {P : Program} {φ : Nat → Option FuncId} {h h' : H} {g g' : G} {w w' : World} {N : Nat} {s : Sl} {a : Act} {base : Nat}

theorem args0_ok {args : List V} {ms : List Value} {n : Nat} (r : rels φ g h false args ms) (hn : args.length ≤ n) : Slots φ g h n (args0 args) { tmps := ms.toArray ++ Array.replicate (n - ms.toArray.size) undef, defers := [] } := by
  have hl := rels_length r
  refine ⟨rfl, by simp; omega, fun t ht => ?_⟩
  simp only [args0, List.getD_eq_getElem?_getD, Array.getD_eq_getD_getElem?]
  by_cases h1 : t < args.length
  · have hv := List.getElem?_eq_getElem h1
    obtain ⟨m, e1, r1⟩ := rels_get r hv
    rw [hv, Array.getElem?_append_left (by simp; omega), List.getElem?_toArray, e1]
    exact r1
  · rw [List.getElem?_eq_none (by omega), Array.getElem?_append_right (by simp; omega), Array.getElem?_replicate]
    simp only [Option.getD_none]
    split
    · exact rel_of rfl
    · exact rel_of rfl

theorem live_take {n : Nat} (hn : n ≤ h.length) {k : Key} (e : live (h.take n ++ []) k) : live h k ∧ ((∃ q, q < n ∧ k = .obj q) ∨ ∃ q o, q < n ∧ k = .cell q o) := by
  have ht : Tail h n n [] := .inl rfl
  cases k with
  | obj q =>
    rcases e with ⟨z, cs, e⟩ | ⟨z, k, es, e⟩
    · rcases tail_get hn ht e with ⟨hq, e3⟩ | ⟨_, _, _, _, _, _, _, h0⟩
      · exact ⟨.inl ⟨z, cs, e3⟩, .inl ⟨q, hq, rfl⟩⟩
      · cases h0
    · rcases tail_get hn ht e with ⟨hq, e3⟩ | ⟨_, _, _, _, _, _, _, h0⟩
      · exact ⟨.inr ⟨z, k, es, e3⟩, .inl ⟨q, hq, rfl⟩⟩
      · cases h0
  | cell q o =>
    obtain ⟨x, n', e, k⟩ := e
    have e' := e
    obtain ⟨z, cs, e1, e2⟩ := cellAt_box e
    rcases tail_get hn ht e1 with ⟨hq, e3⟩ | ⟨_, _, _, _, _, _, _, h0⟩
    · exact ⟨⟨x, n', by rw [cellAt_of e3]; exact e2, k⟩, .inr ⟨q, o, hq, rfl⟩⟩
    · cases h0

/-- The one result of a function, a list of its own. -/
theorem own_ok {h0 : H} {g0 : G} {w0 : World} (R : SR φ h g w) (X : Ext h0 g0 w0 h g w) (hb : h0.length = base) (hn : base ≤ h.length) {l k : Nat} {es : List V} {mv : Value} (hl : base ≤ l) (ha : h[l]? = some (.arr false k es)) (hc : V.closed.closeds es = true)
    (r : rel φ g h false (.ref l es.length) mv) (lt : Nat) : RetOk φ w0.heap.size (h.take base ++ []) (g.ren base lt) w (.own k es) mv := by
  simp only [rel] at r
  obtain ⟨_, _, _, r⟩ := r
  have hm := (r _ _ _ ha).2 rfl
  obtain ⟨cur, E, ms, e, s, n1, n2, rr, wd, t, _, k3⟩ := R.arr l false k es ha
  have rt := rels_true es ms hc rr
  refine ⟨g.b (.obj l), g.c (.obj l), ?_, ?_⟩
  · rcases X.arrB l false k es ha with ⟨z', es', e1, _⟩ | h1
    · have := lt_of_get e1
      omega
    · exact h1
  · refine ⟨hm, ⟨cur, E, ms, e, s, rels_closed (g := g) (h := h) (g' := g.ren base lt) (h' := h.take base ++ []) (fun _ _ _ e => e) true _ _ rt, t⟩, n1, n2, wd, hc, k3 rfl, fun key hk => ?_⟩
    obtain ⟨h1, h2⟩ := live_take hn hk
    rcases h2 with ⟨q, hq, rfl⟩ | ⟨q, o, hq, rfl⟩
    · rw [(ren_lt hq).1]
      intro e
      have := R.inj _ (.obj l) h1 (Or.inr ⟨_, _, _, ha⟩) e
      injection this with this
      omega
    · rw [((ren_lt hq).2.2 o).1]
      intro e
      have := R.inj _ (.obj l) h1 (Or.inr ⟨_, _, _, ha⟩) e
      cases this

theorem retV_own {k : RK} {v : V} {kk : Nat} {es : List V} {tail tail' : List O} (e : retV base h k v tail = some (.own kk es, tail')) : ∃ l n, v = .ref l n ∧ base ≤ l ∧ h[l]? = some (.arr false kk es) ∧ es.length = n ∧ V.closed.closeds es = true ∧ tail' = tail := by
  cases k with
  | v =>
    simp only [retV] at e
    split at e
    · rename_i l n
      split at e
      · cases e
      · rename_i hl
        obtain ⟨p, e1, e⟩ := ob_eq_some.1 e
        obtain ⟨ha, hn⟩ := arrN_ok e1
        split at e
        · rename_i hc
          injection e with e
          injection e with e2 e3
          split at e2
          · cases e2
          · rename_i hp
            injection e2 with e4 e5
            subst e4 e5
            have hp : p.1 = false := by simpa using hp
            rw [hp] at ha
            exact ⟨l, n, rfl, by omega, ha, hn, hc, e3.symm⟩
        · cases e
    · cases e
    · cases e
    · cases e
    · cases e
    · rename_i n1 n2 n3 n4 n5
      split at e
      · injection e with e
        injection e with e2 e3
        exact absurd e2 (n4 _ _)
      · cases e
  | o =>
    simp only [retV] at e
    split at e
    · split at e
      · cases e
      · obtain ⟨p, e1, e⟩ := ob_eq_some.1 e
        split at e
        · cases e
        · cases e
    · cases e
    · cases e
  | f =>
    simp only [retV] at e
    split at e
    · split at e
      · cases e
      · obtain ⟨p, e1, e⟩ := ob_eq_some.1 e
        split at e
        · cases e
        · cases e
    · cases e
    · cases e
    · cases e

theorem results_eq (fn : Func) (tmps : Array Value) : results fn tmps = (do
    let vs ← fn.results.mapM (resF tmps)
    pure (if h : vs.size = 1 then vs[0] else .tuple vs)) := by
  unfold results
  congr 1

theorem back_ok {h0 : H} {g0 : G} {w0 : World} {F : XF} {fn : Func} (hres : chkRes P fn.ntmps (fbOf F.results) fn.results.toList F.results = true) (hb : h0.length = base) {st : St} (R : SR φ st.h g w) (X : Ext h0 g0 w0 st.h g w) (S : Slots φ g st.h fn.ntmps st.s a) (hn : base ≤ st.h.length)
    (htop : ∀ q o, q < base → st.h[q]? = some o → o.top ≤ base) {p : List V × List O} (e : retVs base st.s st.h F.results [] = some p) :
    ∃ mv g', (results fn a.tmps).run P w = .ok mv w ∧ SR φ (st.h.take base ++ p.2) g' w ∧ Ext h0 g0 w0 (st.h.take base ++ p.2) g' w ∧ RetOk φ w0.heap.size (st.h.take base ++ p.2) g' w (V.ofRes p.1) mv := by
  obtain ⟨vs, tail⟩ := p
  obtain ⟨h2, g2, lt, ms, Z, R2, X2, ht, _, hf, hrun, hlen, hfin⟩ := retVs_ok (P := P) R S hn fn.results.toList F.results [] tail vs 0 st.h g hres e (Frz.refl _ _ _) R (Later.refl _ _) (.inl rfl)
  have hrun' : (fn.results.mapM (resF a.tmps)).run P w = .ok ms.toArray w := by
    have hl : fn.results = fn.results.toList.toArray := by simp
    rw [hl, List.mapM_toArray, Sem.run_map, hrun]
    rfl
  by_cases hown : ∃ k es, vs = [.own k es]
  · -- one list of its own
    obtain ⟨k, es, rfl⟩ := hown
    have hl1 : ms.length = 1 := by rw [← hlen]; rfl
    obtain ⟨m, rfl⟩ : ∃ m, ms = [m] := List.length_eq_one_iff.1 hl1
    cases hrv : fn.results.toList with
    | nil => rw [hrv] at hrun; simp at hrun
    | cons rv rr =>
      cases hfr : F.results with
      | nil => rw [hfr] at e; simp [retVs] at e
      | cons rk l =>
        obtain ⟨r0, k0⟩ := rk
        rw [hfr] at e
        rw [hrv, hfr] at hres
        simp only [retVs] at e
        obtain ⟨v, e1, e⟩ := ob_eq_some.1 e
        obtain ⟨⟨v1, t1⟩, e2, e⟩ := ob_eq_some.1 e
        obtain ⟨⟨v2, t2⟩, e3, e⟩ := ob_eq_some.1 e
        injection e with e
        injection e with e4 e5
        injection e4 with e4 e6
        subst e4 e5 e6
        obtain ⟨_, hk2, mv, hr1, hrel⟩ := resV_ok (P := P) R S hres e1
        have hl : l = [] := by
          cases l with
          | nil => rfl
          | cons q l =>
            simp only [retVs] at e3
            obtain ⟨_, _, e3⟩ := ob_eq_some.1 e3
            obtain ⟨_, _, e3⟩ := ob_eq_some.1 e3
            obtain ⟨_, _, e3⟩ := ob_eq_some.1 e3
            cases e3
        subst hl
        simp only [retVs, Option.some.injEq, Prod.mk.injEq, true_and] at e3
        subst e3
        obtain ⟨lq, nq, rfl, hbl, ha, hnq, hc, rfl⟩ := retV_own e2
        have hrr : rr = [] := by
          cases rr with
          | nil => rfl
          | cons q rr => simp [chkRes] at hk2
        subst hrr
        have hm : m = mv := by
          rw [hrv, List.mapM_cons, Sem.run_bind, hr1, Result.andThen_ok] at hrun
          simp at hrun
          exact hrun.symm
        subst hm
        rw [← hnq] at hrel
        refine ⟨m, g.ren base 0, ?_, R.back hn htop (.inl rfl), X.back hb hn (.inl rfl), own_ok R X hb hn hbl ha hc hrel 0⟩
        rw [results_eq, Sem.run_bind, hrun']
        rfl
  · have hn2 : base ≤ h2.length := by rw [Z.len]; exact hn
    have htk : h2.take base = st.h.take base := by
      apply List.ext_getElem?
      intro q
      rw [List.getElem?_take, List.getElem?_take]
      split
      · rename_i hq
        exact Z.old hq
      · rfl
    have ht2 : Tail h2 base lt tail := by
      rcases ht with rfl | ⟨z, cs, h1, h3, h4, rfl⟩
      · exact .inl rfl
      · refine .inr ⟨z, cs, h1, (Z.box h3).2 ?_, h4, rfl⟩
        cases hfb : fbOf F.results with
        | false => rfl
        | true =>
          have := hf hfb
          cases this
    have htop2 : ∀ q o, q < base → h2[q]? = some o → o.top ≤ base := fun q o hq e => htop q o hq (by rw [← Z.old hq]; exact e)
    have R3 := R2.back hn2 htop2 ht2
    have X3 := (X.trans X2).back hb hn2 ht2
    rw [htk] at R3 X3
    have hfin3 : ∀ (i : Nat) (v : V) (m : Value), vs[i]? = some v → ms[i]? = some m → rel φ (g2.ren base lt) (st.h.take base ++ tail) false (res0 v) m := by
      intro i v m ev em
      rcases hfin i v m ev em with ⟨h1, h3⟩ | ⟨h1, h3, h4, h5, h6⟩
      · have := rel_take (t := tail) (g := g2) hn2 (g' := g2.ren base lt) (fun _ _ _ e => e) (fun q hq => ren_lt hq) false (res0 v) m h1 h3
        rw [htk] at this
        exact this
      · rw [h3]
        simp only [rel]
        refine ⟨trivial, by rw [ren_eq.1]; exact h6, ?_⟩
        rcases ht2 with rfl | ⟨z, cs, _, _, _, rfl⟩
        · exact absurd rfl h1
        · refine ⟨z, cs, ?_⟩
          have hlk : (st.h.take base).length = base := by simp; omega
          rw [List.getElem?_append_right (by omega), hlk, Nat.sub_self]
          rfl
    refine ⟨if h : ms.toArray.size = 1 then ms.toArray[0] else .tuple ms.toArray, g2.ren base lt, ?_, R3, X3, ?_⟩
    · rw [results_eq, Sem.run_bind, hrun']
      rfl
    · by_cases h1 : vs.length = 1
      · obtain ⟨v, rfl⟩ := List.length_eq_one_iff.1 h1
        obtain ⟨m, rfl⟩ := List.length_eq_one_iff.1 (hlen ▸ h1)
        have := hfin3 0 v m rfl rfl
        have hno : ∀ k es, v ≠ .own k es := fun k es hv => hown ⟨k, es, by rw [hv]⟩
        have hr0 : res0 v = v := by cases v <;> first | rfl | exact absurd rfl (hno _ _)
        rw [hr0] at this
        simp only [V.ofRes]
        cases v <;> first | exact this | exact absurd rfl (hno _ _)
      · have hof : V.ofRes vs = .tup (vs.map res0) := by
          unfold V.ofRes
          split
          · exact absurd rfl h1
          · rfl
        have hms : ¬ ms.toArray.size = 1 := by simp; omega
        rw [hof, dif_neg hms]
        simp only [RetOk, rel]
        refine ⟨ms.toArray, rfl, rels_of (by simp [hlen]) fun i v m ev em => ?_⟩
        rw [List.getElem?_map] at ev
        cases hv : vs[i]? with
        | none => rw [hv] at ev; cases ev
        | some u =>
          rw [hv] at ev
          injection ev with ev
          subst ev
          exact hfin3 i u m hv em

theorem fun_ok (hfol : P.follows .mixedOrders = true) (Tk : TOk P φ) {cf : CallF} (F : FOk P φ cf) (HG : CfHG cf) (n : Nat) {id : FuncId} {fn : Func} (hf : P.funcs[id]? = some fn) {X : XF} (k : chkFun P φ fn X = true) {args : List V} {v : V} (e : xfun cf (loopN n) X args h = some (v, h'))
    (R : SR φ h g w) {ms : List Value} (r : rels φ g h false args ms) :
    Calls P id ms.toArray w fun e w' => ∃ mv g', e = .returned mv ∧ SR φ h' g' w' ∧ Ext h g w h' g' w' ∧ RetOk φ w.heap.size h' g' w' v mv := by
  unfold chkFun at k
  split at k
  · rename_i c hbody
    simp only [Bool.and_eq_true, decide_eq_true_eq] at k
    obtain ⟨⟨k1, k2⟩, k3⟩ := k
    unfold xfun at e
    split at e
    · rename_i hnp
      obtain ⟨rr, e1, e⟩ := ob_eq_some.1 e
      refine calls_of_wp hf hbody ?_
      have hg1 := xcode_HG (base := h.length) (st := ⟨args0 args, h⟩) HG n X.body (Nat.le_refl _) e1
      refine code_ok (base := h.length) (h0 := h) (g0 := g) (w0 := w) hfol Tk F n X.body c k1 ⟨args0 args, h⟩ rr _ w _ e1 ⟨g, R, Ext.refl _ _ _, args0_ok r (by omega)⟩ ?_
      rintro a' w' ⟨g1, R1, X1, S1⟩
      have htop : ∀ q o, q < h.length → rr.2.h[q]? = some o → o.top ≤ h.length := fun q o hq eo => by
        obtain ⟨o1, h1, h2⟩ := hg1.2 q o hq eo
        have := R.top h1
        omega
      have hfinal : ∀ p, retVs h.length rr.2.s rr.2.h X.results [] = some p → (v, h') = (V.ofRes p.1, rr.2.h.take h.length ++ p.2) → a'.defers = [] ∧ ∃ mv, (results fn a'.tmps).run P w' = .ok mv w' ∧ ∃ mv' g', Ending.returned mv = .returned mv' ∧ SR φ h' g' w' ∧ Ext h g w h' g' w' ∧ RetOk φ w.heap.size h' g' w' v mv' := by
        intro p hp hv
        injection hv with hv1 hv2
        subst hv1 hv2
        obtain ⟨mv, g', q1, q2, q3, q4⟩ := back_ok (P := P) k3 rfl R1 X1 S1 hg1.1 htop hp
        exact ⟨S1.defers, mv, q1, mv, g', rfl, q2, q3, q4⟩
      unfold xback at e
      split at e
      · cases e
      · rename_i hne
        obtain ⟨p, e2, e⟩ := ob_eq_some.1 e
        injection e with e
        have := hfinal p e2 e.symm
        cases hr : rr.1 with
        | norm => exact this
        | ret => exact this
        | exit i => exact absurd hr (hne i)
    · cases e
  · cases k

/-- What is checked of a table of functions. -/
structure Table (P : Program) (φ : Nat → Option FuncId) (XP : Nat → Option XF) : Prop where
  follows : P.follows .mixedOrders = true
  there : TOk P φ
  code : ∀ f id X, φ f = some id → XP f = some X → ∃ fn, P.funcs[id]? = some fn ∧ chkFun P φ fn X = true

theorem runN_ok {XP : Nat → Option XF} (Tb : Table P φ XP) : ∀ n, FOk P φ (runN XP n)
  | 0 => fun f id args h v h' _ e => by cases e
  | n + 1 => fun f id args h v h' hid e g w ms R r => by
    simp only [runN] at e
    obtain ⟨X, e1, e⟩ := ob_eq_some.1 e
    obtain ⟨fn, h1, h2⟩ := Tb.code f id X hid e1
    exact fun_ok Tb.follows Tb.there (runN_ok Tb n) (runN_HG XP n) n h1 h2 e R r
end
end Go.Proofs.Sl

namespace Go.Proofs.Sl
open Go.ChangeShapes Go.WideShapes Go.ChangeAt Go.RowKit Go.ChangeMaps

/-- The types of arguments that are told. -/
inductive Ty where
  | b
  | i (k : IntKind)
  | s
  | sl (e : Ty)
  | st (fs : List Ty)
  | ar (n : Nat) (e : Ty)
  deriving Inhabited

def Ty.cells : Ty → Nat
  | .st fs => sum fs
  | .ar n e => n * e.cells
  | _ => 1
where sum : List Ty → Nat
  | [] => 0
  | f :: r => f.cells + sum r

/-- Is it more than one cell's value? -/
def Ty.isAgg : Ty → Bool
  | .st _ | .ar .. => true
  | _ => false

mutual
/-- The cells of a value of this type. -/
def Ty.ok : Ty → List V → Prop
  | .b, cs => ∃ x, cs = [vb x]
  | .i k, cs => ∃ n, cs = [vk k n] ∧ (Lit.int k n).wf = true
  | .s, cs => ∃ x : ByteArray, cs = [vs x] ∧ x.size ≤ maxLen
  | .sl e, cs => cs = [vnil] ∨ ∃ es, cs = [.lst e.cells es] ∧ es.length ≤ maxLen ∧ ∀ x ∈ es, (if e.isAgg = true then ∃ c, x = .agg c ∧ e.ok c else e.ok [x])
  | .st fs, cs => Ty.oks fs cs
  | .ar n e, cs => ∃ css : List (List V), css.length = n ∧ cs = css.flatten ∧ ∀ c ∈ css, e.ok c
def Ty.oks : List Ty → List V → Prop
  | [], cs => cs = []
  | f :: r, cs => ∃ a b, cs = a ++ b ∧ f.ok a ∧ Ty.oks r b
end
def Ty.okV (e : Ty) (x : V) : Prop := if e.isAgg = true then ∃ c, x = .agg c ∧ e.ok c else e.ok [x]
def Ty.okVs : List Ty → List V → Prop
  | [], [] => True
  | t :: ts, v :: vs => t.okV v ∧ Ty.okVs ts vs
  | _, _ => False

def Ty.fits (P : Program) : Ty → TypeId → Bool
  | .b, t => match P.underlying t with
    | some .bool => true
    | _ => false
  | .i k, t => match P.underlying t with
    | some (.int k') => k == k'
    | _ => false
  | .s, t => match P.underlying t with
    | some .string => true
    | _ => false
  | .sl e, t => match P.underlying t with
    | some (.slice u) => P.cellsOf u == e.cells && decide (0 < e.cells) && (match P.underlying u with | some (.struct _) | some (.array ..) => e.isAgg | _ => !e.isAgg) && e.fits P u
    | _ => false
  | .st fs, t => match P.underlying t with
    | some (.struct a) => P.cellsOf t == Ty.cells.sum fs && go P 0 fs a.toList
    | _ => false
  | .ar n e, t => match P.underlying t with
    | some (.array m u) => m == n && P.cellsOf t == n * e.cells && P.cellsOf u == e.cells && e.fits P u
    | _ => false
where go (P : Program) : Nat → List Ty → List Field → Bool
  | _, [], l => l.isEmpty
  | o, f :: r, x :: l => x.offset == o && P.cellsOf x.type == f.cells && f.fits P x.type && go P (o + f.cells) r l
  | _, _ :: _, [] => false

mutual
theorem Ty.ok_len : ∀ (T : Ty) (cs : List V), T.ok cs → cs.length = T.cells
  | .b, cs, h => by
    simp only [Ty.ok] at h
    obtain ⟨x, rfl⟩ := h
    rfl
  | .i k, cs, h => by
    simp only [Ty.ok] at h
    obtain ⟨n, rfl, _⟩ := h
    rfl
  | .s, cs, h => by
    simp only [Ty.ok] at h
    obtain ⟨x, rfl, _⟩ := h
    rfl
  | .sl e, cs, h => by
    rcases (by simpa only [Ty.ok] using h) with rfl | ⟨es, rfl, _⟩ <;> rfl
  | .st fs, cs, h => by
    simp only [Ty.ok] at h
    exact Ty.oks_len fs cs h
  | .ar n e, cs, h => by
    simp only [Ty.ok] at h
    obtain ⟨css, rfl, rfl, h⟩ := h
    simp only [Ty.cells]
    have : ∀ l : List (List V), (∀ c ∈ l, e.ok c) → l.flatten.length = l.length * e.cells := by
      intro l
      induction l with
      | nil => intro _; simp
      | cons c l ih =>
        intro hl
        simp only [List.flatten_cons, List.length_append, List.length_cons, Nat.add_mul, Nat.one_mul]
        rw [ih fun c hc => hl c (List.mem_cons_of_mem _ hc), Ty.ok_len e c (hl c (by simp)), Nat.add_comm]
    exact this css h
theorem Ty.oks_len : ∀ (fs : List Ty) (cs : List V), Ty.oks fs cs → cs.length = Ty.cells.sum fs
  | [], cs, h => by simp only [Ty.oks] at h; subst h; rfl
  | f :: r, cs, h => by
    simp only [Ty.oks] at h
    obtain ⟨a, b, rfl, h1, h2⟩ := h
    rw [List.length_append, Ty.ok_len f a h1, Ty.oks_len r b h2]
    rfl
end

section
variable {P : Program} {φ : Nat → Option FuncId} {XP : Nat → Option XF}

/-- What the evaluator knows of a world as the call begins: all of it is still. -/
def g0 (W : World) : G := ⟨fun _ => 0, fun _ => 0, fun b o => W.cell? ⟨b, o, none⟩⟩

theorem SR0 (W : World) : SR φ [] (g0 W) W where
  box := fun l z cs e => by simp at e
  arr := fun l z k es e => by simp at e
  own := fun l o x n e _ => by simp [cellAt] at e
  inj := fun a b ha _ _ => by
    cases a with
    | obj l => rcases ha with ⟨z, cs, e⟩ | ⟨z, k, es, e⟩ <;> simp at e
    | cell l o => obtain ⟨x, n, e, _⟩ := ha; simp [cellAt] at e
  mem := fun b o u e => e

theorem not_live (key : Key) : ¬ live [] key := by
  intro h
  cases key with
  | obj l => rcases h with ⟨z, cs, e⟩ | ⟨z, k, es, e⟩ <;> simp at e
  | cell l o => obtain ⟨x, n, e, _⟩ := h; simp [cellAt] at e

/-- What the evaluator answers the call answers; of what there was nothing has changed. -/
theorem law_calls (Tb : Table P φ XP) {f : Nat} {id : FuncId} (hf : φ f = some id) {args : List V} {ms : List Value} {W : World} (r : rels φ (g0 W) [] true args ms) {b : Bool}
    (e : run XP f args [] = some (vb b, [])) : Calls P id ms.toArray W fun e W' => e = .returned (.bool b) ∧ Below W.heap.size W W' := by
  obtain ⟨n, hn⟩ := run_some _ e
  refine (runN_ok Tb n f id args [] _ _ hf hn (g0 W) W ms (SR0 W) (rels_closed (fun _ _ _ e => e) false _ _ r)).mono ?_
  rintro e' W' ⟨mv, g', rfl, R, X, rr⟩
  have hm : mv = .bool b := by
    simp only [RetOk, rel] at rr
    exact rr.1
  subst hm
  exact ⟨rfl, X.os, X.tape, X.output, X.size, fun k hk => X.frame k hk fun key hl => absurd hl (not_live key)⟩

/-! ### Reading an argument -/
variable {H : Type} {enc : TypeId × Value → H} {W : World} {base : Nat} {sp : Nat → Bool} {held : Bool}

theorem cells?_at {b o n : Nat} {s : Option Nat} {cs : List Value} (h : W.cells? base ⟨b, o, s⟩ n = some cs) : cs.length = n ∧ (0 < n → s = none) ∧ ∀ j u, cs[j]? = some u → W.cell? ⟨b, o + j, none⟩ = some u := by
  unfold World.cells? at h
  split at h
  · have hl := mapM_some_length h
    simp only [List.length_range] at hl
    have hg : ∀ j, j < n → W.cell? ((⟨b, o, s⟩ : Addr).add j) = cs[j]? := fun j hj => mapM_some_get h j j (by simp [hj])
    refine ⟨hl, fun hn => ?_, fun j u e => ?_⟩
    · have := hg 0 hn
      have hc : cs[0]? = some (cs[0]'(by omega)) := List.getElem?_eq_getElem (by omega)
      rw [hc] at this
      simp only [Addr.add, if_true] at this
      unfold World.cell? at this
      split at this
      · split at this
        · cases this
        · rename_i hsp; simpa using hsp
      · cases this
    · have hj : j < n := by rw [← hl]; exact (List.getElem?_eq_some_iff.1 e).1
      have h1 := hg j hj
      rw [e] at h1
      by_cases h0 : j = 0
      · subst h0
        simp only [Addr.add, if_true] at h1
        unfold World.cell? at h1 ⊢
        split at h1
        · rename_i cc _ _ _ hb
          split at h1
          · cases h1
          · simp only [Nat.add_zero]; simpa [hb] using h1
        · cases h1
      · simp only [Addr.add, h0, if_false] at h1
        exact h1
  · cases h

theorem cells?_add {a : Addr} {q n : Nat} {cs : List Value} (h : W.cells? base (a.add q) n = some cs) : cs.length = n ∧ (0 < n → q = 0 → a.spot = none) ∧ ∀ j u, cs[j]? = some u → W.cell? ⟨a.block, a.off + q + j, none⟩ = some u := by
  obtain ⟨b, o, s⟩ := a
  by_cases hq : q = 0
  · subst hq
    simp only [Addr.add, if_true] at h
    obtain ⟨h1, h2, h3⟩ := cells?_at h
    exact ⟨h1, fun hn _ => h2 hn, h3⟩
  · simp only [Addr.add, hq, if_false] at h
    obtain ⟨h1, _, h3⟩ := cells?_at h
    exact ⟨h1, fun _ h => absurd h hq, h3⟩

theorem read_array {fuel : Nat} {t : TypeId} {cs : List Value} {x : DataW H × List MemPlace} {n : Nat} {e : TypeId} (ht : P.underlying t = some (.array n e)) (h : DataW.trod enc P W base sp held fuel t cs = some x) :
    ∃ m, cs.length = P.cellsOf t ∧ ∀ i, i < n → ∃ y, DataW.trod enc P W base sp held m e ((cs.drop (i * P.cellsOf e)).take (P.cellsOf e)) = some y := by
  cases fuel with
  | zero => simp [DataW.trod] at h
  | succ m =>
    unfold DataW.trod at h
    rw [ht] at h
    split at h <;> simp_all
    obtain ⟨hl, xs, hp, -⟩ := h
    refine ⟨m, fun i hi => ?_⟩
    have := mapM_some_get hp i i (by simp [hi])
    have hlen := mapM_some_length hp
    simp only [List.length_range] at hlen
    rw [List.getElem?_eq_getElem (by omega)] at this
    exact ⟨_, _, this⟩

theorem build {α β : Type} (Q : Nat → α → β → Prop) : ∀ n, (∀ i, i < n → ∃ a b, Q i a b) → ∃ (la : List α) (lb : List β), la.length = n ∧ lb.length = n ∧ ∀ i a b, la[i]? = some a → lb[i]? = some b → Q i a b
  | 0, _ => ⟨[], [], rfl, rfl, fun i a b e => by simp at e⟩
  | n + 1, h => by
    obtain ⟨la, lb, h1, h2, h3⟩ := build Q n fun i hi => h i (by omega)
    obtain ⟨a, b, hq⟩ := h n (by omega)
    refine ⟨la ++ [a], lb ++ [b], by simp [h1], by simp [h2], fun i x y ex ey => ?_⟩
    by_cases hi : i < n
    · rw [List.getElem?_append_left (by omega)] at ex ey
      exact h3 i x y ex ey
    · have hl : i < n + 1 := by
        have := (List.getElem?_eq_some_iff.1 ex).1
        simp [h1] at this
        omega
      obtain rfl : i = n := by omega
      rw [List.getElem?_append_right (by omega)] at ex ey
      simp [h1] at ex
      simp [h2] at ey
      subst ex ey
      exact hq

mutual
theorem Ty.opens : ∀ (T : Ty) (t : TypeId), T.fits P t = true → ∀ (fuel : Nat) (cs : List Value) (x : DataW H × List MemPlace), DataW.trod enc P W base sp held fuel t cs = some x →
    ∃ vs, T.ok vs ∧ rels φ (g0 W) [] true vs cs ∧ (T.isAgg = false → ∃ v m, vs = [v] ∧ cs = [m] ∧ m.cells = #[m])
  | .b, t, k, fuel, cs, x, h => by
    simp only [Ty.fits] at k
    split at k
    · rename_i hu
      obtain ⟨b, rfl, _⟩ := DataW.trod_bool hu h
      exact ⟨[vb b], by simp [Ty.ok], by simp [rels, rel, notAgg], fun _ => ⟨_, _, rfl, rfl, rfl⟩⟩
    · cases k
  | .i kk, t, k, fuel, cs, x, h => by
    simp only [Ty.fits] at k
    split at k
    · rename_i k' hu
      obtain rfl : kk = k' := by simpa using k
      obtain ⟨n, rfl, _, hw⟩ := DataW.trod_int hu h
      exact ⟨[vk kk n], by simp only [Ty.ok]; exact ⟨n, rfl, hw⟩, by simp [rels, rel, notAgg], fun _ => ⟨_, _, rfl, rfl, rfl⟩⟩
    · cases k
  | .s, t, k, fuel, cs, x, h => by
    simp only [Ty.fits] at k
    split at k
    · rename_i hu
      obtain ⟨s, rfl, _, hs⟩ := DataW.trod_string hu h
      exact ⟨[vs s], by simp only [Ty.ok]; exact ⟨s, rfl, hs⟩, by simp [rels, rel, notAgg], fun _ => ⟨_, _, rfl, rfl, rfl⟩⟩
    · cases k
  | .sl e, t, k, fuel, cs, x, h => by
    simp only [Ty.fits] at k
    split at k
    · rename_i u hu
      simp only [Bool.and_eq_true, beq_iff_eq, decide_eq_true_eq] at k
      obtain ⟨⟨⟨k1, k2⟩, k3⟩, k4⟩ := k
      rcases DataW.trod_slice hu h with ⟨rfl, _⟩ | ⟨a, len, cap, elems, rest, n, rfl, rfl, _, _, hlc, hcap, hel, hrd, _⟩
      · exact ⟨[vnil], by simp [Ty.ok], by simp [rels, rel, notAgg], fun _ => ⟨_, _, rfl, rfl, rfl⟩⟩
      · obtain ⟨b, o, sp'⟩ := a
        by_cases h0 : len = 0
        · subst h0
          refine ⟨[.lst e.cells []], by simp [Ty.ok], ?_, fun _ => ⟨_, _, rfl, rfl, rfl⟩⟩
          rw [rels_cons', rels_nil]
          simp only [rel]
          exact ⟨.inr ⟨trivial, _, _, rfl⟩, trivial⟩
        · have hcell : ∀ i, i < len → ∃ (y : V) (m : Value), (if e.isAgg = true then ∃ c, y = .agg c ∧ e.ok c else e.ok [y]) ∧ rel φ (g0 W) [] true y m ∧ m.cells.size = e.cells ∧
              (∀ j u, m.cells[j]? = some u → W.cell? ⟨b, o + i * e.cells + j, none⟩ = some u) ∧ (i = 0 → sp' = none) := by
            intro i hi
            have hr := hrd i hi
            have hne : elems[i]? = some (elems[i]'(by omega)) := List.getElem?_eq_getElem (by omega)
            rw [hne, Option.bind_eq_some_iff] at hr
            obtain ⟨ci, hci, htr⟩ := hr
            rw [k1] at hci
            obtain ⟨vs, ho, rr, hone⟩ := Ty.opens e u k4 _ _ _ htr
            obtain ⟨hlen, hsp, hat⟩ := cells?_add hci
            cases hag : e.isAgg with
            | true =>
              refine ⟨.agg vs, .agg ci.toArray, by simpa using ho, ?_, by simpa [Value.cells] using hlen, fun j u' eu => hat j u' (by simpa [Value.cells] using eu), fun h0 => hsp (by omega) (by simp [h0])⟩
              simp only [rel]
              exact ⟨_, rfl, by simpa using rr⟩
            | false =>
              obtain ⟨v, m, rfl, rfl, hm⟩ := hone hag
              refine ⟨v, m, by simpa using ho, (rels_cons'.1 rr).1, by rw [hm]; simpa using hlen, fun j u' eu => hat j u' (by rw [hm] at eu; simpa using eu), fun h0 => hsp (by omega) (by simp [h0])⟩
          obtain ⟨es, ms, he1, he2, hq⟩ := build _ len hcell
          have hsp : sp' = none := by
            obtain ⟨y, m, _, _, _, _, h6⟩ := hcell 0 (by omega)
            exact h6 rfl
          subst hsp
          refine ⟨[.lst e.cells es], ?_, ?_, fun _ => ⟨_, _, rfl, rfl, rfl⟩⟩
          · simp only [Ty.ok]
            refine .inr ⟨es, rfl, by omega, fun y hy => ?_⟩
            obtain ⟨i, hi⟩ := List.getElem?_of_mem hy
            have hi' : i < ms.length := by rw [he2, ← he1]; exact (List.getElem?_eq_some_iff.1 hi).1
            exact (hq i y _ hi (List.getElem?_eq_getElem hi')).1
          · rw [rels_cons', rels_nil]
            refine ⟨?_, rfl⟩
            simp only [rel]
            refine .inl ⟨b, o, cap, ms, by rw [he1], by omega, rels_of (by omega) fun i v m e1 e2 => (hq i v m e1 e2).2.1, ?_, ?_⟩
            · intro m hm
              obtain ⟨i, hi⟩ := List.getElem?_of_mem hm
              have hi' : i < es.length := by rw [he1, ← he2]; exact (List.getElem?_eq_some_iff.1 hi).1
              exact (hq i _ m (List.getElem?_eq_getElem hi') hi).2.2.1
            · intro i m hi j u' eu
              have hi' : i < es.length := by rw [he1, ← he2]; exact (List.getElem?_eq_some_iff.1 hi).1
              exact (hq i _ m (List.getElem?_eq_getElem hi') hi).2.2.2.1 j u' eu
    · cases k
  | .st fs, t, k, fuel, cs, x, h => by
    simp only [Ty.fits] at k
    split at k
    · rename_i a hu
      simp only [Bool.and_eq_true, beq_iff_eq] at k
      obtain ⟨xs, n, rfl, _, hl, hxs, hf⟩ := DataW.trod_struct hu h
      obtain ⟨vs, ho, hr⟩ := Ty.opens_go fs 0 a.toList k.2 n cs (by omega) fun i f hi => by
        have hi' : a[i]? = some f := by rw [← Array.getElem?_toList]; exact hi
        have := hf i f hi'
        have hlt : i < xs.length := by rw [hxs]; exact (Array.getElem?_eq_some_iff.1 hi').1
        rw [List.getElem?_eq_getElem hlt] at this
        exact ⟨_, this⟩
      exact ⟨vs, by simp only [Ty.ok]; exact ho, by simpa using hr, fun h => by cases h⟩
    · cases k
  | .ar m e, t, k, fuel, cs, x, h => by
    simp only [Ty.fits] at k
    split at k
    · rename_i m' u hu
      simp only [Bool.and_eq_true, beq_iff_eq] at k
      obtain ⟨⟨⟨rfl, k1⟩, k2⟩, k3⟩ := k
      obtain ⟨n, hl, hf⟩ := read_array hu h
      have key : ∀ q, q ≤ m' → ∃ css : List (List V), css.length = q ∧ (∀ c ∈ css, e.ok c) ∧ rels φ (g0 W) [] true css.flatten (cs.take (q * e.cells)) := by
        intro q
        induction q with
        | zero => intro _; exact ⟨[], rfl, by simp, by simp [rels]⟩
        | succ q ih =>
          intro hq
          obtain ⟨css, h1, h2, h3⟩ := ih (by omega)
          obtain ⟨_, this⟩ := hf q (by omega)
          rw [k2] at this
          obtain ⟨vs, ho, rr, _⟩ := Ty.opens e u k3 _ _ _ this
          refine ⟨css ++ [vs], by simp [h1], ?_, ?_⟩
          · intro c hc
            rcases List.mem_append.1 hc with hc | hc
            · exact h2 c hc
            · simp at hc; subst hc; exact ho
          · have e1 : cs.take ((q + 1) * e.cells) = cs.take (q * e.cells) ++ (cs.drop (q * e.cells)).take e.cells := by
              rw [Nat.add_mul, Nat.one_mul, List.take_add]
            rw [e1, List.flatten_append]
            exact rels_append h3 (by simpa using rr)
      obtain ⟨css, h1, h2, h3⟩ := key m' (Nat.le_refl _)
      refine ⟨css.flatten, by simp only [Ty.ok]; exact ⟨css, h1, rfl, h2⟩, ?_, fun h => by cases h⟩
      rw [List.take_of_length_le (by omega)] at h3
      exact h3
    · cases k
theorem Ty.opens_go : ∀ (fs : List Ty) (o : Nat) (l : List Field), Ty.fits.go P o fs l = true → ∀ (n : Nat) (cs : List Value), cs.length = o + Ty.cells.sum fs →
    (∀ (i : Nat) (f : Field), l[i]? = some f → ∃ x, DataW.trod enc P W base sp held n f.type ((cs.drop f.offset).take (P.cellsOf f.type)) = some x) →
    ∃ vs, Ty.oks fs vs ∧ rels φ (g0 W) [] true vs (cs.drop o)
  | [], o, l, k, n, cs, hl, _ => by
    refine ⟨[], by simp [Ty.oks], ?_⟩
    rw [List.drop_of_length_le (by simp [Ty.cells.sum] at hl; omega)]
    simp [rels]
  | f :: r, o, [], k, n, cs, hl, _ => by simp [Ty.fits.go] at k
  | f :: r, o, y :: l, k, n, cs, hl, hf => by
    simp only [Ty.fits.go, Bool.and_eq_true, beq_iff_eq] at k
    obtain ⟨⟨⟨k1, k2⟩, k3⟩, k4⟩ := k
    simp only [Ty.cells.sum] at hl
    obtain ⟨x, hx⟩ := hf 0 y rfl
    rw [k1, k2] at hx
    obtain ⟨vs, ho, rr, _⟩ := Ty.opens f y.type k3 _ _ _ hx
    obtain ⟨vs', ho', rr'⟩ := Ty.opens_go r (o + f.cells) l k4 n cs (by omega) fun i f' hi => hf (i + 1) f' (by simpa using hi)
    refine ⟨vs ++ vs', by simp only [Ty.oks]; exact ⟨vs, vs', rfl, ho, ho'⟩, ?_⟩
    have e1 : cs.drop o = (cs.drop o).take f.cells ++ cs.drop (o + f.cells) := by
      rw [← List.drop_drop, List.take_append_drop]
    rw [e1]
    exact rels_append rr rr'
end

theorem okWide_cells {t : TypeId} {v : Value} {b0 : Nat} (hval : Value.okWide P W .any b0 t v) : match P.underlying t with
    | some (.struct _) | some (.array ..) => ∃ a, v = .agg a
    | _ => v.cells = #[v] := by
  unfold Value.okWide at hval
  split at hval
  · rename_i hu; rw [hu]; obtain ⟨cs, rfl, _⟩ := hval; exact ⟨_, rfl⟩
  · rename_i hu; rw [hu]; obtain ⟨cs, rfl, _⟩ := hval; exact ⟨_, rfl⟩
  · have hc : v.cells = #[v] := by
      cases v with
      | agg a =>
        exfalso
        unfold Cell.okWide at hval
        split at hval <;> simp_all [Cell.ok]
      | _ => rfl
    split
    · rename_i hu; simp_all
    · rename_i hu; simp_all
    · exact hc

theorem Ty.opensV {T : Ty} {t : TypeId} (k : T.fits P t = true) {v : Value} {d : DataW H} {ps : List MemPlace} {b0 : Nat} (hval : Value.okWide P W .any b0 t v) (h : DataW.Trod enc P W base sp held t v d ps) :
    ∃ x, T.okV x ∧ rel φ (g0 W) [] true x v := by
  obtain ⟨fuel, h⟩ := h
  obtain ⟨vs, ho, rr, hone⟩ := Ty.opens (φ := φ) T t k _ _ _ h
  have hw := okWide_cells hval
  cases hag : T.isAgg with
  | true =>
    have ha : ∃ a, v = .agg a := by
      cases T with
      | st fs =>
        simp only [Ty.fits] at k
        split at k
        · rename_i hu; rw [hu] at hw; exact hw
        · cases k
      | ar n e =>
        simp only [Ty.fits] at k
        split at k
        · rename_i hu; rw [hu] at hw; exact hw
        · cases k
      | _ => cases hag
    obtain ⟨a, rfl⟩ := ha
    refine ⟨.agg vs, by unfold Ty.okV; rw [if_pos hag]; exact ⟨vs, rfl, ho⟩, ?_⟩
    simp only [rel]
    exact ⟨a, rfl, rr⟩
  | false =>
    obtain ⟨x, m, rfl, hm, hmc⟩ := hone hag
    have hv : v.cells = #[v] := by
      have : ∀ (d : TypeDesc), P.underlying t = some d → (match some d with
          | some (.struct _) | some (.array ..) => ∃ a, v = .agg a
          | _ => v.cells = #[v]) := by intro d e; rw [e] at hw; exact hw
      cases T with
      | b =>
        simp only [Ty.fits] at k
        split at k
        · rename_i hu; exact this _ hu
        · cases k
      | i kk =>
        simp only [Ty.fits] at k
        split at k
        · rename_i hu; exact this _ hu
        · cases k
      | s =>
        simp only [Ty.fits] at k
        split at k
        · rename_i hu; exact this _ hu
        · cases k
      | sl e =>
        simp only [Ty.fits] at k
        split at k
        · rename_i hu; exact this _ hu
        · cases k
      | _ => cases hag
    rw [hv] at hm
    obtain rfl : v = m := by simpa using hm
    refine ⟨x, by unfold Ty.okV; rw [if_neg (by simp [hag])]; exact ho, (rels_cons'.1 (by simpa [hv] using rr)).1⟩

def fitsAll (P : Program) : List Ty → List TypeId → Bool
  | [], [] => true
  | T :: r, t :: l => T.fits P t && fitsAll P r l
  | _, _ => false
/-- A type whose values read as they did once memory has grown. -/
def carried (P : Program) (t : TypeId) : Bool := P.readableRec t && decide (t < P.types.size)

theorem Ty.opensVs : ∀ {Ts : List Ty} {ts : List TypeId}, fitsAll P Ts ts = true → ∀ {vs : List Value} {ds : List (DataW H)} {ps : List MemPlace} {b0 : Nat}, (∀ (j : Nat) t v, ts[j]? = some t → vs[j]? = some v → Value.okWide P W .any b0 t v) →
    DataW.TrodAll enc P W base sp held ts vs ds ps → ∃ xs, Ty.okVs Ts xs ∧ rels φ (g0 W) [] true xs vs
  | [], [], _, vs, ds, ps, b0, _, h => by
    obtain ⟨rfl, _⟩ := trodAll_nil h
    exact ⟨[], trivial, rels_nil.2 rfl⟩
  | T :: Ts, t :: ts, k, vs, ds, ps, b0, hval, h => by
    simp only [fitsAll, Bool.and_eq_true] at k
    match vs, ds, h with
    | v :: vs, d :: ds, h =>
      obtain ⟨p, q, h1, h2, rfl⟩ := h
      obtain ⟨x, hx, rx⟩ := Ty.opensV (φ := φ) k.1 (hval 0 t v rfl rfl) h1
      obtain ⟨xs, hxs, rxs⟩ := Ty.opensVs k.2 (fun j t v e1 e2 => hval (j + 1) t v (by simpa using e1) (by simpa using e2)) h2
      exact ⟨x :: xs, ⟨hx, hxs⟩, rels_cons'.2 ⟨rx, rxs⟩⟩
  | [], _ :: _, k, _, _, _, _, _, _ => by simp [fitsAll] at k
  | _ :: _, [], k, _, _, _, _, _, _ => by simp [fitsAll] at k

theorem all_len : ∀ {ts : List TypeId} {vs : List Value} {ds : List (DataW H)} {ps : List MemPlace}, DataW.TrodAll enc P W base sp held ts vs ds ps → ds.length = ts.length
  | [], vs, ds, ps, h => by
    obtain ⟨_, rfl, _⟩ := trodAll_nil h
    rfl
  | t :: ts, vs, ds, ps, h => by
    match vs, ds, h with
    | v :: vs, d :: ds, h =>
      obtain ⟨p, q, _, h2, _⟩ := h
      simp [all_len h2]

theorem trodAll_stays (hl : laidOutB P = true) {W' : World} (hb : Below W.heap.size W W') : ∀ {ts : List TypeId} {vs : List Value} {ds : List (DataW H)} {ps : List MemPlace}, ts.all (carried P) = true → (∀ p ∈ ps, p.block < W.heap.size) →
    DataW.TrodAll enc P W 0 (fun _ => true) true ts vs ds ps → DataW.TrodAll enc P W' 0 (fun b => decide (b < W.heap.size)) true ts vs ds ps
  | [], vs, ds, ps, _, _, h => by
    obtain ⟨rfl, rfl, rfl⟩ := trodAll_nil h
    exact trodAll_mk0
  | t :: ts, vs, ds, ps, k, hp, h => by
    simp only [List.all_cons, carried, Bool.and_eq_true, decide_eq_true_eq] at k
    match vs, ds, h with
    | v :: vs, d :: ds, h =>
      obtain ⟨p, q, h1, h2, rfl⟩ := h
      exact ⟨p, q, Below.trod hl k.1.1 k.1.2 h1 hb fun x hx => hp x (List.mem_append_left _ hx), trodAll_stays hl hb (by simpa [carried] using k.2) (fun x hx => hp x (List.mem_append_right _ hx)) h2, rfl⟩

end

theorem Ty.okVs_cons {t : Ty} {ts : List Ty} {vs : List V} (h : Ty.okVs (t :: ts) vs) : ∃ x xs, vs = x :: xs ∧ t.okV x ∧ Ty.okVs ts xs := by
  cases vs with
  | nil => exact h.elim
  | cons x xs => exact ⟨x, xs, rfl, h.1, h.2⟩
theorem Ty.okVs_nil {vs : List V} (h : Ty.okVs [] vs) : vs = [] := by
  cases vs with
  | nil => rfl
  | cons x xs => exact h.elim
theorem Ty.okV_i {k : IntKind} {x : V} (h : (Ty.i k).okV x) : ∃ n, x = vk k n ∧ (Lit.int k n).wf = true := by
  unfold Ty.okV at h
  simp only [Ty.isAgg, Bool.false_eq_true, if_false, Ty.ok] at h
  obtain ⟨n, h, hw⟩ := h
  injection h with h _
  exact ⟨n, h, hw⟩
theorem Ty.okV_s {x : V} (h : Ty.s.okV x) : ∃ t : ByteArray, x = vs t ∧ t.size ≤ maxLen := by
  unfold Ty.okV at h
  simp only [Ty.isAgg, Bool.false_eq_true, if_false, Ty.ok] at h
  obtain ⟨n, h, hw⟩ := h
  injection h with h _
  exact ⟨n, h, hw⟩

/-- The row of a law: it answers true, its arguments read as before. -/
theorem law_of {C : Checked} {φ : Nat → Option FuncId} {XP : Nat → Option XF} (Tb : Table C.prog φ XP) {H : Type} {enc : TypeId × Value → H} {a : Assume} {os : Os} {f : Nat} {id : FuncId} {fn : Func} {s : ChangeSpec} {conds : List PathCond} {apart fresh handsOn : Bool}
    (own : ownKnob C.prog.godebug = none) (started : os.Started) (noInit : C.prog.inits.idxOf? id = none) (hfn : C.prog.funcs[id]? = some fn)
    (witness : ∃ (w : World) (tape : Tape) (i : Input), w.os = os ∧ (w.forCall tape i).Shaped C.prog ∧ i.vars = [] ∧ Input.okWide C.prog (w.forCall tape i) .any w.heap.size id i ∧
      s.pre6 enc C.prog fn conds apart (w.forCall tape i).memory i.args ∧ a.holds C.prog (lone (Frame.enter C.prog id i.args .normal) [] (w.forCall tape i)))
    (hf : φ f = some id) (hl : laidOutB C.prog = true) (hcar : fn.params.toList.all (carried C.prog) = true) {Ts : List Ty} (hfit : fitsAll C.prog Ts fn.params.toList = true)
    {tb : TypeId} (hres : fn.resultTypes = #[tb]) (htb : C.prog.underlying tb = some .bool) (hv : s.vars = [])
    (hs : ∀ ds : List (DataW H), ds.length = Ts.length → s.fn H ds = { results := [.lit (.bool true)], args := ds })
    (law : ∀ vs, Ty.okVs Ts vs → run XP f vs [] = some (vb true, [])) :
    ReturnsInHanded a C os id .any (s.pre6 enc C.prog fn conds apart) (s.post enc C.prog fn apart fresh handsOn false) := by
  refine returnsInHanded_of_change own started noInit hfn witness ?_
  intro W base args ds gs before hval hW _ _
  have hW' := hW
  obtain ⟨p, q, hA, hV, rfl, hfz, hnd⟩ := hW
  rw [hv] at hV
  obtain ⟨rfl, rfl⟩ := trodVars_none hV
  obtain ⟨xs, hxs, rxs⟩ := Ty.opensVs (φ := φ) hfit (fun j t v e1 e2 => hval j t v (by simpa using e1) (by simpa using e2)) hA
  have hn : ds.length = Ts.length := by
    rw [all_len hA]
    have : ∀ (Ts : List Ty) (ts : List TypeId), fitsAll C.prog Ts ts = true → ts.length = Ts.length := by
      intro Ts
      induction Ts with
      | nil => intro ts k; cases ts with
        | nil => rfl
        | cons _ _ => simp [fitsAll] at k
      | cons T Ts ih => intro ts k; cases ts with
        | nil => simp [fitsAll] at k
        | cons t ts => simp only [fitsAll, Bool.and_eq_true] at k; simp [ih ts k.2]
    exact this _ _ hfit
  have hc := law_calls Tb hf rxs (law xs hxs)
  simp only [Array.toArray_toList] at hc
  refine hc.mono fun e W' ⟨he, hb⟩ => ?_
  subst he
  have hsz : fn.resultTypes.size = 1 := by rw [hres]; rfl
  have hsd := hs ds hn
  refine ⟨_, rfl, ds, [], _, [], p, [], hW', ?_, ?_, ?_, hb.frame _, fun h => by cases h⟩
  · rw [List.append_nil, hsd, hres]
    exact trodAll_mk1 (shut_bool htb true)
  · rw [List.append_nil, hsd]
    exact trodAll_stays hl hb hcar (fun x hx => hW'.lt x (List.mem_append_left _ hx)) hA
  · rw [List.append_nil, hsd, hv]
    exact rfl

end Go.Proofs.Sl
