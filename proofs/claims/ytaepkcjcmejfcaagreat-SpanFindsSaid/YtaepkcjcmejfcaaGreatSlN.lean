/- A part of the proof. -/
import Derived.Shelf.SlSortCmp.InsertionK
import Derived.Sort.AssemblyPlain
import Derived.Shelf.SlSortCmp.NoneTotal
import Derived.RangeFuncNested
import Derived.RangeFuncLeaves
import Derived.OrdersIn
import Derived.Shelf.Spec.SlicesGrow
import Derived.Calls
import Derived.Laws.AppendOwn
import Derived.Below
import Derived.Shelf.SlIterI.Sorted
import Derived.Shelf.SlIterI.Collect
import Derived.Shelf.SortM.Plain
import Derived.Shelf.SortM.SortNone
import Derived.Test.YtaepkcjcmejfcaaGreatSlB
import Derived.Test.YtaepkcjcmejfcaaGreatSlS
set_option linter.unusedVariables false
set_option linter.unusedSimpArgs false
set_option linter.unnecessarySimpa false
namespace Go.Proofs.Sl
section
variable {P : Program} {φ : Nat → Option FuncId} {h h' : H} {g g' : G} {w w' : World}
theorem SR.sameOld (S : SR φ h g w) (hh : ∀ k, k < w.heap.size → w'.heap[k]? = w.heap[k]?) : SR φ h g w' := by
  have hc : ∀ b o, b < w.heap.size → w'.cell? ⟨b, o, none⟩ = w.cell? ⟨b, o, none⟩ := fun b o hb => by simp only [World.cell?, hh b hb]
  refine S.mk' (Later.refl _ _) (fun _ => False) ?_ ?_ (fun _ _ _ h => h.elim) (fun _ _ _ _ h => h.elim) (fun _ _ _ _ h => h.elim) S.inj ?_ (fun _ _ h => h.elim)
  · exact fun l _ hv => ⟨rfl, rfl, rfl, hh _ (S.lt hv), fun _ => rfl⟩
  · exact fun l o _ hv => ⟨rfl, rfl, rfl, hh _ (S.lt hv), hc _ _ (S.lt (a := .obj l) (.inl (zbs_ hv))), fun _ => rfl⟩
  · intro b o u e
    rw [hc _ _ (S.M_lt e)]
    exact S.mem b o u e
theorem Ext.sameOld (hh : ∀ k, k < w.heap.size → w'.heap[k]? = w.heap[k]?) (h1 : w'.os = w.os) (h2 : w'.tape = w.tape) (h3 : w'.output = w.output) (h4 : w.drawn ≤ w'.drawn) (h5 : w.heap.size ≤ w'.heap.size) : Ext h g w h g w' where
  later := Later.refl g h
  os := h1
  tape := h2
  output := h3
  size := h5
  frame := fun k hk _ => hh k hk
  blks := fun key hk => .inl ⟨key, hk, rfl⟩
  arrB := fun l z k es e => .inl ⟨z, es, e, rfl⟩
  drawn := h4
  mfr := fun _ _ _ _ e => .inl e
end
end Go.Proofs.Sl
namespace Go.Proofs.Sl
section
variable {P : Program} {φ : Nat → Option FuncId} {h h' : H} {g g' : G} {w w' : World}
theorem SR.arrSort (S : SR φ h g w) {l k : Nat} {es es2 : List V} {ms2 : List Value} (ha : h[l]? = some (.arr false k es)) (hlen : es2.length = es.length) (r2 : rels φ g h false es2 ms2) (hwd : wide k es2 = true) {cur cur2 : Array Value} {E : TypeId}
    (hcur : w.heap[g.b (.obj l)]? = some (.cells cur E (0, 0))) (hsz : cur2.size = cur.size) (ht : cur2.toList.take (es.length * k) = flat ms2)
    (hb : w'.heap[g.b (.obj l)]? = some (.cells cur2 E (0, 0))) (hh : ∀ q, q < w.heap.size → q ≠ g.b (.obj l) → w'.heap[q]? = w.heap[q]?)
    (h1 : w'.os = w.os) (h2 : w'.tape = w.tape) (h3 : w'.output = w.output) (h4 : w.drawn ≤ w'.drawn) (h5 : w.heap.size ≤ w'.heap.size) :
    SR φ (h.set l (.arr false k es2)) g w' ∧ Ext h g w (h.set l (.arr false k es2)) g w' := by
  obtain ⟨R1, X1⟩ := S.arrChange ha hlen r2 hwd hcur hsz ht
  have hs : (w.setRow (g.b (.obj l)) cur2).heap.size = w.heap.size := by simp [World.setRow]
  have old : ∀ q, q < (w.setRow (g.b (.obj l)) cur2).heap.size → w'.heap[q]? = (w.setRow (g.b (.obj l)) cur2).heap[q]? := by
    intro q hq
    rw [hs] at hq
    by_cases hqb : q = g.b (.obj l)
    · rw [hqb, hb, setRow_heap w _ cur cur2 E (0, 0) hcur]
    · rw [hh q hq hqb, zdi_ hqb]
  exact ⟨R1.sameOld old, X1.trans (Ext.sameOld old h1 h2 h3 h4 (by rw [hs]; exact h5))⟩
open Go.Shelf Go.RowKit Go.Sort in
def zwj_ (P : Program) (id : FuncId) (k : Nat) : Prop := ∀ (enc : Nat → List Value) (hk : ∀ x, (enc x).length = k) (h1 : ∀ x, ∀ v ∈ enc x, v.oneCell' = true) (cf : Nat → Nat → Int) (hO : SWO (ltOf cf)) (gn : Nat) (cb : Array Value) (blk off cap : Nat) (d : Array Nat) (w : World)
    (eg : ∀ args w, (callFunc gn args).run P w = .ok (.enter gn args) w) (hcmp : CmpLays P gn cb enc k cf blk off d.size w) (hH : HoldsK enc k w blk off d) (hblk : blk < w.heap.size) (hsz : d.size < 4611686018427387904),
    Calls P id #[.slice (some ⟨blk, off, none⟩) d.size cap, .func (.func gn) #[] cb] w fun e w' => e = .returned (.tuple #[]) ∧ ∃ n os, w' = sortWorldK enc k w blk off n (pdq (ltOf cf) d 0 d.size (Lib.bitLen d.size) true true) os
def zwk_ (P : Program) (id : FuncId) : Prop := ∀ (p : Option Addr) (cap : Nat) (fv : Value) (w : World), Calls P id #[.slice p 0 cap, fv] w fun e w' => e = .returned (.tuple #[]) ∧ w' = w
theorem zwl_ : ∀ (f n : Nat), n < 2 ^ f → Go.Lib.bitLenAux f n = zfk_ n
  | 0, n, h => by
    have : n = 0 := by simpa using h
    subst this
    rfl
  | f + 1, n, h => by
    unfold Go.Lib.bitLenAux
    split
    · rename_i h0; subst h0; rfl
    · rename_i h0
      rw [zwl_ f (n / 2) (by rw [Nat.pow_succ] at h; omega)]
      unfold zfk_
      rw [if_neg h0, Nat.log2_def n]
      by_cases h2 : 2 ≤ n
      · rw [if_pos h2, if_neg (by omega)]
        omega
      · rw [if_neg h2, if_pos (by omega)]
theorem zbsm_ {n : Nat} (h : n < 4611686018427387904) : Go.Lib.bitLen n = zfk_ n := zwl_ 64 n (Nat.lt_trans h (by decide))
theorem zpj_ : ∀ {l : List V}, allAgg l = true → ∀ {i : Nat} {v : V}, l[i]? = some v → ∃ cs, v = .agg cs
  | [], _, i, v, e => by simp at e
  | x :: l, k, i, v, e => by
    cases x <;> simp only [allAgg, Bool.false_eq_true] at k
    cases i with
    | zero => simp only [List.getElem?_cons_zero, Option.some.injEq] at e; exact ⟨_, e.symm⟩
    | succ i => exact zpj_ k (by simpa using e)
open Go.Shelf Go.RowKit Go.Sort in
theorem zwm_ (enc : Nat → List Value) (k : Nat) (blk off n : Nat) (dk : Array Nat) (os : Array Obj) (q : Nat) (hq : q < w.heap.size) (hn : q ≠ blk) : (sortWorldK enc k w blk off n dk os).heap[q]? = w.heap[q]? := by
  unfold sortWorldK putRowK Go.Sort.putRow mapBlock
  rw [heap_grow_old _ _ (by simpa [ahead] using hq)]
  simp only [Array.getElem?_modify]
  rw [if_neg (Ne.symm hn)]
  rfl
open Go.Shelf Go.RowKit Go.Sort in
theorem zbsn_ (enc : Nat → List Value) (k : Nat) (blk off n : Nat) (dk : Array Nat) (os : Array Obj) {cur : Array Value} {E : TypeId} {f : Nat × Nat} (hcur : w.heap[blk]? = some (.cells cur E f)) :
    (sortWorldK enc k w blk off n dk os).heap[blk]? = some (.cells (putCells _root_.id off (flatK enc k dk) cur) E f) := by
  have hq := (Array.getElem?_eq_some_iff.1 hcur).1
  unfold sortWorldK putRowK Go.Sort.putRow mapBlock
  rw [heap_grow_old _ _ (by simpa [ahead] using hq)]
  simp only [Array.getElem?_modify, if_true]
  show Option.map _ (w.heap[blk]?) = _
  rw [hcur]
  rfl
open Go.Shelf Go.RowKit Go.Sort in
theorem zbso_ (enc : Nat → List Value) (k : Nat) (blk off n : Nat) (dk : Array Nat) (os : Array Obj) : (sortWorldK enc k w blk off n dk os).os = w.os ∧ (sortWorldK enc k w blk off n dk os).tape = w.tape ∧ (sortWorldK enc k w blk off n dk os).output = w.output ∧
    w.drawn ≤ (sortWorldK enc k w blk off n dk os).drawn ∧ w.heap.size ≤ (sortWorldK enc k w blk off n dk os).heap.size := by
  refine ⟨rfl, rfl, rfl, Nat.le_add_right _ _, ?_⟩
  simp [sortWorldK, grow, putRowK, Go.Sort.putRow, mapBlock, ahead]
theorem zbsp_ (h1 : w'.os = w.os) (h2 : w'.tape = w.tape) (h3 : w'.output = w.output) (h4 : w.drawn ≤ w'.drawn) (h5 : w.heap.size ≤ w'.heap.size) (hh : ∀ k, k < w.heap.size → w'.heap[k]? = w.heap[k]?) : ∃ q os, w' = Go.Sort.grow (w.drewN q) os := by
  refine ⟨w'.drawn - w.drawn, w'.heap.extract w.heap.size w'.heap.size, ?_⟩
  obtain ⟨hp, tp, dr, o, ou⟩ := w'
  simp only at h1 h2 h3 h4 h5 hh
  subst h1 h2 h3
  simp only [Go.Sort.grow, World.drewN, World.mk.injEq, true_and, and_true]
  refine ⟨?_, by omega⟩
  apply Array.ext_getElem?
  intro q
  by_cases hq : q < w.heap.size
  · rw [Array.getElem?_append_left hq, hh q hq]
  · rw [Array.getElem?_append_right (by omega), Array.getElem?_extract]
    by_cases hq2 : q < hp.size
    · rw [if_pos (by omega)]
      congr 1
      omega
    · rw [if_neg (by omega), Array.getElem?_eq_none (by omega)]
theorem zwn_ {k : Nat} {es : List V} (hw : wide k es = true) : ∀ {is : List Nat}, (∀ i ∈ is, i < es.length) → wide k (pickEs es is) = true
  | [], _ => rfl
  | i :: is, hi => by
    have h1 : es.getD i .u = es[i]'(hi i (by simp)) := by rw [List.getD_eq_getElem?_getD, List.getElem?_eq_getElem (hi i (by simp))]; rfl
    have h2 := zhj_ hw (List.getElem?_eq_getElem (hi i (by simp)))
    have h3 := zwn_ hw fun j hj => hi j (List.mem_cons_of_mem _ hj)
    simp only [pickEs, List.map_cons] at h3 ⊢
    rw [h1]
    exact zbz_.2 ⟨h2.1, h2.2, h3⟩
theorem zwo_ {es : List V} {ms : List Value} (r : rels φ g h false es ms) (f : Nat → Value) : ∀ {is : List Nat}, (∀ i ∈ is, i < es.length ∧ ms[i]? = some (f i)) → rels φ g h false (pickEs es is) (is.map f)
  | [], _ => zac_.2 rfl
  | i :: is, hi => by
    obtain ⟨h0, h2⟩ := hi i (by simp)
    have h1 : es.getD i .u = es[i] := by rw [List.getD_eq_getElem?_getD, List.getElem?_eq_getElem h0]; rfl
    have h3 := zwo_ r f fun j hj => hi j (List.mem_cons_of_mem _ hj)
    simp only [pickEs, List.map_cons] at h3 ⊢
    rw [h1]
    exact zag_.2 ⟨zbt_ r (List.getElem?_eq_getElem h0) h2, h3⟩
open Go.Shelf Go.RowKit Go.Sort in
theorem zbsq_ {id : FuncId} {k : Nat} (hK : zwj_ P id k) (hN : zwk_ P id) (Tk : TOk P φ) : NatOk P φ id (.sort k) := by
  intro cf F HG args h v h' e g w ms R r
  simp only [xnat] at e
  unfold xsort at e
  split at e
  · injection e with e
    injection e with e1 e2
    subst e1 e2
    obtain ⟨m1, s1, rfl, r1, r⟩ := zak_.1 r
    obtain ⟨m2, s2, rfl, r2, r⟩ := zak_.1 r
    rw [zac_] at r
    subst r
    have := rel_s r1
    subst this
    refine (hN none 0 m2 w).mono ?_
    rintro ee w' ⟨rfl, rfl⟩
    exact ⟨_, g, rfl, R, Ext.refl _ _ _, by simp only [RetOk, rel]; exact ⟨_, rfl, zac_.2 rfl⟩⟩
  · rename_i l n f a b
    have e' : xsort cf k h [.ref l n, .fn f a b] = some (v, h') := by simpa only [xsort] using e
    clear e
    obtain ⟨es, c, ha, hn, hlt, hc1, _, hc3, ⟨rfl, hag⟩, hS, hr⟩ := zef_.1 e'
    injection hr with hr1 hr2
    subst hr1 hr2
    obtain ⟨m1, s1, rfl, r1, r⟩ := zak_.1 r
    obtain ⟨m2, s2, rfl, r2, r⟩ := zak_.1 r
    rw [zac_] at r
    subst r
    simp only [rel] at r1 r2
    obtain ⟨_, _, _, r1⟩ := r1
    have hm1 := (r1 _ _ _ ha).2 hn
    obtain ⟨id2, A, C, hf, hm2, rA, rC⟩ := r2
    rw [zac_] at rA
    have hA : A = #[] := Array.ext' (by simpa using rA)
    subst hA hm1 hm2
    obtain ⟨cur, E, msE, hcur, hsz, n1, n2, rE, wd, tk, _, k3⟩ := R.arr l false k es ha
    have hM := k3 rfl
    have hret : ∀ w2, RetOk φ w.heap.size (h.set l (.arr false k (pickEs es (zbc_ n c)))) g w2 (.tup []) (.tuple #[]) := fun w2 => by
      simp only [RetOk, rel]
      exact ⟨_, rfl, zac_.2 rfl⟩
    by_cases hn0 : n = 0
    · subst hn0
      have hes : es = [] := List.eq_nil_of_length_eq_zero hn
      subst hes
      refine (hN (some ⟨g.b (.obj l), 0, none⟩) _ _ w).mono ?_
      rintro ee w' ⟨rfl, rfl⟩
      refine ⟨_, g, rfl, ?_, ?_, hret w'⟩
      · rw [show pickEs [] (zbc_ 0 c) = [] from rfl, zkt_ ha]
        exact R
      · rw [show pickEs [] (zbc_ 0 c) = [] from rfl, zkt_ ha]
        exact Ext.refl _ _ _
    · have hpos : 0 < n := by omega
      have hlenE := zaf_ rE
      have hmsz := zat_ wd rE
      let mOf : Nat → Value := fun i => msE.getD (clampI n i) undef
      let enc : Nat → List Value := fun i => (mOf i).cells.toList
      have hmOf : ∀ i, ∃ v, es[clampI n i]? = some v ∧ msE[clampI n i]? = some (mOf i) := by
        intro i
        have h1 := znm_ (i := i) hpos
        have h2 : clampI n i < es.length := by omega
        have h3 : clampI n i < msE.length := by omega
        refine ⟨_, List.getElem?_eq_getElem h2, ?_⟩
        simp only [mOf, List.getD_eq_getElem?_getD, List.getElem?_eq_getElem h3, Option.getD_some]
      have hk : ∀ x, (enc x).length = k := fun x => by
        obtain ⟨v, _, h2⟩ := hmOf x
        have := hmsz _ (List.mem_of_getElem? h2)
        simpa [enc] using this
      have h1 : ∀ x, ∀ v ∈ enc x, v.oneCell' = true := fun x => by
        obtain ⟨v, h2, h3⟩ := hmOf x
        exact zem_ (zfr_ (zbt_ rE h2 h3)) (zhj_ wd h2).2
      have hagm : ∀ x, mOf x = .agg (enc x).toArray := fun x => by
        obtain ⟨v, h2, h3⟩ := hmOf x
        obtain ⟨cs, rfl⟩ := zpj_ hag h2
        have r4 := zbt_ rE h2 h3
        simp only [rel] at r4
        obtain ⟨ar, h4, _⟩ := r4
        simp only [enc, h4, Value.cells]
      let cfN : Nat → Nat → Int := fun i j => c (clampI n i) (clampI n j)
      have hO : SWO (ltOf cfN) := by
        have := hS.2
        rw [hn] at this
        exact this
      have hd : (Array.range n).size = n := by simp
      have hcmp : CmpLays P id2 C enc k cfN (g.b (.obj l)) 0 (Array.range n).size w := by
        intro m os dk hdk x y
        obtain ⟨vx, ex, mx⟩ := hmOf x
        obtain ⟨vy, ey, my⟩ := hmOf y
        have ecf := hS.1 _ _ vx vy ex ey
        have hold : ∀ q, q < w.heap.size → q ≠ g.b (.obj l) → (sortWorldK enc k w (g.b (.obj l)) 0 m dk os).heap[q]? = w.heap[q]? := fun q h1 h2 => zwm_ enc k _ 0 m dk os q h1 h2
        generalize sortWorldK enc k w (g.b (.obj l)) 0 m dk os = W at hold ⊢
        have RW : SR φ [] g W := by
          refine ⟨fun l z cs e => by simp at e, fun l z k es e => by simp at e, fun l o x n e k => by simp [cellAt] at e, fun a b ha hb e => ?_, fun b o u e => ?_, fun l es e => by simp at e⟩
          · cases a with
            | obj q => rcases ha with ⟨z, cs, e⟩ | ⟨z, k, es, e⟩ | ⟨es, e⟩ <;> simp at e
            | cell q o => obtain ⟨x, n, e, _⟩ := ha; simp [cellAt] at e
          · have hb := R.M_lt e
            have hne : b ≠ g.b (.obj l) := by
              rintro rfl
              rw [hM] at e
              cases e
            have := R.mem b o u e
            simp only [World.cell?, hold b hb hne] at this ⊢
            exact this
        have rcl : ∀ {v m}, v.closed = true → rel φ g h false v m → rel φ g [] false v m := fun hc r => zbm_ (fun _ _ _ e => e) false _ _ (zke_ _ _ hc r)
        have hargs : rels φ g [] false ([] ++ [vx, vy] ++ b) ([mOf x, mOf y] ++ C.toList) := by
          refine zbu_ ?_ (zaj_ (fun _ _ _ e => e) false _ _ (zbo_ _ _ hc3 rC))
          exact zag_.2 ⟨rcl (znq_ hc1 ex) (zbt_ rE ex mx), zag_.2 ⟨rcl (znq_ hc1 ey) (zbt_ rE ey my), zac_.2 rfl⟩⟩
        have hcall := F f id2 _ [] _ _ hf ecf g W _ RW (.inl ⟨by obtain ⟨cs0, rfl⟩ := zpj_ hag ex; trivial, hargs⟩)
        have harr : ([mOf x, mOf y] ++ C.toList).toArray = #[.agg (enc x).toArray, .agg (enc y).toArray] ++ C := by
          rw [← hagm x, ← hagm y]
          apply Array.ext'
          simp
        rw [harr] at hcall
        refine hcall.mono ?_
        rintro ee w2 ⟨mv, g2, rfl, _, X2, rr⟩
        have hmv : mv = .int .i64 (cfN x y) := by (simp only [RetOk, rel] at rr; exact rr.1)
        refine ⟨by rw [hmv], zbsp_ X2.os X2.tape X2.output X2.drawn X2.size fun q hq => X2.frame q hq fun key hk => ?_⟩
        cases key with
        | obj q => rcases hk with ⟨z, cs, e⟩ | ⟨z, k, es, e⟩ | ⟨es, e⟩ <;> simp at e
        | cell q o => obtain ⟨x, n, e, _⟩ := hk; simp [cellAt] at e
      have hfl : ∀ (q j : Nat), q < n → j < k → (flat msE)[q * k + j]? = some ((enc q)[j]!) := by
        intro q j hq hj
        obtain ⟨v, h2, h3⟩ := hmOf q
        have hcq : clampI n q = q := by simp [clampI, hq]
        rw [hcq] at h3
        have hj2 : j < (mOf q).cells.size := by have := hk q; simp only [enc, Array.length_toList] at this; omega
        have := zdh_ hmsz h3 (Array.getElem?_eq_getElem hj2)
        rw [this]
        have hj3 : j < (enc q).length := by rw [hk]; exact hj
        rw [getElem!_pos (enc q) j hj3]
        simp [enc]
      have hH : HoldsK enc k w (g.b (.obj l)) 0 (Array.range n) := by
        intro j hj
        rw [size_flatK, hd] at hj
        refine ⟨?_, frozen_of_row w _ _ cur E hcur⟩
        have hk0 : 0 < k := by
          rcases Nat.eq_zero_or_pos k with h | h
          · rw [h, Nat.mul_zero] at hj; omega
          · exact h
        have hq : j / k < n := by rw [Nat.div_lt_iff_lt_mul hk0]; exact hj
        have hdm : j / k * k + j % k = j := by rw [Nat.mul_comm]; exact Nat.div_add_mod j k
        have h2 := hfl (j / k) (j % k) hq (Nat.mod_lt _ hk0)
        rw [hdm, ← tk, hn, List.getElem?_take, if_pos hj, Array.getElem?_toList] at h2
        rw [Nat.zero_add, zbf_ hcur, h2]
        show _ = some ((flatK enc k (Array.range n))[j]!)
        rw [get_flatK _ _ _ _ (by rw [hd]; exact hj)]
        have : (Array.range n)[j / k]! = j / k := by rw [getElem!_pos _ _ (by rw [hd]; exact hq)]; simp
        rw [this]
      have hcall := hK enc hk h1 cfN hO id2 C (g.b (.obj l)) 0 (g.c (.obj l)) (Array.range n) w (fun args w => Tk.run hf args w) hcmp hH (zhi_ hcur) (by rw [hd]; exact hlt)
      rw [hd] at hcall
      refine hcall.mono ?_
      rintro ee w' ⟨rfl, nn, os, hw'⟩
      have hps := pdq_sorts (ltOf cfN) hO (Array.range n) 0 n (Lib.bitLen n) true true (Nat.zero_le _) (by rw [hd]; exact Nat.le_refl _) (Or.inl rfl)
      have hdd : (pdq (ltOf cfN) (Array.range n) 0 n (Lib.bitLen n) true true).toList = zbc_ n c := by
        unfold zbc_
        rw [if_neg hn0, ← zbsm_ hlt]
        rfl
      generalize pdq (ltOf cfN) (Array.range n) 0 n (Lib.bitLen n) true true = dd at hw' hps hdd
      obtain ⟨⟨hs1, _, hp⟩, _⟩ := hps
      rw [hd] at hs1
      have hmem : ∀ i ∈ dd.toList, i < n := by
        intro i hi
        have e1 : (dd.extract 0 n).toList = dd.toList := by
          rw [Array.toList_extract, List.extract_eq_take_drop, List.drop_zero, Nat.sub_zero, List.take_of_length_le (by rw [Array.length_toList, hs1]; exact Nat.le_refl _)]
        have e2 : ((Array.range n).extract 0 n).toList = List.range n := by
          rw [Array.toList_extract, List.extract_eq_take_drop]
          simp
        rw [e1, e2] at hp
        exact List.mem_range.1 (hp.mem_iff.1 hi)
      have hcl : ∀ i, i < n → clampI n i = i := fun i hi => by simp [clampI, hi]
      have r2 : rels φ g h false (pickEs es (zbc_ n c)) (dd.toList.map mOf) := by
        rw [← hdd]
        refine zwo_ rE mOf fun i hi => ?_
        have hi2 := hmem i hi
        obtain ⟨v, _, h3⟩ := hmOf i
        rw [hcl i hi2] at h3
        exact ⟨by omega, h3⟩
      have wd2 : wide k (pickEs es (zbc_ n c)) = true := by
        rw [← hdd]
        exact zwn_ wd fun i hi => by have := hmem i hi; omega
      have hplen : (pickEs es (zbc_ n c)).length = es.length := by
        rw [← hdd]
        simp [pickEs, hs1, hn]
      have hrest := zbso_ (w := w) enc k (g.b (.obj l)) 0 nn dd os
      have hck : n * k ≤ cur.size := by rw [hsz, ← hn]; exact Nat.mul_le_mul_right _ n1
      have hfin := R.arrSort (w' := w') ha hplen r2 wd2 hcur (cur2 := putCells _root_.id 0 (flatK enc k dd) cur) (by simp [putCells]) (by
        have hf2 := zao_ (zat_ wd2 r2)
        rw [← zaf_ r2, hplen, hn] at hf2
        rw [hn]
        apply List.ext_getElem?
        intro j
        rw [List.getElem?_take]
        by_cases hj : j < n * k
        · rw [if_pos hj, Array.getElem?_toList]
          have hk0 : 0 < k := by
            rcases Nat.eq_zero_or_pos k with h | h
            · rw [h, Nat.mul_zero] at hj; omega
            · exact h
          have hq : j / k < n := by rw [Nat.div_lt_iff_lt_mul hk0]; exact hj
          have hdm : j / k * k + j % k = j := by rw [Nat.mul_comm]; exact Nat.div_add_mod j k
          have hjc : j < cur.size := by omega
          have hq2 : j / k < dd.size := by omega
          have e1 : (putCells _root_.id 0 (flatK enc k dd) cur)[j]? = some ((flatK enc k dd)[j]!) := by
            simp only [putCells, Array.getElem?_mapIdx, Array.getElem?_eq_getElem hjc, Option.map_some, Nat.zero_le, true_and, size_flatK, hs1, Nat.zero_add, hj, if_true, Nat.sub_zero, _root_.id]
          rw [e1, get_flatK _ _ _ _ (by rw [hs1]; exact hj), getElem!_pos dd _ hq2]
          have e2 : (dd.toList.map mOf)[j / k]? = some (mOf dd[j / k]) := by
            rw [List.getElem?_map, Array.getElem?_toList, Array.getElem?_eq_getElem hq2]
            rfl
          have hj2 : j % k < (mOf dd[j / k]).cells.size := by
            have := hk dd[j / k]
            simp only [enc, Array.length_toList] at this
            rw [this]
            exact Nat.mod_lt _ hk0
          have e3 := zdh_ (zat_ wd2 r2) e2 (Array.getElem?_eq_getElem hj2)
          rw [hdm] at e3
          rw [e3]
          have hj3 : j % k < (enc dd[j / k]).length := by rw [hk]; exact Nat.mod_lt _ hk0
          rw [getElem!_pos (enc dd[j / k]) _ hj3]
          simp [enc]
        · rw [if_neg hj, eq_comm, List.getElem?_eq_none_iff]
          omega) (by rw [hw']; exact zbsn_ enc k _ 0 nn dd os hcur) (fun q h2 h3 => by rw [hw']; exact zwm_ enc k _ 0 nn dd os q h2 h3)
        (by rw [hw']; exact hrest.1) (by rw [hw']; exact hrest.2.1) (by rw [hw']; exact hrest.2.2.1) (by rw [hw']; exact hrest.2.2.2.1) (by rw [hw']; exact hrest.2.2.2.2)
      exact ⟨_, g, rfl, hfin.1, hfin.2, hret w'⟩
  · cases e
end
end Go.Proofs.Sl
namespace Go.Proofs.Sl
open Go.Shelf Go.RowKit Go.Lib Go.Sort
theorem zbsr_ {P : Program} {ρ : Ren} (L : SlLaysF0.n6 P ρ) (k : Nat) (aE : ∀ w, (isAgg (ρ.t 24)).run P w = .ok true w) (zE : ∀ w, (Go.sizeOf (ρ.t 24)).run P w = .ok k w) : zwj_ P (ρ.f 6) k := by
  intro enc hk h1 cf hO gn cb blk off cap d w eg hcmp hH hblk hsz
  exact AnyQ.slices_SortFunc_eq L k aE zE enc hk h1 cf hO gn cb blk off cap d w eg hcmp hH hblk hsz
theorem zbss_ {P : Program} {ρ : Ren} (L : SlLaysF0.n6 P ρ) : zwk_ P (ρ.f 6) := fun p cap fv w => AnyF.slices_SortFunc_none L p cap fv w
end Go.Proofs.Sl
namespace Go.Proofs.Sl
section
variable {P : Program} {φ : Nat → Option FuncId} {h h' : H} {g g' : G} {w w' : World} {N : Nat} {s : Sl} {a : Act} {ops : Array Oper} {h0 : H} {g0 : G} {w0 : World} {cf : CallF} {base : Nat}
def _root_.Go.Obj.isDat : Obj → Bool
  | .cells .. => true
  | .map .. => true
  | _ => false
theorem SR.isCells (S : SR φ h g w) {a : Key} (ha : live h a) : ∃ o, w.heap[g.b a]? = some o ∧ o.isDat = true := by
  cases a with
  | obj l =>
    rcases ha with ⟨z, cs, e⟩ | ⟨z, k, es, e⟩ | ⟨es, e⟩
    · obtain ⟨ms, E, e, _⟩ := S.box l z cs e
      exact ⟨_, e, rfl⟩
    · obtain ⟨cur, E, ms, e, _⟩ := S.arr l z k es e
      exact ⟨_, e, rfl⟩
    · obtain ⟨ents, clock, e, _⟩ := S.mp l es e
      exact ⟨_, e, rfl⟩
  | cell l o =>
    obtain ⟨x, n, e, k⟩ := ha
    obtain ⟨cur, E, k, e, _⟩ := S.own l o x n e k
    exact ⟨_, e, rfl⟩
theorem SR.M_isCells (S : SR φ h g w) {b o : Nat} {u : Value} (e : g.M b o = some u) : ∃ x, w.heap[b]? = some x ∧ x.isDat = true := by
  have := S.mem b o u e
  unfold World.cell? at this
  split at this
  · rename_i hh
    exact ⟨_, hh, rfl⟩
  · cases this
structure Calm (B : Nat) (w w' : World) : Prop where
  os : w'.os = w.os
  tape : w'.tape = w.tape
  output : w'.output = w.output
  size : w.heap.size ≤ w'.heap.size
  drawn : w.drawn ≤ w'.drawn
  low : ∀ k, k < B → k < w.heap.size → w'.heap[k]? = w.heap[k]?
  cells : ∀ (k : Nat) (o : Obj), w.heap[k]? = some o → o.isDat = true → w'.heap[k]? = some o
theorem Calm.alloc (B : Nat) (w : World) (o : Obj) : Calm B w (w.alloc o) where
  os := rfl
  tape := rfl
  output := rfl
  size := by simp
  drawn := Nat.le_refl _
  low := fun k _ hk => zbi_ hk
  cells := fun k o' e _ => by rw [zbi_ (Array.getElem?_eq_some_iff.1 e).1]; exact e
theorem Calm.put {B l : Nat} {o : Obj} (hl : B ≤ l) (e : w.heap[l]? = some o) (ho : o.isDat = false) (o' : Obj) : Calm B w (w.putObj l o') where
  os := rfl
  tape := rfl
  output := rfl
  size := by simp
  drawn := Nat.le_refl _
  low := fun k hk _ => World.putObj_heap_other (by omega)
  cells := fun k x ex hx => by
    rw [World.putObj_heap_other]
    · exact ex
    · rintro rfl
      rw [e] at ex
      injection ex with ex
      subst ex
      rw [ho] at hx
      cases hx
theorem SR.calm {B : Nat} (S : SR φ h g w) (C : Calm B w w') : SR φ h g w' := by
  have hl : ∀ a, live h a → w'.heap[g.b a]? = w.heap[g.b a]? := fun a ha => by
    obtain ⟨o, e, ho⟩ := S.isCells ha
    rw [e, C.cells _ _ e ho]
  refine S.mk' (Later.refl _ _) (fun _ => False) ?_ ?_ (fun _ _ _ h => h.elim) (fun _ _ _ _ h => h.elim) (fun _ _ _ _ h => h.elim) S.inj ?_ (fun _ _ h => h.elim)
  · exact fun l _ hv => ⟨rfl, rfl, rfl, hl _ hv, fun _ => rfl⟩
  · intro l o _ hv
    refine ⟨rfl, rfl, rfl, hl _ hv, ?_, fun _ => rfl⟩
    have hb : live h (.obj l) := .inl (zbs_ hv)
    simp only [World.cell?, hl _ hb]
  · intro b o u e
    obtain ⟨x, e1, e2⟩ := S.M_isCells e
    have := S.mem b o u e
    simp only [World.cell?, C.cells _ _ e1 e2, e1] at this ⊢
    exact this
theorem Ext.calm (X : Ext h0 g0 w0 h g w) (C : Calm w0.heap.size w w') : Ext h0 g0 w0 h g w' where
  later := X.later
  os := C.os.trans X.os
  tape := C.tape.trans X.tape
  output := C.output.trans X.output
  size := Nat.le_trans X.size C.size
  frame := fun k hk hn => by rw [C.low k hk (Nat.lt_of_lt_of_le hk X.size), X.frame k hk hn]
  blks := X.blks
  arrB := X.arrB
  drawn := Nat.le_trans X.drawn C.drawn
  mfr := X.mfr
theorem Ext.other (R : SR φ h g w) (X : Ext h g w h' g' w') {k : Nat} {o : Obj} (e : w.heap[k]? = some o) (ho : o.isDat = false) : w'.heap[k]? = some o := by
  rw [X.frame k (Array.getElem?_eq_some_iff.1 e).1, e]
  intro key hk hb
  obtain ⟨x, e1, e2⟩ := R.isCells hk
  rw [hb, e] at e1
  injection e1 with e1
  subst e1
  rw [ho] at e2
  cases e2
def noCall : XO → Bool
  | .call .. | .callv .. | .calli .. | .callK .. | .slArr .. => false
  | _ => true
theorem zbst_ (R : SR φ h g w) (S : Slots φ g h N s a) {o : Oper} {x : XO} (k : chkOp P φ N o.op x = true) (nc : noCall x = true) {v : V} (e : xop cf base s h x = some (v, h')) : Done P φ a o h g w v h' := by
  unfold xop at e
  split at e
  · obtain ⟨u, e1, e⟩ := zaa_.1 e
    injection e with e
    injection e with e2 e3
    subst e2 e3
    by_cases hb : ∃ k0 ps, x = .bslice false k0 ps
    · obtain ⟨k0, ps, rfl⟩ := hb
      exact bs_ok R S k e1
    · have hb2 : ∀ m k0 ps, x ≠ .bslice m k0 ps := by
        rintro m k0 ps rfl
        cases m
        · exact hb ⟨_, _, rfl⟩
        · simp [xpure] at e1
      obtain ⟨mv, h1, h2⟩ := zts_ S k hb2 e1
      exact ⟨_, g, w, h1 w, R, Ext.refl _ _ _, .inl ⟨mv, rfl, h2⟩⟩
  · obtain ⟨u, e1, e⟩ := zaa_.1 e
    injection e with e
    injection e with e2 e3
    subst e2 e3
    obtain ⟨mv, h1, h2⟩ := zud_ R S k e1
    exact ⟨_, g, w, h1, R, Ext.refl _ _ _, .inl ⟨mv, rfl, h2⟩⟩
  · exact eff_ok R S k (by rintro m f xs rfl; cases nc) (by rintro m f xs rfl; cases nc) (by rintro m tb y xs rfl; cases nc) (by rintro f xs rfl; cases nc) e
theorem zbsu_ {o : Op} {x : XO} (k : chkOp P φ N o x = true) (nc : noCall x = true) (c : Call) : o ≠ .defer c := by
  rintro rfl
  unfold chkOp at k
  split at k <;> first | contradiction | cases nc
def withD (a : Act) (ds : List Deferred) : Act := { a with defers := ds }
theorem zpk_ (a : Act) (ds : List Deferred) (d : Option Tmp) (v : Value) : (withD a ds).put d v = withD (a.put d v) ds := by cases d <;> rfl
variable {F : Fence} {n : Nat}
theorem zwp_ (hF : ∀ f, F.fn f) {i : Nat} {o : Oper} {x : XOp} (ho : ops[i]? = some o) (k : chkX P φ N ops o x = true) (nc : noCall x.op = true) {st st' : St} (so : SO φ N h0 g0 w0 st a w) (e : xstep cf base x st = some st') (ds : List Deferred) {K : Act → World → Prop} {Q : Exit → Act → World → Prop}
    (hK : ∀ a' w', SO φ N h0 g0 w0 st' a' w' → K (withD a' ds) w') : wpOpIn F n P ops Q i K (withD a ds) w := by
  obtain ⟨g, R, X, S⟩ := so
  simp only [chkX, Bool.and_eq_true] at k
  obtain ⟨⟨k1, k2⟩, k3⟩ := k
  obtain ⟨hd, hN⟩ := zou_ k1
  unfold xstep at e
  obtain ⟨b, e1, e⟩ := zaa_.1 e
  have hw := zov_ S k2 e1
  have hw' : Region.wanted o (yielded ops (withD a ds).tmps) = b := hw
  simp only [wpOpIn, ho, hw']
  cases b with
  | true =>
    simp only [if_true] at e ⊢
    obtain ⟨p, e2, e⟩ := zaa_.1 e
    injection e with e
    subst e
    obtain ⟨nx, g', w', h1, h2, h3, h4⟩ := zbst_ R S k3 nc (v := p.1) (h' := p.2) e2
    unfold Oper.wpIn
    refine ⟨fun f _ => hF f, ?_⟩
    rw [Oper.semAt_eq _ _ _ fun c => zbsu_ k3 nc c, show (withD a ds).eval = a.eval from rfl, h1]
    rcases h4 with ⟨mv, rfl, h4⟩ | ⟨rfl, hv⟩
    · rw [Oper.uponIn_value, zpk_]
      refine hK _ _ ⟨g', h2, X.trans h3, ?_⟩
      rw [← hd]
      exact (S.later h3.later).put hN h4
    · rw [Oper.uponIn_skip, zpk_]
      refine hK _ _ ⟨g', h2, X.trans h3, ?_⟩
      rw [← hd, hv]
      exact (S.later h3.later).put hN (rel_of rfl)
  | false =>
    simp only [Bool.false_eq_true, if_false] at e ⊢
    injection e with e
    subst e
    refine ⟨fun f _ => hF f, ?_⟩
    rw [zpk_]
    refine hK _ _ ⟨g, R, X, ?_⟩
    have := S.put (d := o.dst) hN (v := .u) (mv := undef) (rel_of rfl)
    rw [hd] at this ⊢
    exact this
def zet_ : List XOp → Bool
  | [] => true
  | x :: l => noCall x.op && zet_ l
theorem zwq_ : ∀ {l : List XOp}, zet_ l = true → ∀ {i : Nat} {x : XOp}, l[i]? = some x → noCall x.op = true
  | [], _, i, x, e => by simp at e
  | y :: l, k, 0, x, e => by
    simp only [zet_, Bool.and_eq_true] at k
    simp only [List.getElem?_cons_zero, Option.some.injEq] at e
    subst e
    exact k.1
  | y :: l, k, i + 1, x, e => by
    simp only [zet_, Bool.and_eq_true] at k
    exact zwq_ k.2 (by simpa using e)
theorem zwr_ (hF : ∀ f, F.fn f) {xs : List XOp} (k : chkXs P φ N ops ops.toList xs = true) (nc : zet_ xs = true) (ds : List Deferred) {Q : Exit → Act → World → Prop} : ∀ (m i : Nat) (st st' : St) (a : Act) (w : World), i + m = ops.size → SO φ N h0 g0 w0 st a w →
    xops cf base (xs.drop i) st = some st' → (∀ a' w', SO φ N h0 g0 w0 st' a' w' → Q .normal (withD a' ds) w') → wpOpsIn F n P ops Q (List.range' i m) (withD a ds) w
  | 0, i, st, st', a, w, hm, so, e, hQ => by
    have hl := (zfy_ k).1
    rw [List.drop_eq_nil_of_le (by rw [← hl, Array.length_toList]; omega)] at e
    simp only [xops, Option.some.injEq] at e
    subst e
    simp only [List.range'_zero, wpOpsIn]
    exact hQ a w so
  | m + 1, i, st, st', a, w, hm, so, e, hQ => by
    obtain ⟨hl, hk⟩ := zfy_ k
    rw [Array.length_toList] at hl
    have hi : i < xs.length := by omega
    have hio : i < ops.size := by omega
    rw [List.drop_eq_getElem_cons hi] at e
    simp only [xops] at e
    obtain ⟨s1, e1, e⟩ := zaa_.1 e
    rw [List.range'_succ, wpOpsIn_cons]
    have ho := Array.getElem?_eq_getElem hio
    have hx := List.getElem?_eq_getElem hi
    exact zwp_ hF ho (hk i _ _ (by rw [Array.getElem?_toList]; exact ho) hx) (zwq_ nc hx) so e1 ds fun a' w' so' => zwr_ hF k nc ds m (i + 1) s1 st' a' w' (by omega) so' e hQ
theorem zws_ (hF : ∀ f, F.fn f) {xs : List XOp} (k : chkXs P φ N ops ops.toList xs = true) (nc : zet_ xs = true) (ds : List Deferred) {Q : Exit → Act → World → Prop} {st st' : St} (so : SO φ N h0 g0 w0 st a w) (e : xops cf base xs st = some st')
    (hQ : ∀ a' w', SO φ N h0 g0 w0 st' a' w' → Q .normal (withD a' ds) w') (id : Nat) : (Code.region id ops false).wpIn F n P Q (withD a ds) w := by
  refine wpIn_region ?_
  rw [List.range_eq_range']
  exact zwr_ hF k nc ds ops.size 0 st st' a w (by omega) so (by simpa using e) hQ
theorem zdr_ (hF : ∀ f, F.fn f) {xs : List XOp} (k : chkXs P φ N ops ops.toList xs = true) (nc : zet_ xs = true) {Q : Exit → Act → World → Prop} {st st' : St} (so : SO φ N h0 g0 w0 st a w) (e : xops cf base xs st = some st')
    (hQ : ∀ a' w', SO φ N h0 g0 w0 st' a' w' → Q .normal a' w') (id : Nat) : (Code.region id ops false).wpIn F n P Q a w := by
  have hd : ∀ a' w' st, SO φ N h0 g0 w0 st a' w' → withD a' [] = a' := by
    rintro a' w' st ⟨g, _, _, S⟩
    rw [← S.defers]
    rfl
  have := zws_ (n := n) hF k nc [] so e (Q := Q) (fun a' w' so' => by rw [hd _ _ _ so']; exact hQ a' w' so') id
  rw [hd _ _ _ so] at this
  exact this
end
end Go.Proofs.Sl
namespace Go.Proofs.Sl
def opq (c : List Value) : V := .agg (c.map V.s)
def OkC (k : Nat) (c : List Value) : Prop := c.length = k ∧ ∀ x ∈ c, V.cell (.s x) = true
theorem zwt_ : ∀ {c : List Value}, (∀ x ∈ c, V.cell (.s x) = true) → zai_ (c.map V.s) = true
  | [], _ => rfl
  | x :: c, h => by
    simp only [List.map_cons, zai_, Bool.and_eq_true]
    exact ⟨h x (by simp), zwt_ fun y hy => h y (List.mem_cons_of_mem _ hy)⟩
theorem zwu_ : ∀ (c : List Value), V.closed.closeds (c.map V.s) = true
  | [] => rfl
  | x :: c => by simp only [List.map_cons, V.closed.closeds, V.closed, zwu_ c, Bool.and_self]
theorem zwv_ (c : List Value) : (c.map V.s).map zal_ = c.map V.s := by
  rw [List.map_map]
  rfl
theorem zbsv_ (c : List Value) : (opq c).closed = true := by simp only [opq, V.closed, zwu_]
theorem zbsw_ {k : Nat} {c : List Value} (h : OkC k c) : wide k [opq c] = true := by
  simp only [wide, opq, V.cells, List.length_map, h.1, zwt_ h.2, beq_self_eq_true, Bool.and_self]
def plainZ (z : List V) : Prop := ∀ (i : Nat) (x : V), z[i]? = some x → x.tl = none
theorem zww_ {base l : Nat} {h : H} : ∀ (c : List Value) (o : Nat) (cs : List V), (∀ x ∈ c, V.cell (.s x) = true) → o + c.length ≤ cs.length → plainZ cs → zbe_ base l o (c.map V.s) h cs = some (cs.take o ++ c.map V.s ++ cs.drop (o + c.length), h)
  | [], o, cs, _, _, _ => by simp [zbe_]
  | x :: c, o, cs, hc, hl, hp => by
    simp only [List.length_cons] at hl
    have ho : o < cs.length := by omega
    have h0 := List.getElem?_eq_getElem ho
    have hx := hc x (by simp)
    have hst : stCell base l o cs[o] (.s x) h = some (.s x, h) := by
      have ht := hp o _ h0
      generalize cs[o] = old at ht
      cases old <;> first | (cases ht; done) | (cases x <;> first | (cases hx; done) | exact if_pos (.inr (Nat.zero_le _)))
    simp only [List.map_cons, zbe_, h0, zab_, hst]
    rw [zww_ c (o + 1) (cs.set o (.s x)) (fun y hy => hc y (List.mem_cons_of_mem _ hy)) (by simp; omega) ?_]
    · congr 2
      rw [List.take_set, List.take_add_one, h0]
      have e1 : (cs.take o ++ (some cs[o]).toList).set o (V.s x) = cs.take o ++ [V.s x] := by
        rw [List.set_append_right _ _ (by simp; omega)]
        simp [Nat.min_eq_left (Nat.le_of_lt ho)]
      rw [e1, List.drop_set_of_lt (by omega)]
      simp [Nat.add_assoc, Nat.add_comm 1]
    · intro i y e
      rw [List.getElem?_set] at e
      split at e
      · first
          | (injection e with e; subst e; rfl)
          | (split at e
             · injection e with e
               subst e
               rfl
             · cases e)
      · exact hp i y e
theorem zwx_ {base k : Nat} {hh : H} {z : List V} {c : List Value} (hc : OkC k c) (hz : z.length = k) (hp : plainZ z) : xstore base (hh ++ [.box false z]) k (.ptr hh.length 0) (opq c) = some (hh ++ [.box false (c.map V.s)]) := by
  have h1 := zww_ (base := base) (l := hh.length) (h := hh ++ [.box false z]) c 0 z hc.2 (by rw [hz, hc.1]; omega) hp
  have h2 : z.drop (0 + c.length) = [] := List.drop_of_length_le (by rw [hz, hc.1]; omega)
  rw [h2, List.take_zero, List.nil_append, List.append_nil] at h1
  simp only [xstore, opq, V.cells, List.length_map, hc.1, if_true, boxAt]
  rw [zgb_]
  simp only [List.getElem?_cons_zero, zab_, Bool.false_eq_true, if_false, h1, zwd_, List.set_cons_zero]
def seqX0 : List XOp := [⟨some 2, .box false (.t 0), none⟩, ⟨some 4, .cp (.c vnil), none⟩]
def seqX1 : List XOp := [⟨some 6, .cp (.t 1), none⟩]
def seqX2 (k : Nat) (z : List V) : List XOp := [⟨some 5, .alloc z, none⟩, ⟨none, .store k (.t 5) (.t 7), none⟩]
def seqX3 (k lim : Nat) : List XOp := [⟨some 8, .load 1 false (.t 2), none⟩, ⟨some 9, .load k true (.t 5), none⟩, ⟨some 10, .bslice false k [.t 9], none⟩, ⟨some 11, .append k lim (.t 8) (.t 10), none⟩, ⟨none, .store 1 (.t 2) (.t 11), none⟩]
def seqX4 : List XOp := [⟨some 12, .load 1 false (.t 2), none⟩, ⟨some 4, .cp (.t 12), none⟩]
def valX0 : List XOp := [⟨some 5, .load 1 false (.t 1), none⟩, ⟨some 6, .len false (.t 5), none⟩, ⟨some 7, .cp (.c (vi 0)), none⟩]
def valX1 : List XOp := [⟨some 8, .bin .lss (.t 7) (.t 6), none⟩]
def valX2 (k : Nat) (z : List V) : List XOp := [⟨some 9, .iaddr k (.t 5) (.t 7), none⟩, ⟨some 10, .load k true (.t 9), none⟩, ⟨some 4, .alloc z, none⟩, ⟨none, .store k (.t 4) (.t 10), none⟩]
def valX4 : List XOp := [⟨some 15, .bin .add (.t 7) (.c (vi 1)), none⟩, ⟨some 7, .cp (.t 15), none⟩]
def bv (k : Nat) (cs : List (List Value)) : V := if cs = [] then vnil else .own k (cs.map opq)
section
variable {cf : CallF} {base : Nat} {s : Sl} {hh : H} {k lim : Nat} {z : List V}
theorem zbsx_ (f : V) : xops cf base seqX0 ⟨args0 [vnil, f], []⟩ = some ⟨upd (upd (args0 [vnil, f]) 2 (.ptr 0 0)) 4 vnil, [.box false [vnil]]⟩ := rfl
theorem zbsy_ : xops cf base seqX1 ⟨s, hh⟩ = some ⟨upd s 6 (s 1), hh⟩ := rfl
theorem zbsz_ {c : List Value} (hc : OkC k c) (hz : z.length = k) (hp : plainZ z) (h7 : s 7 = opq c) : xops cf base (seqX2 k z) ⟨s, hh⟩ = some ⟨upd s 5 (.ptr hh.length 0), hh ++ [.box false (c.map V.s)]⟩ := by
  have s1 : xop cf base s hh (.alloc z) = some (.ptr hh.length 0, hh ++ [.box false z]) := rfl
  have s2 : xop cf base (upd s 5 (.ptr hh.length 0)) (hh ++ [.box false z]) (.store k (.t 5) (.t 7)) = some (.u, hh ++ [.box false (c.map V.s)]) := by
    show ob (xstore base (hh ++ [.box false z]) k (.ptr hh.length 0) (s 7)) (fun h => some (V.u, h)) = _
    rw [h7, zwx_ hc hz hp, zab_]
  simp only [seqX2, zdo_, zdn_, zdq_, s1, s2, zab_, zdp_, zlh_]
theorem zbta_ {q : Nat} {c : List Value} {pre : List (List Value)} (hc : OkC k c) (h2 : s 2 = .ptr 0 0) (h5 : s 5 = .ptr q 0) (hb : hh[0]? = some (.box false [bv k pre])) (hq : hh[q]? = some (.box false (c.map V.s))) (hl : pre.length + 1 ≤ lim) :
    ∃ s' hh', xops cf base (seqX3 k lim) ⟨s, hh⟩ = some ⟨s', hh'⟩ ∧ hh'[0]? = some (.box false [bv k (pre ++ [c])]) ∧ hh.length ≤ hh'.length := by
  have hw := zbsw_ hc
  have hcl := zbsv_ c
  have h0 : 0 < hh.length := (List.getElem?_eq_some_iff.1 hb).1
  have hr := zwv_ c
  have ht : (c.map V.s).take k = c.map V.s := List.take_of_length_le (by simp [hc.1])
  have hld : xload hh k true (.ptr q 0) = some (opq c) := by
    simp only [xload, boxAt, hq, zab_, if_true, rdRow, hr, List.length_map, hc.1, Nat.zero_add, Nat.le_refl, List.drop_zero, ht, opq]
  have hcl' : V.closed.closeds [opq c] = true := by simp only [V.closed.closeds, hcl, Bool.and_self]
  have hbs : ∀ s' : Sl, s' 9 = opq c → xop cf base s' hh (.bslice false k [.t 9]) = some (.lst k [opq c], hh) := fun s' h9 => by
    show ob (ob (keep0s [s' 9]) fun l => if V.closed.closeds l = true ∧ wide k l = true then some (V.lst k l) else none) (fun v => some (v, hh)) = _
    have : keep0s [opq c] = some [opq c] := rfl
    rw [h9, this, zab_, if_pos ⟨hcl', hw⟩, zab_]
  have key : ∀ (v v2 : V) (h1 h2' : H), xload hh 1 false (.ptr 0 0) = some v → zax_ hh k lim v (.lst k [opq c]) = some (v2, h1) → xstore base h1 1 (.ptr 0 0) v2 = some h2' →
      xops cf base (seqX3 k lim) ⟨s, hh⟩ = some ⟨upd (upd (upd (upd s 8 v) 9 (opq c)) 10 (.lst k [opq c])) 11 v2, h2'⟩ := by
    intro v v2 h1 h2' e1 e2 e3
    have s1 : xop cf base s hh (.load 1 false (.t 2)) = some (v, hh) := by
      show ob (xload hh 1 false (s 2)) (fun v => some (v, hh)) = _
      rw [h2, e1, zab_]
    have s2 : xop cf base (upd s 8 v) hh (.load k true (.t 5)) = some (opq c, hh) := by
      show ob (xload hh k true (s 5)) (fun v => some (v, hh)) = _
      rw [h5, hld, zab_]
    have s3 := hbs (upd (upd s 8 v) 9 (opq c)) rfl
    have s4 : xop cf base (upd (upd (upd s 8 v) 9 (opq c)) 10 (.lst k [opq c])) hh (.append k lim (.t 8) (.t 10)) = some (v2, h1) := e2
    have s5 : xop cf base (upd (upd (upd (upd s 8 v) 9 (opq c)) 10 (.lst k [opq c])) 11 v2) h1 (.store 1 (.t 2) (.t 11)) = some (.u, h2') := by
      show ob (xstore base h1 1 (s 2) v2) (fun h => some (V.u, h)) = _
      rw [h2, e3, zab_]
    simp only [seqX3, zdo_, zdn_, zdq_, s1, s2, s3, s4, s5, zab_, zdp_, zlh_]
  have ea : appEls hh (.lst k [opq c]) = some [opq c] := rfl
  by_cases hp : pre = []
  · subst hp
    simp only [bv, if_true] at hb
    have hl' : 1 ≤ lim := by simpa using hl
    refine ⟨_, ((hh ++ [O.arr false k [opq c]]).set hh.length .dead).set 0 (.box false [.own k [opq c]]), key vnil (.ref hh.length 1) (hh ++ [O.arr false k [opq c]]) _ ?_ ?_ ?_, ?_, ?_⟩
    · simp only [xload, boxAt, hb, zab_, Bool.false_eq_true, if_false, List.getElem?_cons_zero, rdCell]
    · simp only [zax_, ea, zab_, hw, hcl', and_self, if_true, List.length_cons, List.length_nil, Nat.zero_add, Nat.one_ne_zero, if_false, hl']
    · have ha : (hh ++ [O.arr false k [opq c]])[0]? = some (.box false [vnil]) := by rw [List.getElem?_append_left h0]; exact hb
      have hb2 : arrN (hh ++ [O.arr false k [opq c]]) hh.length 1 = some (false, k, [opq c]) := by
        unfold arrN arrAt
        rw [zgb_]
        rfl
      have hb3 : stCell base 0 0 vnil (.ref hh.length 1) (hh ++ [O.arr false k [opq c]]) = some (.own k [opq c], (hh ++ [O.arr false k [opq c]]).set hh.length .dead) := by
        show ob (arrN (hh ++ [O.arr false k [opq c]]) hh.length 1) _ = _
        rw [hb2, zab_]
        show (if false = true then _ else if V.closed.closeds [opq c] = true then _ else _) = _
        rw [if_neg (by decide), if_pos hcl']
      simp only [xstore, V.cells, List.length_cons, List.length_nil, Nat.zero_add, if_true, boxAt, ha, zab_, Bool.false_eq_true, if_false, zbe_, List.getElem?_cons_zero, hb3, List.set_cons_zero]
    · rw [List.getElem?_set_self (by simp)]
      simp [bv]
    · simp
  · simp only [bv, if_neg hp] at hb
    have ha : (hh.set 0 (.box false [.spent k (pre.map opq) (pre.map opq ++ [opq c])]))[0]? = some (.box false [.spent k (pre.map opq) (pre.map opq ++ [opq c])]) := List.getElem?_set_self h0
    refine ⟨_, (hh.set 0 (.box false [.spent k (pre.map opq) (pre.map opq ++ [opq c])])).set 0 (.box false [.own k (pre.map opq ++ [opq c])]), key (.lnk 0 0 k (pre.map opq)) (.gro 0 0 k (pre.map opq ++ [opq c])) (hh.set 0 (.box false [.spent k (pre.map opq) (pre.map opq ++ [opq c])])) _ ?_ ?_ ?_, ?_, ?_⟩
    · simp only [xload, boxAt, hb, zab_, Bool.false_eq_true, if_false, List.getElem?_cons_zero, rdCell]
    · have hl' : (pre.map opq).length + 1 ≤ lim := by simpa using hl
      simp only [zax_, ea, zab_, hw, hcl', and_self, if_true, boxAt, hb, List.getElem?_cons_zero, List.length_cons, List.length_nil, Nat.zero_add, hl', Nat.one_ne_zero, if_false, List.set_cons_zero]
    · simp only [xstore, V.cells, List.length_cons, List.length_nil, Nat.zero_add, if_true, boxAt, ha, zab_, Bool.false_eq_true, if_false, zbe_, List.getElem?_cons_zero, stCell, and_self, List.set_cons_zero]
    · rw [List.getElem?_set_self (by simpa using h0)]
      simp [bv, hp]
    · simp
theorem zbtb_ (y L : V) (n : List V) (hL : L.toL hh = some n) : xops cf base valX0 ⟨args0 [y, .fptr (.agg [L]) 0], hh⟩ = some ⟨upd (upd (upd (args0 [y, .fptr (.agg [L]) 0]) 5 L) 6 (vi n.length)) 7 (vi 0), hh⟩ := by
  have s2 : xop cf base (upd (args0 [y, .fptr (.agg [L]) 0]) 5 L) hh (.len false (.t 5)) = some (vi n.length, hh) := by
    show ob (ob (L.toL hh) fun es => some (vi es.length)) (fun v => some (v, hh)) = _
    rw [hL, zab_, zab_]
  have s1 : xop cf base (args0 [y, .fptr (.agg [L]) 0]) hh (.load 1 false (.t 1)) = some (L, hh) := rfl
  have s3 : xop cf base (upd (upd (args0 [y, .fptr (.agg [L]) 0]) 5 L) 6 (vi n.length)) hh (.cp (.c (vi 0))) = some (vi 0, hh) := rfl
  simp only [valX0, zdo_, zdn_, zdq_, s1, s2, s3, zab_, zdp_]
theorem zbtc_ {a b : Int} (h7 : s 7 = vi a) (h6 : s 6 = vi b) : xops cf base valX1 ⟨s, hh⟩ = some ⟨upd s 8 (vb (decide (a < b))), hh⟩ := by
  have s1 : xop cf base s hh (.bin .lss (.t 7) (.t 6)) = some (vb (decide (a < b)), hh) := by
    show ob (xbin .lss (s 7) (s 6)) (fun v => some (v, hh)) = _
    rw [h7, h6, zvz_, zab_]
  simp only [valX1, zdo_, zdn_, zdq_, s1, zab_, zdp_]
theorem zbtd_ {cs : List (List Value)} {c : List Value} {j : Nat} (hc : OkC k c) (hz : z.length = k) (hp : plainZ z) (h5 : s 5 = .lst k (cs.map opq)) (h7 : s 7 = vi j) (hj : cs[j]? = some c) :
    xops cf base (valX2 k z) ⟨s, hh⟩ = some ⟨upd (upd (upd s 9 (.fptr (opq c) 0)) 10 (opq c)) 4 (.ptr hh.length 0), hh ++ [.box false (c.map V.s)]⟩ := by
  have s1 : xop cf base s hh (.iaddr k (.t 5) (.t 7)) = some (.fptr (opq c) 0, hh) := by
    show ob (ob (asNat (s 7)) fun i => match s 5 with
      | .ref l n => ob (arrN hh l n) fun p => if i < n ∧ k = p.2.1 then some (.eptr l n i 0) else none
      | .lst k' es => if k = k' then ob es[i]? fun e => some (.fptr e 0) else none
      | .lnk _ _ k' es => if k = k' then ob es[i]? fun e => some (.fptr e 0) else none
      | v => zfi_ hh k v i) (fun v => some (v, hh)) = _
    have : asNat (vi (j : Int)) = some j := by simp [asNat]
    rw [h7, h5, this, zab_]
    simp only [if_true, List.getElem?_map, hj, Option.map_some, zab_]
  have s2 : xop cf base (upd s 9 (.fptr (opq c) 0)) hh (.load k true (.t 9)) = some (opq c, hh) := by
    show ob (rdRow k true 0 (opq c).cells) (fun v => some (v, hh)) = _
    have ht : (c.map V.s).take k = c.map V.s := List.take_of_length_le (by simp [hc.1])
    simp only [rdRow, opq, V.cells, if_true, List.length_map, hc.1, Nat.zero_add, Nat.le_refl, List.drop_zero, ht, zab_]
  have s3 : xop cf base (upd (upd s 9 (.fptr (opq c) 0)) 10 (opq c)) hh (.alloc z) = some (.ptr hh.length 0, hh ++ [.box false z]) := rfl
  have s4 : xop cf base (upd (upd (upd s 9 (.fptr (opq c) 0)) 10 (opq c)) 4 (.ptr hh.length 0)) (hh ++ [.box false z]) (.store k (.t 4) (.t 10)) = some (.u, hh ++ [.box false (c.map V.s)]) := by
    show ob (xstore base (hh ++ [.box false z]) k (.ptr hh.length 0) (opq c)) (fun h => some (V.u, h)) = _
    rw [zwx_ hc hz hp, zab_]
  simp only [valX2, zdo_, zdn_, zdq_, s1, s2, s3, s4, zab_, zdp_, zlh_]
theorem wrap_s {n : Int} (h1 : -9223372036854775808 ≤ n) (h2 : n ≤ 9223372036854775807) : IntKind.i64.wrap n = n := by
  have e : IntKind.i64.wrap n = if n % 18446744073709551616 ≥ 9223372036854775808 then n % 18446744073709551616 - 18446744073709551616 else n % 18446744073709551616 := by
    simp [IntKind.wrap, IntKind.bits, IntKind.signed]
  rw [e]
  split <;> omega
theorem zbte_ {j : Nat} (h7 : s 7 = vi j) (hj : j < 4611686018427387904) : xops cf base valX4 ⟨s, hh⟩ = some ⟨upd (upd s 15 (vi ((j + 1 : Nat) : Int))) 7 (vi ((j + 1 : Nat) : Int)), hh⟩ := by
  have s1 : xop cf base s hh (.bin .add (.t 7) (.c (vi 1))) = some (vi ((j + 1 : Nat) : Int), hh) := by
    show ob (xbin .add (s 7) (vi 1)) (fun v => some (v, hh)) = _
    rw [h7, zvy_, zab_, show IntKind.i64.wrap ((j : Int) + 1) = ((j + 1 : Nat) : Int) by rw [wrap_s (by omega) (by omega)]; rfl]
  have s2 : xop cf base (upd s 15 (vi ((j + 1 : Nat) : Int))) hh (.cp (.t 15)) = some (vi ((j + 1 : Nat) : Int), hh) := rfl
  simp only [valX4, zdo_, zdn_, zdq_, s1, s2, zab_, zdp_]
theorem zbtf_ {v : V} (h2 : s 2 = .ptr 0 0) (hb : hh[0]? = some (.box false [v])) : xops cf base seqX4 ⟨s, hh⟩ = some ⟨upd (upd s 12 (rdCell 0 0 v)) 4 (rdCell 0 0 v), hh⟩ := by
  have s1 : xop cf base s hh (.load 1 false (.t 2)) = some (rdCell 0 0 v, hh) := by
    show ob (xload hh 1 false (s 2)) (fun v => some (v, hh)) = _
    rw [h2]
    simp only [xload, boxAt, hb, zab_, Bool.false_eq_true, if_false, List.getElem?_cons_zero]
  have s2 : xop cf base (upd s 12 (rdCell 0 0 v)) hh (.cp (.t 12)) = some (rdCell 0 0 v, hh) := rfl
  simp only [seqX4, zdo_, zdn_, zdq_, s1, s2, zab_, zdp_]
end
end Go.Proofs.Sl
namespace Go.Proofs.Sl
def zpl_ (o : Oper) : Bool := match o with
  | { dst := some 13, op := .call c, guard := none, .. } => (match c.callee, c.args.toList with
    | .value (.tmp 11), [.tmp 12] => true
    | _, _ => false)
  | _ => false
def zpm_ (P : Program) (φ : Nat → Option FuncId) (fn : Func) (k lim : Nat) (z : List V) : Bool := match fn.body with
  | some (.seq (.region _ o0 false) (.seq (.seq (.region _ o1 false) (.block _ (.rangeFunc (.tmp 6) ps (.region _ o2 false) (.block _ (.region _ o3 false))))) (.seq (.region _ o4 false) .ret))) =>
    ps == #[7] && chkXs P φ 13 o0 o0.toList seqX0 && chkXs P φ 13 o1 o1.toList seqX1 && chkXs P φ 13 o2 o2.toList (seqX2 k z) && chkXs P φ 13 o3 o3.toList (seqX3 k lim) && chkXs P φ 13 o4 o4.toList seqX4 &&
      fn.ntmps == 13 && (match fn.results.toList with
        | [.tmp 4] => true
        | _ => false)
  | _ => false
def zll_ (P : Program) (φ : Nat → Option FuncId) (fn : Func) (k : Nat) (z : List V) : Bool := match fn.body with
  | some (.seq (.region _ o0 false) (.block b0 (.loop (.seq (.region _ o1 false) (.seq (.cond (.tmp 8) .skip (.exit e0)) (.seq (.block b1 (.seq (.region _ o2 false) (.seq (.region _ o3 false) (.cond (.tmp 14) .ret .skip)))) (.region _ o4 false))))))) =>
    b0 == e0 && chkXs P φ 16 o0 o0.toList valX0 && chkXs P φ 16 o1 o1.toList valX1 && chkXs P φ 16 o2 o2.toList (valX2 k z) && (match o3.toList with
      | [a, b, c, d] => chkX P φ 16 o3 a ⟨some 11, .cp (.t 0), none⟩ && chkX P φ 16 o3 b ⟨some 12, .load k true (.t 4), none⟩ && zpl_ c && chkX P φ 16 o3 d ⟨some 14, .un .not (.t 13), none⟩
      | _ => false) && chkXs P φ 16 o4 o4.toList valX4 && fn.ntmps == 16 && fn.results.toList.isEmpty
  | _ => false
section
variable {P : Program} {φ : Nat → Option FuncId} {h h' : H} {g g' : G} {w w' : World} {N : Nat} {s : Sl} {a : Act} {ops : Array Oper} {h0 : H} {g0 : G} {w0 : World} {cf : CallF} {base : Nat}
theorem zpn_ {F : Fence} {n : Nat} (hF : ∀ f, F.fn f) {i : Nat} {o : Oper} {x : XOp} (ho : ops[i]? = some o) (k : chkX P φ N ops o x = true) (nc : noCall x.op = true) {st st' : St} (so : SO φ N h0 g0 w0 st a w) (e : xstep cf base x st = some st') {K : Act → World → Prop} {Q : Exit → Act → World → Prop}
    (hK : ∀ a' w', SO φ N h0 g0 w0 st' a' w' → K a' w') : wpOpIn F n P ops Q i K a w := by
  have hd : ∀ a' w' st, SO φ N h0 g0 w0 st a' w' → withD a' [] = a' := by
    rintro a' w' st ⟨g, _, _, S⟩
    rw [← S.defers]
    rfl
  have := zwp_ (n := n) hF ho k nc so e [] (K := K) (Q := Q) (fun a' w' so' => by rw [hd _ _ _ so']; exact hK a' w' so')
  rw [hd _ _ _ so] at this
  exact this
structure JS (φ : Nat → Option FuncId) (g0 : G) (w0 : World) (s2 : Sl) (a2 : Act) (l D : Nat) (rec : Loop) (k : Nat) (pre : List (List Value)) (hh : H) (g : G) (W : World) : Prop where
  R : SR φ hh g W
  X : Ext [] g0 w0 hh g W
  S : Slots φ g hh 13 s2 a2
  box : hh[0]? = some (.box false [bv k pre])
  L : W.heap[l]? = some (.loop rec)
  K : W.heap[D]? = some (.deferred (some []))
  lw : w0.heap.size ≤ l
section
variable {s2 : Sl} {a2 : Act} {l D k : Nat} {rec rec' : Loop} {pre pre' : List (List Value)} {hh hh' : H} {W W' : World}
theorem JS.step (J : JS φ g0 w0 s2 a2 l D rec k pre hh g W) (R' : SR φ hh' g' W') (X' : Ext hh g W hh' g' W') (hb : hh'[0]? = some (.box false [bv k pre'])) : JS φ g0 w0 s2 a2 l D rec k pre' hh' g' W' :=
  ⟨R', J.X.trans X', J.S.later X'.later, hb, X'.other J.R J.L rfl, X'.other J.R J.K rfl, J.lw⟩
theorem JS.put (J : JS φ g0 w0 s2 a2 l D rec k pre hh g W) (rec' : Loop) (hD : D ≠ l) : JS φ g0 w0 s2 a2 l D rec' k pre hh g (W.putObj l (.loop rec')) := by
  have C : Calm w0.heap.size W (W.putObj l (.loop rec')) := Calm.put J.lw J.L rfl _
  exact ⟨J.R.calm C, J.X.calm C, J.S, J.box, World.putObj_heap_same (Array.getElem?_eq_some_iff.1 J.L).1, (World.putObj_heap_other hD).trans J.K, J.lw⟩
end
theorem zbtg_ {o2 o3 : Array Oper} {i2 i3 b1 : Nat} {s2 : Sl} {a2 : Act} {l D k lim : Nat} {z : List V} {rec : LoopState → Option Code → Loop} {pre : List (List Value)} {hh : H} {W : World} {fn' : FuncId} {m : Nat}
    (hrec : rec = fun st pe => { state := st, pending := pe, fn := fn', tmps := a2.tmps, params := #[7], assign := .region i2 o2 false, body := .block b1 (.region i3 o3 false), defers := D })
    (k2 : chkXs P φ 13 o2 o2.toList (seqX2 k z) = true) (k3 : chkXs P φ 13 o3 o3.toList (seqX3 k lim) = true) (hz : z.length = k) (hp : plainZ z) (hD : D ≠ l) (hs2 : s2 2 = .ptr 0 0)
    (J : JS φ g0 w0 s2 a2 l D (rec .ready none) k pre hh g W) {c : List Value} (hc : OkC k c) (hl : pre.length + 1 ≤ lim) {mv : Value} (hm : Sl.rel φ g hh false (opq c) mv) {R : Ending → World → Prop}
    (hR : ∀ hh' g' W', JS φ g0 w0 s2 a2 l D (rec .ready none) k (pre ++ [c]) hh' g' W' → Later g hh g' hh' → R (.returned (.bool true)) W') :
    (Instr.yield l #[mv]).run P W = .ok (.round l fn' (a2.tmps.setIfInBounds 7 mv) (.region i2 o2 false) (.block b1 (.region i3 o3 false))) W ∧
    RoundIn Fence.wide m P l fn' (a2.tmps.setIfInBounds 7 mv) (.region i2 o2 false) (.block b1 (.region i3 o3 false)) W R := by
  have hF : ∀ f, (Fence.wide.inRound l).fn f := fun _ => trivial
  constructor
  · have := run_yield (P := P) (args := #[mv]) J.L (by rw [hrec]; rfl)
    rw [hrec] at this
    simpa using this
  · refine roundIn_of_wpIn trivial ?_
    have S7 : Slots φ g hh 13 (upd s2 7 (opq c)) { tmps := a2.tmps.setIfInBounds 7 mv, defers := [] } := by
      have := J.S.put (d := some 7) (fun t e => by cases e; decide) hm
      have e : a2.put (some 7) mv = { tmps := a2.tmps.setIfInBounds 7 mv, defers := [] } := by
        simp only [Act.put]
        rw [J.S.defers]
      rw [e] at this
      exact this
    have h0 : 0 < hh.length := (List.getElem?_eq_some_iff.1 J.box).1
    refine zdr_ (cf := fun _ _ _ => none) (base := 0) hF k2 rfl ⟨g, J.R, Ext.refl _ _ _, S7⟩ (zbsz_ hc hz hp rfl) ?_ _
    rintro a3 W3 ⟨g3, R3, X3, S3⟩
    have J3 := J.step R3 X3 (pre' := pre) (by rw [List.getElem?_append_left h0]; exact J.box)
    refine ⟨_, run_beginRound J3.L (by rw [hrec]), ?_⟩
    have J4 := J3.put (rec .busy none) hD
    have e4 : ({ rec .ready none with state := .busy } : Loop) = rec .busy none := by rw [hrec]
    rw [e4]
    obtain ⟨s5, hh5, e5, hb5, hl5⟩ := zbta_ (cf := fun _ _ _ => none) (base := 0) (s := upd (upd s2 7 (opq c)) 5 (.ptr hh.length 0)) (hh := hh ++ [.box false (c.map V.s)]) (q := hh.length) (lim := lim) hc hs2 rfl J4.box (by rw [zgb_]; rfl) hl
    refine wpIn_block ?_
    refine zdr_ (cf := fun _ _ _ => none) (base := 0) hF k3 rfl ⟨g3, J4.R, Ext.refl _ _ _, S3⟩ e5 ?_ _
    rintro a6 W6 ⟨g6, R6, X6, S6⟩
    have J6 := J4.step R6 X6 hb5
    refine ⟨_, _, run_endRound none J6.L, ?_⟩
    have J7 := J6.put (rec .ready none) hD
    have e7 : ({ rec .busy none with state := if (none : Option Code).isNone then .ready else .done, pending := none } : Loop) = rec .ready none := by rw [hrec]; rfl
    rw [e7]
    have LL := X3.later.trans X6.later
    exact hR _ _ _ J7 LL
theorem zbth_ {o : Oper} (ho : zpl_ o = true) {l : Nat} {mv : Value} {nx : Next} {W : World} {a : Act} (h11 : a.eval (.tmp 11) = .func (.yield l) #[] #[]) (h12 : a.eval (.tmp 12) = mv) (hy : (Instr.yield l #[mv]).run P W = .ok nx W) :
    o.dst = some 13 ∧ o.guard = none ∧ (execOp a.eval o).run P W = .ok nx W ∧ ∀ c, o.op ≠ .defer c := by
  unfold zpl_ at ho
  split at ho
  · rename_i c _ _ _
    split at ho
    · rename_i hc ha
      refine ⟨rfl, rfl, ?_, fun c h => by cases h⟩
      have hargs : c.args.map a.eval = #[mv] := by
        apply Array.ext'
        simp [ha, h12]
      simp only [execOp, resolve, hc, h11, Deferred.ofValue, Sem.run_bind, Sem.run_pure, Result.andThen_ok, invoke, hargs, hy]
      simp [hy]
    · cases ho
  · cases ho
theorem zbti_ {fV : Func} {vid : FuncId} (hV : P.funcs[vid]? = some fV) {k lim : Nat} {z : List V} (kV : zll_ P φ fV k z = true) (hz : z.length = k) (hp : plainZ z)
    {o2 o3 : Array Oper} {i2 i3 b1 : Nat} {s2 : Sl} {a2 : Act} {l D : Nat} {rec : LoopState → Option Code → Loop} {fn' : FuncId}
    (hrec : rec = fun st pe => { state := st, pending := pe, fn := fn', tmps := a2.tmps, params := #[7], assign := .region i2 o2 false, body := .block b1 (.region i3 o3 false), defers := D })
    (k2 : chkXs P φ 13 o2 o2.toList (seqX2 k z) = true) (k3 : chkXs P φ 13 o3 o3.toList (seqX3 k lim) = true) (hD : D ≠ l) (hs2 : s2 2 = .ptr 0 0)
    {L : V} {cs : List (List Value)} (hL : L = vnil ∧ cs = [] ∨ L = .lst k (cs.map opq)) (hc : ∀ c ∈ cs, OkC k c) (hlim : cs.length ≤ lim) (hbig : lim < 4611686018427387904)
    {hh : H} {g : G} {W : World} (J : JS φ g0 w0 s2 a2 l D (rec .ready none) k [] hh g W) {C : Array Value} (rC : rels φ g hh false [.fptr (.agg [L]) 0] C.toList) (m : Nat) :
    CallsIn Fence.wide m P vid (#[.func (.yield l) #[] #[]] ++ C) W fun e W' => (∃ v, e = .returned v) ∧ ∃ hh g, JS φ g0 w0 s2 a2 l D (rec .ready none) k cs hh g W' := by
  have hF : ∀ f, Fence.wide.fn f := fun _ => trivial
  have hFr : Fence.wide.round = none := rfl
  unfold zll_ at kV
  split at kV
  rotate_left
  · cases kV
  rename_i j0 p0 b0 j1 p1 e0 b2 j2 p2 j3 p3 j4 p4 hbody
  simp only [Bool.and_eq_true, beq_iff_eq] at kV
  obtain ⟨⟨⟨⟨⟨⟨⟨hb0, v0⟩, v1⟩, v2⟩, v3⟩, v4⟩, hn⟩, hres⟩ := kV
  subst hb0
  split at v3
  rotate_left
  · cases v3
  rename_i y0 y1 y2 y3 hy3
  simp only [Bool.and_eq_true] at v3
  obtain ⟨⟨⟨u0, u1⟩, u2⟩, u3⟩ := v3
  have hn3 : p3.size = 4 := by rw [← Array.length_toList, hy3]; rfl
  have q0 : p3[0]? = some y0 := by rw [← Array.getElem?_toList, hy3]; rfl
  have q1 : p3[1]? = some y1 := by rw [← Array.getElem?_toList, hy3]; rfl
  have q2 : p3[2]? = some y2 := by rw [← Array.getElem?_toList, hy3]; rfl
  have q3 : p3[3]? = some y3 := by rw [← Array.getElem?_toList, hy3]; rfl
  let Y : V := .s (.func (.yield l) #[] #[])
  have hLL : L.toL hh = some (cs.map opq) := by rcases hL with ⟨rfl, rfl⟩ | rfl <;> rfl
  refine callsIn_of_wp hV hbody trivial ?_
  have rA : rels φ g hh false [Y, .fptr (.agg [L]) 0] ([.func (.yield l) #[] #[]] ++ C.toList) := zag_.2 ⟨rel_of rfl, rC⟩
  have hlen := zaf_ rC
  have Sv := zle_ (n := 16) rA (by simp)
  have eA : ([Value.func (.yield l) #[] #[]] ++ C.toList).toArray = #[.func (.yield l) #[] #[]] ++ C := by apply Array.ext'; simp
  rw [eA] at Sv
  rw [hn]
  refine wpIn_seq (zdr_ (cf := fun _ _ _ => none) (base := 0) hF v0 rfl ⟨g, J.R, Ext.refl _ _ _, Sv⟩ (zbtb_ _ _ _ hLL) ?_ _)
  rintro a1 W1 ⟨g1, R1, X1, S1⟩
  have J1 := J.step R1 X1 J.box
  refine wpIn_block ?_
  let mu : Act → World → Nat := fun a _ => cs.length - (match a.tmps.getD 7 undef with
    | .int _ x => x.toNat
    | _ => 0)
  refine wpIn_loop (fun a W => ∃ j hh g sv, j ≤ cs.length ∧ JS φ g0 w0 s2 a2 l D (rec .ready none) k (cs.take j) hh g W ∧ Slots φ g hh 16 sv a ∧ sv 0 = Y ∧ sv 5 = L ∧ sv 6 = vi cs.length ∧ sv 7 = vi j) mu
    ⟨0, hh, g1, _, Nat.zero_le _, J1, S1, rfl, rfl, by simp [upd], rfl⟩ ?_
  rintro a W ⟨j, hh, g, sv, hj, J, S, h0, h5, h6, h7⟩
  have h7t : a.tmps.getD 7 undef = .int .i64 j := by
    have := S.rel 7 (by decide)
    rw [h7] at this
    exact rel_s this
  refine wpIn_seq (zdr_ (cf := fun _ _ _ => none) (base := 0) hF v1 rfl ⟨g, J.R, Ext.refl _ _ _, S⟩ (zbtc_ h7 h6) ?_ _)
  rintro a2' W2 ⟨g2, R2, X2, S2⟩
  have J2 := J.step R2 X2 J.box
  have h8t : a2'.eval (.tmp 8) = .bool (decide ((j : Int) < cs.length)) := rel_s (S2.rel 8 (by decide))
  by_cases hlt : j < cs.length
  · have hd : decide ((j : Int) < cs.length) = true := by simp; omega
    rw [hd] at h8t
    refine wpIn_seq (wpIn_cond_true h8t (wpIn_skip ?_))
    obtain ⟨c, hcj⟩ : ∃ c, cs[j]? = some c := ⟨_, List.getElem?_eq_getElem hlt⟩
    have hok := hc c (List.mem_of_getElem? hcj)
    have hL' : L = .lst k (cs.map opq) := by
      rcases hL with ⟨_, rfl⟩ | h
      · simp at hlt
      · exact h
    refine wpIn_seq (wpIn_block (wpIn_seq (zdr_ (cf := fun _ _ _ => none) (base := 0) hF v2 rfl ⟨g2, J2.R, Ext.refl _ _ _, S2⟩ (zbtd_ (cs := cs) (j := j) hok hz hp (h5.trans hL') h7 hcj) ?_ _)))
    rintro a3 W3 ⟨g3, R3, X3, S3⟩
    have hpos : 0 < hh.length := (List.getElem?_eq_some_iff.1 J.box).1
    have J3 := J2.step R3 X3 (pre' := cs.take j) (by rw [List.getElem?_append_left hpos]; exact J.box)
    refine wpIn_seq (wpIn_region ?_)
    rw [hn3, show List.range 4 = [0, 1, 2, 3] from rfl, wpOpsIn_cons]
    refine zpn_ (cf := fun _ _ _ => none) (base := 0) hF q0 u0 rfl ⟨g3, J3.R, Ext.refl _ _ _, S3⟩ (st' := ⟨upd (upd (upd (upd (upd sv 8 (vb true)) 9 (.fptr (opq c) 0)) 10 (opq c)) 4 (.ptr hh.length 0)) 11 Y, hh ++ [.box false (c.map V.s)]⟩) (by rw [← h0, hd]; rfl) ?_
    rintro a4 W4 ⟨g4, R4, X4, S4⟩
    have J4 := J3.step R4 X4 J3.box
    rw [wpOpsIn_cons]
    have hld : xload (hh ++ [.box false (c.map V.s)]) k true (.ptr hh.length 0) = some (opq c) := by
      have ht : (c.map V.s).take k = c.map V.s := List.take_of_length_le (by simp [hok.1])
      unfold xload boxAt
      simp only [zgb_, List.getElem?_cons_zero, zab_, if_true, rdRow, zwv_, List.length_map, hok.1, Nat.zero_add, Nat.le_refl, List.drop_zero, ht, opq]
    refine zpn_ (cf := fun _ _ _ => none) (base := 0) hF q1 u1 rfl ⟨g4, J4.R, Ext.refl _ _ _, S4⟩ (st' := ⟨upd (upd (upd (upd (upd (upd sv 8 (vb true)) 9 (.fptr (opq c) 0)) 10 (opq c)) 4 (.ptr hh.length 0)) 11 Y) 12 (opq c), hh ++ [.box false (c.map V.s)]⟩) ?_ ?_
    · show ob (ob (xload (hh ++ [.box false (c.map V.s)]) k true (.ptr hh.length 0)) fun v => some (v, hh ++ [.box false (c.map V.s)])) (fun p => some (⟨put _ (some 12) p.1, p.2⟩ : St)) = _
      rw [hld, zab_, zab_]
      rfl
    rintro a5 W5 ⟨g5, R5, X5, S5⟩
    have J5 := J4.step R5 X5 J4.box
    have h11 : a5.eval (.tmp 11) = .func (.yield l) #[] #[] := rel_s (S5.rel 11 (by decide))
    have h12 := S5.rel 12 (by decide)
    have htk : cs.take j ++ [c] = cs.take (j + 1) := by rw [List.take_add_one, hcj]; rfl
    rw [wpOpsIn_cons]
    have RW := fun (R : Ending → World → Prop) (hR : ∀ hh' g' W', JS φ g0 w0 s2 a2 l D (rec .ready none) k (cs.take (j + 1)) hh' g' W' → Later g5 (hh ++ [.box false (c.map V.s)]) g' hh' → R (.returned (.bool true)) W') =>
      zbtg_ (P := P) (m := m - 1) hrec k2 k3 hz hp hD hs2 J5 hok (by simp; omega) (mv := a5.eval (.tmp 12)) h12 (R := R) (by rw [htk]; exact hR)
    obtain ⟨hdst, hgd, hrun, hndf⟩ := zbth_ u2 h11 rfl (RW (fun _ _ => True) (fun _ _ _ _ _ => trivial)).1
    simp only [wpOpIn, q2]
    rw [if_pos (by simp [Region.wanted, hgd])]
    refine ⟨fun _ _ => trivial, ?_⟩
    rw [Oper.semAt_eq _ _ _ hndf, hrun, Oper.uponIn_round]
    refine ⟨fun h => absurd h (by decide), (RW _ ?_).2⟩
    rintro hh6 g6 W6 J6 L6
    show wpOpsIn Fence.wide m P p3 _ [3] (a5.put y2.dst (.bool true)) W6
    rw [hdst, wpOpsIn_cons]
    have S6 := (S5.later L6).put (d := some 13) (fun t e => by cases e; decide) (v := vb true) (mv := .bool true) (rel_of rfl)
    refine zpn_ (cf := fun _ _ _ => none) (base := 0) hF q3 u3 rfl (st := ⟨_, hh6⟩) ⟨g6, J6.R, Ext.refl _ _ _, S6⟩ (st' := ⟨upd (upd (upd (upd (upd (upd (upd (upd sv 8 (vb true)) 9 (.fptr (opq c) 0)) 10 (opq c)) 4 (.ptr hh.length 0)) 11 Y) 12 (opq c)) 13 (vb true)) 14 (vb false), hh6⟩) rfl ?_
    rintro a7 W7 ⟨g7, R7, X7, S7⟩
    have J7 := J6.step R7 X7 J6.box
    have h14 : a7.eval (.tmp 14) = .bool false := rel_s (S7.rel 14 (by decide))
    show (Code.cond (.tmp 14) .ret .skip).wpIn _ _ _ _ _ _
    refine wpIn_cond_false h14 (wpIn_skip ?_)
    show (Code.region j4 p4 false).wpIn _ _ _ _ _ _
    refine zdr_ (cf := fun _ _ _ => none) (base := 0) hF v4 rfl ⟨g7, J7.R, Ext.refl _ _ _, S7⟩ (zbte_ (j := j) h7 (by omega)) ?_ _
    rintro a8 W8 ⟨g8, R8, X8, S8⟩
    have J8 := J7.step R8 X8 J7.box
    refine ⟨⟨j + 1, hh6, g8, _, hlt, J8, S8, h0, h5, h6, rfl⟩, ?_⟩
    have h7t' : a8.tmps.getD 7 undef = .int .i64 ((j + 1 : Nat) : Int) := rel_s (S8.rel 7 (by decide))
    show cs.length - (match a8.tmps.getD 7 undef with
      | .int _ x => x.toNat
      | _ => 0) < cs.length - (match a.tmps.getD 7 undef with
      | .int _ x => x.toNat
      | _ => 0)
    rw [h7t, h7t']
    show cs.length - ((j + 1 : Nat) : Int).toNat < cs.length - ((j : Nat) : Int).toNat
    rw [Int.toNat_natCast, Int.toNat_natCast]
    omega
  · have hd : decide ((j : Int) < cs.length) = false := by simp; omega
    rw [hd] at h8t
    refine wpIn_seq (wpIn_cond_false h8t (wpIn_exit ?_))
    obtain rfl : j = cs.length := by omega
    rw [List.take_length] at J2
    show Exit.inBlock b0 _ (.exit b0) _ _
    simp only [Exit.inBlock, if_true]
    refine ⟨S2.defers, ?_⟩
    have hr0 : fV.results = #[] := by
      apply Array.ext'
      simpa using hres
    refine ⟨.tuple #[], ?_, ⟨_, rfl⟩, _, _, J2⟩
    simp [results, hr0]
end
end Go.Proofs.Sl
namespace Go.Proofs.Sl
section
variable {P : Program} {φ : Nat → Option FuncId} {g g' : G} {w w' : World}
theorem zwy_ {fA fV : Func} {id vid it : Nat} (hA : P.funcs[id]? = some fA) (hV : P.funcs[vid]? = some fV) (hit : φ it = some vid) {k lim : Nat} {z : List V} (kA : zpm_ P φ fA k lim z = true) (kV : zll_ P φ fV k z = true) (hz : z.length = k) (hp : plainZ z) (hbig : lim < 4611686018427387904) (Tk : TOk P φ)
    {L : V} {cs : List (List Value)} (hL : L = vnil ∧ cs = [] ∨ L = .lst k (cs.map opq)) (hc : ∀ c ∈ cs, OkC k c) (hlim : cs.length ≤ lim) (R : SR φ [] g w) {ms : List Value} (r : rels φ g [] false [vnil, .fn it [] [.fptr (.agg [L]) 0]] ms) :
    Calls P id ms.toArray w fun e w' => ∃ mv gf hh, e = .returned mv ∧ SR φ hh gf w' ∧ Ext [] g w hh gf w' ∧ hh[0]? = some (.box false [bv k cs]) ∧ rel φ gf hh false (rdCell 0 0 (bv k cs)) mv := by
  have hF : ∀ f, Fence.wide.fn f := fun _ => trivial
  unfold zpm_ at kA
  split at kA
  rotate_left
  · cases kA
  rename_i i0 o0 i1 o1 c1 ps i2 o2 c2 i3 o3 i4 o4 hbody
  simp only [Bool.and_eq_true, beq_iff_eq] at kA
  obtain ⟨⟨⟨⟨⟨⟨⟨rfl, k0⟩, k1⟩, k2⟩, k3⟩, k4⟩, hn⟩, hres⟩ := kA
  split at hres
  rotate_left
  · cases hres
  rename_i hr4
  have hlen := zaf_ r
  refine (callsIn_wide (n := 0)).1 ?_
  refine callsIn_of_wp_marks hA hbody trivial ?_
  have Sa := zle_ (n := 13) r (by simp)
  rw [hn]
  refine wpIn_seq (zdr_ (cf := fun _ _ _ => none) (base := 0) hF k0 rfl ⟨g, R, Ext.refl _ _ _, Sa⟩ (zbsx_ _) ?_ _)
  rintro a1 w1 ⟨g1, R1, X1, S1⟩
  refine wpIn_seq (wpIn_seq (zdr_ (cf := fun _ _ _ => none) (base := 0) hF k1 rfl ⟨g1, R1, X1, S1⟩ zbsy_ ?_ _))
  rintro a2 w2 ⟨g2, R2, X2, S2⟩
  obtain ⟨s2, hs2⟩ : ∃ s2, s2 = upd (upd (upd (args0 [vnil, .fn it [] [.fptr (.agg [L]) 0]]) 2 (.ptr 0 0)) 4 vnil) 6 (upd (upd (args0 [vnil, .fn it [] [.fptr (.agg [L]) 0]]) 2 (.ptr 0 0)) 4 vnil 1) := ⟨_, rfl⟩
  replace S2 : Slots φ g2 [.box false [vnil]] 13 s2 a2 := by rw [hs2]; exact S2
  replace R2 : SR φ [.box false [vnil]] g2 w2 := R2
  replace X2 : Ext [] g w [.box false [vnil]] g2 w2 := X2
  have h2 : s2 2 = .ptr 0 0 := by rw [hs2]; rfl
  have h6 := S2.rel 6 (by decide)
  rw [show s2 6 = .fn it [] [.fptr (.agg [L]) 0] by rw [hs2]; rfl] at h6
  simp only [rel] at h6
  obtain ⟨id', A, C, e1, e2, rA, rC⟩ := h6
  rw [hit] at e1
  injection e1 with e1
  subst e1
  rw [zac_] at rA
  have hA0 : A = #[] := Array.ext' (by simpa using rA)
  subst hA0
  have hg : a2.eval (.tmp 6) = .func (.func vid) #[] C := e2
  refine wpIn_block (wpIn_rangeFunc ?_)
  intro fn' _
  obtain ⟨rec, hrec⟩ : ∃ rec : LoopState → Option Code → Loop, rec = fun st pe => { state := st, pending := pe, fn := fn', tmps := a2.tmps, params := #[7], assign := .region i2 o2 false, body := .block c2 (.region i3 o3 false), defers := w2.heap.size } := ⟨_, rfl⟩
  obtain ⟨W1, hW1⟩ : ∃ W1, (w2.alloc (.deferred (some []))).alloc (.loop (rec .ready none)) = W1 := ⟨_, rfl⟩
  have hL1 : W1.heap[w2.heap.size + 1]? = some (.loop (rec .ready none)) := by
    rw [← hW1]; have := World.alloc_heap_new (w2.alloc (.deferred (some []))) (.loop (rec .ready none)); rwa [World.size_alloc] at this
  have hK1 : W1.heap[w2.heap.size]? = some (.deferred (some [])) := by
    rw [← hW1]; rw [zbi_ (by simp)]; exact World.alloc_heap_new w2 _
  have CC := (R2.calm (Calm.alloc w.heap.size w2 (.deferred (some [])))).calm (Calm.alloc w.heap.size _ (.loop (rec .ready none)))
  have XX := (X2.calm (Calm.alloc w.heap.size w2 (.deferred (some [])))).calm (Calm.alloc w.heap.size _ (.loop (rec .ready none)))
  rw [hW1] at CC XX
  have J : JS φ g w s2 a2 (w2.heap.size + 1) w2.heap.size (rec .ready none) k [] [.box false [vnil]] g2 W1 := ⟨CC, XX, S2, rfl, hL1, hK1, by have := X2.size; omega⟩
  refine ⟨w2.heap.size + 1, [{ target := .collected w2.heap.size, args := #[] }], W1, { target := .fn (.func vid) C, args := #[.func (.yield (w2.heap.size + 1)) #[] #[]] }, W1, vid,
    #[.func (.yield (w2.heap.size + 1)) #[] #[]] ++ C, W1, ?_, ?_, fun _ _ => trivial, ?_, fun h => absurd h (by decide), ?_⟩
  · rw [← hW1, hrec]; exact run_enterLoop_outer _ _ _ _ _
  · simp only [resolve, hg]
    simp [go_sem]
  · simp only [invoke, Tk.run hit]
  · refine (zbti_ hV kV hz hp hrec k2 k3 (by omega) h2 hL hc hlim hbig J rC _).mono ?_
    rintro e W2 ⟨⟨v, rfl⟩, hh, g3, J3⟩
    have hpn : (rec .ready none).pending = none := by rw [hrec]
    have hend := run_endLoop (P := P) J3.L (by rw [hrec]; simp)
    rw [hpn] at hend
    refine ⟨none, _, hend, ?_⟩
    have J4 := J3.put { rec .ready none with state := .exhausted, pending := none } (by omega)
    show Exit.inBlock c1 _ .normal _ _
    simp only [Exit.inBlock]
    have hds : a2.defers = [] := S2.defers
    rw [hds]
    refine wpIn_seq (zws_ (cf := fun _ _ _ => none) (base := 0) (a := a2) hF k4 rfl [{ target := .collected w2.heap.size, args := #[] }] ⟨g3, J4.R, Ext.refl _ _ _, J4.S⟩ (zbtf_ h2 J4.box) ?_ _)
    rintro a5 W5 ⟨g5, R5, X5, S5⟩
    have J5 := J4.step R5 X5 J4.box
    refine wpIn_ret ?_
    refine ⟨by simp, .inl ⟨_, _, rfl, run_takeDeferred J5.K, ?_⟩⟩
    have C6 : Calm w.heap.size W5 (W5.putObj w2.heap.size (.deferred none)) := Calm.put X2.size J5.K rfl _
    have hr : fA.results = #[.tmp 4] := by
      apply Array.ext'
      simpa using hr4
    refine ⟨a5.tmps.getD 4 undef, ?_, a5.tmps.getD 4 undef, g5, hh, rfl, J5.R.calm C6, J5.X.calm C6, J5.box, S5.rel 4 (by decide)⟩
    simp [results, hr, withD]
variable {h h' : H}
theorem zlm_ (key : Key) : ¬ live [] key := by
  intro h
  cases key with
  | obj l => rcases h with ⟨z, cs, e⟩ | ⟨z, k, es, e⟩ | ⟨es, e⟩ <;> simp at e
  | cell l o => obtain ⟨x, n, e, _⟩ := h; simp [cellAt] at e
theorem SR.empty (R : SR φ h g w) : SR φ [] g w :=
  ⟨fun l z cs e => by simp at e, fun l z k es e => by simp at e, fun l o x n e k => by simp [cellAt] at e, fun a b ha hb e => absurd ha (zlm_ a), R.mem, fun l es e => by simp at e⟩
theorem Ext.old {h' : H} (X : Ext [] g w h' g' w') : Calm w.heap.size w w' where
  os := X.os
  tape := X.tape
  output := X.output
  size := X.size
  drawn := X.drawn
  low := fun k _ hk => X.frame k hk fun key hl => absurd hl (zlm_ key)
  cells := fun k o e _ => by rw [X.frame k (Array.getElem?_eq_some_iff.1 e).1 fun key hl => absurd hl (zlm_ key)]; exact e
theorem zwz_ {h : H} {z : Bool} : ∀ (l : List Value), (∀ x ∈ l, V.cell (.s x) = true) → rels φ g h z (l.map V.s) l
  | [], _ => zac_.2 rfl
  | x :: l, hx => zag_.2 ⟨rel_of (by
      have := hx x (by simp)
      cases x <;> first | rfl | cases this), zwz_ l fun y hy => hx y (List.mem_cons_of_mem _ hy)⟩
theorem zxa_ {h : H} {z : Bool} : ∀ {l ms : List Value}, rels φ g h z (l.map V.s) ms → ms = l
  | [], ms, r => zac_.1 r
  | x :: l, ms, r => by
    obtain ⟨m, s, rfl, r1, r2⟩ := zak_.1 r
    rw [rel_s r1, zxa_ r2]
theorem zxb_ {h : H} {z : Bool} : ∀ {cs : List (List Value)} {ms : List Value}, rels φ g h z (cs.map opq) ms → ms = cs.map fun c => .agg c.toArray
  | [], ms, r => zac_.1 r
  | c :: cs, ms, r => by
    obtain ⟨m, s, rfl, r1, r2⟩ := zak_.1 r
    rw [zxb_ r2]
    simp only [opq, rel] at r1
    obtain ⟨a, rfl, r1⟩ := r1
    have := zxa_ r1
    simp only [List.map_cons, List.cons.injEq, and_true]
    congr 1
    apply Array.ext'
    simpa using this
theorem opq_of {k : Nat} : ∀ {es : List V} {ms : List Value}, rels φ g h true es ms → wide k es = true → allAgg es = true → ∃ cs : List (List Value), ms = (cs.map fun c => .agg c.toArray) ∧ (∀ c ∈ cs, OkC k c) ∧ ∀ h' z, rels φ g h' z (cs.map opq) ms
  | [], ms, r, _, _ => ⟨[], by simpa using zac_.1 r, by simp, fun h' z => by rw [zac_.1 r]; exact zac_.2 rfl⟩
  | e :: es, ms, r, hw, ha => by
    obtain ⟨m, s, rfl, r1, r2⟩ := zak_.1 r
    obtain ⟨w1, w2, w3⟩ := zbz_.1 hw
    have ha' : allAgg es = true ∧ ∃ c, e = .agg c := by cases e <;> first | exact ⟨ha, _, rfl⟩ | cases ha
    obtain ⟨cs, rfl, hc, hr⟩ := opq_of r2 w3 ha'.1
    obtain ⟨c, rfl⟩ := ha'.2
    simp only [rel] at r1
    obtain ⟨a, rfl, r1⟩ := r1
    have hone := zem_ r1 w2
    have hcell : ∀ x ∈ a.toList, V.cell (.s x) = true := fun x hx => by
      have := hone x hx
      cases x <;> first | rfl | cases this
    refine ⟨a.toList :: cs, by simp, ?_, fun h' z => ?_⟩
    · intro c' hc'
      rcases List.mem_cons.1 hc' with rfl | hc'
      · exact ⟨by rw [← zaf_ r1]; simpa using w1, hcell⟩
      · exact hc c' hc'
    · rw [List.map_cons, zag_]
      refine ⟨?_, hr h' z⟩
      simp only [opq, rel]
      exact ⟨a, rfl, zwz_ _ hcell⟩
theorem natSeq {fA fV : Func} {id vid it : Nat} (hA : P.funcs[id]? = some fA) (hV : P.funcs[vid]? = some fV) (hit : φ it = some vid) {k lim : Nat} {z : List V} (kA : zpm_ P φ fA k lim z = true) (kV : zll_ P φ fV k z = true) (hz : z.length = k) (hp : plainZ z) (hbig : lim < 4611686018427387904) (Tk : TOk P φ) :
    NatOk P φ id (.seq it k lim) := by
  intro cf F HG args h v h' e g w ms R r
  simp only [xnat] at e
  unfold xseq at e
  split at e
  · split at e
    rotate_left
    · cases e
    rename_i f hf
    subst hf
    injection e with e
    injection e with e1 e2
    subst e1 e2
    have r' : rels φ g [] false [vnil, .fn f [] [.fptr (.agg [vnil]) 0]] ms := zaj_ (fun _ _ _ e => e) false _ _ (zbo_ _ _ rfl r)
    refine (zwy_ hA hV hit kA kV hz hp hbig Tk (.inl ⟨rfl, rfl⟩) (by simp) (by simp) R.empty r').mono ?_
    rintro ee w' ⟨mv, gf, hh, rfl, R1, X1, _, rm⟩
    exact ⟨mv, g, rfl, R.calm X1.old, (Ext.refl _ _ _).calm X1.old, by have := rel_s rm; subst this; exact (rel_of rfl : rel φ g h false vnil _)⟩
  · split at e
    rotate_left
    · cases e
    rename_i f k' es hcond
    obtain ⟨rfl, rfl, hle, hw, hcl, hag⟩ := hcond
    obtain ⟨m1, s1, rfl, r1, rt⟩ := zak_.1 r
    obtain ⟨m2, s2, rfl, r2, r3⟩ := zak_.1 rt
    rw [zac_] at r3
    subst r3
    simp only [rel] at r2
    obtain ⟨id', A, C, e1, rfl, rA, rC0⟩ := r2
    obtain ⟨mC, sC, eC, rC, r4⟩ := zak_.1 rC0
    rw [zac_] at r4
    subst r4
    simp only [rel] at rC
    obtain ⟨b, q, m, rfl, ⟨a, rfl, ra⟩, hM⟩ := rC
    obtain ⟨mL, sL, ea, rL, r5⟩ := zak_.1 ra
    rw [zac_] at r5
    subst r5
    simp only [rel] at rL
    -- the elements as their cells
    obtain ⟨cs, msE, hlenE, hcs, hcE, rE, rL'⟩ : ∃ (cs : List (List Value)) (msE : List Value), cs.length = es.length ∧ msE = (cs.map fun c => .agg c.toArray) ∧ (∀ c ∈ cs, OkC k' c) ∧ rels φ g h true es msE ∧ rel φ g [] true (.lst k' (cs.map opq)) mL := by
      rcases rL with ⟨b', o, c, ms', rfl, hc, rr, row⟩ | ⟨rfl, a', c, rfl⟩
      · obtain ⟨cs, hms, hok, hrel⟩ := opq_of rr hw hag
        have hl : cs.length = es.length := by rw [zaf_ rr, hms, List.length_map]
        refine ⟨cs, ms', hl, hms, hok, rr, ?_⟩
        simp only [rel]
        exact .inl ⟨b', o, c, ms', by rw [List.length_map, hl], by rw [List.length_map, hl]; exact hc, hrel _ _, row⟩
      · refine ⟨[], [], rfl, rfl, by simp, zac_.2 rfl, ?_⟩
        simp only [rel]
        exact .inr ⟨rfl, a', c, rfl⟩
    have r' : rels φ g [] false [vnil, .fn f [] [.fptr (.agg [.lst k' (cs.map opq)]) 0]] [m1, .func (.func id') A C] := by
      refine zag_.2 ⟨by have := rel_s r1; subst this; exact rel_of rfl, zag_.2 ⟨?_, zac_.2 rfl⟩⟩
      simp only [rel]
      refine ⟨id', A, C, e1, rfl, zaj_ (fun _ _ _ e => e) false _ _ (zbo_ _ _ rfl rA), ?_⟩
      rw [eC, zag_, zac_]
      simp only [rel]
      refine ⟨⟨b, q, .agg a, rfl, ⟨a, rfl, ?_⟩, hM⟩, trivial⟩
      rw [ea, zag_, zac_]
      exact ⟨rL', rfl⟩
    refine (zwy_ hA hV hit kA kV hz hp hbig Tk (.inr rfl) hcE (by omega) R.empty r').mono ?_
    rintro ee w' ⟨mv, gf, hh, rfl, R1, X1, hb, rm⟩
    have hlow : ∀ {k0 : Key}, live h k0 → g.b k0 < w.heap.size := fun hk => R.lt hk
    by_cases hn : es.length = 0
    · rw [if_pos hn] at e
      injection e with e
      injection e with e3 e4
      subst e3 e4
      have hc0 : cs = [] := List.eq_nil_of_length_eq_zero (by omega)
      subst hc0
      exact ⟨mv, g, rfl, R.calm X1.old, (Ext.refl _ _ _).calm X1.old, by have := rel_s rm; subst this; exact (rel_of rfl : rel φ g h false vnil _)⟩
    · rw [if_neg hn] at e
      injection e with e
      injection e with e3 e4
      subst e3 e4
      have hc0 : cs ≠ [] := fun h => hn (by rw [← hlenE, h]; rfl)
      have hbv : bv k' cs = .own k' (cs.map opq) := by simp [bv, hc0]
      rw [hbv] at hb rm
      have hcell : cellAt hh 0 0 = some (.own k' (cs.map opq)) := by rw [zaz_ hb]; rfl
      simp only [rdCell, rel] at rm
      obtain ⟨_, ⟨b2, q2, c2, ms2, hmv, hc2, rr2, row2⟩, x, hx, hx2⟩ := rm
      rw [hcell] at hx
      injection hx with hx
      subst hx
      have hmv2 : mv = hdr (gf.b (.cell 0 0)) (cs.map opq).length (gf.c (.cell 0 0)) := by
        rcases hx2 with ⟨k3, es3, h3, _, h4⟩ | ⟨k3, es3, gs3, h3, _⟩
        · injection h3 with h5 h6
          subst h6
          exact h4 rfl
        · cases h3
      have hms2 := zxb_ rr2
      have hlv : live hh (.cell 0 0) := ⟨_, _, hcell, rfl⟩
      obtain ⟨cur, E, k0, o1, o2, o3, o4, _, rfl, o5⟩ := R1.own 0 0 _ _ hcell rfl
      have hB : w.heap.size ≤ gf.b (.cell 0 0) := by
        rcases X1.blks _ hlv with ⟨k1, h1, _⟩ | h1
        · exact absurd h1 (zlm_ _)
        · exact h1
      rw [hmv] at hmv2
      unfold hdr at hmv2
      injection hmv2 with h6 h7 h8
      injection h6 with h6
      injection h6 with h6 h9 h10
      subst h6 h9 h8
      have hsz : ∀ m ∈ ms2, m.cells.size = k' := row2.1
      have hlen2 : ms2.length = es.length := by rw [hms2, List.length_map, hlenE]
      have hfl : cur.toList.take (es.length * k') = flat ms2 := by
        have hfl1 := zao_ hsz
        apply List.ext_getElem?
        intro i
        rw [List.getElem?_take]
        split
        · rename_i hi
          obtain ⟨u, hu⟩ : ∃ u, (flat ms2)[i]? = some u := ⟨_, List.getElem?_eq_getElem (by rw [hfl1, hlen2]; exact hi)⟩
          obtain ⟨i', j', m', e1, e2, rfl⟩ := znp_ hsz hu
          have := R1.mem _ _ _ (row2.2 i' m' e1 j' u e2)
          rw [zbf_ o1, Nat.zero_add] at this
          rw [hu, Array.getElem?_toList, this]
        · rename_i hi
          exact (List.getElem?_eq_none (by rw [hfl1, hlen2]; omega)).symm
      refine ⟨mv, g, rfl, R.calm X1.old, (Ext.refl _ _ _).calm X1.old, gf.b (.cell 0 0), gf.c (.cell 0 0), hB, ?_⟩
      rw [List.length_map] at hmv hc2
      refine ⟨by rw [hmv, hlenE]; rfl, ⟨cur, E, msE, o1, o2, zar_ (Later.refl _ _) _ _ _ rE, by rw [hfl, hcs, hms2]⟩, by rw [← hlenE]; exact hc2, o4, hw, hcl, fun j => ?_, fun k1 hk1 => by have := hlow hk1; omega⟩
      cases hj : g.M (gf.b (.cell 0 0)) j with
      | none => rfl
      | some u => have := R.M_lt hj; omega
  · cases e
end
end Go.Proofs.Sl
namespace Go.Proofs.Sl
section
variable {P : Program} {φ : Nat → Option FuncId}
open Go.Shelf Go.Lib
end
end Go.Proofs.Sl
namespace Go.Proofs.Sl.Up
section
variable {P : Program}
theorem ask_up {α : Type} : ∀ (a : Ask α) (w : World), w.drawn ≤ (w.ask a).2.drawn
  | .done a, w => Nat.le_refl _
  | .ask what range k, w => by
    unfold World.ask
    simp only
    split
    · exact ask_up _ w
    · exact Nat.le_trans (Nat.le_succ w.drawn) (ask_up (k _) { w with drawn := w.drawn + 1 })
theorem sys_up (w : World) (c : Sys) : w.drawn ≤ (w.sys c).2.drawn := by
  have h := ask_up (Kernel.perform c w.os) w
  unfold World.sys
  generalize w.ask (Kernel.perform c w.os) = q at h ⊢
  obtain ⟨⟨r, os⟩, w'⟩ := q
  cases r <;> first
    | exact h
    | exact Nat.le_refl _
theorem zbtj_ {w w' : World} {a : Addr} {u : TypeId} {k : Addr} {v : Value} {b : Bool} {t : List Addr} (e : w.viewStore P a u k v b = .ok (w', t)) : w'.drawn = w.drawn := by
  unfold World.viewStore at e
  simp only [bind, Except.bind, pure, Except.pure] at e
  repeat' first
    | (injection e with e; injection e with e _; subst e; rfl)
    | (cases e; done)
    | split at e
theorem zbtk_ {w w' : World} {a : Addr} {v : Value} {b : Bool} {t : List Addr} (e : w.farStore P a v b = .ok (w', t)) : w'.drawn = w.drawn := by
  unfold World.farStore at e
  split at e
  · split at e
    · rename_i h
      injection e with e
      subst e
      exact zbtj_ h
    · cases e
  · cases e
def wOf {α : Type} : Result α → World
  | .ok _ w => w
  | .halt _ w => w
theorem zbtl_ (w : World) (a : Addr) (n : Nat) : (w.freeze a n).drawn = w.drawn := by
  unfold World.freeze
  split <;> rfl
theorem run_up {α : Type} (s : Sem α) : ∀ (w : World), w.drawn ≤ (wOf (s.run P w)).drawn := by
  induction s with
  | pure a => exact fun w => Nat.le_refl _
  | load m a k ih =>
    intro w
    unfold Sem.run
    split
    · exact ih _ w
    · split
      · exact ih _ w
      · exact Nat.le_refl _
  | store m a v k ih =>
    intro w
    have body : w.drawn ≤ (wOf (match w.cell? a with
      | some _ => if w.frozen? a then .halt (.unsupported (.unsafePointer "a write to bytes that a string shares")) w else k.run P (w.setCell a v)
      | none => match w.farStore P a v (m == .atomic) with
        | .ok (w, _) => k.run P w
        | .error h => .halt h w)).drawn := by
      split
      · split
        · exact Nat.le_refl _
        · exact ih (w.setCell a v)
      · split
        · rename_i w2 _ e
          have := ih w2
          rw [zbtk_ e] at this
          exact this
        · exact Nat.le_refl _
    cases v <;> first
      | exact body
      | exact Nat.le_refl _
  | new o k ih => exact fun w => ih w.heap.size { w with heap := w.heap.push o }
  | shape r k ih => exact fun w => ih _ _
  | freeze a n k ih =>
    intro w
    have := ih (w.freeze a n)
    rw [zbtl_] at this
    exact this
  | frozen a k ih => exact fun w => ih _ _
  | getObj r k ih =>
    intro w
    unfold Sem.run
    split
    · exact Nat.le_refl _
    · exact ih _ _
    · exact Nat.le_refl _
  | setObj r o k ih =>
    intro w
    unfold Sem.run
    split
    · exact Nat.le_refl _
    · exact ih { w with heap := w.heap.setIfInBounds r o }
    · exact Nat.le_refl _
  | choose q k ih =>
    intro w
    unfold Sem.run
    split
    · exact ih _ _
    · exact Nat.le_trans (Nat.le_succ w.drawn) (ih _ { w with drawn := w.drawn + 1 })
  | sys c k ih => exact fun w => Nat.le_trans (sys_up w c) (ih _ _)
  | program k ih => exact fun w => ih _ _
  | mark m k ih => exact fun w => ih _
  | halt h => exact fun w => Nat.le_refl _
theorem run_ok {α : Type} {s : Sem α} {w w' : World} {a : α} (e : s.run P w = .ok a w') : w.drawn ≤ w'.drawn := by
  have := run_up (P := P) s w
  rw [e] at this
  exact this
theorem zbtm_ {α : Type} {s : Sem α} {w w' : World} {a : Halt} (e : s.run P w = .halt a w') : w.drawn ≤ w'.drawn := by
  have := run_up (P := P) s w
  rw [e] at this
  exact this
end
end Go.Proofs.Sl.Up
namespace Go.Proofs.Sl.Up
section
variable {P : Program}
theorem zgd_ {α : Type} {p : α → Prop} {c : Prop} [Decidable c] {a b : α} (ha : p a) (hb : p b) : p (if c then a else b) := by
  split
  · exact ha
  · exact hb
def GUp (n : Nat) : GStep → Prop
  | .go _ w _ => n ≤ w.drawn
  | .comm _ _ _ _ w _ => n ≤ w.drawn
  | .spawn _ _ w _ => n ≤ w.drawn
  | .count _ w _ => n ≤ w.drawn
  | .timer _ _ w _ => n ≤ w.drawn
  | .alone _ _ w _ => n ≤ w.drawn
  | .newcoro _ _ _ w _ => n ≤ w.drawn
  | .coroswitch _ _ _ w _ => n ≤ w.drawn
  | .collect _ w _ => n ≤ w.drawn
  | .watch _ w _ => n ≤ w.drawn
  | .ended _ _ _ => True
theorem GUp.mono {n m : Nat} (h : n ≤ m) : ∀ {s : GStep}, GUp m s → GUp n s
  | .go _ w _, k => Nat.le_trans h k
  | .comm _ _ _ _ w _, k => Nat.le_trans h k
  | .spawn _ _ w _, k => Nat.le_trans h k
  | .count _ w _, k => Nat.le_trans h k
  | .timer _ _ w _, k => Nat.le_trans h k
  | .alone _ _ w _, k => Nat.le_trans h k
  | .newcoro _ _ _ w _, k => Nat.le_trans h k
  | .coroswitch _ _ _ w _, k => Nat.le_trans h k
  | .collect _ w _, k => Nat.le_trans h k
  | .watch _ w _, k => Nat.le_trans h k
  | .ended _ _ _, _ => trivial
theorem GUp.after {n : Nat} {es : Array Event} {s : GStep} (h : GUp n s) : GUp n (GStep.after es s) := by
  cases s <;> exact h
theorem zbtn_ (fr : Frame) (a : List ByteArray) (m : String) (b : Bool) (w : World) : GUp w.drawn (dieOf fr a m b w) := Nat.le_refl _
theorem zln_ (fr : Frame) (m : String) (w : World) : GUp w.drawn (endThrow fr m w) := Nat.le_refl _
theorem zbto_ (w : World) (fd : Nat) (t : ByteArray) (o : Outcome) (n : Nat) : GUp n (endWith w fd t o) := by
  unfold endWith
  simp only
  repeat' first
    | trivial
    | split
theorem zxc_ (fr : Frame) (v : Value) (w : World) : GUp w.drawn (endPrinting P fr v w) := by
  unfold endPrinting
  simp only
  repeat' first
    | trivial
    | exact zln_ _ _ _
    | split
theorem zxd_ (fr : Frame) (cs : List Frame) (d : Option Dying) (m : String) (w : World) : GUp w.drawn (endFatal P fr cs d m w) := by
  unfold endFatal
  simp only
  split
  · exact GUp.mono (run_ok (by assumption)) (zbtn_ _ _ _ _ _)
  · trivial
  · trivial
theorem zbtp_ (fr : Frame) (d : Dying) (f : Fatal) (w : World) : GUp w.drawn (writeOn P fr d f w) := by
  unfold writeOn
  simp only
  split
  · trivial
  · rw [Sem.runT_eq]
    generalize hr : Sem.run P _ w = r
    have hu : w.drawn ≤ (wOf r).drawn := hr ▸ run_up _ _
    cases r with
    | ok a w' => exact hu
    | halt h w' => cases h <;> first
      | exact hu
      | trivial
theorem die_up (fr : Frame) (d : Dying) (w : World) : GUp w.drawn (die P fr d w) := by
  unfold die
  split
  · exact zbtp_ _ _ _ _
  · split
    · split
      · exact Nat.le_refl _
      · exact zbto_ _ _ _ _ _
    · simp only
      split
      · exact Nat.le_refl _
      · split
        · rename_i e
          exact run_ok e
        · trivial
      · rw [Sem.runT_eq]
        refine GUp.after ?_
        simp only
        generalize hr : Sem.run P _ w = r
        have hu : w.drawn ≤ (wOf r).drawn := hr ▸ run_up _ _
        split
        · exact hu
        · exact hu
        · trivial
        · exact GUp.mono hu (zxc_ _ _ _)
        · trivial
      · trivial
theorem zpo_ (main : Bool) (fr : Frame) (cs : List Frame) (d : Option Dying) (v : Value) (w : World) : GUp w.drawn (doReturn P main fr cs d v w) := by
  unfold doReturn
  simp only
  repeat' first
    | exact Nat.le_refl _
    | trivial
    | split
theorem zbtq_ (fr : Frame) (cs : List Frame) (dy : Option Dying) (d : Deferred) (w : World) : GUp w.drawn (callDeferred P fr cs dy d w) := by
  unfold callDeferred
  refine zgd_ (p := GUp w.drawn) trivial ?_
  rw [Sem.runT_eq]
  simp only
  refine GUp.after ?_
  generalize hr : Sem.run P _ w = r
  have hu : w.drawn ≤ (wOf r).drawn := hr ▸ run_up _ _
  clear hr
  cases r with
  | ok n w' =>
    have hu : w.drawn ≤ w'.drawn := hu
    cases n with
    | alone b v => cases b <;> first | exact hu | trivial
    | coroswitch c b => cases b <;> first | exact hu | trivial
    | recover =>
      show GUp w.drawn (match fr.mode, tryRecover fr cs with
        | .returning, some (_, callers) => .go { frame := fr, callers, status := .running, dying := dy } w'
        | _, _ => .go { frame := fr, callers := cs, status := .running, dying := dy } w')
      split <;> exact hu
    | _ => first | exact hu | trivial
  | halt h w' =>
    have hu : w.drawn ≤ w'.drawn := hu
    cases h <;> first
      | exact hu
      | trivial
      | exact GUp.mono hu (zxd_ _ _ _ _ _)
      | exact GUp.mono hu (zln_ _ _ _)
theorem zbtr_ (main : Bool) (fr : Frame) (cs : List Frame) (dy : Option Dying) (w : World) : GUp w.drawn (unwind P main fr cs dy w) := by
  unfold unwind
  split
  · rw [Sem.runT_eq]
    simp only
    refine GUp.after ?_
    generalize hr : Sem.run P _ w = r
    have hu : w.drawn ≤ (wOf r).drawn := hr ▸ run_up _ _
    split
    · exact hu
    · trivial
  · exact zbtq_ _ _ _ _ _
  · split
    · trivial
    · split
      · trivial
      · split
        · exact Nat.le_refl _
        · split
          · split
            · exact Nat.le_refl _
            · split
              · rename_i e
                exact run_ok e
              · trivial
              · trivial
          · split
            · exact zxc_ _ _ _
            · trivial
    · split
      · exact zpo_ _ _ _ _ _ _
      · rw [Sem.runT_eq]
        simp only
        refine GUp.after ?_
        generalize hr : Sem.run P _ w = r
        have hu : w.drawn ≤ (wOf r).drawn := hr ▸ run_up _ _
        split
        · exact GUp.mono hu (zpo_ _ _ _ _ _ _)
        · trivial
        · trivial
theorem zbts_ (fr : Frame) (cs : List Frame) (dy : Option Dying) (g : Nat) (w : World) : GUp w.drawn (match w.heap[g]? with
    | some (.pending c elem) =>
      .go { frame := fr, callers := cs, status := .running, dying := dy } { w with heap := w.heap.setIfInBounds g (.cells c elem) }
    | _ => .ended (.stuck "early: the variable does not wait" (fr.pos P)) w) := by
  split
  · exact Nat.le_refl _
  · trivial
theorem zbtt_ (fr : Frame) (cs : List Frame) (dy : Option Dying) (g : Nat) (w : World) : GUp w.drawn (early P fr cs dy g w) := by
  unfold early
  simp only
  repeat' first
    | exact Nat.le_refl _
    | trivial
    | exact run_ok (by assumption)
    | exact GUp.mono (run_ok (by assumption)) (zbts_ (P := P) _ _ _ _ _)
    | split
theorem zhu_ (fr : Frame) (cs : List Frame) (dy : Option Dying) (s : Sem Next) (w : World) (l : Bool) : GUp w.drawn (stepG.apply P l fr cs dy s w) := by
  unfold stepG.apply
  simp only
  refine GUp.after ?_
  have hu : w.drawn ≤ (wOf (if l = true then s.runT P w #[] else (s.run P w, #[])).1).drawn := by
    cases l
    · exact run_up _ _
    · rw [if_pos rfl, Sem.runT_eq]
      exact run_up _ _
  generalize (if l = true then s.runT P w #[] else (s.run P w, #[])) = re at hu ⊢
  obtain ⟨r, es⟩ := re
  simp only at hu ⊢
  cases r with
  | ok n w' =>
    have hu : w.drawn ≤ w'.drawn := hu
    cases n <;> (try simp only) <;> repeat' first
      | exact hu
      | trivial
      | exact GUp.mono hu (zln_ _ _ _)
      | split
  | halt h w' =>
    have hu : w.drawn ≤ w'.drawn := hu
    cases h with
    | unsupported u => cases u <;> first
      | trivial
      | exact GUp.mono hu (zbtt_ _ _ _ _ _)
    | _ => first
      | exact hu
      | trivial
      | exact GUp.mono hu (zxd_ _ _ _ _ _)
      | exact GUp.mono hu (zln_ _ _ _)
theorem zbtu_ (fr : Frame) (cs : List Frame) (dy : Option Dying) (w : World) (l : Bool) : GUp w.drawn (stepG.oper P l fr cs dy w) := by
  unfold stepG.oper
  repeat' first
    | trivial
    | exact zhu_ _ _ _ _ _ _
    | split
theorem zlo_ (main : Bool) (fr : Frame) (cs : List Frame) (dy : Option Dying) (w : World) (j : Option Code) (b : Bool) : GUp w.drawn (match fr.roundOf with
      | none => if b = true then GStep.go { frame := { fr with mode := .returning }, callers := cs, status := .running, dying := dy } w else .ended (.stuck "exit, goto: no such block or label" (fr.pos P)) w
      | some l =>
        GStep.after (seen P fr.fn ((Instr.endRound l j).runT P w #[]).2) <| match ((Instr.endRound l j).runT P w #[]).1 with
        | .ok v w => doReturn P main fr cs dy v w
        | .halt _ w => .ended (.stuck "range over a function: no such loop" (fr.pos P)) w) := by
  cases fr.roundOf with
  | none => exact zgd_ (p := GUp w.drawn) (Nat.le_refl _) trivial
  | some l =>
    show GUp w.drawn (GStep.after _ _)
    rw [Sem.runT_eq]
    refine GUp.after ?_
    generalize hr : Sem.run P _ w = r
    have hu : w.drawn ≤ (wOf r).drawn := hr ▸ run_up _ _
    cases r with
    | ok v w' => exact GUp.mono hu (zpo_ _ _ _ _ _ _)
    | halt h w' => trivial
theorem zbtv_ (main : Bool) (fr : Frame) (cs : List Frame) (dy : Option Dying) (w : World) (l : Bool) : GUp w.drawn (stepG.exec P main l fr cs dy w) := by
  unfold stepG.exec
  simp only
  split
  · exact zlo_ main fr cs dy w none true
  · exact zlo_ main fr cs dy w (some .ret) true
  · exact Nat.le_refl _
  · exact Nat.le_refl _
  · exact Nat.le_refl _
  · exact Nat.le_refl _
  · exact Nat.le_refl _
  · split
    · exact Nat.le_refl _
    · trivial
  · exact Nat.le_refl _
  · exact Nat.le_refl _
  · exact Nat.le_refl _
  · exact Nat.le_refl _
  · generalize exitTo _ _ = e
    cases e
    · exact zlo_ main fr cs dy w (some _) false
    · exact Nat.le_refl _
  · generalize gotoIn _ _ = e
    cases e
    · exact zlo_ main fr cs dy w (some _) false
    · exact Nat.le_refl _
  · rw [Sem.runT_eq]
    simp only
    refine GUp.after ?_
    generalize hr : Sem.run P _ w = r
    have hu : w.drawn ≤ (wOf r).drawn := hr ▸ run_up _ _
    split
    · exact GUp.mono hu (zhu_ _ _ _ _ _ _)
    · trivial
  · trivial
  · exact zhu_ _ _ _ _ _ _
  · rw [Sem.runT_eq]
    simp only
    refine GUp.after ?_
    generalize hr : Sem.run P _ w = r
    have hu : w.drawn ≤ (wOf r).drawn := hr ▸ run_up _ _
    split
    · exact hu
    · exact hu
    · trivial
  · trivial
  · exact zhu_ _ _ _ _ _ _
  · generalize Extern.next _ = e
    cases e
    · trivial
    · exact zhu_ _ _ _ _ _ _
  · split
    · exact Nat.le_refl _
    · split
      · rename_i e
        exact run_ok e
      · trivial
  · exact Nat.le_refl _
  · split
    · exact zbtu_ _ _ _ _ _
    · exact Nat.le_refl _
theorem zbtw_ (main : Bool) (g : Goroutine) (w : World) (l : Bool) : GUp w.drawn (stepG P main g w l) := by
  unfold stepG
  simp only
  split
  · exact die_up _ _ _
  · exact zbtv_ _ _ _ _ _ _
  · exact zbtr_ _ _ _ _ _
end
end Go.Proofs.Sl.Up
namespace Go.Proofs.Sl.Up
section
variable {P : Program}
def SUp (n : Nat) : Stepped → Prop
  | .next m => n ≤ m.world.drawn
  | .ended _ _ => True
theorem zbtx_ (rest : Rest) (gs : Array Goroutine) (i : Nat) (g : Goroutine) (cases : Array CommCase) (b : Bool) (sh : CommShape) (w : World) : SUp w.drawn (communicate P rest gs i g cases b sh w).1 := by
  unfold communicate
  simp only
  refine zgd_ (p := fun x : Stepped × Array MemOp => SUp w.drawn x.1) trivial (zgd_ (p := fun x : Stepped × Array MemOp => SUp w.drawn x.1) (zgd_ (p := fun x : Stepped × Array MemOp => SUp w.drawn x.1) ?_ (Nat.le_refl _)) ?_)
  · split
    · rename_i w' e
      unfold waitingAt at e
      split at e
      · split at e
        · injection e with e
          subst e
          exact Nat.le_refl _
        · cases e
      · injection e with e
        subst e
        exact Nat.le_refl _
    · trivial
  · generalize hr : Sem.run P _ w = r
    have hu : w.drawn ≤ (wOf r).drawn := hr ▸ run_up _ _
    clear hr
    rcases r with ⟨⟨k, c, way⟩, w'⟩ | ⟨h, w'⟩
    · have hu : w.drawn ≤ w'.drawn := hu
      simp only
      generalize (match c.chan with | .chan (some r) => r | _ => 0) = r
      split
      · split
        · rename_i hh
          have q := zbtm_ hh
          exact Nat.le_trans hu q
        · trivial
      · exact hu
      · exact hu
      · split
        · exact hu
        · split
          · rename_i hh
            have q := run_ok hh
            exact Nat.le_trans hu q
          · trivial
      · exact hu
      · exact hu
      · trivial
    · trivial
theorem zxe_ (gs : Array Goroutine) (rest : Rest) (w : World) : SUp w.drawn (look P gs rest w) := by
  unfold look
  split
  · simp only
    refine zgd_ (p := SUp w.drawn) trivial ?_
    split
    · trivial
    · generalize hr : Sem.run P _ w = r
      have hu : w.drawn ≤ (wOf r).drawn := hr ▸ run_up _ _
      clear hr
      rcases r with ⟨⟨f, c⟩, w'⟩ | ⟨h, w'⟩
      · exact hu
      · cases h <;> trivial
  · trivial
end
end Go.Proofs.Sl.Up
namespace Go.Proofs.Sl.Up
section
variable {P : Program}
theorem zbty_ (m m' : Machine) (op : TimerOp) (v : Value) (h : timerOp m op = .ok (v, m')) : m'.world.drawn = m.world.drawn := by
  have hd : ∀ w c, (drain w c).2.drawn = w.drawn := by
    intro w c
    unfold drain
    split <;> rfl
  have hre : ∀ (m : Machine) k t a b, (retime m k t a b).2.world.drawn = m.world.drawn := by
    intro m k t a b
    unfold retime
    cases t.chan with
    | none => rfl
    | some c => exact hd m.world c
  have hn : ∀ (m0 : Machine) (var : Addr) (f : Nat → Timer → Value × Machine), (∀ k t, (f k t).2.world.drawn = m.world.drawn) → timerOp.named m0 var f = .ok (v, m') → m'.world.drawn = m.world.drawn := by
    intro m0 var f hf e
    unfold timerOp.named at e
    split at e
    · rename_i k _
      injection e with e
      have := hf k (m0.rest.timers.getD k default)
      rw [e] at this
      exact this
    · cases e
  unfold timerOp at h
  split at h
  · split at h
    · injection h with h
      injection h with _ h
      subst h
      rfl
    · split at h
      · split at h
        · cases h
        · injection h with h
          injection h with _ h
          subst h
          rfl
      · cases h
  · exact hn _ _ _ (fun k t => hre _ _ _ _ _) h
  · split at h
    · rename_i m1 e
      have h1 : m1.world.drawn = m.world.drawn := by
        unfold timerOp.opened at e
        split at e
        · split at e
          · injection e with e
            subst e
            rfl
          · cases e
        · injection e with e
          subst e
          rfl
      exact hn _ _ _ (fun k t => (hre _ _ _ _ _).trans h1) h
    · cases h
  · injection h with h
    injection h with _ h
    subst h
    rfl
theorem SUp.mono {n k : Nat} (h : n ≤ k) : ∀ {s : Stepped}, SUp k s → SUp n s
  | .next m, e => Nat.le_trans h e
  | .ended _ _, _ => trivial
theorem zbtz_ (m : Machine) (i : Nat) (b : Bool) : SUp m.world.drawn (runT P m i b).1 := by
  simp only [Go.runT]
  generalize m.gs.swapAt! _ _ = gg
  have hs := zbtw_ (P := P) (i == 0) gg.1 m.world b
  generalize stepG P _ gg.1 m.world b = s at hs ⊢
  cases s <;> simp only
  case go g w es => exact hs
  case comm g cs bl sh w es =>
    have hs : m.world.drawn ≤ w.drawn := hs
    exact SUp.mono hs (zbtx_ m.rest gg.2 i g cs bl sh w)
  case spawn g c w es => exact hs
  case count g w es =>
    split
    · trivial
    · exact hs
  case alone g on w es => exact hs
  case collect g w es =>
    have hs : m.world.drawn ≤ w.drawn := hs
    exact SUp.mono hs (zxe_ (gg.2.setIfInBounds i g) m.rest w)
  case watch g w es => exact hs
  case newcoro g c d w es => exact hs
  case coroswitch g c x w es =>
    split
    · exact hs
    · exact hs
    · trivial
  case timer g op w es =>
    split
    · rename_i v m' e
      have := zbty_ _ _ _ _ e
      exact Nat.le_trans hs (Nat.le_of_eq this.symm)
    · exact hs
    · trivial
    · trivial
  case ended o w es => trivial
def MUp (n : Nat) : Move → Prop
  | .goroutine m _ => n ≤ m.world.drawn
  | .machine s _ => SUp n s
theorem MUp.mono {n k : Nat} (h : n ≤ k) : ∀ {s : Move}, MUp k s → MUp n s
  | .goroutine m _, e => Nat.le_trans h e
  | .machine s _, e => SUp.mono h e
end
end Go.Proofs.Sl.Up
namespace Go.Proofs.Sl.Up
section
variable {P : Program}
theorem zbua_ (m : Machine) (k : Nat) : SUp m.world.drawn (serve P m k) := by
  unfold serve
  simp only
  repeat' first
    | trivial
    | exact Nat.le_refl _
    | split
theorem zpp_ (m : Machine) : MUp m.world.drawn (askOn P m) := by
  have hp : ∀ (m : Machine) (rs : List Nat), MUp m.world.drawn (match (choose (.sched rs.length)).run P m.world with
      | .halt _ w => .machine (.ended (.stuck "sched" "") w)
      | .ok k world =>
        if rs.length ≤ 1 then .goroutine { m with world } (rs.getD k 0) else
        match (choose (.extern "sched.slice" 65536)).run P world with
        | .halt _ w => .machine (.ended (.stuck "sched.slice" "") w)
        | .ok n world => .goroutine { m with world, rest := { m.rest with slice := if n = 0 then none else some (rs.getD k 0, n) } } (rs.getD k 0)) := by
    intro m rs
    split
    · trivial
    · rename_i k w e
      split
      · exact run_ok e
      · split
        · trivial
        · rename_i e2
          exact Nat.le_trans (run_ok e) (run_ok e2)
  unfold askOn
  simp only
  generalize hr : Sem.run P _ m.world = r
  have hu : m.world.drawn ≤ (wOf r).drawn := hr ▸ run_up _ _
  split
  · trivial
  · rename_i k w
    have hu : m.world.drawn ≤ w.drawn := hu
    split
    · exact MUp.mono hu (zbua_ { m with world := w } _)
    · split
      · split
        · exact hu
        · split
          · exact hu
          · split
            · trivial
            · trivial
      · split
        · exact MUp.mono hu (hp { m with world := w } _)
        · split
          · trivial
          · rename_i w2 e
            have q := run_ok e
            exact MUp.mono (Nat.le_trans hu q) (hp { m with world := w2 } _)
          · rename_i w2 e
            have q := run_ok e
            exact Nat.le_trans hu q
          · rename_i k2 w2 e
            have q := run_ok e
            exact MUp.mono (Nat.le_trans hu q) (hp (Machine.advanceTo { m with world := w2 } _) _)
theorem zxf_ (m : Machine) : MUp m.world.drawn (ask P m) := by
  unfold ask
  split
  · split
    · trivial
    · rename_i w e
      have hl := zxe_ (P := P) m.gs m.rest w
      revert hl
      generalize look P m.gs m.rest w = r
      cases r with
      | next m2 => exact fun h => MUp.mono (Nat.le_trans (run_ok e) h) (zpp_ m2)
      | ended o w => exact fun _ => trivial
    · rename_i e
      exact MUp.mono (run_ok e) (zpp_ _)
  · exact zpp_ m
theorem zbub_ (m : Machine) : MUp m.world.drawn (move P m) := by
  unfold move
  split
  · split
    · exact Nat.le_refl _
    · trivial
  · split
    · split
      · exact Nat.le_refl _
      · exact zxf_ _
    · exact zxf_ m
theorem zbuc_ (m : Machine) : SUp m.world.drawn (step P m) := by
  unfold step stepT
  have := zbub_ (P := P) m
  revert this
  cases move P m with
  | goroutine m2 i => exact fun h => SUp.mono h (zbtz_ m2 i true)
  | machine s ops => exact fun h => h
theorem zde_ : ∀ (n : Nat) (m m' : Machine), Go.runN P n m = .next m' → m.world.drawn ≤ m'.world.drawn
  | 0, m, m', h => by
    injection h with h
    subst h
    exact Nat.le_refl _
  | n + 1, m, m', h => by
    unfold Go.runN at h
    have := zbuc_ (P := P) m
    split at h
    · rename_i m2 e
      rw [e] at this
      exact Nat.le_trans this (zde_ n _ _ h)
    · rename_i hx
      exact absurd h (by intro h; exact hx _ h)
theorem zbud_ {m m' : Machine} (h : Steps P m m') : m.world.drawn ≤ m'.world.drawn := by
  obtain ⟨n, h⟩ := h
  exact zde_ n m m' h
theorem calls_up {f : FuncId} {args : Array Value} {w : World} {R : Ending → World → Prop} (h : Calls P f args w R) : Calls P f args w fun e w' => R e w' ∧ (∀ v, e = .returned v → w.drawn ≤ w'.drawn) := by
  intro cs
  obtain ⟨e, w', fr, r, hc, h1, h2⟩ := h cs
  refine ⟨e, w', fr, ⟨r, ?_⟩, hc, h1, h2⟩
  rintro v rfl
  exact zbud_ hc
end
end Go.Proofs.Sl.Up
namespace Go.Proofs.Sl
section
open Go.RowKit
variable {P : Program} {φ : Nat → Option FuncId}
structure KeysSpec (P : Program) (sid kid kt : Nat) : Prop where
  ans : ∀ (w : World) (Bm b : Nat) (ents : Array MapEntry) (clock : Nat) (ks : List Int), Bm < w.heap.size → w.cell? ⟨Bm, 0, none⟩ = some (.map (some b)) → w.heap[b]? = some (.map ents clock) → Born ents clock →
    ents.toList.map (·.key) = ks.map (Value.int .i64) → ks.Nodup → ks.length * 8 ≤ 140737488355328 → (∀ x ∈ ks, -9223372036854775808 ≤ x ∧ x < 9223372036854775808) →
    Calls P sid #[.func (.func kid) #[] #[.pointer (some ⟨Bm, 0, none⟩)]] w fun e w' => ∃ v, e = .returned v ∧
      w'.ownsRow w.heap.size kt 1 v ks.length ((ks.mergeSort fun x y => decide (x ≤ y)).map (Value.int .i64)) ∧ (v = .slice none 0 0 ↔ ks = []) ∧ Below w.heap.size w w'
theorem zxg_ : ∀ {es : List (Value × V)} {ks : List Int}, intKs es = some ks → es.map (·.1) = ks.map (Value.int .i64)
  | [], ks, e => by
    injection e with e
    subst e
    rfl
  | (k, v) :: es, ks, e => by
    unfold intKs at e
    split at e
    · rename_i h; cases h
    · rename_i x v' es' h
      injection h with h1 h2
      injection h1 with h1 h3
      subst h1 h2
      obtain ⟨ks', e1, e⟩ := zaa_.1 e
      injection e with e
      subst e
      simp [zxg_ e1]
    · cases e
theorem zxh_ {h : H} {g : G} {z : Bool} : ∀ (ks : List Int), rels φ g h z (ks.map fun x => .s (.int .i64 x)) (ks.map (Value.int .i64))
  | [] => zac_.2 rfl
  | k :: ks => zag_.2 ⟨rel_of rfl, zxh_ ks⟩
theorem zxi_ : ∀ (ks : List Int), wide 1 (ks.map fun x => .s (.int .i64 x)) = true
  | [] => rfl
  | k :: ks => zbz_.2 ⟨rfl, rfl, zxi_ ks⟩
theorem zxj_ : ∀ (ks : List Int), flat (ks.map (Value.int .i64)) = ks.map (Value.int .i64)
  | [] => rfl
  | k :: ks => by
    have := zxj_ ks
    unfold flat at this ⊢
    simp only [List.map_cons, List.flatMap_cons, this]
    rfl
theorem zxk_ : ∀ (ks : List Int), V.closed.closeds (ks.map fun x => .s (.int .i64 x)) = true
  | [] => rfl
  | k :: ks => by
    simp only [List.map_cons, V.closed.closeds, zxk_ ks]
    rfl
theorem zbue_ {sid kid it kt : Nat} (hk : φ it = some kid) (K : KeysSpec P sid kid kt) : NatOk P φ sid (.rd (zee_ it)) := by
  intro cf F HG args h v h' e g w ms R r
  simp only [xnat] at e
  obtain ⟨q, e1, e⟩ := zaa_.1 e
  injection e with e
  injection e with e2 e3
  subst e2 e3
  unfold zee_ at e1
  split at e1
  rotate_left
  · cases e1
  rename_i f b
  split at e1
  rotate_left
  · cases e1
  rename_i hf
  subst hf
  split at e1
  rotate_left
  · cases e1
  rename_i z m tl hb
  obtain ⟨es, e2, e1⟩ := zaa_.1 e1
  obtain ⟨ks, e3, e1⟩ := zaa_.1 e1
  split at e1
  rotate_left
  · cases e1
  rename_i hc
  injection e1 with e1
  subst e1
  obtain ⟨hnd, hlen, hran⟩ := hc
  obtain ⟨m1, s1, rfl, r1, r⟩ := zak_.1 r
  rw [zac_] at r
  subst r
  simp only [rel] at r1
  obtain ⟨id2, A, C, hid, rfl, rA, rC⟩ := r1
  rw [hk] at hid
  injection hid with hid
  subst hid
  rw [zac_] at rA
  have hA : A = #[] := Array.ext' (by simpa using rA)
  subst hA
  obtain ⟨c1, s2, hC, r2, r⟩ := zak_.1 rC
  rw [zac_] at r
  subst r
  simp only [rel] at r2
  have hC' : C = #[.pointer (some ⟨g.b (.obj b), 0, none⟩)] := Array.ext' (by rw [hC, r2.2.1])
  subst hC'
  obtain ⟨msb, E, hcur, rb, _⟩ := R.box b z _ hb
  obtain ⟨mm, s3, hms, rm, _⟩ := zak_.1 rb
  have hl := zoe_ e2
  obtain ⟨ents, clock, h0, hkeys, hr, hborn⟩ := R.mp m es hl
  simp only [rel] at rm
  have hmm := rm.2.1
  subst hmm
  have hBm : g.b (.obj b) < w.heap.size := (Array.getElem?_eq_some_iff.1 hcur).1
  have hcell : w.cell? ⟨g.b (.obj b), 0, none⟩ = some (.map (some (g.b (.obj m)))) := by
    rw [zbf_ hcur]
    rw [← Array.getElem?_toList, hms]
    rfl
  refine (Up.calls_up (K.ans w _ _ ents clock ks hBm hcell h0 hborn (hkeys.trans (zxg_ e3)) hnd hlen hran)).mono ?_
  rintro ee w' ⟨⟨v, rfl, hrow, hnil, hbel⟩, hup⟩
  have hd := hup v rfl
  have R' := R.sameOld hbel.block
  have X' := Ext.sameOld (h := h) (g := g) hbel.block hbel.os hbel.tape hbel.output hd hbel.size
  refine ⟨v, g, rfl, R', X', ?_⟩
  by_cases hks : ks = []
  · have hv := hnil.2 hks
    subst hv
    rw [zhf_, if_pos hks]
    exact (rel_of rfl : rel φ g h false vnil _)
  · rw [zhf_, if_neg hks]
    rcases hrow.2 with ⟨h1, _⟩ | ⟨gb, cap, cur, rfl, h1, h2, h3, h4, h5, h6⟩
    · exact absurd (hnil.1 h1) hks
    · have hl : (ks.mergeSort fun x y => decide (x ≤ y)).length = ks.length := List.length_mergeSort _
      refine ⟨gb, cap, h1, ?_⟩
      refine ⟨by simp [hl, hdr], ⟨cur, kt, _, h2, by rw [h5], zxh_ _, by rw [zxj_, ← h6]; simp [hl]⟩, by simpa [hl] using h3, h4, zxi_ _, zxk_ _, fun j => ?_, fun a ha => by have := R.lt ha; omega⟩
      cases hj : g.M gb j with
      | none => rfl
      | some u => have := R.M_lt hj; omega
end
end Go.Proofs.Sl
namespace Go.Proofs.Sl
open Go.RowKit Go.Maps Go.Sort Go.Shelf
section
variable {P : Program}
theorem zxl_ {k : TypeId} {R : Value → Option (DataW Unit × List MemPlace)} (hR : ∀ v, R v = some (.nil, [])) (hk : P.underlying k = some (.int .i64)) : ∀ {l : List MapEntry} {ks : List Int}, l.map (·.key) = ks.map (Value.int .i64) → (∀ x ∈ ks, (Lit.int .i64 x).wf = true) →
    l.map (WideElems.rg P k R) = ks.map (fun x => (Lit.int .i64 x, DataW.nil)) ∧ ∀ x ∈ l, ∃ y, WideElems.rd P k R x = some y
  | [], [], _, _ => ⟨rfl, fun _ h => by simp at h⟩
  | [], _ :: _, e, _ => by simp at e
  | _ :: _, [], e, _ => by simp at e
  | a :: l, x :: ks, e, hw => by
    simp only [List.map_cons, List.cons.injEq] at e
    obtain ⟨h1, h2⟩ := zxl_ hR hk e.2 fun y hy => hw y (List.mem_cons_of_mem _ hy)
    have hrd : WideElems.rd P k R a = some (Lit.int .i64 x, .nil) := by
      unfold WideElems.rd
      rw [e.1, keyOf_int_mk hk (hw x (by simp)), hR]
      rfl
    refine ⟨?_, ?_⟩
    · simp only [List.map_cons, h1]
      rw [WideElems.rg, hrd]
      rfl
    · intro b hb
      rcases List.mem_cons.1 hb with rfl | hb
      · exact ⟨_, hrd⟩
      · exact h2 b hb
theorem zbuf_ {l : List MapEntry} {ks : List Int} (e : l.map (·.key) = ks.map (Value.int .i64)) (hn : ks.Nodup) : (l.map (·.key)).Nodup := by
  rw [e]
  exact List.Pairwise.map _ (fun a b hab h => hab (by injection h)) hn
theorem zbug_ {ρ ρ' : Ren} (LK : SlLaysZI.n7 P ρ) (LS : SlLaysZI.n6 P ρ') (hs : ∀ m, AnyZI.SortsIn P ρ' Fence.wide m) (e9 : ∀ args w, (callFunc (ρ'.f 9) args).run P w = .ok (.enter (ρ'.f 9) args) w) (e10 : ∀ args w, (callFunc (ρ.f 10) args).run P w = .ok (.enter (ρ.f 10) args) w) : KeysSpec P (ρ'.f 6) (ρ.f 10) (ρ'.t 26) where
  ans := fun w Bm b ents clock ks hBm hm hb hborn hkeys hnd hlen hran => by
    have hl : ents.size = ks.length := by
      have := congrArg List.length hkeys
      simpa using this
    have hwf : ∀ x ∈ ks, (Lit.int .i64 x).wf = true := fun x hx => by
      have := hran x hx
      show (decide (IntKind.i64.min ≤ x) && decide (x ≤ IntKind.i64.max)) = true
      have h1 : IntKind.i64.min = -9223372036854775808 := by decide
      have h2 : IntKind.i64.max = 9223372036854775807 := by decide
      rw [h1, h2, Bool.and_eq_true, decide_eq_true_eq, decide_eq_true_eq]
      omega
    obtain ⟨h1, h2⟩ := zxl_ (R := fun _ => some (.nil, [])) (fun _ => rfl) (LK.t26) hkeys hwf
    have hown : w.ownsMap P (ρ.t 26) (fun _ => some (.nil, [])) b ents.size (.map ((ents.toList.map (WideElems.rg P (ρ.t 26) (H := Unit) (fun _ => some (.nil, [])))).foldr DataW.insert [])) :=
      ⟨ents, clock, hb, ⟨by rw [hl]; show _ ≤ 9223372036854775807; omega, ⟨hborn.1, hborn.2, zbuf_ hkeys hnd⟩, h2⟩, Nat.le_refl _, rfl⟩
    have hD : (intKeys (.map ((ents.toList.map (WideElems.rg P (ρ.t 26) (H := Unit) (fun _ => some (.nil, [])))).foldr DataW.insert []))).Perm ks := by
      unfold intKeys
      refine ((WideShapes.sorted_perm _).map _).trans ?_
      rw [h1, List.map_map]
      have : ((fun p : Lit × DataW Unit => Go.intOf p.1) ∘ fun x => (Lit.int .i64 x, DataW.nil)) = id := by
        funext x
        rfl
      rw [this, List.map_id]
    have hsz : Maps.size (.map ((ents.toList.map (WideElems.rg P (ρ.t 26) (H := Unit) (fun _ => some (.nil, [])))).foldr DataW.insert [])) = ks.length := by
      have := hD.length_eq
      rw [← this]
      simp [Maps.size, intKeys]
    have hseq := AnyZI.keys_gives (ρ := ρ) { LK with } Fence.wide 2 trivial rfl (by omega) Bm b _ _ w hBm hm hown
    have cS := AnyZI.sorted_in LS Fence.wide 5 trivial trivial trivial trivial rfl (by omega) (hs _) e9 (ρ.f 10) #[.pointer (some ⟨Bm, 0, none⟩)] trivial e10 _ _ (by rw [hsz]; show _ ≤ 9223372036854775807; omega) (by rw [hsz]; omega) w hseq
    refine (callsIn_wide.1 cS).mono ?_
    rintro e w' ⟨v, ss, rfl, hS, hrow, hnil, hbel⟩
    have hp : ss.Perm ks := hS.trans hD
    refine ⟨v, rfl, ?_, hnil.trans ⟨fun h => by rw [h] at hp; exact hp.nil_eq.symm, fun h => by rw [h] at hp; exact hp.eq_nil⟩, hbel⟩
    rw [← hp.length_eq]
    have := mergeSort_of_perm_i hp
    unfold leI at this
    rw [← this]
    exact hrow
end
end Go.Proofs.Sl
