/- What the Reader's methods do: bools, texts, counts. -/
import Derived.Test.YtaaadjaigfbbjaaSlL
set_option linter.unusedVariables false
set_option linter.unusedSimpArgs false
set_option linter.unnecessarySimpa false
namespace Go.Proofs.Sl

/-- Reading a bool. -/
def rBool (s : ByteArray) (a : Nat) (e : Int) : Bool × Nat × Int :=
  if e ≠ 0 then (false, a, e) else if (rn s a).2.2 ≠ 0 then (false, a, (rn s a).2.2) else if (rn s a).1 ≠ 0 ∧ (rn s a).1 ≠ 1 then (false, a, 3) else ((rn s a).1 == 1, (rn s a).2.1, 0)
/-- The error of a number of bytes or elements. -/
def szE (s : ByteArray) (a : Nat) (most more : Int) : Int :=
  if (rn s a).2.2 ≠ 0 then (rn s a).2.2 else if (rn s a).1 < 0 then 3 else if (rn s a).1 > most then more else if (s.size : Int) - (rn s a).2.1 < (rn s a).1 then 4 else 0
/-- Reading such a number. -/
def rSz (s : ByteArray) (a : Nat) (e most more : Int) : Nat × Nat × Int :=
  if e ≠ 0 then (0, a, e) else if szE s a most more ≠ 0 then (0, a, szE s a most more) else ((rn s a).1.toNat, (rn s a).2.1, 0)
/-- Reading a text. -/
def rText (s : ByteArray) (a : Nat) (e most : Int) : ByteArray × Nat × Int :=
  (⟨(((bts s).drop (rSz s a e most 5).2.1).take (rSz s a e most 5).1).toArray⟩, (rSz s a e most 5).2.1 + (rSz s a e most 5).1, (rSz s a e most 5).2.2)

theorem szE_ok {s : ByteArray} {a : Nat} {most more : Int} (h : szE s a most more = 0) (hm : more ≠ 0) : (rn s a).2.2 = 0 ∧ 0 ≤ (rn s a).1 ∧ (rn s a).1 ≤ most ∧ (rn s a).1 ≤ (s.size : Int) - (rn s a).2.1 := by
  unfold szE at h
  by_cases h1 : (rn s a).2.2 = 0
  · rw [if_neg (by simpa using h1)] at h
    by_cases h2 : (rn s a).1 < 0
    · rw [if_pos h2] at h; cases h
    · rw [if_neg h2] at h
      by_cases h3 : (rn s a).1 > most
      · rw [if_pos h3] at h; exact absurd h hm
      · rw [if_neg h3] at h
        by_cases h4 : (s.size : Int) - (rn s a).2.1 < (rn s a).1
        · rw [if_pos h4] at h; cases h
        · exact ⟨h1, by omega, by omega, by omega⟩
  · rw [if_pos h1] at h; exact absurd h h1
theorem rSz_le {s : ByteArray} {a : Nat} (ha : a ≤ s.size) (e most : Int) {more : Int} (hm : more ≠ 0) : (rSz s a e most more).2.1 + (rSz s a e most more).1 ≤ s.size := by
  unfold rSz
  split
  · simpa using ha
  · split
    · simpa using ha
    · rename_i hz
      have hz' : szE s a most more = 0 := by simpa using hz
      obtain ⟨h1, h2, h3, h4⟩ := szE_ok hz' hm
      have := (rn_ok h1).1
      simp only
      omega
theorem rText_le {s : ByteArray} {a : Nat} (ha : a ≤ s.size) (e most : Int) : (rText s a e most).2.1 ≤ s.size := rSz_le ha e most (by decide)
theorem rBool_le {s : ByteArray} {a : Nat} (h : a ≤ s.size) (e : Int) : (rBool s a e).2.1 ≤ s.size := by
  unfold rBool
  split
  · exact h
  · split
    · exact h
    · split
      · exact h
      · exact (rn_ok (by rename_i hh _; simpa using hh)).1

section
variable {h t : H} {l : Nat} {s : ByteArray} {a : Nat} {e : Int}
theorem R_Bool (hl : l < h.length) (hs : s.size ≤ 10000000000000) (ha : a ≤ s.size) :
    run XP i_encoding_Reader_Bool [.ptr l 0] (h.set l (.box false [vs s, vi a, vi e])) = some (vb (rBool s a e).1, h.set l (.box false [vs s, vi (rBool s a e).2.1, vi (rBool s a e).2.2])) := by
  have hat : (h.set l (.box false [vs s, vi a, vi e]))[l]? = some (.box false [vs s, vi a, vi e]) := by simp [hl]
  have hok := R_ok hat
  have hnum := R_number hat (a := a) (by omega) (by omega)
  rw [run_eq, xp_encoding_Reader_Bool]
  by_cases he : e = 0
  · subst he
    by_cases hr : (rn s a).2.2 = 0
    · by_cases h0 : (rn s a).1 = 0
      · simp -implicitDefEqProofs [x_encoding_Reader_Bool, hok, hnum, hl, hr, h0, rBool]
      · have h0' : ((rn s a).1 != 0) = true := by simpa using h0
        by_cases h1 : (rn s a).1 = 1
        · simp -implicitDefEqProofs [x_encoding_Reader_Bool, hok, hnum, hl, hr, h0, h0', h1, rBool]
        · have h1' : ((rn s a).1 != 1) = true := by simpa using h1
          simp -implicitDefEqProofs [x_encoding_Reader_Bool, hok, hnum, hl, hr, h0, h0', h1, h1', rBool, R_fail0]
    · have hr' : ((rn s a).2.2 != 0) = true := by simpa using hr
      have hr2 : ((rn s a).2.2 == 0) = false := by simpa using hr
      simp -implicitDefEqProofs [x_encoding_Reader_Bool, hok, hnum, hl, hr, hr', hr2, rBool, R_fail0]
  · have he' : (e == 0) = false := by simpa using he
    simp -implicitDefEqProofs [x_encoding_Reader_Bool, hok, he', he, rBool]
theorem R_size (hl : l < h.length) (hs : s.size ≤ 10000000000000) (ha : a ≤ s.size) (most more : Int) (hm : more ≠ 0) :
    run XP i_encoding_Reader_size [.ptr l 0, vi most, vi more] (h.set l (.box false [vs s, vi a, vi 0])) =
      some (if szE s a most more = 0 then .tup [vi (rn s a).1, vi (rn s a).2.1, vb true] else .tup [vi 0, vi 0, vb false], h.set l (.box false [vs s, vi a, vi (szE s a most more)])) := by
  have hat : (h.set l (.box false [vs s, vi a, vi 0]))[l]? = some (.box false [vs s, vi a, vi 0]) := by simp [hl]
  have hnum := R_number hat (a := a) (by omega) (by omega)
  have hm' : (more != 0) = true := by simpa using hm
  rw [run_eq, xp_encoding_Reader_size]
  by_cases hr : (rn s a).2.2 = 0
  · have hnx := (rn_ok hr).1
    have w : IntKind.i64.wrap ((s.size : Int) - ((rn s a).2.1 : Int)) = (s.size : Int) - ((rn s a).2.1 : Int) := wrap_i64 (by omega) (by omega)
    by_cases h1 : (rn s a).1 < 0
    · simp -implicitDefEqProofs [x_encoding_Reader_size, hnum, hl, hr, h1, szE, R_fail0]
    · by_cases h2 : most < (rn s a).1
      · simp -implicitDefEqProofs [x_encoding_Reader_size, hnum, hl, hr, h1, h2, hm, hm', szE, R_fail0]
      · by_cases h3 : (s.size : Int) - ((rn s a).2.1 : Int) < (rn s a).1
        · simp -implicitDefEqProofs [x_encoding_Reader_size, hnum, hl, hr, h1, h2, h3, w, szE, R_fail0]
        · simp -implicitDefEqProofs [x_encoding_Reader_size, hnum, hl, hr, h1, h2, h3, w, szE, R_fail0]
  · have hr' : ((rn s a).2.2 != 0) = true := by simpa using hr
    simp -implicitDefEqProofs [x_encoding_Reader_size, hnum, hl, hr, hr', szE, R_fail0]
theorem R_Count (hl : l < h.length) (hs : s.size ≤ 10000000000000) (ha : a ≤ s.size) (most : Int) :
    run XP i_encoding_Reader_Count [.ptr l 0, vi most] (h.set l (.box false [vs s, vi a, vi e])) = some (vi (rSz s a e most 6).1, h.set l (.box false [vs s, vi (rSz s a e most 6).2.1, vi (rSz s a e most 6).2.2])) := by
  have hat : (h.set l (.box false [vs s, vi a, vi e]))[l]? = some (.box false [vs s, vi a, vi e]) := by simp [hl]
  have hok := R_ok hat
  have hsz := R_size (a := a) hl hs ha most 6 (by decide)
  rw [run_eq, xp_encoding_Reader_Count]
  by_cases he : e = 0
  · subst he
    by_cases hz : szE s a most 6 = 0
    · obtain ⟨h1, h2, h3, h4⟩ := szE_ok hz (by decide)
      have hn : (((rn s a).1.toNat : Nat) : Int) = (rn s a).1 := by omega
      simp -implicitDefEqProofs [x_encoding_Reader_Count, hok, hsz, hl, hz, rSz]
      omega
    · simp -implicitDefEqProofs [x_encoding_Reader_Count, hok, hsz, hl, hz, rSz]
  · have he' : (e == 0) = false := by simpa using he
    simp -implicitDefEqProofs [x_encoding_Reader_Count, hok, he', he, rSz]
theorem R_Text (hl : l < h.length) (hs : s.size ≤ 10000000000000) (ha : a ≤ s.size) (most : Int) :
    run XP i_encoding_Reader_Text [.ptr l 0, vi most] (h.set l (.box false [vs s, vi a, vi e])) = some (vs (rText s a e most).1, h.set l (.box false [vs s, vi (rText s a e most).2.1, vi (rText s a e most).2.2])) := by
  have hat : (h.set l (.box false [vs s, vi a, vi e]))[l]? = some (.box false [vs s, vi a, vi e]) := by simp [hl]
  have hok := R_ok hat
  have hsz := R_size (a := a) hl hs ha most 5 (by decide)
  have hext : ∀ i j, s.extract i j = ⟨(((bts s).take j).drop i).toArray⟩ := fun i j => by
    have : s = ⟨(bts s).toArray⟩ := by simp [bts]
    conv => lhs; rw [this]
    exact extract_ofList _ _ _
  rw [run_eq, xp_encoding_Reader_Text]
  by_cases he : e = 0
  · subst he
    by_cases hz : szE s a most 5 = 0
    · obtain ⟨h1, h2, h3, h4⟩ := szE_ok hz (by decide)
      have hnx := (rn_ok h1).1
      obtain ⟨n, hn⟩ : ∃ n : Nat, (rn s a).1 = (n : Int) := ⟨(rn s a).1.toNat, by omega⟩
      have w : IntKind.i64.wrap (((rn s a).2.1 : Int) + (n : Int)) = ((rn s a).2.1 : Int) + (n : Int) := wrap_i64 (by omega) (by omega)
      have g1 : (0 : Int) ≤ ((rn s a).2.1 : Int) + (n : Int) := by omega
      have g2 : (((rn s a).2.1 : Int) + (n : Int)).toNat = (rn s a).2.1 + n := by omega
      have g3 : (rn s a).2.1 + n ≤ s.size := by omega
      simp -implicitDefEqProofs [x_encoding_Reader_Text, hok, hsz, hl, hz, rText, rSz, hn, w, g1, g2, g3, hext]
      rw [List.drop_take]
      congr 2
      omega
    · simp -implicitDefEqProofs [x_encoding_Reader_Text, hok, hsz, hl, hz, rText, rSz]
  · have he' : (e == 0) = false := by simpa using he
    simp -implicitDefEqProofs [x_encoding_Reader_Text, hok, he', he, rText, rSz]
end
end Go.Proofs.Sl

/- What the Reader's methods do: several numbers, through pointers. -/
namespace Go.Proofs.Sl

/-- Reading n numbers. -/
def rNums (s : ByteArray) : Nat → Nat → Int → List Int × Nat × Int
  | 0, a, e => ([], a, e)
  | n + 1, a, e => ((rNum s a e).1 :: (rNums s n (rNum s a e).2.1 (rNum s a e).2.2).1, (rNums s n (rNum s a e).2.1 (rNum s a e).2.2).2)
theorem rNums_le {s : ByteArray} : ∀ (n a : Nat) (e : Int), a ≤ s.size → (rNums s n a e).2.1 ≤ s.size
  | 0, a, e, h => h
  | n + 1, a, e, h => rNums_le n _ _ (rNum_le h e)
theorem rNums_length {s : ByteArray} : ∀ (n a : Nat) (e : Int), (rNums s n a e).1.length = n
  | 0, a, e => rfl
  | n + 1, a, e => by simp [rNums, rNums_length n]

def ptrs (q j : Nat) : Nat → List V
  | 0 => []
  | n + 1 => .ptr q j :: ptrs q (j + 1) n
theorem ptrs_at : ∀ (n q j k : Nat), k < n → (ptrs q j n)[k]? = some (.ptr q (j + k))
  | 0, q, j, k, h => absurd h (by omega)
  | n + 1, q, j, 0, h => rfl
  | n + 1, q, j, k + 1, h => by
    have := ptrs_at n q (j + 1) k (by omega)
    simp only [ptrs, List.getElem?_cons_succ, this]
    congr 2
    omega
theorem ptrs_length : ∀ (n q j : Nat), (ptrs q j n).length = n
  | 0, q, j => rfl
  | n + 1, q, j => by simp [ptrs, ptrs_length n]

def plains (cs : List V) : Prop := ∀ c ∈ cs, c.plain = true
theorem plains.set {cs : List V} (h : plains cs) (j : Nat) {v : V} (hv : v.plain = true) : plains (cs.set j v) := by
  intro c hc
  rcases List.mem_or_eq_of_mem_set hc with hc | rfl
  · exact h c hc
  · exact hv

section
variable {s : ByteArray}
theorem rnums_l0 (base : Nat) (HH : H) (l q m : Nat) (N j0 : Nat) (hl : l < HH.length) (hq : q < HH.length) (hlq : l ≠ q) (hlm : l ≠ m) (hqm : q ≠ m) (hm : HH[m]? = some (.arr false 1 (ptrs q j0 N))) (hN : N ≤ 1000) (hs : s.size ≤ 10000000000000)
    {β : Type} {f : Ex × St → Option β} {b : Option β} {B : Body} (hB : B = xcode (run XP) loopW base x_encoding_Reader_numbers_l0) : ∀ (r k a : Nat) (e : Int) (cs : List V) (st : Sl), k + r = N → a ≤ s.size → plains cs → j0 + N ≤ cs.length →
    st 0 = .ptr l 0 → st 6 = .ref m N → st 7 = vi N → st 8 = vi k →
    (∀ st' : Sl, f (.exit 0, ⟨st', (HH.set l (.box false [vs s, vi (rNums s r a e).2.1, vi (rNums s r a e).2.2])).set q (.box false (putRow (j0 + k) ((rNums s r a e).1.map vi) cs))⟩) = b) →
    ob (loopW B ⟨st, (HH.set l (.box false [vs s, vi a, vi e])).set q (.box false cs)⟩) f = b := by
  have step : ∀ st, B st = xcode (run XP) loopW base x_encoding_Reader_numbers_l0 st := fun st => by rw [hB]
  intro r
  induction r with
  | zero =>
    intro k a e cs st hk ha hc hj h0 h6 h7 h8 kk
    have hlt : ¬ (k < N) := by omega
    rw [loopW_cps]
    simp -implicitDefEqProofs [step, x_encoding_Reader_numbers_l0, h7, h8, hlt]
    simpa [rNums, putRow] using kk _
  | succ r ih =>
    intro k a e cs st hk ha hc hj h0 h6 h7 h8 kk
    have hlt : k < N := by omega
    have hcl : j0 + k < cs.length := by omega
    have hcj : cs[j0 + k]? = some (cs[j0 + k]'hcl) := List.getElem?_eq_getElem hcl
    generalize hold : cs[j0 + k]'hcl = old at hcj
    have hop : old.plain = true := hc old (List.mem_of_getElem? hcj)
    have hpt : ∀ hh, (ptrs q j0 N)[k]'hh = .ptr q (j0 + k) := fun hh => by
      have := ptrs_at N q j0 k hlt
      rw [List.getElem?_eq_getElem hh] at this
      exact Option.some.inj this
    have hcs : ∀ hh, cs[j0 + k]'hh = old := fun _ => hold
    have hmm : ((HH.set l (.box false [vs s, vi a, vi e])).set q (.box false cs))[m]? = some (.arr false 1 (ptrs q j0 N)) := by
      rw [List.getElem?_set_ne hqm, List.getElem?_set_ne hlm]
      exact hm
    have hsw : ∀ x y : O, (HH.set l x).set q y = (HH.set q y).set l x := fun x y => List.set_comm _ _ hlq
    have hnum := R_Number (h := HH.set q (.box false cs)) (l := l) (s := s) (a := a) (e := e) (by simpa using hl) hs ha
    rw [← hsw, ← hsw] at hnum
    have hqq : ∀ x : O, ((HH.set l x).set q (.box false cs))[q]? = some (.box false cs) := fun x => by
      rw [List.getElem?_set_self (by simpa using hq)]
    rw [loopW_cps]
    simp -implicitDefEqProofs [step, x_encoding_Reader_numbers_l0, h0, h6, h7, h8, hlt, hmm, ptrs_length, hpt, hnum, hqq, hcl, hcs, hop]
    refine ih (k + 1) (rNum s a e).2.1 (rNum s a e).2.2 (cs.set (j0 + k) (vi (rNum s a e).1)) _ (by omega) (rNum_le ha e) (hc.set _ (Eq.trans rfl rfl)) (by simp; omega) ?_ ?_ ?_ ?_ fun st' => ?_
    · simp [h0]
    · simp [h6]
    · simp [h7]
    · simp only [upd_same]
      rw [wrap_i64 (by omega) (by omega)]
      simp
    · simpa [rNums, putRow, Nat.add_assoc] using kk st'
theorem R_numbers (HH : H) (l q m : Nat) (N j0 : Nat) (hl : l < HH.length) (hq : q < HH.length) (hlq : l ≠ q) (hlm : l ≠ m) (hqm : q ≠ m) (hm : HH[m]? = some (.arr false 1 (ptrs q j0 N))) (hN : N ≤ 1000) (hs : s.size ≤ 10000000000000)
    {a : Nat} {e : Int} {cs : List V} (ha : a ≤ s.size) (hc : plains cs) (hj : j0 + N ≤ cs.length) :
    run XP i_encoding_Reader_numbers [.ptr l 0, .ref m N] ((HH.set l (.box false [vs s, vi a, vi e])).set q (.box false cs)) =
      some (.tup [], (HH.set l (.box false [vs s, vi (rNums s N a e).2.1, vi (rNums s N a e).2.2])).set q (.box false (putRow j0 ((rNums s N a e).1.map vi) cs))) := by
  have hmm : ((HH.set l (.box false [vs s, vi a, vi e])).set q (.box false cs))[m]? = some (.arr false 1 (ptrs q j0 N)) := by
    rw [List.getElem?_set_ne hqm, List.getElem?_set_ne hlm]
    exact hm
  rw [run_eq, xp_encoding_Reader_numbers]
  simp -implicitDefEqProofs [x_encoding_Reader_numbers, hmm, ptrs_length]
  refine rnums_l0 _ HH l q m N j0 hl hq hlq hlm hqm hm hN hs rfl N 0 a e cs _ (by omega) ha hc hj ?_ ?_ ?_ ?_ fun st' => ?_
  · simp
  · simp
  · simp
  · simp
  · simp -implicitDefEqProofs
    exact List.take_of_length_le (by simp)
end
end Go.Proofs.Sl

/- What the Reader's methods do: values, attributes, exchanges, messages. -/
namespace Go.Proofs.Sl
def AV.z : AV := ⟨0, ⟨#[]⟩, 0⟩
def AT.z : AT := ⟨⟨#[]⟩, AV.z⟩
def RF.z : RF := ⟨0, 0⟩
def EX.z : EX := ⟨0, 0, 0, 0, 0⟩
def MS.z : MS := ⟨0, RF.z, RF.z, EX.z⟩
section
variable {h t : H} {l : Nat} {s : ByteArray} {a : Nat} {e : Int}
theorem take2 {u : H} {x : O} : (h.set l x ++ (t ++ u)).take (h.length + t.length) = h.set l x ++ t := by
  rw [← List.append_assoc]
  have : (h.set l x ++ t).length = h.length + t.length := by simp
  rw [← this]
  exact List.take_left
theorem R_Text_r (hl : l < h.length) (hs : s.size ≤ 10000000000000) (ha : a ≤ s.size) (most : Int) :
    run XP i_encoding_Reader_Text [.ptr l 0, vi most] (h.set l (.box false [vs s, vi a, vi e]) ++ t) = some (vs (rText s a e most).1, h.set l (.box false [vs s, vi (rText s a e most).2.1, vi (rText s a e most).2.2]) ++ t) := by
  have := R_Text (h := h ++ t) (l := l) (s := s) (a := a) (e := e) (by simp; omega) hs ha most
  simpa only [set_left hl] using this
theorem R_Bool_r (hl : l < h.length) (hs : s.size ≤ 10000000000000) (ha : a ≤ s.size) :
    run XP i_encoding_Reader_Bool [.ptr l 0] (h.set l (.box false [vs s, vi a, vi e]) ++ t) = some (vb (rBool s a e).1, h.set l (.box false [vs s, vi (rBool s a e).2.1, vi (rBool s a e).2.2]) ++ t) := by
  have := R_Bool (h := h ++ t) (l := l) (s := s) (a := a) (e := e) (by simp; omega) hs ha
  simpa only [set_left hl] using this
theorem R_Count_r (hl : l < h.length) (hs : s.size ≤ 10000000000000) (ha : a ≤ s.size) (most : Int) :
    run XP i_encoding_Reader_Count [.ptr l 0, vi most] (h.set l (.box false [vs s, vi a, vi e]) ++ t) = some (vi (rSz s a e most 6).1, h.set l (.box false [vs s, vi (rSz s a e most 6).2.1, vi (rSz s a e most 6).2.2]) ++ t) := by
  have := R_Count (h := h ++ t) (l := l) (s := s) (a := a) (e := e) (by simp; omega) hs ha most
  simpa only [set_left hl] using this
/-- The objects made since: one, the cells to be read into, others, the pointers. -/
theorem R_numbers_r (hl : l < h.length) (hs : s.size ≤ 10000000000000) (ha : a ≤ s.size) (z : O) (mid : H) (N j0 : Nat) (hN : N ≤ 1000) {cs : List V} (hc : plains cs) (hj : j0 + N ≤ cs.length) :
    run XP i_encoding_Reader_numbers [.ptr l 0, .ref (h.length + (mid.length + 2)) N] (h.set l (.box false [vs s, vi a, vi e]) ++ (z :: .box false cs :: (mid ++ [.arr false 1 (ptrs (h.length + 1) j0 N)]))) =
      some (.tup [], h.set l (.box false [vs s, vi (rNums s N a e).2.1, vi (rNums s N a e).2.2]) ++ (z :: .box false (putRow j0 ((rNums s N a e).1.map vi) cs) :: (mid ++ [.arr false 1 (ptrs (h.length + 1) j0 N)]))) := by
  have hm : (h ++ (z :: O.dead :: (mid ++ [.arr false 1 (ptrs (h.length + 1) j0 N)])) : H)[h.length + (mid.length + 2)]? = some (.arr false 1 (ptrs (h.length + 1) j0 N)) := by
    rw [at_app]
    simp
  have := R_numbers (h ++ (z :: O.dead :: (mid ++ [.arr false 1 (ptrs (h.length + 1) j0 N)]))) l (h.length + 1) (h.length + (mid.length + 2)) N j0 (by simp; omega) (by simp) (by omega) (by omega) (by omega) hm hN hs (e := e) ha hc hj
  have hset : ∀ X Y : O, ((h ++ (z :: O.dead :: (mid ++ [.arr false 1 (ptrs (h.length + 1) j0 N)])) : H).set l X).set (h.length + 1) Y = h.set l X ++ (z :: Y :: (mid ++ [.arr false 1 (ptrs (h.length + 1) j0 N)])) := fun X Y => by
    rw [set_left hl, set_right]
    rfl
  rw [hset, hset] at this
  exact this

theorem R_readAV {x y : V} (hl : l < h.length) (v : AV) : run XP i_encoding_read_api_Value [.ptr l 0, v.v] (h.set l (.box false [x, y, vi e]) ++ t) = some (if e = 0 then v.v else (AV.z : AV).v, h.set l (.box false [x, y, vi e]) ++ t) := by
  simp only [AV.v, AV.z]
  rw [run_eq, xp_encoding_read_api_Value]
  have hlt : l < (h.set l (.box false [x, y, vi e]) ++ t).length := by simp; omega
  have hok := R_ok_r (t := t) (e := e) (x := x) (y := y) hl
  have hok2 := fun t2 : H => R_ok_r (t := t ++ t2) (e := e) (x := x) (y := y) hl
  by_cases he : e = 0
  · subst he
    simp -implicitDefEqProofs [x_encoding_read_api_Value, hok2, noOwn, putRow, take2]
  · have he' : (e == 0) = false := by simpa using he
    simp -implicitDefEqProofs [x_encoding_read_api_Value, hok2, noOwn, putRow, he, he', take2]

theorem R_readAT {x y : V} (hl : l < h.length) (v : AT) : run XP i_encoding_read_api_Attr [.ptr l 0, v.v] (h.set l (.box false [x, y, vi e]) ++ t) = some (if e = 0 then v.v else (AT.z : AT).v, h.set l (.box false [x, y, vi e]) ++ t) := by
  simp only [AT.v, AT.z, AV.z]
  rw [run_eq, xp_encoding_read_api_Attr]
  have hlt : l < (h.set l (.box false [x, y, vi e]) ++ t).length := by simp; omega
  have hok := R_ok_r (t := t) (e := e) (x := x) (y := y) hl
  have hok2 := fun t2 : H => R_ok_r (t := t ++ t2) (e := e) (x := x) (y := y) hl
  by_cases he : e = 0
  · subst he
    simp -implicitDefEqProofs [x_encoding_read_api_Attr, hok2, noOwn, putRow, take2]
  · have he' : (e == 0) = false := by simpa using he
    simp -implicitDefEqProofs [x_encoding_read_api_Attr, hok2, noOwn, putRow, he, he', take2]

theorem R_readEX {x y : V} (hl : l < h.length) (v : EX) : run XP i_encoding_read_api_Exchange [.ptr l 0, v.v] (h.set l (.box false [x, y, vi e]) ++ t) = some (if e = 0 then v.v else (EX.z : EX).v, h.set l (.box false [x, y, vi e]) ++ t) := by
  simp only [EX.v, EX.z]
  rw [run_eq, xp_encoding_read_api_Exchange]
  have hlt : l < (h.set l (.box false [x, y, vi e]) ++ t).length := by simp; omega
  have hok := R_ok_r (t := t) (e := e) (x := x) (y := y) hl
  have hok2 := fun t2 : H => R_ok_r (t := t ++ t2) (e := e) (x := x) (y := y) hl
  by_cases he : e = 0
  · subst he
    simp -implicitDefEqProofs [x_encoding_read_api_Exchange, hok2, noOwn, putRow, take2]
  · have he' : (e == 0) = false := by simpa using he
    simp -implicitDefEqProofs [x_encoding_read_api_Exchange, hok2, noOwn, putRow, he, he', take2]

theorem R_readMS {x y : V} (hl : l < h.length) (v : MS) : run XP i_encoding_read_api_Message [.ptr l 0, v.v] (h.set l (.box false [x, y, vi e]) ++ t) = some (if e = 0 then v.v else (MS.z : MS).v, h.set l (.box false [x, y, vi e]) ++ t) := by
  simp only [MS.v, MS.z, RF.z, EX.z]
  rw [run_eq, xp_encoding_read_api_Message]
  have hlt : l < (h.set l (.box false [x, y, vi e]) ++ t).length := by simp; omega
  have hok := R_ok_r (t := t) (e := e) (x := x) (y := y) hl
  have hok2 := fun t2 : H => R_ok_r (t := t ++ t2) (e := e) (x := x) (y := y) hl
  by_cases he : e = 0
  · subst he
    simp -implicitDefEqProofs [x_encoding_read_api_Message, hok2, noOwn, putRow, take2]
  · have he' : (e == 0) = false := by simpa using he
    simp -implicitDefEqProofs [x_encoding_read_api_Message, hok2, noOwn, putRow, he, he', take2]

/-- Reading a value. -/
def rValue (s : ByteArray) (a : Nat) (e : Int) : AV × Nat × Int :=
  let x := rNum s a e
  let y := rText s x.2.1 x.2.2 4096
  let z := rNum s y.2.1 y.2.2
  (if z.2.2 = 0 then ⟨x.1, y.1, z.1⟩ else AV.z, z.2.1, z.2.2)
theorem rValue_le (ha : a ≤ s.size) (e : Int) : (rValue s a e).2.1 ≤ s.size := rNum_le (rText_le (rNum_le ha _) _ _) _
theorem ite_v {c : Prop} [Decidable c] {α : Type} (v : α → V) (x y : α) : (if c then v x else v y) = v (if c then x else y) := by split <;> rfl
theorem R_Value (hl : l < h.length) (hs : s.size ≤ 10000000000000) (ha : a ≤ s.size) :
    run XP i_encoding_Reader_Value [.ptr l 0] (h.set l (.box false [vs s, vi a, vi e])) = some ((rValue s a e).1.v, h.set l (.box false [vs s, vi (rValue s a e).2.1, vi (rValue s a e).2.2])) := by
  have hx := rNum_le ha e
  have hy := rText_le hx (rNum s a e).2.2 4096
  have h1 : ∀ t : H, _ := fun t => R_Number_r (t := t) (e := e) hl hs ha
  have h2 : ∀ t : H, _ := fun t => R_Text_r (t := t) (e := (rNum s a e).2.2) hl hs hx 4096
  have h3 : ∀ t : H, _ := fun t => R_Number_r (t := t) (e := (rText s (rNum s a e).2.1 (rNum s a e).2.2 4096).2.2) hl hs hy
  unfold rValue
  generalize rNum s a e = q at hx hy h1 h2 h3 ⊢
  obtain ⟨n1, a1, e1⟩ := q
  simp only at hx hy h1 h2 h3 ⊢
  generalize rText s a1 e1 4096 = q at hy h2 h3 ⊢
  obtain ⟨n2, a2, e2⟩ := q
  simp only at hy h2 h3 ⊢
  generalize rNum s a2 e2 = q at h3 ⊢
  obtain ⟨n3, a3, e3⟩ := q
  simp only at h3 ⊢
  have h4 : ∀ t : H, _ := fun t => R_readAV (t := t) (x := vs s) (y := vi a3) (e := e3) hl ⟨n1, n2, n3⟩
  simp only [AV.v] at h4
  rw [run_eq, xp_encoding_Reader_Value]
  by_cases he : e3 = 0
  · subst he
    simp only [if_true] at h4
    simp -implicitDefEqProofs [x_encoding_Reader_Value, hl, h1, h2, h3, h4, addParts, putRow, AV.v]
  · simp only [if_neg he, AV.z] at h4
    simp -implicitDefEqProofs [x_encoding_Reader_Value, hl, h1, h2, h3, h4, addParts, putRow, he, AV.v, AV.z]
theorem R_Value_r (hl : l < h.length) (hs : s.size ≤ 10000000000000) (ha : a ≤ s.size) :
    run XP i_encoding_Reader_Value [.ptr l 0] (h.set l (.box false [vs s, vi a, vi e]) ++ t) = some ((rValue s a e).1.v, h.set l (.box false [vs s, vi (rValue s a e).2.1, vi (rValue s a e).2.2]) ++ t) := by
  have := R_Value (h := h ++ t) (l := l) (s := s) (a := a) (e := e) (by simp; omega) hs ha
  simpa only [set_left hl] using this
/-- Reading an attribute. -/
def rAttr (s : ByteArray) (a : Nat) (e : Int) : AT × Nat × Int :=
  let x := rText s a e 4096
  let y := rValue s x.2.1 x.2.2
  (if y.2.2 = 0 then ⟨x.1, y.1⟩ else AT.z, y.2.1, y.2.2)
theorem rAttr_le (ha : a ≤ s.size) (e : Int) : (rAttr s a e).2.1 ≤ s.size := rValue_le (rText_le ha _ _) _
theorem R_Attr (hl : l < h.length) (hs : s.size ≤ 10000000000000) (ha : a ≤ s.size) :
    run XP i_encoding_Reader_Attr [.ptr l 0] (h.set l (.box false [vs s, vi a, vi e])) = some ((rAttr s a e).1.v, h.set l (.box false [vs s, vi (rAttr s a e).2.1, vi (rAttr s a e).2.2])) := by
  have hx := rText_le ha e 4096
  have h1 : ∀ t : H, _ := fun t => R_Text_r (t := t) (e := e) hl hs ha 4096
  have h2 : ∀ t : H, _ := fun t => R_Value_r (t := t) (e := (rText s a e 4096).2.2) hl hs hx
  unfold rAttr
  generalize rText s a e 4096 = q at hx h1 h2 ⊢
  obtain ⟨n1, a1, e1⟩ := q
  simp only at hx h1 h2 ⊢
  generalize rValue s a1 e1 = q at h2 ⊢
  obtain ⟨n2, a2, e2⟩ := q
  simp only at h2 ⊢
  have h4 : ∀ t : H, _ := fun t => R_readAT (t := t) (x := vs s) (y := vi a2) (e := e2) hl ⟨n1, n2⟩
  simp only [AT.v, AV.v] at h2 h4
  rw [run_eq, xp_encoding_Reader_Attr]
  by_cases he : e2 = 0
  · subst he
    simp only [if_true] at h4
    simp -implicitDefEqProofs [x_encoding_Reader_Attr, hl, h1, h2, h4, addParts, putRow, AT.v]
  · simp only [if_neg he, AT.z, AV.z] at h4
    simp -implicitDefEqProofs [x_encoding_Reader_Attr, hl, h1, h2, h4, addParts, putRow, he, AT.v, AT.z, AV.z]
/-- Reading an exchange. -/
def EX.of : List Int → EX
  | [a, b, c, d, e] => ⟨a, b, c, d, e⟩
  | _ => EX.z
def rEx (s : ByteArray) (a : Nat) (e : Int) : EX × Nat × Int :=
  let x := rNums s 5 a e
  (if x.2.2 = 0 then EX.of x.1 else EX.z, x.2.1, x.2.2)
theorem rEx_le (ha : a ≤ s.size) (e : Int) : (rEx s a e).2.1 ≤ s.size := rNums_le 5 _ _ ha
theorem plains5 : plains [vi 0, vi 0, vi 0, vi 0, vi 0] := by
  intro c hc
  simp at hc
  subst hc
  exact Eq.trans rfl rfl
theorem R_Exchange (hl : l < h.length) (hs : s.size ≤ 10000000000000) (ha : a ≤ s.size) :
    run XP i_encoding_Reader_Exchange [.ptr l 0] (h.set l (.box false [vs s, vi a, vi e])) = some ((rEx s a e).1.v, h.set l (.box false [vs s, vi (rEx s a e).2.1, vi (rEx s a e).2.2])) := by
  have h1 := R_numbers_r (e := e) hl hs ha (.box false [vi 0, vi 0, vi 0, vi 0, vi 0]) [] 5 0 (by decide) plains5 (by decide)
  have hn := rNums_length (s := s) 5 a e
  unfold rEx
  generalize rNums s 5 a e = q at h1 hn ⊢
  obtain ⟨ns, a1, e1⟩ := q
  simp only at h1 hn ⊢
  match ns, hn with
  | [n0, n1, n2, n3, n4], _ =>
    simp only [ptrs, List.map_cons, List.map_nil, putRow, List.set_cons_zero, List.set_cons_succ, List.nil_append, List.length_nil, Nat.zero_add, Nat.reduceAdd] at h1
    have h4 : ∀ t : H, _ := fun t => R_readEX (t := t) (x := vs s) (y := vi a1) (e := e1) hl ⟨n0, n1, n2, n3, n4⟩
    simp only [EX.v] at h4
    rw [run_eq, xp_encoding_Reader_Exchange]
    by_cases he : e1 = 0
    · subst he
      simp only [if_true] at h4
      simp -implicitDefEqProofs [x_encoding_Reader_Exchange, hl, h1, h4, addParts, putRow, EX.v, EX.of]
    · simp only [if_neg he, EX.z] at h4
      simp -implicitDefEqProofs [x_encoding_Reader_Exchange, hl, h1, h4, addParts, putRow, he, EX.v, EX.z]
end
end Go.Proofs.Sl

/- Reading lists. -/
namespace Go.Proofs.Sl
/-- Reading n elements: none, if there is an error. -/
def rLoop {α : Type} (one : ByteArray → Nat → Int → α × Nat × Int) (s : ByteArray) : Nat → Nat → Int → List α × Nat × Int
  | 0, a, e => ([], a, e)
  | n + 1, a, e => if (one s a e).2.2 ≠ 0 then ([], (one s a e).2) else
      if (rLoop one s n (one s a e).2.1 (one s a e).2.2).2.2 ≠ 0 then ([], (rLoop one s n (one s a e).2.1 (one s a e).2.2).2) else
        ((one s a e).1 :: (rLoop one s n (one s a e).2.1 (one s a e).2.2).1, (rLoop one s n (one s a e).2.1 (one s a e).2.2).2)
section
variable {h t : H} {l : Nat} {s : ByteArray} {a : Nat} {e : Int}
theorem rRef_le (ha : a ≤ s.size) (e : Int) : (rRef s a e).2.1 ≤ s.size := rNum_le (rNum_le ha _) _
theorem R_Attr_r (hl : l < h.length) (hs : s.size ≤ 10000000000000) (ha : a ≤ s.size) :
    run XP i_encoding_Reader_Attr [.ptr l 0] (h.set l (.box false [vs s, vi a, vi e]) ++ t) = some ((rAttr s a e).1.v, h.set l (.box false [vs s, vi (rAttr s a e).2.1, vi (rAttr s a e).2.2]) ++ t) := by
  have := R_Attr (h := h ++ t) (l := l) (s := s) (a := a) (e := e) (by simp; omega) hs ha
  simpa only [set_left hl] using this
theorem R_Exchange_r (hl : l < h.length) (hs : s.size ≤ 10000000000000) (ha : a ≤ s.size) :
    run XP i_encoding_Reader_Exchange [.ptr l 0] (h.set l (.box false [vs s, vi a, vi e]) ++ t) = some ((rEx s a e).1.v, h.set l (.box false [vs s, vi (rEx s a e).2.1, vi (rEx s a e).2.2]) ++ t) := by
  have := R_Exchange (h := h ++ t) (l := l) (s := s) (a := a) (e := e) (by simp; omega) hs ha
  simpa only [set_left hl] using this
end

theorem elemsAT_l0 (base : Nat) (h : H) (l : Nat) (s : ByteArray) (hl : l < h.length) (hs : s.size ≤ 10000000000000) (N : Nat) (hN : N ≤ 4096) (hbase : base = h.length) {β : Type} {f : Ex × St → Option β} {b : Option β} {B : Body} (hB : B = xcode (run XP) loopW base x_encoding_elements_api_Attr_l0) :
    ∀ (r i a : Nat) (e : Int) (out : List AT) (t : H) (st : Sl), i + r = N → a ≤ s.size → out.length = i → (out = [] → st 5 = vnil) → (out ≠ [] → st 5 = .ref (h.length + 1) out.length ∧ t[1]? = some (.arr false 4 (out.map AT.v))) → (out = [] → t = []) →
    st 0 = .ptr l 0 → st 1 = .fn i_encoding_Reader_Attr [.ptr l 0] [] → st 8 = vi N → st 9 = vi i →
    (∀ (st' : Sl) (t' : H), (rLoop rAttr s r a e).2.2 = 0 ∨ r = 0 → (out ++ (rLoop rAttr s r a e).1 = [] → st' 5 = vnil) → (out ++ (rLoop rAttr s r a e).1 ≠ [] → st' 5 = .ref (h.length + 1) (out ++ (rLoop rAttr s r a e).1).length ∧ t'[1]? = some (.arr false 4 ((out ++ (rLoop rAttr s r a e).1).map AT.v))) →
      f (.exit 0, ⟨st', h.set l (.box false [vs s, vi (rLoop rAttr s r a e).2.1, vi (rLoop rAttr s r a e).2.2]) ++ t'⟩) = b) →
    (∀ (st' : Sl) (t' : H), (rLoop rAttr s r a e).2.2 ≠ 0 → st' 4 = vnil → f (.ret, ⟨st', h.set l (.box false [vs s, vi (rLoop rAttr s r a e).2.1, vi (rLoop rAttr s r a e).2.2]) ++ t'⟩) = b) →
    ob (loopW B ⟨st, h.set l (.box false [vs s, vi a, vi e]) ++ t⟩) f = b := by
  have step : ∀ st, B st = xcode (run XP) loopW base x_encoding_elements_api_Attr_l0 st := fun st => by rw [hB]
  intro r
  induction r with
  | zero =>
    intro i a e out t st hi ha ho h5 h5' ht h0 h1 h8 h9 kk kr
    have hlt : ¬ (i < N) := by omega
    rw [loopW_cps]
    simp -implicitDefEqProofs [step, x_encoding_elements_api_Attr_l0, h8, h9, hlt]
    simp only [rLoop, List.append_nil] at kk
    exact kk _ t (.inr trivial) (fun h => by simp [h5 h]) fun h => by simp [(h5' h).1, (h5' h).2]
  | succ r ih =>
    intro i a e out t st hi ha ho h5 h5' ht h0 h1 h8 h9 kk kr
    have hlt : i < N := by omega
    have hone := R_Attr_r (t := t) (e := e) hl hs ha
    have hle := rAttr_le ha e
    rw [rLoop] at kk kr
    generalize rAttr s a e = q at hone hle kk kr
    obtain ⟨v, a1, e1⟩ := q
    simp only at hone hle kk kr
    have hok : ∀ u : H, _ := fun u => R_ok_r (t := u) (x := vs s) (y := vi a1) (e := e1) hl
    simp only [AT.v] at hone
    rw [loopW_cps]
    by_cases he : e1 = 0
    · subst he
      simp only [ne_eq, not_true, if_false] at kk kr
      have next : ∀ (st2 : Sl) (t2 : H), st2 5 = .ref (h.length + 1) (out.length + 1) → t2[1]? = some (.arr false 4 (out.map AT.v ++ [v.v])) → st2 0 = .ptr l 0 → st2 1 = .fn i_encoding_Reader_Attr [.ptr l 0] [] → st2 8 = vi N → st2 9 = vi (IntKind.i64.wrap ((i : Int) + 1)) → ob (loopW B ⟨st2, h.set l (.box false [vs s, vi a1, vi 0]) ++ t2⟩) f = b := by
        intro st2 t2 g5 gt g0 g1 g8 g9
        refine ih (i + 1) a1 0 (out ++ [v]) t2 st2 (by omega) hle (by simp [ho]) (fun h => absurd h (by simp)) (fun _ => ⟨by simpa using g5, by simpa using gt⟩) (fun h => absurd h (by simp)) g0 g1 g8 (by rw [g9, wrap_i64 (by omega) (by omega)]; rfl) (fun st' t' hz k1 k2 => ?_) fun st' t' hz k4 => ?_
        · by_cases hr0 : r = 0
          · subst hr0
            simp only [rLoop, ne_eq, not_true, if_false] at kk k1 k2 ⊢
            exact kk st' t' (.inl trivial) (by simpa using k1) (by simpa using k2)
          · have hz' := hz.resolve_right hr0
            simp only [hz', ne_eq, not_true, if_false] at kk k1 k2 ⊢
            exact kk st' t' (.inl trivial) (by simpa using k1) (by simpa using k2)
        · rw [if_pos hz] at kr
          exact kr st' t' hz k4
      by_cases hout : out = []
      · subst hout
        have h5v := h5 rfl
        have htv := ht rfl
        subst htv
        rw [List.append_nil] at hone
        simp only [List.append_nil]
        simp -implicitDefEqProofs [step, x_encoding_elements_api_Attr_l0, h0, h1, h5v, h8, h9, hlt, hone, hok, putRow]
        apply next
        · simp
        · simp [AT.v]
        · simp [h0]
        · simp [h1]
        · simp [h8]
        · simp
      · obtain ⟨h5v, htv⟩ := h5' hout
        have hlim : out.length ≤ 2932031007401 := by omega
        have hat : ∀ (X : O) (u : H), (h.set l X ++ (t ++ u))[h.length + 1]? = some (.arr false 4 (out.map AT.v)) := fun X u => by
          rw [at_right, List.getElem?_append_left (List.getElem?_eq_some_iff.1 htv).1]
          exact htv
        have hset : ∀ (X Y : O) (u : H), (h.set l X ++ (t ++ u)).set (h.length + 1) Y = h.set l X ++ (t.set 1 Y ++ u) := fun X Y u => by
          rw [set_right, List.set_append_left _ _ (List.getElem?_eq_some_iff.1 htv).1]
        have hbx : ∀ (X : O) (u : H), (h.set l X ++ (t ++ u))[h.length + t.length]? = u[0]? := fun X u => by
          rw [at_right]; simp
        have hbs : ∀ (X Y : O) (u : H), (h.set l X ++ (t ++ u)).set (h.length + t.length) Y = h.set l X ++ (t ++ u.set 0 Y) := fun X Y u => by
          rw [set_right, List.set_append_right _ _ (Nat.le_refl _)]; simp
        simp -implicitDefEqProofs [step, x_encoding_elements_api_Attr_l0, h0, h1, h5v, h8, h9, hlt, hone, hok, putRow, hat, hset, hbx, hbs, hlim]
        apply next
        · simp
        · have := (List.getElem?_eq_some_iff.1 htv).1
          rw [List.getElem?_append_left (by simpa using this), List.getElem?_set_self this]
          simp [AT.v]
        · simp [h0]
        · simp [h1]
        · simp [h8]
        · simp
    · have he' : (e1 == 0) = false := by simpa using he
      rw [if_pos he] at kk kr
      have hbx : ∀ (X : O) (u : H), (h.set l X ++ (t ++ u))[h.length + t.length]? = u[0]? := fun X u => by
        rw [at_right]; simp
      have hbs : ∀ (X Y : O) (u : H), (h.set l X ++ (t ++ u)).set (h.length + t.length) Y = h.set l X ++ (t ++ u.set 0 Y) := fun X Y u => by
        rw [set_right, List.set_append_right _ _ (Nat.le_refl _)]; simp
      simp -implicitDefEqProofs [step, x_encoding_elements_api_Attr_l0, h0, h1, h8, h9, hlt, hone, hok, putRow, he, he', hbx, hbs]
      exact kr _ _ he (by simp)

theorem elemsRF_l0 (base : Nat) (h : H) (l : Nat) (s : ByteArray) (hl : l < h.length) (hs : s.size ≤ 10000000000000) (N : Nat) (hN : N ≤ 4096) (hbase : base = h.length) {β : Type} {f : Ex × St → Option β} {b : Option β} {B : Body} (hB : B = xcode (run XP) loopW base x_encoding_elements_api_Ref_l0) :
    ∀ (r i a : Nat) (e : Int) (out : List RF) (t : H) (st : Sl), i + r = N → a ≤ s.size → out.length = i → (out = [] → st 5 = vnil) → (out ≠ [] → st 5 = .ref (h.length + 1) out.length ∧ t[1]? = some (.arr false 2 (out.map RF.v))) → (out = [] → t = []) →
    st 0 = .ptr l 0 → st 1 = .fn i_encoding_Reader_Ref [.ptr l 0] [] → st 8 = vi N → st 9 = vi i →
    (∀ (st' : Sl) (t' : H), (rLoop rRef s r a e).2.2 = 0 ∨ r = 0 → (out ++ (rLoop rRef s r a e).1 = [] → st' 5 = vnil) → (out ++ (rLoop rRef s r a e).1 ≠ [] → st' 5 = .ref (h.length + 1) (out ++ (rLoop rRef s r a e).1).length ∧ t'[1]? = some (.arr false 2 ((out ++ (rLoop rRef s r a e).1).map RF.v))) →
      f (.exit 0, ⟨st', h.set l (.box false [vs s, vi (rLoop rRef s r a e).2.1, vi (rLoop rRef s r a e).2.2]) ++ t'⟩) = b) →
    (∀ (st' : Sl) (t' : H), (rLoop rRef s r a e).2.2 ≠ 0 → st' 4 = vnil → f (.ret, ⟨st', h.set l (.box false [vs s, vi (rLoop rRef s r a e).2.1, vi (rLoop rRef s r a e).2.2]) ++ t'⟩) = b) →
    ob (loopW B ⟨st, h.set l (.box false [vs s, vi a, vi e]) ++ t⟩) f = b := by
  have step : ∀ st, B st = xcode (run XP) loopW base x_encoding_elements_api_Ref_l0 st := fun st => by rw [hB]
  intro r
  induction r with
  | zero =>
    intro i a e out t st hi ha ho h5 h5' ht h0 h1 h8 h9 kk kr
    have hlt : ¬ (i < N) := by omega
    rw [loopW_cps]
    simp -implicitDefEqProofs [step, x_encoding_elements_api_Ref_l0, h8, h9, hlt]
    simp only [rLoop, List.append_nil] at kk
    exact kk _ t (.inr trivial) (fun h => by simp [h5 h]) fun h => by simp [(h5' h).1, (h5' h).2]
  | succ r ih =>
    intro i a e out t st hi ha ho h5 h5' ht h0 h1 h8 h9 kk kr
    have hlt : i < N := by omega
    have hone := R_Ref_r (t := t) (e := e) hl hs ha
    have hle := rRef_le ha e
    rw [rLoop] at kk kr
    generalize rRef s a e = q at hone hle kk kr
    obtain ⟨v, a1, e1⟩ := q
    simp only at hone hle kk kr
    have hok : ∀ u : H, _ := fun u => R_ok_r (t := u) (x := vs s) (y := vi a1) (e := e1) hl
    simp only [RF.v] at hone
    rw [loopW_cps]
    by_cases he : e1 = 0
    · subst he
      simp only [ne_eq, not_true, if_false] at kk kr
      have next : ∀ (st2 : Sl) (t2 : H), st2 5 = .ref (h.length + 1) (out.length + 1) → t2[1]? = some (.arr false 2 (out.map RF.v ++ [v.v])) → st2 0 = .ptr l 0 → st2 1 = .fn i_encoding_Reader_Ref [.ptr l 0] [] → st2 8 = vi N → st2 9 = vi (IntKind.i64.wrap ((i : Int) + 1)) → ob (loopW B ⟨st2, h.set l (.box false [vs s, vi a1, vi 0]) ++ t2⟩) f = b := by
        intro st2 t2 g5 gt g0 g1 g8 g9
        refine ih (i + 1) a1 0 (out ++ [v]) t2 st2 (by omega) hle (by simp [ho]) (fun h => absurd h (by simp)) (fun _ => ⟨by simpa using g5, by simpa using gt⟩) (fun h => absurd h (by simp)) g0 g1 g8 (by rw [g9, wrap_i64 (by omega) (by omega)]; rfl) (fun st' t' hz k1 k2 => ?_) fun st' t' hz k4 => ?_
        · by_cases hr0 : r = 0
          · subst hr0
            simp only [rLoop, ne_eq, not_true, if_false] at kk k1 k2 ⊢
            exact kk st' t' (.inl trivial) (by simpa using k1) (by simpa using k2)
          · have hz' := hz.resolve_right hr0
            simp only [hz', ne_eq, not_true, if_false] at kk k1 k2 ⊢
            exact kk st' t' (.inl trivial) (by simpa using k1) (by simpa using k2)
        · rw [if_pos hz] at kr
          exact kr st' t' hz k4
      by_cases hout : out = []
      · subst hout
        have h5v := h5 rfl
        have htv := ht rfl
        subst htv
        rw [List.append_nil] at hone
        simp only [List.append_nil]
        simp -implicitDefEqProofs [step, x_encoding_elements_api_Ref_l0, h0, h1, h5v, h8, h9, hlt, hone, hok, putRow]
        apply next
        · simp
        · simp [RF.v]
        · simp [h0]
        · simp [h1]
        · simp [h8]
        · simp
      · obtain ⟨h5v, htv⟩ := h5' hout
        have hlim : out.length ≤ 8796093022207 := by omega
        have hat : ∀ (X : O) (u : H), (h.set l X ++ (t ++ u))[h.length + 1]? = some (.arr false 2 (out.map RF.v)) := fun X u => by
          rw [at_right, List.getElem?_append_left (List.getElem?_eq_some_iff.1 htv).1]
          exact htv
        have hset : ∀ (X Y : O) (u : H), (h.set l X ++ (t ++ u)).set (h.length + 1) Y = h.set l X ++ (t.set 1 Y ++ u) := fun X Y u => by
          rw [set_right, List.set_append_left _ _ (List.getElem?_eq_some_iff.1 htv).1]
        have hbx : ∀ (X : O) (u : H), (h.set l X ++ (t ++ u))[h.length + t.length]? = u[0]? := fun X u => by
          rw [at_right]; simp
        have hbs : ∀ (X Y : O) (u : H), (h.set l X ++ (t ++ u)).set (h.length + t.length) Y = h.set l X ++ (t ++ u.set 0 Y) := fun X Y u => by
          rw [set_right, List.set_append_right _ _ (Nat.le_refl _)]; simp
        simp -implicitDefEqProofs [step, x_encoding_elements_api_Ref_l0, h0, h1, h5v, h8, h9, hlt, hone, hok, putRow, hat, hset, hbx, hbs, hlim]
        apply next
        · simp
        · have := (List.getElem?_eq_some_iff.1 htv).1
          rw [List.getElem?_append_left (by simpa using this), List.getElem?_set_self this]
          simp [RF.v]
        · simp [h0]
        · simp [h1]
        · simp [h8]
        · simp
    · have he' : (e1 == 0) = false := by simpa using he
      rw [if_pos he] at kk kr
      have hbx : ∀ (X : O) (u : H), (h.set l X ++ (t ++ u))[h.length + t.length]? = u[0]? := fun X u => by
        rw [at_right]; simp
      have hbs : ∀ (X Y : O) (u : H), (h.set l X ++ (t ++ u)).set (h.length + t.length) Y = h.set l X ++ (t ++ u.set 0 Y) := fun X Y u => by
        rw [set_right, List.set_append_right _ _ (Nat.le_refl _)]; simp
      simp -implicitDefEqProofs [step, x_encoding_elements_api_Ref_l0, h0, h1, h8, h9, hlt, hone, hok, putRow, he, he', hbx, hbs]
      exact kr _ _ he (by simp)

theorem elemsEX_l0 (base : Nat) (h : H) (l : Nat) (s : ByteArray) (hl : l < h.length) (hs : s.size ≤ 10000000000000) (N : Nat) (hN : N ≤ 4096) (hbase : base = h.length) {β : Type} {f : Ex × St → Option β} {b : Option β} {B : Body} (hB : B = xcode (run XP) loopW base x_encoding_elements_api_Exchange_l0) :
    ∀ (r i a : Nat) (e : Int) (out : List EX) (t : H) (st : Sl), i + r = N → a ≤ s.size → out.length = i → (out = [] → st 5 = vnil) → (out ≠ [] → st 5 = .ref (h.length + 1) out.length ∧ t[1]? = some (.arr false 5 (out.map EX.v))) → (out = [] → t = []) →
    st 0 = .ptr l 0 → st 1 = .fn i_encoding_Reader_Exchange [.ptr l 0] [] → st 8 = vi N → st 9 = vi i →
    (∀ (st' : Sl) (t' : H), (rLoop rEx s r a e).2.2 = 0 ∨ r = 0 → (out ++ (rLoop rEx s r a e).1 = [] → st' 5 = vnil) → (out ++ (rLoop rEx s r a e).1 ≠ [] → st' 5 = .ref (h.length + 1) (out ++ (rLoop rEx s r a e).1).length ∧ t'[1]? = some (.arr false 5 ((out ++ (rLoop rEx s r a e).1).map EX.v))) →
      f (.exit 0, ⟨st', h.set l (.box false [vs s, vi (rLoop rEx s r a e).2.1, vi (rLoop rEx s r a e).2.2]) ++ t'⟩) = b) →
    (∀ (st' : Sl) (t' : H), (rLoop rEx s r a e).2.2 ≠ 0 → st' 4 = vnil → f (.ret, ⟨st', h.set l (.box false [vs s, vi (rLoop rEx s r a e).2.1, vi (rLoop rEx s r a e).2.2]) ++ t'⟩) = b) →
    ob (loopW B ⟨st, h.set l (.box false [vs s, vi a, vi e]) ++ t⟩) f = b := by
  have step : ∀ st, B st = xcode (run XP) loopW base x_encoding_elements_api_Exchange_l0 st := fun st => by rw [hB]
  intro r
  induction r with
  | zero =>
    intro i a e out t st hi ha ho h5 h5' ht h0 h1 h8 h9 kk kr
    have hlt : ¬ (i < N) := by omega
    rw [loopW_cps]
    simp -implicitDefEqProofs [step, x_encoding_elements_api_Exchange_l0, h8, h9, hlt]
    simp only [rLoop, List.append_nil] at kk
    exact kk _ t (.inr trivial) (fun h => by simp [h5 h]) fun h => by simp [(h5' h).1, (h5' h).2]
  | succ r ih =>
    intro i a e out t st hi ha ho h5 h5' ht h0 h1 h8 h9 kk kr
    have hlt : i < N := by omega
    have hone := R_Exchange_r (t := t) (e := e) hl hs ha
    have hle := rEx_le ha e
    rw [rLoop] at kk kr
    generalize rEx s a e = q at hone hle kk kr
    obtain ⟨v, a1, e1⟩ := q
    simp only at hone hle kk kr
    have hok : ∀ u : H, _ := fun u => R_ok_r (t := u) (x := vs s) (y := vi a1) (e := e1) hl
    simp only [EX.v] at hone
    rw [loopW_cps]
    by_cases he : e1 = 0
    · subst he
      simp only [ne_eq, not_true, if_false] at kk kr
      have next : ∀ (st2 : Sl) (t2 : H), st2 5 = .ref (h.length + 1) (out.length + 1) → t2[1]? = some (.arr false 5 (out.map EX.v ++ [v.v])) → st2 0 = .ptr l 0 → st2 1 = .fn i_encoding_Reader_Exchange [.ptr l 0] [] → st2 8 = vi N → st2 9 = vi (IntKind.i64.wrap ((i : Int) + 1)) → ob (loopW B ⟨st2, h.set l (.box false [vs s, vi a1, vi 0]) ++ t2⟩) f = b := by
        intro st2 t2 g5 gt g0 g1 g8 g9
        refine ih (i + 1) a1 0 (out ++ [v]) t2 st2 (by omega) hle (by simp [ho]) (fun h => absurd h (by simp)) (fun _ => ⟨by simpa using g5, by simpa using gt⟩) (fun h => absurd h (by simp)) g0 g1 g8 (by rw [g9, wrap_i64 (by omega) (by omega)]; rfl) (fun st' t' hz k1 k2 => ?_) fun st' t' hz k4 => ?_
        · by_cases hr0 : r = 0
          · subst hr0
            simp only [rLoop, ne_eq, not_true, if_false] at kk k1 k2 ⊢
            exact kk st' t' (.inl trivial) (by simpa using k1) (by simpa using k2)
          · have hz' := hz.resolve_right hr0
            simp only [hz', ne_eq, not_true, if_false] at kk k1 k2 ⊢
            exact kk st' t' (.inl trivial) (by simpa using k1) (by simpa using k2)
        · rw [if_pos hz] at kr
          exact kr st' t' hz k4
      by_cases hout : out = []
      · subst hout
        have h5v := h5 rfl
        have htv := ht rfl
        subst htv
        rw [List.append_nil] at hone
        simp only [List.append_nil]
        simp -implicitDefEqProofs [step, x_encoding_elements_api_Exchange_l0, h0, h1, h5v, h8, h9, hlt, hone, hok, putRow]
        apply next
        · simp
        · simp [EX.v]
        · simp [h0]
        · simp [h1]
        · simp [h8]
        · simp
      · obtain ⟨h5v, htv⟩ := h5' hout
        have hlim : out.length ≤ 3518437208882 := by omega
        have hat : ∀ (X : O) (u : H), (h.set l X ++ (t ++ u))[h.length + 1]? = some (.arr false 5 (out.map EX.v)) := fun X u => by
          rw [at_right, List.getElem?_append_left (List.getElem?_eq_some_iff.1 htv).1]
          exact htv
        have hset : ∀ (X Y : O) (u : H), (h.set l X ++ (t ++ u)).set (h.length + 1) Y = h.set l X ++ (t.set 1 Y ++ u) := fun X Y u => by
          rw [set_right, List.set_append_left _ _ (List.getElem?_eq_some_iff.1 htv).1]
        have hbx : ∀ (X : O) (u : H), (h.set l X ++ (t ++ u))[h.length + t.length]? = u[0]? := fun X u => by
          rw [at_right]; simp
        have hbs : ∀ (X Y : O) (u : H), (h.set l X ++ (t ++ u)).set (h.length + t.length) Y = h.set l X ++ (t ++ u.set 0 Y) := fun X Y u => by
          rw [set_right, List.set_append_right _ _ (Nat.le_refl _)]; simp
        simp -implicitDefEqProofs [step, x_encoding_elements_api_Exchange_l0, h0, h1, h5v, h8, h9, hlt, hone, hok, putRow, hat, hset, hbx, hbs, hlim]
        apply next
        · simp
        · have := (List.getElem?_eq_some_iff.1 htv).1
          rw [List.getElem?_append_left (by simpa using this), List.getElem?_set_self this]
          simp [EX.v]
        · simp [h0]
        · simp [h1]
        · simp [h8]
        · simp
    · have he' : (e1 == 0) = false := by simpa using he
      rw [if_pos he] at kk kr
      have hbx : ∀ (X : O) (u : H), (h.set l X ++ (t ++ u))[h.length + t.length]? = u[0]? := fun X u => by
        rw [at_right]; simp
      have hbs : ∀ (X Y : O) (u : H), (h.set l X ++ (t ++ u)).set (h.length + t.length) Y = h.set l X ++ (t ++ u.set 0 Y) := fun X Y u => by
        rw [set_right, List.set_append_right _ _ (Nat.le_refl _)]; simp
      simp -implicitDefEqProofs [step, x_encoding_elements_api_Exchange_l0, h0, h1, h8, h9, hlt, hone, hok, putRow, he, he', hbx, hbs]
      exact kr _ _ he (by simp)

def rElems {α : Type} (one : ByteArray → Nat → Int → α × Nat × Int) (s : ByteArray) (a : Nat) (e : Int) : List α × Nat × Int :=
  rLoop one s (rSz s a e 4096 6).1 (rSz s a e 4096 6).2.1 (rSz s a e 4096 6).2.2
theorem rLoop_nil {α : Type} (one : ByteArray → Nat → Int → α × Nat × Int) (s : ByteArray) : ∀ (n a : Nat) (e : Int), (rLoop one s n a e).2.2 ≠ 0 → (rLoop one s n a e).1 = []
  | 0, a, e, _ => rfl
  | n + 1, a, e, h => by
    rw [rLoop] at h ⊢
    split
    · rfl
    · rename_i h1
      rw [if_neg h1] at h
      split
      · rfl
      · rename_i h2
        rw [if_neg h2] at h
        exact absurd h h2
theorem rSz_zero (s : ByteArray) (a : Nat) (e most more : Int) (h : (rSz s a e most more).2.2 ≠ 0) : (rSz s a e most more).1 = 0 := by
  unfold rSz at h ⊢
  split
  · rfl
  · rename_i h1
    rw [if_neg h1] at h
    split
    · rfl
    · rename_i h2
      rw [if_neg h2] at h
      exact absurd rfl h
theorem rSz_cap (s : ByteArray) (a : Nat) (e most more : Int) (hm : more ≠ 0) (h0 : 0 ≤ most) : (rSz s a e most more).1 ≤ most := by
  unfold rSz
  split
  · simpa using h0
  · split
    · simpa using h0
    · rename_i h2
      have := szE_ok (by simpa using h2) hm
      simp only
      omega
/-- A list of one's own, as a result. -/
def ownL (k : Nat) (l : List V) : V := if l = [] then vnil else .own k l
theorem res0_ownL (k : Nat) (l : List V) : res0 (ownL k l) = lv k (if l = [] then none else some l) := by
  unfold ownL
  split <;> rfl
theorem rLoop_le {α : Type} {one : ByteArray → Nat → Int → α × Nat × Int} {s : ByteArray} (h1 : ∀ a e, a ≤ s.size → (one s a e).2.1 ≤ s.size) : ∀ (n a : Nat) (e : Int), a ≤ s.size → (rLoop one s n a e).2.1 ≤ s.size
  | 0, a, e, h => h
  | n + 1, a, e, h => by
    have h2 := h1 a e h
    have h3 := rLoop_le h1 n _ (one s a e).2.2 h2
    rw [rLoop]
    split
    · exact h2
    · split
      · exact h3
      · exact h3
theorem rElems_le {α : Type} {one : ByteArray → Nat → Int → α × Nat × Int} {s : ByteArray} (h1 : ∀ a e, a ≤ s.size → (one s a e).2.1 ≤ s.size) {a : Nat} (ha : a ≤ s.size) (e : Int) : (rElems one s a e).2.1 ≤ s.size :=
  rLoop_le h1 _ _ _ (by have := rSz_le ha e 4096 (more := 6) (by decide); omega)

theorem closeds_AT : ∀ l : List AT, V.closed.closeds (l.map AT.v) = true
  | [] => rfl
  | x :: l => by simp [AT.v, closeds_AT l]
theorem R_elemsAT {h : H} {l : Nat} {s : ByteArray} {a : Nat} {e : Int} (hl : l < h.length) (hs : s.size ≤ 10000000000000) (ha : a ≤ s.size) :
    run XP i_encoding_elements_api_Attr [.ptr l 0, .fn i_encoding_Reader_Attr [.ptr l 0] []] (h.set l (.box false [vs s, vi a, vi e])) =
      some (ownL 4 ((rElems rAttr s a e).1.map AT.v), h.set l (.box false [vs s, vi (rElems rAttr s a e).2.1, vi (rElems rAttr s a e).2.2])) := by
  have hc := R_Count (e := e) hl hs ha 4096
  have hsz := rSz_le ha e 4096 (more := 6) (by decide)
  have hcap := rSz_cap s a e 4096 6 (by decide) (by decide)
  unfold rElems
  have hz : (rSz s a e 4096 6).2.2 ≠ 0 → (rSz s a e 4096 6).1 = 0 := rSz_zero s a e 4096 6
  generalize rSz s a e 4096 6 = q at hc hsz hcap hz ⊢
  obtain ⟨n, a1, e1⟩ := q
  simp only at hc hsz hcap hz ⊢
  rw [run_eq, xp_encoding_elements_api_Attr]
  simp -implicitDefEqProofs [x_encoding_elements_api_Attr, hc]
  have key := fun (f : Ex × St → Option (V × H)) (b : Option (V × H)) => elemsAT_l0 (β := V × H) (f := f) (b := b) (B := xcode (run XP) loopW h.length x_encoding_elements_api_Attr_l0) h.length h l s hl hs n (by omega) rfl rfl n 0 a1 e1 [] []
  simp only [List.append_nil, List.nil_append] at key
  refine key _ _ _ (by omega) (by omega) rfl ?_ ?_ ?_ ?_ ?_ ?_ ?_ (fun st' t' hz' k1 k2 => ?_) fun st' t' hz' k4 => ?_
  · simp
  · simp
  · simp
  · simp
  · simp
  · simp
  · simp
  · by_cases ho : (rLoop rAttr s n a1 e1).1 = []
    · have k1' := k1 ho
      simp -implicitDefEqProofs [k1', ho, ownL]
    · obtain ⟨k2a, k2b⟩ := k2 ho
      have hcl := closeds_AT (rLoop rAttr s n a1 e1).1
      have hne : (rLoop rAttr s n a1 e1).1.map AT.v ≠ [] := by simpa using ho
      simp -implicitDefEqProofs [k2a, k2b, ho, ownL, hcl]
  · have : (rLoop rAttr s n a1 e1).1 = [] := rLoop_nil _ _ _ _ _ hz'
    simp -implicitDefEqProofs [k4, this, ownL]
theorem R_elemsAT_r {h t : H} {l : Nat} {s : ByteArray} {a : Nat} {e : Int} (hl : l < h.length) (hs : s.size ≤ 10000000000000) (ha : a ≤ s.size) :
    run XP i_encoding_elements_api_Attr [.ptr l 0, .fn i_encoding_Reader_Attr [.ptr l 0] []] (h.set l (.box false [vs s, vi a, vi e]) ++ t) =
      some (ownL 4 ((rElems rAttr s a e).1.map AT.v), h.set l (.box false [vs s, vi (rElems rAttr s a e).2.1, vi (rElems rAttr s a e).2.2]) ++ t) := by
  have := R_elemsAT (h := h ++ t) (l := l) (s := s) (a := a) (e := e) (by simp; omega) hs ha
  simpa only [set_left hl] using this

theorem closeds_RF : ∀ l : List RF, V.closed.closeds (l.map RF.v) = true
  | [] => rfl
  | x :: l => by simp [RF.v, closeds_RF l]
theorem R_elemsRF {h : H} {l : Nat} {s : ByteArray} {a : Nat} {e : Int} (hl : l < h.length) (hs : s.size ≤ 10000000000000) (ha : a ≤ s.size) :
    run XP i_encoding_elements_api_Ref [.ptr l 0, .fn i_encoding_Reader_Ref [.ptr l 0] []] (h.set l (.box false [vs s, vi a, vi e])) =
      some (ownL 2 ((rElems rRef s a e).1.map RF.v), h.set l (.box false [vs s, vi (rElems rRef s a e).2.1, vi (rElems rRef s a e).2.2])) := by
  have hc := R_Count (e := e) hl hs ha 4096
  have hsz := rSz_le ha e 4096 (more := 6) (by decide)
  have hcap := rSz_cap s a e 4096 6 (by decide) (by decide)
  unfold rElems
  have hz : (rSz s a e 4096 6).2.2 ≠ 0 → (rSz s a e 4096 6).1 = 0 := rSz_zero s a e 4096 6
  generalize rSz s a e 4096 6 = q at hc hsz hcap hz ⊢
  obtain ⟨n, a1, e1⟩ := q
  simp only at hc hsz hcap hz ⊢
  rw [run_eq, xp_encoding_elements_api_Ref]
  simp -implicitDefEqProofs [x_encoding_elements_api_Ref, hc]
  have key := fun (f : Ex × St → Option (V × H)) (b : Option (V × H)) => elemsRF_l0 (β := V × H) (f := f) (b := b) (B := xcode (run XP) loopW h.length x_encoding_elements_api_Ref_l0) h.length h l s hl hs n (by omega) rfl rfl n 0 a1 e1 [] []
  simp only [List.append_nil, List.nil_append] at key
  refine key _ _ _ (by omega) (by omega) rfl ?_ ?_ ?_ ?_ ?_ ?_ ?_ (fun st' t' hz' k1 k2 => ?_) fun st' t' hz' k4 => ?_
  · simp
  · simp
  · simp
  · simp
  · simp
  · simp
  · simp
  · by_cases ho : (rLoop rRef s n a1 e1).1 = []
    · have k1' := k1 ho
      simp -implicitDefEqProofs [k1', ho, ownL]
    · obtain ⟨k2a, k2b⟩ := k2 ho
      have hcl := closeds_RF (rLoop rRef s n a1 e1).1
      have hne : (rLoop rRef s n a1 e1).1.map RF.v ≠ [] := by simpa using ho
      simp -implicitDefEqProofs [k2a, k2b, ho, ownL, hcl]
  · have : (rLoop rRef s n a1 e1).1 = [] := rLoop_nil _ _ _ _ _ hz'
    simp -implicitDefEqProofs [k4, this, ownL]
theorem R_elemsRF_r {h t : H} {l : Nat} {s : ByteArray} {a : Nat} {e : Int} (hl : l < h.length) (hs : s.size ≤ 10000000000000) (ha : a ≤ s.size) :
    run XP i_encoding_elements_api_Ref [.ptr l 0, .fn i_encoding_Reader_Ref [.ptr l 0] []] (h.set l (.box false [vs s, vi a, vi e]) ++ t) =
      some (ownL 2 ((rElems rRef s a e).1.map RF.v), h.set l (.box false [vs s, vi (rElems rRef s a e).2.1, vi (rElems rRef s a e).2.2]) ++ t) := by
  have := R_elemsRF (h := h ++ t) (l := l) (s := s) (a := a) (e := e) (by simp; omega) hs ha
  simpa only [set_left hl] using this

theorem closeds_EX : ∀ l : List EX, V.closed.closeds (l.map EX.v) = true
  | [] => rfl
  | x :: l => by simp [EX.v, closeds_EX l]
theorem R_elemsEX {h : H} {l : Nat} {s : ByteArray} {a : Nat} {e : Int} (hl : l < h.length) (hs : s.size ≤ 10000000000000) (ha : a ≤ s.size) :
    run XP i_encoding_elements_api_Exchange [.ptr l 0, .fn i_encoding_Reader_Exchange [.ptr l 0] []] (h.set l (.box false [vs s, vi a, vi e])) =
      some (ownL 5 ((rElems rEx s a e).1.map EX.v), h.set l (.box false [vs s, vi (rElems rEx s a e).2.1, vi (rElems rEx s a e).2.2])) := by
  have hc := R_Count (e := e) hl hs ha 4096
  have hsz := rSz_le ha e 4096 (more := 6) (by decide)
  have hcap := rSz_cap s a e 4096 6 (by decide) (by decide)
  unfold rElems
  have hz : (rSz s a e 4096 6).2.2 ≠ 0 → (rSz s a e 4096 6).1 = 0 := rSz_zero s a e 4096 6
  generalize rSz s a e 4096 6 = q at hc hsz hcap hz ⊢
  obtain ⟨n, a1, e1⟩ := q
  simp only at hc hsz hcap hz ⊢
  rw [run_eq, xp_encoding_elements_api_Exchange]
  simp -implicitDefEqProofs [x_encoding_elements_api_Exchange, hc]
  have key := fun (f : Ex × St → Option (V × H)) (b : Option (V × H)) => elemsEX_l0 (β := V × H) (f := f) (b := b) (B := xcode (run XP) loopW h.length x_encoding_elements_api_Exchange_l0) h.length h l s hl hs n (by omega) rfl rfl n 0 a1 e1 [] []
  simp only [List.append_nil, List.nil_append] at key
  refine key _ _ _ (by omega) (by omega) rfl ?_ ?_ ?_ ?_ ?_ ?_ ?_ (fun st' t' hz' k1 k2 => ?_) fun st' t' hz' k4 => ?_
  · simp
  · simp
  · simp
  · simp
  · simp
  · simp
  · simp
  · by_cases ho : (rLoop rEx s n a1 e1).1 = []
    · have k1' := k1 ho
      simp -implicitDefEqProofs [k1', ho, ownL]
    · obtain ⟨k2a, k2b⟩ := k2 ho
      have hcl := closeds_EX (rLoop rEx s n a1 e1).1
      have hne : (rLoop rEx s n a1 e1).1.map EX.v ≠ [] := by simpa using ho
      simp -implicitDefEqProofs [k2a, k2b, ho, ownL, hcl]
  · have : (rLoop rEx s n a1 e1).1 = [] := rLoop_nil _ _ _ _ _ hz'
    simp -implicitDefEqProofs [k4, this, ownL]
theorem R_elemsEX_r {h t : H} {l : Nat} {s : ByteArray} {a : Nat} {e : Int} (hl : l < h.length) (hs : s.size ≤ 10000000000000) (ha : a ≤ s.size) :
    run XP i_encoding_elements_api_Exchange [.ptr l 0, .fn i_encoding_Reader_Exchange [.ptr l 0] []] (h.set l (.box false [vs s, vi a, vi e]) ++ t) =
      some (ownL 5 ((rElems rEx s a e).1.map EX.v), h.set l (.box false [vs s, vi (rElems rEx s a e).2.1, vi (rElems rEx s a e).2.2]) ++ t) := by
  have := R_elemsEX (h := h ++ t) (l := l) (s := s) (a := a) (e := e) (by simp; omega) hs ha
  simpa only [set_left hl] using this
end Go.Proofs.Sl

/- What the Reader's methods do: messages and spans. -/
namespace Go.Proofs.Sl
def SP.z : SP := ⟨0, 0, 0, 0, 0, 0, ⟨#[]⟩, ⟨#[]⟩, ⟨#[]⟩, 0, 0, false, [], [], true, true⟩
theorem lv_own {α : Type} (v : α → V) (k : Nat) (l : List α) : res0 (ownL k (l.map v)) = lv k (slc v l l.isEmpty) := by
  rw [res0_ownL]
  cases l <;> rfl
section
variable {h t : H} {l : Nat} {s : ByteArray} {a : Nat} {e : Int}

theorem R_readSP {x y : V} (hl : l < h.length) (v : SP) : run XP i_encoding_read_api_Span [.ptr l 0, v.v] (h.set l (.box false [x, y, vi e]) ++ t) = some (if e = 0 then v.v else .agg [vi 0, vi 0, vi 0, vi 0, vi 0, vi 0, vs ⟨#[]⟩, vs ⟨#[]⟩, vs ⟨#[]⟩, vi 0, vi 0, vb false, vnil, vnil], h.set l (.box false [x, y, vi e]) ++ t) := by
  simp only [SP.v]
  rw [run_eq, xp_encoding_read_api_Span]
  have hok2 := fun t2 : H => R_ok_r (t := t ++ t2) (e := e) (x := x) (y := y) hl
  by_cases he : e = 0
  · subst he
    simp -implicitDefEqProofs [x_encoding_read_api_Span, hok2, noOwn, putRow, take2]
  · have he' : (e == 0) = false := by simpa using he
    simp -implicitDefEqProofs [x_encoding_read_api_Span, hok2, noOwn, putRow, he, he', take2]
theorem SP.z_v : SP.z.v = .agg [vi 0, vi 0, vi 0, vi 0, vi 0, vi 0, vs ⟨#[]⟩, vs ⟨#[]⟩, vs ⟨#[]⟩, vi 0, vi 0, vb false, vnil, vnil] := rfl

def mkMS (k : Int) (x y : RF) (ns : List Int) : MS := ⟨k, x, y, EX.of ns⟩
/-- Reading a message. -/
def rMs (s : ByteArray) (a : Nat) (e : Int) : MS × Nat × Int :=
  let x := rNum s a e
  let y := rRef s x.2.1 x.2.2
  let z := rRef s y.2.1 y.2.2
  let w := rNums s 5 z.2.1 z.2.2
  (if w.2.2 = 0 then mkMS x.1 y.1 z.1 w.1 else MS.z, w.2.1, w.2.2)
theorem R_Message (hl : l < h.length) (hs : s.size ≤ 10000000000000) (ha : a ≤ s.size) :
    run XP i_encoding_Reader_Message [.ptr l 0] (h.set l (.box false [vs s, vi a, vi e])) = some ((rMs s a e).1.v, h.set l (.box false [vs s, vi (rMs s a e).2.1, vi (rMs s a e).2.2])) := by
  have b1 := rNum_le ha e
  have b2 := rRef_le b1 (rNum s a e).2.2
  have b3 := rRef_le b2 (rRef s (rNum s a e).2.1 (rNum s a e).2.2).2.2
  have h1 : ∀ t : H, _ := fun t => R_Number_r (t := t) (e := e) hl hs ha
  have h2 : ∀ t : H, _ := fun t => R_Ref_r (t := t) (e := (rNum s a e).2.2) hl hs b1
  have h3 : ∀ t : H, _ := fun t => R_Ref_r (t := t) (e := (rRef s (rNum s a e).2.1 (rNum s a e).2.2).2.2) hl hs b2
  unfold rMs
  generalize rNum s a e = q at b1 b2 b3 h1 h2 h3 ⊢
  obtain ⟨n1, a1, e1⟩ := q
  simp only at b1 b2 b3 h1 h2 h3 ⊢
  generalize rRef s a1 e1 = q at b2 b3 h2 h3 ⊢
  obtain ⟨⟨p1, p2⟩, a2, e2⟩ := q
  simp only at b2 b3 h2 h3 ⊢
  generalize rRef s a2 e2 = q at b3 h3 ⊢
  obtain ⟨⟨p3, p4⟩, a3, e3⟩ := q
  simp only [RF.v] at b3 h2 h3 ⊢
  have h4 := R_numbers_r (e := e3) hl hs b3 (.box false [vi 0, vi 0, vi 0, vi 0, vi 0, vi 0, vi 0, vi 0, vi 0, vi 0]) [] 5 5 (by decide) (cs := [vi n1, vi p1, vi p2, vi p3, vi p4, vi 0, vi 0, vi 0, vi 0, vi 0]) (by intro c hc; simp at hc; rcases hc with rfl | rfl | rfl | rfl | rfl | rfl <;> exact Eq.trans rfl rfl) (by simp)
  have hn := rNums_length (s := s) 5 a3 e3
  generalize rNums s 5 a3 e3 = q at h4 hn ⊢
  obtain ⟨ns, a4, e4⟩ := q
  simp only at h4 hn ⊢
  match ns, hn with
  | [n5, n6, n7, n8, n9], _ =>
    simp only [ptrs, List.map_cons, List.map_nil, putRow, List.set_cons_zero, List.set_cons_succ, List.nil_append, List.length_nil, Nat.zero_add, Nat.reduceAdd] at h4
    have h5 : ∀ t : H, _ := fun t => R_readMS (t := t) (x := vs s) (y := vi a4) (e := e4) hl ⟨n1, ⟨p1, p2⟩, ⟨p3, p4⟩, ⟨n5, n6, n7, n8, n9⟩⟩
    simp only [MS.v] at h5
    rw [run_eq, xp_encoding_Reader_Message]
    by_cases he : e4 = 0
    · subst he
      simp only [if_true] at h5
      simp -implicitDefEqProofs [x_encoding_Reader_Message, hl, h1, h2, h3, h4, h5, addParts, putRow, MS.v, mkMS, EX.of]
    · simp only [if_neg he, MS.z, RF.z, EX.z] at h5
      simp -implicitDefEqProofs [x_encoding_Reader_Message, hl, h1, h2, h3, h4, h5, addParts, putRow, he, MS.v, MS.z, RF.z, EX.z]

def mkSP (xs : List Int) (t1 t2 t3 : ByteArray) (ys : List Int) (b : Bool) (ats : List AT) (lks : List RF) : SP := match xs, ys with
  | [x0, x1, x2, x3, x4, x5], [y0, y1] => ⟨x0, x1, x2, x3, x4, x5, t1, t2, t3, y0, y1, b, ats, lks, ats.isEmpty, lks.isEmpty⟩
  | _, _ => SP.z
/-- Reading a span. -/
def rSpan (s : ByteArray) (a : Nat) (e : Int) : SP × Nat × Int :=
  let x := rNums s 6 a e
  let t1 := rText s x.2.1 x.2.2 4096
  let t2 := rText s t1.2.1 t1.2.2 4096
  let t3 := rText s t2.2.1 t2.2.2 4096
  let y := rNums s 2 t3.2.1 t3.2.2
  let b := rBool s y.2.1 y.2.2
  let u := rElems rAttr s b.2.1 b.2.2
  let w := rElems rRef s u.2.1 u.2.2
  (if w.2.2 = 0 then mkSP x.1 t1.1 t2.1 t3.1 y.1 b.1 u.1 w.1 else SP.z, w.2.1, w.2.2)
theorem rSpan_le (ha : a ≤ s.size) (e : Int) : (rSpan s a e).2.1 ≤ s.size :=
  rElems_le (fun a e h => rRef_le h e) (rElems_le (fun a e h => rAttr_le h e) (rBool_le (rNums_le _ _ _ (rText_le (rText_le (rText_le (rNums_le _ _ _ ha) _ _) _ _) _ _)) _) _) _
theorem R_Span (hl : l < h.length) (hs : s.size ≤ 10000000000000) (ha : a ≤ s.size) :
    run XP i_encoding_Reader_Span [.ptr l 0] (h.set l (.box false [vs s, vi a, vi e])) = some ((rSpan s a e).1.v, h.set l (.box false [vs s, vi (rSpan s a e).2.1, vi (rSpan s a e).2.2])) := by
  have h0 := R_numbers_r (e := e) hl hs ha (.box false [vi 0, vi 0, vi 0, vi 0, vi 0, vi 0, vs ⟨#[]⟩, vs ⟨#[]⟩, vs ⟨#[]⟩, vi 0, vi 0, vb false, vnil, vnil]) [] 6 0 (by decide) (cs := [vi 0, vi 0, vi 0, vi 0, vi 0, vi 0, vs ⟨#[]⟩, vs ⟨#[]⟩, vs ⟨#[]⟩, vi 0, vi 0, vb false, vnil, vnil]) (by intro c hc; simp at hc; rcases hc with rfl | rfl | rfl | rfl | rfl <;> exact Eq.trans rfl rfl) (by simp)
  have hn := rNums_length (s := s) 6 a e
  have b0 := rNums_le 6 a e ha
  unfold rSpan
  generalize rNums s 6 a e = q at h0 hn b0 ⊢
  obtain ⟨xs, a0, e0⟩ := q
  simp only at h0 hn b0 ⊢
  match xs, hn with
  | [x0, x1, x2, x3, x4, x5], _ =>
    simp only [ptrs, List.map_cons, List.map_nil, putRow, List.set_cons_zero, List.set_cons_succ, List.nil_append, List.length_nil, Nat.zero_add, Nat.reduceAdd] at h0
    have h1 : ∀ t : H, _ := fun t => R_Text_r (t := t) (e := e0) hl hs b0 4096
    have b1 := rText_le b0 e0 4096
    generalize rText s a0 e0 4096 = q at h1 b1 ⊢
    obtain ⟨t1, a1, e1⟩ := q
    simp only at h1 b1 ⊢
    have h2 : ∀ t : H, _ := fun t => R_Text_r (t := t) (e := e1) hl hs b1 4096
    have b2 := rText_le b1 e1 4096
    generalize rText s a1 e1 4096 = q at h2 b2 ⊢
    obtain ⟨t2, a2, e2⟩ := q
    simp only at h2 b2 ⊢
    have h3 : ∀ t : H, _ := fun t => R_Text_r (t := t) (e := e2) hl hs b2 4096
    have b3 := rText_le b2 e2 4096
    generalize rText s a2 e2 4096 = q at h3 b3 ⊢
    obtain ⟨t3, a3, e3⟩ := q
    simp only at h3 b3 ⊢
    have h4 := R_numbers_r (e := e3) hl hs b3 (.box false [vi 0, vi 0, vi 0, vi 0, vi 0, vi 0, vs ⟨#[]⟩, vs ⟨#[]⟩, vs ⟨#[]⟩, vi 0, vi 0, vb false, vnil, vnil]) [.arr false 1 (ptrs (h.length + 1) 0 6)] 2 9 (by decide) (cs := [vi x0, vi x1, vi x2, vi x3, vi x4, vi x5, vs t1, vs t2, vs t3, vi 0, vi 0, vb false, vnil, vnil]) (by intro c hc; simp at hc; rcases hc with rfl | rfl | rfl | rfl | rfl | rfl | rfl | rfl | rfl | rfl | rfl | rfl <;> exact Eq.trans rfl rfl) (by simp)
    have hn := rNums_length (s := s) 2 a3 e3
    have b4 := rNums_le 2 a3 e3 b3
    generalize rNums s 2 a3 e3 = q at h4 hn b4 ⊢
    obtain ⟨ys, a4, e4⟩ := q
    simp only at h4 hn b4 ⊢
    match ys, hn with
    | [y0, y1], _ =>
      simp only [ptrs, List.map_cons, List.map_nil, putRow, List.set_cons_zero, List.set_cons_succ, List.cons_append, List.nil_append, List.length_nil, List.length_cons, Nat.zero_add, Nat.reduceAdd] at h4
      have h5 : ∀ t : H, _ := fun t => R_Bool_r (t := t) (e := e4) hl hs b4
      have b5 := rBool_le b4 e4
      generalize rBool s a4 e4 = q at h5 b5 ⊢
      obtain ⟨bo, a5, e5⟩ := q
      simp only at h5 b5 ⊢
      have h6 : ∀ t : H, _ := fun t => R_elemsAT_r (t := t) (e := e5) hl hs b5
      have b6 := rElems_le (one := rAttr) (s := s) (fun a e h => rAttr_le h e) b5 e5
      generalize rElems rAttr s a5 e5 = q at h6 b6 ⊢
      obtain ⟨us, a6, e6⟩ := q
      simp only at h6 b6 ⊢
      have h7 : ∀ t : H, _ := fun t => R_elemsRF_r (t := t) (e := e6) hl hs b6
      generalize rElems rRef s a6 e6 = q at h7 ⊢
      obtain ⟨ws, a7, e7⟩ := q
      simp only at h7 ⊢
      have h8 : ∀ t : H, _ := fun t => R_readSP (t := t) (x := vs s) (y := vi a7) (e := e7) hl (mkSP [x0, x1, x2, x3, x4, x5] t1 t2 t3 [y0, y1] bo us ws)
      simp only [SP.v, mkSP] at h8
      rw [run_eq, xp_encoding_Reader_Span]
      by_cases he : e7 = 0
      · subst he
        simp only [if_true] at h8
        simp -implicitDefEqProofs [x_encoding_Reader_Span, hl, h0, h1, h2, h3, h4, h5, h6, h7, h8, lv_own, addParts, putRow, SP.v, mkSP]
      · simp only [if_neg he] at h8
        simp -implicitDefEqProofs [x_encoding_Reader_Span, hl, h0, h1, h2, h3, h4, h5, h6, h7, h8, lv_own, addParts, putRow, he, SP.z_v]
end
end Go.Proofs.Sl

/- Which spans are short. -/
namespace Go.Proofs.Sl
/-- What is known of an argument. -/
structure AT.Pre (a : AT) : Prop where
  key : a.key.size ≤ 9223372036854775807
  k : Rng a.val.k
  t : a.val.t.size ≤ 9223372036854775807
  n : Rng a.val.n
structure SP.Pre (a : SP) : Prop where
  n : ∀ n ∈ [a.tr, a.id, a.par, a.rev, a.clk, a.kind, a.st, a.en], Rng n
  sv : a.sv.size ≤ 9223372036854775807
  vr : a.vr.size ≤ 9223372036854775807
  op : a.op.size ≤ 9223372036854775807
  ats : ∀ e ∈ a.ats, e.Pre
  lks : ∀ e ∈ a.lks, e.Ok
  al : a.ats.length ≤ 9223372036854775807
  ll : a.lks.length ≤ 9223372036854775807
  an : a.an = true → a.ats = []
  ln : a.ln = true → a.lks = []
def AT.isShort (a : AT) : Bool := !(decide (100 < (a.key.size : Int)) || decide (100 < (a.val.t.size : Int)))
def SP.isShort (a : SP) : Bool := !(decide (8 < (a.ats.length : Int)) || (decide (8 < (a.lks.length : Int)) || (decide (100 < (a.sv.size : Int)) || (decide (100 < (a.vr.size : Int)) || decide (100 < (a.op.size : Int)))))) && a.ats.all AT.isShort
theorem SP.Pre.ok {a : SP} (h : a.Pre) (hs : a.isShort = true) : a.Ok := by
  simp [SP.isShort] at hs
  obtain ⟨⟨h1, h2, h3, h4, h5⟩, h6⟩ := hs
  refine ⟨h.n, by omega, by omega, by omega, fun e he => ?_, h.lks, by omega, by omega, h.an, h.ln⟩
  have h7 := h6 e he
  have h8 := h.ats e he
  simp [AT.isShort] at h7
  exact ⟨by omega, ⟨h8.k, by omega, h8.n⟩⟩

theorem short_l0 (base : Nat) (h : H) (cells : List V) (es : List AT) (hlen : es.length ≤ 8) (o : Option (List V)) (ho : o.getD [] = es.map AT.v) (hf : cells[12]? = some (lv 4 o)) {β : Type} {f : Ex × St → Option β} {b : Option β} {B : Body}
    (hB : B = xcode (run XP) loopW base x_sleuthlaw01_short_l0) : ∀ (r : List AT) (k : Nat) (s : Sl), es.drop k = r → s 1 = .ptr h.length 0 → s 3 = vi k →
    (∀ s' : Sl, r.all AT.isShort = true → f (.exit 0, ⟨s', h ++ [.box false cells]⟩) = b) → (∀ s' : Sl, r.all AT.isShort = false → s' 2 = vb false → f (.ret, ⟨s', h ++ [.box false cells]⟩) = b) → ob (loopW B ⟨s, h ++ [.box false cells]⟩) f = b := by
  have step : ∀ st, B st = xcode (run XP) loopW base x_sleuthlaw01_short_l0 st := fun st => by rw [hB]
  have hcl : 12 < cells.length := (List.getElem?_eq_some_iff.1 hf).1
  have hfe : ∀ hh, cells[12]'hh = lv 4 o := fun hh => by
    rw [List.getElem?_eq_getElem hh] at hf
    exact Option.some.inj hf
  have hol : (o.getD []).length = es.length := by rw [ho]; simp
  intro r
  induction r with
  | nil =>
    intro k s hd h1 h3 kk kr
    have hk : es.length ≤ k := by simpa using hd
    have hlt : ¬ (k < es.length) := by omega
    rw [loopW_cps]
    simp -implicitDefEqProofs [step, x_sleuthlaw01_short_l0, h1, h3, hfe, hcl, hol, hlt]
    exact kk _ rfl
  | cons e r ih =>
    intro k s hd h1 h3 kk kr
    have hk : k < es.length := by
      by_cases hk : k < es.length
      · exact hk
      · rw [List.drop_of_length_le (by omega)] at hd; cases hd
    have hg : es[k]? = some e := by
      have := congrArg (·[0]?) hd
      simpa using this
    have hd' : es.drop (k + 1) = r := by
      have := congrArg List.tail hd
      simpa using this
    obtain ⟨vs', hlv, hat⟩ := lv_at (k := 4) (o := o) (i := k) (e := e.v) (by rw [ho]; simp [hg])
    have hvl : vs'.length = es.length := by
      rw [← hol]
      cases o with
      | none => simp [lv] at hlv
      | some x => simp [lv] at hlv; rw [hlv]; rfl
    have hkv : k < vs'.length := by omega
    have hate : ∀ hh, vs'[k]'hh = e.v := fun hh => by
      rw [List.getElem?_eq_getElem hh] at hat
      exact Option.some.inj hat
    simp only [AT.v] at hate
    rw [loopW_cps]
    by_cases c1 : (100 : Int) < (e.key.size : Int)
    · simp -implicitDefEqProofs [step, x_sleuthlaw01_short_l0, h1, h3, hfe, hcl, hlv, hvl, hk, hate, c1]
      exact kr _ (by simp [AT.isShort, c1]) (by simp)
    · by_cases c2 : (100 : Int) < (e.val.t.size : Int)
      · simp -implicitDefEqProofs [step, x_sleuthlaw01_short_l0, h1, h3, hfe, hcl, hlv, hvl, hk, hate, c1, c2]
        exact kr _ (by simp [AT.isShort, c2]) (by simp)
      · simp -implicitDefEqProofs [step, x_sleuthlaw01_short_l0, h1, h3, hfe, hcl, hlv, hvl, hk, hate, c1, c2]
        have hsh : e.isShort = true := by simp [AT.isShort]; omega
        refine ih (k + 1) _ hd' ?_ ?_ (fun s' hr => kk s' (by simp [hsh, hr])) fun s' hr h2 => kr s' (by rw [List.all_cons, hsh, hr]; rfl) h2
        · simp [h1]
        · simp only [upd_same]
          rw [wrap_i64 (by omega) (by omega)]
          simp
theorem short_ok (h : H) {a : SP} (ha : a.Pre) : run XP i_sleuthlaw01_short [a.v] h = some (vb a.isShort, h) := by
  have o1 := slc_getD (v := AT.v) ha.an
  have o2 := slc_getD (v := RF.v) ha.ln
  have m1 : ((slc AT.v a.ats a.an).getD []).length = a.ats.length := by rw [o1]; simp
  have m2 : ((slc RF.v a.lks a.ln).getD []).length = a.lks.length := by rw [o2]; simp
  rw [run_eq, xp_sleuthlaw01_short]
  by_cases c1 : (8 : Int) < (a.ats.length : Int)
  · simp -implicitDefEqProofs [x_sleuthlaw01_short, SP.v, m1, noOwn, c1, SP.isShort]
  · by_cases c2 : (8 : Int) < (a.lks.length : Int)
    · simp -implicitDefEqProofs [x_sleuthlaw01_short, SP.v, m1, m2, noOwn, c1, c2, SP.isShort]
    · by_cases c3 : (100 : Int) < (a.sv.size : Int)
      · simp -implicitDefEqProofs [x_sleuthlaw01_short, SP.v, m1, m2, noOwn, c1, c2, c3, SP.isShort]
      · by_cases c4 : (100 : Int) < (a.vr.size : Int)
        · simp -implicitDefEqProofs [x_sleuthlaw01_short, SP.v, m1, m2, noOwn, c1, c2, c3, c4, SP.isShort]
        · by_cases c5 : (100 : Int) < (a.op.size : Int)
          · simp -implicitDefEqProofs [x_sleuthlaw01_short, SP.v, m1, m2, noOwn, c1, c2, c3, c4, c5, SP.isShort]
          · simp -implicitDefEqProofs [x_sleuthlaw01_short, SP.v, m1, m2, noOwn, c1, c2, c3, c4, c5]
            refine short_l0 _ h _ a.ats (by omega) (slc AT.v a.ats a.an) o1 rfl rfl a.ats 0 _ rfl ?_ ?_ (fun s' hr => ?_) fun s' hr h2 => ?_
            · simp
            · simp
            · simp -implicitDefEqProofs [SP.isShort, c1, c2, c3, c4, c5, hr]
            · simp -implicitDefEqProofs [SP.isShort, c1, c2, c3, c4, c5, hr, h2]

theorem shorts_l0 (base : Nat) (h : H) (es : List SP) (hok : ∀ e ∈ es, e.Pre) (hlen : es.length ≤ 9223372036854775807) (o : Option (List V)) (ho : o.getD [] = es.map SP.v) {β : Type} {f : Ex × St → Option β} {b : Option β} {B : Body}
    (hB : B = xcode (run XP) loopW base x_sleuthlaw01_shortSpans_l0) : ∀ (r : List SP) (k : Nat) (s : Sl), es.drop k = r → s 0 = lv 14 o → s 3 = vi k →
    (∀ s' : Sl, r.all SP.isShort = true → s' 0 = lv 14 o → f (.exit 0, ⟨s', h⟩) = b) → (∀ s' : Sl, r.all SP.isShort = false → s' 2 = vb false → f (.ret, ⟨s', h⟩) = b) → ob (loopW B ⟨s, h⟩) f = b := by
  have step : ∀ st, B st = xcode (run XP) loopW base x_sleuthlaw01_shortSpans_l0 st := fun st => by rw [hB]
  have hol : (o.getD []).length = es.length := by rw [ho]; simp
  intro r
  induction r with
  | nil =>
    intro k s hd h1 h3 kk kr
    have hk : es.length ≤ k := by simpa using hd
    have hlt : ¬ (k < es.length) := by omega
    rw [loopW_cps]
    simp -implicitDefEqProofs [step, x_sleuthlaw01_shortSpans_l0, h1, h3, hol, hlt]
    exact kk _ rfl (by simp [h1])
  | cons e r ih =>
    intro k s hd h1 h3 kk kr
    have hk : k < es.length := by
      by_cases hk : k < es.length
      · exact hk
      · rw [List.drop_of_length_le (by omega)] at hd; cases hd
    have hg : es[k]? = some e := by
      have := congrArg (·[0]?) hd
      simpa using this
    have hd' : es.drop (k + 1) = r := by
      have := congrArg List.tail hd
      simpa using this
    obtain ⟨vs', hlv, hat⟩ := lv_at (k := 14) (o := o) (i := k) (e := e.v) (by rw [ho]; simp [hg])
    have hvl : vs'.length = es.length := by
      rw [← hol]
      cases o with
      | none => simp [lv] at hlv
      | some x => simp [lv] at hlv; rw [hlv]; rfl
    have hkv : k < vs'.length := by omega
    have hate : ∀ hh, vs'[k]'hh = e.v := fun hh => by
      rw [List.getElem?_eq_getElem hh] at hat
      exact Option.some.inj hat
    have hsh := fun h => short_ok h (hok e (List.mem_of_getElem? hg))
    simp only [SP.v] at hate hsh
    rw [loopW_cps]
    cases hb : e.isShort with
    | false =>
      rw [hb] at hsh
      simp -implicitDefEqProofs [step, x_sleuthlaw01_shortSpans_l0, h1, h3, hlv, hvl, hk, hate, hsh]
      exact kr _ (by simp [hb]) (by simp)
    | true =>
      rw [hb] at hsh
      simp -implicitDefEqProofs [step, x_sleuthlaw01_shortSpans_l0, h1, h3, hlv, hvl, hk, hate, hsh]
      refine ih (k + 1) _ hd' ?_ ?_ (fun s' hr => kk s' (by simp [hb, hr])) fun s' hr h2 => kr s' (by rw [List.all_cons, hb, hr]; rfl) h2
      · simp [h1, hlv]
      · simp only [upd_same]
        rw [wrap_i64 (by omega) (by omega)]
        simp
theorem shorts_ok (h : H) {es : List SP} (hok : ∀ e ∈ es, e.Pre) (hlen : es.length ≤ 9223372036854775807) {o : Option (List V)} (ho : o.getD [] = es.map SP.v) : run XP i_sleuthlaw01_shortSpans [lv 14 o] h = some (vb (es.all SP.isShort && decide ((es.length : Int) ≤ 4)), h) := by
  have hol : (o.getD []).length = es.length := by rw [ho]; simp
  rw [run_eq, xp_sleuthlaw01_shortSpans]
  simp -implicitDefEqProofs [x_sleuthlaw01_shortSpans]
  refine shorts_l0 _ h es hok hlen o ho rfl es 0 _ rfl ?_ ?_ (fun s' hr h0 => ?_) fun s' hr h2 => ?_
  · simp
  · simp
  · simp -implicitDefEqProofs [h0, hol, hr]
  · simp -implicitDefEqProofs [h2, hr]
end Go.Proofs.Sl

/- The Encode and Decode functions. -/
namespace Go.Proofs.Sl
theorem R_Span_r {h t : H} {l : Nat} {s : ByteArray} {a : Nat} {e : Int} (hl : l < h.length) (hs : s.size ≤ 10000000000000) (ha : a ≤ s.size) :
    run XP i_encoding_Reader_Span [.ptr l 0] (h.set l (.box false [vs s, vi a, vi e]) ++ t) = some ((rSpan s a e).1.v, h.set l (.box false [vs s, vi (rSpan s a e).2.1, vi (rSpan s a e).2.2]) ++ t) := by
  have := R_Span (h := h ++ t) (l := l) (s := s) (a := a) (e := e) (by simp; omega) hs ha
  simpa only [set_left hl] using this

theorem elemsSP_l0 (base : Nat) (h : H) (l : Nat) (s : ByteArray) (hl : l < h.length) (hs : s.size ≤ 10000000000000) (N : Nat) (hN : N ≤ 4096) (hbase : base = h.length) {β : Type} {f : Ex × St → Option β} {b : Option β} {B : Body} (hB : B = xcode (run XP) loopW base x_encoding_elements_api_Span_l0) :
    ∀ (r i a : Nat) (e : Int) (out : List SP) (t : H) (st : Sl), i + r = N → a ≤ s.size → out.length = i → (out = [] → st 5 = vnil) → (out ≠ [] → st 5 = .ref (h.length + 1) out.length ∧ t[1]? = some (.arr false 14 (out.map SP.v))) → (out = [] → t = []) →
    st 0 = .ptr l 0 → st 1 = .fn i_encoding_Reader_Span [.ptr l 0] [] → st 8 = vi N → st 9 = vi i →
    (∀ (st' : Sl) (t' : H), (rLoop rSpan s r a e).2.2 = 0 ∨ r = 0 → (out ++ (rLoop rSpan s r a e).1 = [] → st' 5 = vnil) → (out ++ (rLoop rSpan s r a e).1 ≠ [] → st' 5 = .ref (h.length + 1) (out ++ (rLoop rSpan s r a e).1).length ∧ t'[1]? = some (.arr false 14 ((out ++ (rLoop rSpan s r a e).1).map SP.v))) →
      f (.exit 0, ⟨st', h.set l (.box false [vs s, vi (rLoop rSpan s r a e).2.1, vi (rLoop rSpan s r a e).2.2]) ++ t'⟩) = b) →
    (∀ (st' : Sl) (t' : H), (rLoop rSpan s r a e).2.2 ≠ 0 → st' 4 = vnil → f (.ret, ⟨st', h.set l (.box false [vs s, vi (rLoop rSpan s r a e).2.1, vi (rLoop rSpan s r a e).2.2]) ++ t'⟩) = b) →
    ob (loopW B ⟨st, h.set l (.box false [vs s, vi a, vi e]) ++ t⟩) f = b := by
  have step : ∀ st, B st = xcode (run XP) loopW base x_encoding_elements_api_Span_l0 st := fun st => by rw [hB]
  intro r
  induction r with
  | zero =>
    intro i a e out t st hi ha ho h5 h5' ht h0 h1 h8 h9 kk kr
    have hlt : ¬ (i < N) := by omega
    rw [loopW_cps]
    simp -implicitDefEqProofs [step, x_encoding_elements_api_Span_l0, h8, h9, hlt]
    simp only [rLoop, List.append_nil] at kk
    exact kk _ t (.inr trivial) (fun h => by simp [h5 h]) fun h => by simp [(h5' h).1, (h5' h).2]
  | succ r ih =>
    intro i a e out t st hi ha ho h5 h5' ht h0 h1 h8 h9 kk kr
    have hlt : i < N := by omega
    have hone := R_Span_r (t := t) (e := e) hl hs ha
    have hle := rSpan_le ha e
    rw [rLoop] at kk kr
    generalize rSpan s a e = q at hone hle kk kr
    obtain ⟨v, a1, e1⟩ := q
    simp only at hone hle kk kr
    have hok : ∀ u : H, _ := fun u => R_ok_r (t := u) (x := vs s) (y := vi a1) (e := e1) hl
    simp only [SP.v] at hone
    rw [loopW_cps]
    by_cases he : e1 = 0
    · subst he
      simp only [ne_eq, not_true, if_false] at kk kr
      have next : ∀ (st2 : Sl) (t2 : H), st2 5 = .ref (h.length + 1) (out.length + 1) → t2[1]? = some (.arr false 14 (out.map SP.v ++ [v.v])) → st2 0 = .ptr l 0 → st2 1 = .fn i_encoding_Reader_Span [.ptr l 0] [] → st2 8 = vi N → st2 9 = vi (IntKind.i64.wrap ((i : Int) + 1)) → ob (loopW B ⟨st2, h.set l (.box false [vs s, vi a1, vi 0]) ++ t2⟩) f = b := by
        intro st2 t2 g5 gt g0 g1 g8 g9
        refine ih (i + 1) a1 0 (out ++ [v]) t2 st2 (by omega) hle (by simp [ho]) (fun h => absurd h (by simp)) (fun _ => ⟨by simpa using g5, by simpa using gt⟩) (fun h => absurd h (by simp)) g0 g1 g8 (by rw [g9, wrap_i64 (by omega) (by omega)]; rfl) (fun st' t' hz k1 k2 => ?_) fun st' t' hz k4 => ?_
        · by_cases hr0 : r = 0
          · subst hr0
            simp only [rLoop, ne_eq, not_true, if_false] at kk k1 k2 ⊢
            exact kk st' t' (.inl trivial) (by simpa using k1) (by simpa using k2)
          · have hz' := hz.resolve_right hr0
            simp only [hz', ne_eq, not_true, if_false] at kk k1 k2 ⊢
            exact kk st' t' (.inl trivial) (by simpa using k1) (by simpa using k2)
        · rw [if_pos hz] at kr
          exact kr st' t' hz k4
      by_cases hout : out = []
      · subst hout
        have h5v := h5 rfl
        have htv := ht rfl
        subst htv
        rw [List.append_nil] at hone
        simp only [List.append_nil]
        simp -implicitDefEqProofs [step, x_encoding_elements_api_Span_l0, h0, h1, h5v, h8, h9, hlt, hone, hok, putRow]
        apply next
        · simp
        · simp [SP.v]
        · simp [h0]
        · simp [h1]
        · simp [h8]
        · simp
      · obtain ⟨h5v, htv⟩ := h5' hout
        have hlim : out.length ≤ 837723144971 := by omega
        have hat : ∀ (X : O) (u : H), (h.set l X ++ (t ++ u))[h.length + 1]? = some (.arr false 14 (out.map SP.v)) := fun X u => by
          rw [at_right, List.getElem?_append_left (List.getElem?_eq_some_iff.1 htv).1]
          exact htv
        have hset : ∀ (X Y : O) (u : H), (h.set l X ++ (t ++ u)).set (h.length + 1) Y = h.set l X ++ (t.set 1 Y ++ u) := fun X Y u => by
          rw [set_right, List.set_append_left _ _ (List.getElem?_eq_some_iff.1 htv).1]
        have hbx : ∀ (X : O) (u : H), (h.set l X ++ (t ++ u))[h.length + t.length]? = u[0]? := fun X u => by
          rw [at_right]; simp
        have hbs : ∀ (X Y : O) (u : H), (h.set l X ++ (t ++ u)).set (h.length + t.length) Y = h.set l X ++ (t ++ u.set 0 Y) := fun X Y u => by
          rw [set_right, List.set_append_right _ _ (Nat.le_refl _)]; simp
        simp -implicitDefEqProofs [step, x_encoding_elements_api_Span_l0, h0, h1, h5v, h8, h9, hlt, hone, hok, putRow, hat, hset, hbx, hbs, hlim]
        apply next
        · simp
        · have := (List.getElem?_eq_some_iff.1 htv).1
          rw [List.getElem?_append_left (by simpa using this), List.getElem?_set_self this]
          simp [SP.v]
        · simp [h0]
        · simp [h1]
        · simp [h8]
        · simp
    · have he' : (e1 == 0) = false := by simpa using he
      rw [if_pos he] at kk kr
      have hbx : ∀ (X : O) (u : H), (h.set l X ++ (t ++ u))[h.length + t.length]? = u[0]? := fun X u => by
        rw [at_right]; simp
      have hbs : ∀ (X Y : O) (u : H), (h.set l X ++ (t ++ u)).set (h.length + t.length) Y = h.set l X ++ (t ++ u.set 0 Y) := fun X Y u => by
        rw [set_right, List.set_append_right _ _ (Nat.le_refl _)]; simp
      simp -implicitDefEqProofs [step, x_encoding_elements_api_Span_l0, h0, h1, h8, h9, hlt, hone, hok, putRow, he, he', hbx, hbs]
      exact kr _ _ he (by simp)

theorem closeds_SP : ∀ l : List SP, V.closed.closeds (l.map SP.v) = true
  | [] => rfl
  | x :: l => by simp [SP.v, closeds_SP l]
theorem R_elemsSP {h : H} {l : Nat} {s : ByteArray} {a : Nat} {e : Int} (hl : l < h.length) (hs : s.size ≤ 10000000000000) (ha : a ≤ s.size) :
    run XP i_encoding_elements_api_Span [.ptr l 0, .fn i_encoding_Reader_Span [.ptr l 0] []] (h.set l (.box false [vs s, vi a, vi e])) =
      some (ownL 14 ((rElems rSpan s a e).1.map SP.v), h.set l (.box false [vs s, vi (rElems rSpan s a e).2.1, vi (rElems rSpan s a e).2.2])) := by
  have hc := R_Count (e := e) hl hs ha 4096
  have hsz := rSz_le ha e 4096 (more := 6) (by decide)
  have hcap := rSz_cap s a e 4096 6 (by decide) (by decide)
  unfold rElems
  have hz : (rSz s a e 4096 6).2.2 ≠ 0 → (rSz s a e 4096 6).1 = 0 := rSz_zero s a e 4096 6
  generalize rSz s a e 4096 6 = q at hc hsz hcap hz ⊢
  obtain ⟨n, a1, e1⟩ := q
  simp only at hc hsz hcap hz ⊢
  rw [run_eq, xp_encoding_elements_api_Span]
  simp -implicitDefEqProofs [x_encoding_elements_api_Span, hc]
  have key := fun (f : Ex × St → Option (V × H)) (b : Option (V × H)) => elemsSP_l0 (β := V × H) (f := f) (b := b) (B := xcode (run XP) loopW h.length x_encoding_elements_api_Span_l0) h.length h l s hl hs n (by omega) rfl rfl n 0 a1 e1 [] []
  simp only [List.append_nil, List.nil_append] at key
  refine key _ _ _ (by omega) (by omega) rfl ?_ ?_ ?_ ?_ ?_ ?_ ?_ (fun st' t' hz' k1 k2 => ?_) fun st' t' hz' k4 => ?_
  · simp
  · simp
  · simp
  · simp
  · simp
  · simp
  · simp
  · by_cases ho : (rLoop rSpan s n a1 e1).1 = []
    · have k1' := k1 ho
      simp -implicitDefEqProofs [k1', ho, ownL]
    · obtain ⟨k2a, k2b⟩ := k2 ho
      have hcl := closeds_SP (rLoop rSpan s n a1 e1).1
      have hne : (rLoop rSpan s n a1 e1).1.map SP.v ≠ [] := by simpa using ho
      simp -implicitDefEqProofs [k2a, k2b, ho, ownL, hcl]
  · have : (rLoop rSpan s n a1 e1).1 = [] := rLoop_nil _ _ _ _ _ hz'
    simp -implicitDefEqProofs [k4, this, ownL]
theorem R_elemsSP_r {h t : H} {l : Nat} {s : ByteArray} {a : Nat} {e : Int} (hl : l < h.length) (hs : s.size ≤ 10000000000000) (ha : a ≤ s.size) :
    run XP i_encoding_elements_api_Span [.ptr l 0, .fn i_encoding_Reader_Span [.ptr l 0] []] (h.set l (.box false [vs s, vi a, vi e]) ++ t) =
      some (ownL 14 ((rElems rSpan s a e).1.map SP.v), h.set l (.box false [vs s, vi (rElems rSpan s a e).2.1, vi (rElems rSpan s a e).2.2]) ++ t) := by
  have := R_elemsSP (h := h ++ t) (l := l) (s := s) (a := a) (e := e) (by simp; omega) hs ha
  simpa only [set_left hl] using this

/-- A fragment, a trace. -/
structure FR where
  ag : Int
  sq : Int
  sps : List SP
  exs : List EX
  sn : Bool
  xn : Bool
def FR.v (a : FR) : V := .agg [vi a.ag, vi a.sq, lv 14 (slc SP.v a.sps a.sn), lv 5 (slc EX.v a.exs a.xn)]
structure FR.Ok (a : FR) : Prop where
  ag : Rng a.ag
  sq : Rng a.sq
  sps : ∀ e ∈ a.sps, e.Ok
  exs : ∀ e ∈ a.exs, e.Ok
  sl : a.sps.length ≤ 1000
  xl : a.exs.length ≤ 1000
  sn : a.sn = true → a.sps = []
  xn : a.xn = true → a.exs = []
def FR.f (a : FR) : List UInt8 := fNums [a.ag, a.sq] ++ (fList SP.f a.sps ++ fList EX.f a.exs)
structure TC where
  id : Int
  wt : Int
  sps : List SP
  sn : Bool
def TC.v (a : TC) : V := .agg [vi a.id, vi a.wt, lv 14 (slc SP.v a.sps a.sn)]
structure TC.Ok (a : TC) : Prop where
  id : Rng a.id
  wt : Rng a.wt
  sps : ∀ e ∈ a.sps, e.Ok
  sl : a.sps.length ≤ 1000
  sn : a.sn = true → a.sps = []
def TC.f (a : TC) : List UInt8 := fNums [a.id, a.wt] ++ fList SP.f a.sps
def FR.z : FR := ⟨0, 0, [], [], true, true⟩
def TC.z : TC := ⟨0, 0, [], true⟩

theorem catn {h : H} {x d z : O} {t : H} : (h ++ (z :: d :: t)).set (h.length + 1) x = h ++ (z :: x :: t) := by
  rw [set_app]
  rfl
theorem fSpans_le {l : List SP} (h : ∀ e ∈ l, e.Ok) (hl : l.length ≤ 1000) : (fList SP.f l).length ≤ 13000001000 := by
  have h1 := fNum_le (rng_nat (n := l.length) (by omega))
  have h2 := flatMap_le (f := SP.f) (l := l) fun x hx => SP.le (h x hx)
  simp only [fList, List.length_append]
  omega
theorem E_Span (h : H) {a : SP} (ha : a.Ok) : run XP i_encoding_EncodeSpan [a.v] h = some (tx a.f, h) := by
  have hw : wc [] = vnil := by simp [wc]
  have w1 := W_span (h := h ++ [.box false [vi a.tr, vi a.id, vi a.par, vi a.rev, vi a.clk, vi a.kind, vs a.sv, vs a.vr, vs a.op, vi a.st, vi a.en, vb a.er, lv 4 (slc AT.v a.ats a.an), lv 2 (slc RF.v a.lks a.ln)], .dead]) (l := h.length + 1) (bs := []) (by simp) ha (by simp)
  rw [hw] at w1
  simp only [catn, List.nil_append] at w1
  have w2 := W_bytes (h := h ++ [.box false [vi a.tr, vi a.id, vi a.par, vi a.rev, vi a.clk, vi a.kind, vs a.sv, vs a.vr, vs a.op, vi a.st, vi a.en, vb a.er, lv 4 (slc AT.v a.ats a.an), lv 2 (slc RF.v a.lks a.ln)], .box false [wc a.f]]) (l := h.length + 1) (bs := a.f) (by simp)
  have ht : vs ⟨a.f.toArray⟩ = tx a.f := rfl
  rw [ht] at w2
  simp only [SP.v] at w1
  rw [run_eq, xp_encoding_EncodeSpan]
  simp -implicitDefEqProofs [x_encoding_EncodeSpan, SP.v, w1, w2, noOwn]
theorem E_Trace (h : H) {a : TC} (ha : a.Ok) : run XP i_encoding_EncodeTrace [a.v] h = some (tx a.f, h) := by
  have hw : wc [] = vnil := by simp [wc]
  have rr : ∀ n ∈ [a.id, a.wt], Rng n := by simp [ha.id, ha.wt]
  have e1 := fNums_le rr
  simp only [List.length_cons, List.length_nil] at e1
  have e2 := fSpans_le ha.sps ha.sl
  have w1 := W_numbers (h := h ++ [.box false [vi a.id, vi a.wt, lv 14 (slc SP.v a.sps a.sn)], .dead]) (l := h.length + 1) (bs := []) (ns := [a.id, a.wt]) (by simp) rr (by simp) (by simp)
  have w3 := W_listSP (h := h ++ [.box false [vi a.id, vi a.wt, lv 14 (slc SP.v a.sps a.sn)], .dead]) (l := h.length + 1) (bs := fNums [a.id, a.wt]) (by simp) ha.sps ha.sl (slc_getD ha.sn) (by have := ha.sl; omega)
  rw [hw] at w1
  simp only [catn, List.nil_append, il, List.map_cons, List.map_nil] at w1 w3
  have w2 := W_bytes (h := h ++ [.box false [vi a.id, vi a.wt, lv 14 (slc SP.v a.sps a.sn)], .box false [wc a.f]]) (l := h.length + 1) (bs := a.f) (by simp)
  have ht : vs ⟨a.f.toArray⟩ = tx a.f := rfl
  rw [ht] at w2
  have hf : fNums [a.id, a.wt] ++ fList SP.f a.sps = a.f := rfl
  rw [hf] at w3
  rw [run_eq, xp_encoding_EncodeTrace]
  simp -implicitDefEqProofs [x_encoding_EncodeTrace, TC.v, w1, w2, w3, noOwn]
theorem E_Fragment (h : H) {a : FR} (ha : a.Ok) : run XP i_encoding_EncodeFragment [a.v] h = some (tx a.f, h) := by
  have hw : wc [] = vnil := by simp [wc]
  have rr : ∀ n ∈ [a.ag, a.sq], Rng n := by simp [ha.ag, ha.sq]
  have e1 := fNums_le rr
  simp only [List.length_cons, List.length_nil] at e1
  have e2 := fSpans_le ha.sps ha.sl
  have w1 := W_numbers (h := h ++ [.box false [vi a.ag, vi a.sq, lv 14 (slc SP.v a.sps a.sn), lv 5 (slc EX.v a.exs a.xn)], .dead]) (l := h.length + 1) (bs := []) (ns := [a.ag, a.sq]) (by simp) rr (by simp) (by simp)
  have w3 := W_listSP (h := h ++ [.box false [vi a.ag, vi a.sq, lv 14 (slc SP.v a.sps a.sn), lv 5 (slc EX.v a.exs a.xn)], .dead]) (l := h.length + 1) (bs := fNums [a.ag, a.sq]) (by simp) ha.sps ha.sl (slc_getD ha.sn) (by have := ha.sl; omega)
  have w4 := W_listEX (h := h ++ [.box false [vi a.ag, vi a.sq, lv 14 (slc SP.v a.sps a.sn), lv 5 (slc EX.v a.exs a.xn)], .dead]) (l := h.length + 1) (bs := fNums [a.ag, a.sq] ++ fList SP.f a.sps) (by simp) ha.exs ha.xl (slc_getD ha.xn) (by have := ha.xl; simp; omega)
  rw [hw] at w1
  simp only [catn, List.nil_append, il, List.map_cons, List.map_nil] at w1 w3 w4
  have w2 := W_bytes (h := h ++ [.box false [vi a.ag, vi a.sq, lv 14 (slc SP.v a.sps a.sn), lv 5 (slc EX.v a.exs a.xn)], .box false [wc a.f]]) (l := h.length + 1) (bs := a.f) (by simp)
  have ht : vs ⟨a.f.toArray⟩ = tx a.f := rfl
  rw [ht] at w2
  have hf : fNums [a.ag, a.sq] ++ fList SP.f a.sps ++ fList EX.f a.exs = a.f := by simp [FR.f]
  rw [hf] at w4
  rw [run_eq, xp_encoding_EncodeFragment]
  simp -implicitDefEqProofs [x_encoding_EncodeFragment, FR.v, w1, w2, w3, w4, noOwn]

/-- What is read of a whole text. -/
def dSpan (s : ByteArray) : SP × Int :=
  let x := rSpan s 0 0
  (if rEnd s x.2.1 x.2.2 = 0 then x.1 else SP.z, rEnd s x.2.1 x.2.2)
theorem D_Span (h : H) {s : ByteArray} (hs : s.size ≤ 10000000000000) : run XP i_encoding_DecodeSpan [vs s] h = some (.tup [(dSpan s).1.v, vi (dSpan s).2], h) := by
  have r0 := R_New (s := s) (h := h ++ [.box false [vi 0, vi 0, vi 0, vi 0, vi 0, vi 0, vs ⟨#[]⟩, vs ⟨#[]⟩, vs ⟨#[]⟩, vi 0, vi 0, vb false, vnil, vnil]])
  have r1 := R_Span (h := h ++ [.box false [vi 0, vi 0, vi 0, vi 0, vi 0, vi 0, vs ⟨#[]⟩, vs ⟨#[]⟩, vs ⟨#[]⟩, vi 0, vi 0, vb false, vnil, vnil], .dead]) (l := h.length + 1) (s := s) (a := 0) (e := 0) (by simp) hs (by omega)
  unfold dSpan
  generalize rSpan s 0 0 = q at r1 ⊢
  obtain ⟨v, a1, e1⟩ := q
  have e0 : ((0 : Nat) : Int) = 0 := rfl
  simp only [catn, e0] at r1 ⊢
  have r2 := R_End (h := h ++ [.box false [vi 0, vi 0, vi 0, vi 0, vi 0, vi 0, vs ⟨#[]⟩, vs ⟨#[]⟩, vs ⟨#[]⟩, vi 0, vi 0, vb false, vnil, vnil], .box false [vs s, vi a1, vi e1], .box false [vi v.tr, vi v.id, vi v.par, vi v.rev, vi v.clk, vi v.kind, vs v.sv, vs v.vr, vs v.op, vi v.st, vi v.en, vb v.er, lv 4 (slc AT.v v.ats v.an), lv 2 (slc RF.v v.lks v.ln)]]) (l := h.length + 1) (s := s) (a := a1) (e := e1) (by simp)
  simp only [List.append_assoc, List.cons_append, List.nil_append] at r0
  rw [run_eq, xp_encoding_DecodeSpan]
  by_cases he : rEnd s a1 e1 = 0
  · rw [he] at r2
    simp only [SP.v] at r1
    simp -implicitDefEqProofs [x_encoding_DecodeSpan, r0, r1, r2, putRow, he, SP.v]
  · have he' : (rEnd s a1 e1 != 0) = true := by simpa using he
    simp only [SP.v] at r1
    simp -implicitDefEqProofs [x_encoding_DecodeSpan, r0, r1, r2, putRow, he, he', addParts, SP.z_v]
end Go.Proofs.Sl

/- What is read of the form of a span is the span. -/
namespace Go.Proofs.Sl
section
variable {s : ByteArray} {a : Nat} {rest : List UInt8}
theorem drop_next {x y : List UInt8} (h : (bts s).drop a = x ++ y) : (bts s).drop (a + x.length) = y := by
  rw [← List.drop_drop, h]
  simp
theorem drop_size {x : List UInt8} (h : (bts s).drop a = x) (ha : a ≤ s.size) : s.size = a + x.length := by
  have := congrArg List.length h
  rw [List.length_drop, bts_length] at this
  omega
theorem drop_le {x : List UInt8} (h : (bts s).drop a = x) (hx : x ≠ []) : a ≤ s.size := by
  apply Nat.le_of_not_lt
  intro hlt
  rw [List.drop_of_length_le (by rw [bts_length]; omega)] at h
  exact hx h.symm
theorem fNum_ne (n : Int) : fNum n ≠ [] := by simp [fNum]
theorem fNums_form : ∀ (ns : List Int) (a : Nat), (∀ n ∈ ns, Rng n) → (bts s).drop a = fNums ns ++ rest → rNums s ns.length a 0 = (ns, a + (fNums ns).length, 0)
  | [], a, _, _ => rfl
  | n :: ns, a, hr, h => by
    rw [fNums, List.append_assoc] at h
    have h1 := rNum_form (hr n (by simp)) h
    have h2 := fNums_form ns (a + (fNum n).length) (fun m hm => hr m (List.mem_cons_of_mem _ hm)) (drop_next h)
    rw [List.length_cons, rNums, h1]
    simp only
    rw [h2]
    simp [fNums, Nat.add_assoc]
theorem fSz_form {n : Nat} {most more : Int} (hn : n ≤ 1000000000000) (hm : (n : Int) ≤ most) (h : (bts s).drop a = fNum n ++ rest) (hl : n ≤ rest.length) : rSz s a 0 most more = (n, a + (fNum n).length, 0) := by
  have h1 := rn_form (rng_nat (by omega)) h
  have h2 := drop_size h (drop_le h (by simp [fNum_ne]))
  rw [List.length_append] at h2
  have hz : szE s a most more = 0 := by
    unfold szE
    rw [h1]
    simp only
    rw [if_neg (by simp), if_neg (by omega), if_neg (by omega), if_neg (by omega)]
  unfold rSz
  rw [if_neg (by simp), if_neg (by simpa using hz), h1]
  simp
theorem fText_form {t : ByteArray} (ht : t.size ≤ 4096) (h : (bts s).drop a = fText t ++ rest) : rText s a 0 4096 = (t, a + (fText t).length, 0) := by
  rw [fText, List.append_assoc] at h
  have h1 := fSz_form (most := 4096) (more := 5) (by omega) (by omega) h (by rw [List.length_append, bts_length]; omega)
  unfold rText
  rw [h1, drop_next h, fText_length]
  have ht' : (List.take t.size (bts t ++ rest)) = bts t := by
    rw [List.take_append_of_le_length (by rw [bts_length]; omega), List.take_of_length_le (by rw [bts_length]; omega)]
  simp only [ht']
  have : (⟨(bts t).toArray⟩ : ByteArray) = t := by simp [bts]
  rw [this, Nat.add_assoc]
theorem fBool_form {b : Bool} (h : (bts s).drop a = fBool b ++ rest) : rBool s a 0 = (b, a + (fBool b).length, 0) := by
  have h1 := rn_form (n := if b = true then 1 else 0) (by cases b <;> exact ⟨by decide, by decide⟩) h
  unfold rBool
  rw [h1]
  cases b <;> simp [fBool]
theorem fLoop_form {α β : Type} {f : α → List UInt8} {g : α → β} {one : ByteArray → Nat → Int → β × Nat × Int} (hf : ∀ x, f x ≠ []) : ∀ (l : List α) (a : Nat), (∀ x ∈ l, ∀ (a : Nat) (rest : List UInt8), (bts s).drop a = f x ++ rest → one s a 0 = (g x, a + (f x).length, 0)) →
    (bts s).drop a = l.flatMap f ++ rest → rLoop one s l.length a 0 = (l.map g, a + (l.flatMap f).length, 0)
  | [], a, _, _ => rfl
  | x :: l, a, hx, h => by
    rw [List.flatMap_cons, List.append_assoc] at h
    have h1 := hx x (by simp) a _ h
    have h2 := fLoop_form hf l (a + (f x).length) (fun y hy => hx y (List.mem_cons_of_mem _ hy)) (drop_next h)
    rw [List.length_cons, rLoop, h1]
    simp only
    rw [h2]
    simp [Nat.add_assoc]
theorem flatMap_ge {α : Type} {f : α → List UInt8} (hf : ∀ x, f x ≠ []) : ∀ l : List α, l.length ≤ (l.flatMap f).length
  | [] => by simp
  | x :: l => by
    have h1 := flatMap_ge hf l
    have h2 : 0 < (f x).length := List.length_pos_iff.2 (hf x)
    simp only [List.flatMap_cons, List.length_append, List.length_cons]
    omega
theorem fList_form {α β : Type} {f : α → List UInt8} {g : α → β} {one : ByteArray → Nat → Int → β × Nat × Int} (hf : ∀ x, f x ≠ []) {l : List α} (hl : l.length ≤ 4096) (hx : ∀ x ∈ l, ∀ (a : Nat) (rest : List UInt8), (bts s).drop a = f x ++ rest → one s a 0 = (g x, a + (f x).length, 0))
    (h : (bts s).drop a = fList f l ++ rest) : rElems one s a 0 = (l.map g, a + (fList f l).length, 0) := by
  rw [fList, List.append_assoc] at h
  have h1 := fSz_form (most := 4096) (more := 6) (by omega) (by omega) h (by have := flatMap_ge hf l; simp only [List.length_append]; omega)
  unfold rElems
  rw [h1]
  simp only
  rw [fLoop_form hf l _ hx (drop_next h)]
  simp [fList, Nat.add_assoc]

def AT.Fit (a : AT) : Prop := a.key.size ≤ 4096 ∧ a.val.t.size ≤ 4096
structure SP.Fit (a : SP) : Prop where
  sv : a.sv.size ≤ 4096
  vr : a.vr.size ≤ 4096
  op : a.op.size ≤ 4096
  ats : ∀ e ∈ a.ats, e.Fit
theorem AV.f_form {v : AV} (hv : v.Ok) (ht : v.t.size ≤ 4096) (h : (bts s).drop a = v.f ++ rest) : rValue s a 0 = (v, a + v.f.length, 0) := by
  rw [AV.f, List.append_assoc, List.append_assoc] at h
  have h1 := rNum_form hv.k h
  have h2 := fText_form ht (drop_next h)
  have h3 := rNum_form hv.n (drop_next (drop_next h))
  unfold rValue
  rw [h1]
  simp only
  rw [h2]
  simp only
  rw [h3]
  simp [AV.f, Nat.add_assoc]
theorem AT.f_form {v : AT} (hv : v.Ok) (ht : v.Fit) (h : (bts s).drop a = v.f ++ rest) : rAttr s a 0 = (v, a + v.f.length, 0) := by
  rw [AT.f, List.append_assoc] at h
  have h1 := fText_form ht.1 h
  have h2 := AV.f_form hv.val ht.2 (drop_next h)
  unfold rAttr
  rw [h1]
  simp only
  rw [h2]
  simp [AT.f, Nat.add_assoc]
theorem RF.f_form {v : RF} (hv : v.Ok) (h : (bts s).drop a = v.f ++ rest) : rRef s a 0 = (v, a + v.f.length, 0) := by
  simp only [RF.f, fNums, List.append_nil, List.append_assoc] at h
  have h1 := rNum_form hv.t h
  have h2 := rNum_form hv.i (drop_next h)
  unfold rRef
  rw [h1]
  simp only
  rw [h2]
  simp [RF.f, fNums, Nat.add_assoc]
theorem EX.f_form {v : EX} (hv : v.Ok) (h : (bts s).drop a = v.f ++ rest) : rEx s a 0 = (v, a + v.f.length, 0) := by
  have h1 := fNums_form [v.fr, v.to, v.sent, v.rcv, v.least] a (by simp [hv.fr, hv.to, hv.sent, hv.rcv, hv.least]) h
  have h2 : rNums s 5 a 0 = _ := h1
  unfold rEx
  rw [h2]
  rfl
theorem AT.f_ne (v : AT) : v.f ≠ [] := by simp [AT.f, fText, fNum]
theorem RF.f_ne (v : RF) : v.f ≠ [] := by simp [RF.f, fNums, fNum]
theorem EX.f_ne (v : EX) : v.f ≠ [] := by simp [EX.f, fNums, fNum]
theorem SP.f_ne (v : SP) : v.f ≠ [] := by simp [SP.f, fNums, fNum]
/-- A span as it is read again. -/
def SP.nrm (v : SP) : SP := { v with an := v.ats.isEmpty, ln := v.lks.isEmpty }
theorem SP.nrm_f (v : SP) : v.nrm.f = v.f := rfl
theorem SP.nrm_ok {v : SP} (h : v.Ok) : v.nrm.Ok := ⟨h.n, h.sv, h.vr, h.op, h.ats, h.lks, h.al, h.ll, fun e => by simpa [SP.nrm] using e, fun e => by simpa [SP.nrm] using e⟩
theorem SP.f_form {v : SP} (hv : v.Ok) (ht : v.Fit) (h : (bts s).drop a = v.f ++ rest) : rSpan s a 0 = (v.nrm, a + v.f.length, 0) := by
  have hn := hv.n
  simp only [SP.f, List.append_assoc] at h
  have h1 := fNums_form [v.tr, v.id, v.par, v.rev, v.clk, v.kind] a (fun n hm => hn n (by simp at hm ⊢; omega)) h
  have h1 : rNums s 6 a 0 = _ := h1
  replace h := drop_next h
  have h2 := fText_form ht.sv h
  replace h := drop_next h
  have h3 := fText_form ht.vr h
  replace h := drop_next h
  have h4 := fText_form ht.op h
  replace h := drop_next h
  have h5 := fNums_form [v.st, v.en] _ (fun n hm => hn n (by simp at hm ⊢; omega)) h
  have h5 : rNums s 2 _ 0 = _ := h5
  replace h := drop_next h
  have h6 := fBool_form h
  replace h := drop_next h
  have h7 := fList_form (g := fun x => x) (one := rAttr) AT.f_ne (by have := hv.al; omega) (fun x hx a rest e => AT.f_form (hv.ats x hx) (ht.ats x hx) e) h
  replace h := drop_next h
  have h8 := fList_form (g := fun x => x) (one := rRef) RF.f_ne (by have := hv.ll; omega) (fun x hx a rest e => RF.f_form (hv.lks x hx) e) h
  simp only [List.map_id'] at h7 h8
  unfold rSpan
  rw [h1]
  simp only
  rw [h2]
  simp only
  rw [h3]
  simp only
  rw [h4]
  simp only
  rw [h5]
  simp only
  rw [h6]
  simp only
  rw [h7]
  simp only
  rw [h8]
  simp [SP.f, mkSP, SP.nrm, Nat.add_assoc]
theorem dSpan_form {v : SP} (hv : v.Ok) (ht : v.Fit) : dSpan ⟨v.f.toArray⟩ = (v.nrm, 0) := by
  have h := SP.f_form (s := ⟨v.f.toArray⟩) (a := 0) (rest := []) hv ht (by rw [bts_ofList]; simp)
  unfold dSpan
  rw [h]
  simp [rEnd, size_ofList]
theorem SP.short_fit {v : SP} (h : v.isShort = true) : v.Fit := by
  simp [SP.isShort] at h
  obtain ⟨⟨h1, h2, h3, h4, h5⟩, h6⟩ := h
  refine ⟨by omega, by omega, by omega, fun e he => ?_⟩
  have h7 := h6 e he
  simp [AT.isShort] at h7
  exact ⟨by omega, by omega⟩
end
/-- EncodingSpans, of the evaluator. -/
theorem spans_law {v : SP} (hv : v.Pre) : run XP i_sleuthlaw01_EncodingSpans [v.v] [] = some (vb true, []) := by
  have hk := known_ok [.box false [vi v.tr, vi v.id, vi v.par, vi v.rev, vi v.clk, vi v.kind, vs v.sv, vs v.vr, vs v.op, vi v.st, vi v.en, vb v.er, lv 4 (slc AT.v v.ats v.an), lv 2 (slc RF.v v.lks v.ln)]]
  have hs := short_ok [.box false [vi v.tr, vi v.id, vi v.par, vi v.rev, vi v.clk, vi v.kind, vs v.sv, vs v.vr, vs v.op, vi v.st, vi v.en, vb v.er, lv 4 (slc AT.v v.ats v.an), lv 2 (slc RF.v v.lks v.ln)]] hv
  simp only [SP.v] at hs
  rw [run_eq, xp_sleuthlaw01_EncodingSpans]
  cases hb : v.isShort with
  | false =>
    rw [hb] at hs
    simp -implicitDefEqProofs [x_sleuthlaw01_EncodingSpans, SP.v, noOwn, hk, hs]
  | true =>
    rw [hb] at hs
    have ho := hv.ok hb
    have h1 := E_Span [.box false [vi v.tr, vi v.id, vi v.par, vi v.rev, vi v.clk, vi v.kind, vs v.sv, vs v.vr, vs v.op, vi v.st, vi v.en, vb v.er, lv 4 (slc AT.v v.ats v.an), lv 2 (slc RF.v v.lks v.ln)]] ho
    have hd := dSpan_form ho (SP.short_fit hb)
    have h2 := D_Span [.box false [vi v.tr, vi v.id, vi v.par, vi v.rev, vi v.clk, vi v.kind, vs v.sv, vs v.vr, vs v.op, vi v.st, vi v.en, vb v.er, lv 4 (slc AT.v v.ats v.an), lv 2 (slc RF.v v.lks v.ln)]] (s := ⟨v.f.toArray⟩) (by rw [size_ofList]; have := SP.le ho; omega)
    rw [hd] at h2
    have ht : vs ⟨v.f.toArray⟩ = tx v.f := rfl
    rw [ht] at h2
    have h3 := fun h => ref_span h ho
    have h4 := fun h => ref_span h (SP.nrm_ok ho)
    rw [SP.nrm_f] at h4
    simp only [SP.v] at h1 h2 h3 h4
    simp -implicitDefEqProofs [x_sleuthlaw01_EncodingSpans, SP.v, noOwn, hk, hs, h1, h2, h3, h4, putRow]
end Go.Proofs.Sl

/- Decoding fragments and traces; the reference's forms of them. -/
namespace Go.Proofs.Sl
def mkFR (ns : List Int) (sps : List SP) (exs : List EX) : FR := match ns with
  | [a, b] => ⟨a, b, sps, exs, sps.isEmpty, exs.isEmpty⟩
  | _ => FR.z
def mkTC (ns : List Int) (sps : List SP) : TC := match ns with
  | [a, b] => ⟨a, b, sps, sps.isEmpty⟩
  | _ => TC.z
def dFrag (s : ByteArray) : FR × Int :=
  let x := rNums s 2 0 0
  let y := rElems rSpan s x.2.1 x.2.2
  let z := rElems rEx s y.2.1 y.2.2
  (if rEnd s z.2.1 z.2.2 = 0 then mkFR x.1 y.1 z.1 else FR.z, rEnd s z.2.1 z.2.2)
def dTrace (s : ByteArray) : TC × Int :=
  let x := rNums s 2 0 0
  let y := rElems rSpan s x.2.1 x.2.2
  (if rEnd s y.2.1 y.2.2 = 0 then mkTC x.1 y.1 else TC.z, rEnd s y.2.1 y.2.2)
theorem FR.z_v : FR.z.v = .agg [vi 0, vi 0, vnil, vnil] := rfl
theorem TC.z_v : TC.z.v = .agg [vi 0, vi 0, vnil] := rfl
theorem D_Fragment (h : H) {s : ByteArray} (hs : s.size ≤ 10000000000000) : run XP i_encoding_DecodeFragment [vs s] h = some (.tup [(dFrag s).1.v, vi (dFrag s).2], h) := by
  have r0 := R_New (s := s) (h := h ++ [.box false [vi 0, vi 0, vnil, vnil]])
  have hset : ∀ X Y : O, ((h ++ [.box false [vi 0, vi 0, vnil, vnil], .dead, .dead, .arr false 1 (ptrs (h.length + 2) 0 2)] : H).set (h.length + 1) X).set (h.length + 2) Y = h ++ [.box false [vi 0, vi 0, vnil, vnil], X, Y, .arr false 1 (ptrs (h.length + 2) 0 2)] := fun X Y => by
    rw [set_app, set_app]
    rfl
  have r1 := R_numbers (s := s) (h ++ [.box false [vi 0, vi 0, vnil, vnil], .dead, .dead, .arr false 1 (ptrs (h.length + 2) 0 2)]) (h.length + 1) (h.length + 2) (h.length + 3) 2 0 (by simp) (by simp) (by omega) (by omega) (by omega) (by rw [at_app]; rfl) (by decide) hs (a := 0) (e := 0) (cs := [vi 0, vi 0, vnil, vnil]) (by omega) (by intro c hc; simp at hc; rcases hc with rfl | rfl <;> exact Eq.trans rfl rfl) (by simp)
  rw [hset, hset] at r1
  have hn := rNums_length (s := s) 2 0 0
  have b0 := rNums_le (s := s) 2 0 0 (by omega)
  unfold dFrag
  generalize rNums s 2 0 0 = q at r1 hn b0 ⊢
  obtain ⟨ns, a1, e1⟩ := q
  have e0 : ((0 : Nat) : Int) = 0 := rfl
  simp only [e0] at r1 hn b0 ⊢
  match ns, hn with
  | [n0, n1], _ =>
    simp only [ptrs, List.map_cons, List.map_nil, putRow, List.set_cons_zero, List.set_cons_succ, Nat.zero_add] at r1
    have r2 := R_elemsSP (h := h ++ [.box false [vi 0, vi 0, vnil, vnil], .dead, .box false [vi n0, vi n1, vnil, vnil], .arr false 1 [.ptr (h.length + 2) 0, .ptr (h.length + 2) 1]]) (l := h.length + 1) (s := s) (a := a1) (e := e1) (by simp) hs b0
    have b1 := rElems_le (one := rSpan) (s := s) (fun a e h => rSpan_le h e) b0 e1
    generalize rElems rSpan s a1 e1 = q at r2 b1 ⊢
    obtain ⟨us, a2, e2⟩ := q
    simp only [catn] at r2 b1 ⊢
    have r3 := R_elemsEX (h := h ++ [.box false [vi 0, vi 0, vnil, vnil], .dead, .box false [vi n0, vi n1, lv 14 (slc SP.v us us.isEmpty), vnil], .arr false 1 [.ptr (h.length + 2) 0, .ptr (h.length + 2) 1]]) (l := h.length + 1) (s := s) (a := a2) (e := e2) (by simp) hs b1
    generalize rElems rEx s a2 e2 = q at r3 ⊢
    obtain ⟨ws, a3, e3⟩ := q
    simp only [catn] at r3 ⊢
    have r4 := R_End (h := h ++ [.box false [vi 0, vi 0, vnil, vnil], .box false [vs s, vi a3, vi e3], .box false [vi n0, vi n1, lv 14 (slc SP.v us us.isEmpty), lv 5 (slc EX.v ws ws.isEmpty)], .arr false 1 [.ptr (h.length + 2) 0, .ptr (h.length + 2) 1]]) (l := h.length + 1) (s := s) (a := a3) (e := e3) (by rw [at_app]; rfl)
    simp only [List.append_assoc, List.cons_append, List.nil_append] at r0
    rw [run_eq, xp_encoding_DecodeFragment]
    by_cases he : rEnd s a3 e3 = 0
    · rw [he] at r4
      simp -implicitDefEqProofs [x_encoding_DecodeFragment, r0, r1, r2, r3, r4, lv_own, putRow, he, FR.v, mkFR]
    · have he' : (rEnd s a3 e3 != 0) = true := by simpa using he
      simp -implicitDefEqProofs [x_encoding_DecodeFragment, r0, r1, r2, r3, r4, lv_own, putRow, he, he', addParts, FR.z_v]
theorem D_Trace (h : H) {s : ByteArray} (hs : s.size ≤ 10000000000000) : run XP i_encoding_DecodeTrace [vs s] h = some (.tup [(dTrace s).1.v, vi (dTrace s).2], h) := by
  have r0 := R_New (s := s) (h := h ++ [.box false [vi 0, vi 0, vnil]])
  have hset : ∀ X Y : O, ((h ++ [.box false [vi 0, vi 0, vnil], .dead, .dead, .arr false 1 (ptrs (h.length + 2) 0 2)] : H).set (h.length + 1) X).set (h.length + 2) Y = h ++ [.box false [vi 0, vi 0, vnil], X, Y, .arr false 1 (ptrs (h.length + 2) 0 2)] := fun X Y => by
    rw [set_app, set_app]
    rfl
  have r1 := R_numbers (s := s) (h ++ [.box false [vi 0, vi 0, vnil], .dead, .dead, .arr false 1 (ptrs (h.length + 2) 0 2)]) (h.length + 1) (h.length + 2) (h.length + 3) 2 0 (by simp) (by simp) (by omega) (by omega) (by omega) (by rw [at_app]; rfl) (by decide) hs (a := 0) (e := 0) (cs := [vi 0, vi 0, vnil]) (by omega) (by intro c hc; simp at hc; rcases hc with rfl | rfl <;> exact Eq.trans rfl rfl) (by simp)
  rw [hset, hset] at r1
  have hn := rNums_length (s := s) 2 0 0
  have b0 := rNums_le (s := s) 2 0 0 (by omega)
  unfold dTrace
  generalize rNums s 2 0 0 = q at r1 hn b0 ⊢
  obtain ⟨ns, a1, e1⟩ := q
  have e0 : ((0 : Nat) : Int) = 0 := rfl
  simp only [e0] at r1 hn b0 ⊢
  match ns, hn with
  | [n0, n1], _ =>
    simp only [ptrs, List.map_cons, List.map_nil, putRow, List.set_cons_zero, List.set_cons_succ, Nat.zero_add] at r1
    have r2 := R_elemsSP (h := h ++ [.box false [vi 0, vi 0, vnil], .dead, .box false [vi n0, vi n1, vnil], .arr false 1 [.ptr (h.length + 2) 0, .ptr (h.length + 2) 1]]) (l := h.length + 1) (s := s) (a := a1) (e := e1) (by simp) hs b0
    generalize rElems rSpan s a1 e1 = q at r2 ⊢
    obtain ⟨us, a2, e2⟩ := q
    simp only [catn] at r2 ⊢
    have r4 := R_End (h := h ++ [.box false [vi 0, vi 0, vnil], .box false [vs s, vi a2, vi e2], .box false [vi n0, vi n1, lv 14 (slc SP.v us us.isEmpty)], .arr false 1 [.ptr (h.length + 2) 0, .ptr (h.length + 2) 1]]) (l := h.length + 1) (s := s) (a := a2) (e := e2) (by rw [at_app]; rfl)
    simp only [List.append_assoc, List.cons_append, List.nil_append] at r0
    rw [run_eq, xp_encoding_DecodeTrace]
    by_cases he : rEnd s a2 e2 = 0
    · rw [he] at r4
      simp -implicitDefEqProofs [x_encoding_DecodeTrace, r0, r1, r2, r4, lv_own, putRow, he, TC.v, mkTC]
    · have he' : (rEnd s a2 e2 != 0) = true := by simpa using he
      simp -implicitDefEqProofs [x_encoding_DecodeTrace, r0, r1, r2, r4, lv_own, putRow, he, he', addParts, TC.z_v]
end Go.Proofs.Sl

/- EncodingFragments, of the evaluator. -/
namespace Go.Proofs.Sl

theorem Fragment_l0 (base : Nat) (h : H) (cells : List V) (es : List EX) (hok : ∀ e ∈ es, e.Ok) (hlen : es.length ≤ 1000) (o : Option (List V)) (ho : o.getD [] = es.map EX.v) (hf : cells[3]? = some (lv 5 o)) {β : Type} {f : Ex × St → Option β} {b : Option β} {B : Body}
    (hB : B = xcode (run XP) loopW base x_sleuthref01_Fragment_l0) : ∀ (r : List EX) (k : Nat) (acc : List UInt8) (s : Sl), es.drop k = r → s 1 = .ptr h.length 0 → s 3 = tx acc → s 4 = vi k → acc.length + 45 * r.length ≤ 100000000000000 →
    (∀ s' : Sl, s' 3 = tx (acc ++ r.flatMap EX.f) → s' 1 = .ptr h.length 0 → f (.exit 0, ⟨s', h ++ [.box false cells]⟩) = b) → ob (loopW B ⟨s, h ++ [.box false cells]⟩) f = b := by
  have step : ∀ st, B st = xcode (run XP) loopW base x_sleuthref01_Fragment_l0 st := fun st => by rw [hB]
  have hcl : 3 < cells.length := (List.getElem?_eq_some_iff.1 hf).1
  have hfe : ∀ hh, cells[3]'hh = lv 5 o := fun hh => by
    rw [List.getElem?_eq_getElem hh] at hf
    exact Option.some.inj hf
  have hol : (o.getD []).length = es.length := by rw [ho]; simp
  intro r
  induction r with
  | nil =>
    intro k acc s hd h1 h3 h4 hs kk
    have hk : es.length ≤ k := by simpa using hd
    have hlt : ¬ (k < es.length) := by omega
    rw [loopW_cps]
    simp -implicitDefEqProofs [step, x_sleuthref01_Fragment_l0, h1, h4, hfe, hcl, hol, hlt]
    exact kk _ (by simp [h3]) (by simp [h1])
  | cons e r ih =>
    intro k acc s hd h1 h3 h4 hs kk
    have hk : k < es.length := by
      by_cases hk : k < es.length
      · exact hk
      · rw [List.drop_of_length_le (by omega)] at hd; cases hd
    have hg : es[k]? = some e := by
      have := congrArg (·[0]?) hd
      simpa using this
    have hd' : es.drop (k + 1) = r := by
      have := congrArg List.tail hd
      simpa using this
    have hr := hok e (List.mem_of_getElem? hg)
    have hle := EX.le hr
    obtain ⟨vs', hlv, hat⟩ := lv_at (k := 5) (o := o) (i := k) (e := e.v) (by rw [ho]; simp [hg])
    have hvl : vs'.length = es.length := by
      rw [← hol]
      cases o with
      | none => simp [lv] at hlv
      | some x => simp [lv] at hlv; rw [hlv]; rfl
    rw [List.length_cons] at hs
    have hkv : k < vs'.length := by omega
    have hate : ∀ hh, vs'[k]'hh = e.v := fun hh => by
      rw [List.getElem?_eq_getElem hh] at hat
      exact Option.some.inj hat
    have hone := fun h => ref_exchange h hr
    have hadd := add_tx (a := acc) (b := e.f) (by omega)
    simp only [EX.v] at hate hone
    rw [loopW_cps]
    simp -implicitDefEqProofs [step, x_sleuthref01_Fragment_l0, h1, h3, h4, hfe, hcl, hlv, hvl, hk, hate, hone, hadd, tx_plain]
    refine ih (k + 1) (acc ++ e.f) _ hd' ?_ ?_ ?_ ?_ fun s' e3 e1 => ?_
    · simp [h1]
    · simp
    · simp only [upd_same]
      rw [wrap_i64 (by omega) (by omega)]
      simp
    · simp
      omega
    · exact kk s' (by rw [e3]; simp) e1

theorem spans_l0 (base : Nat) (h : H) (es : List SP) (hok : ∀ e ∈ es, e.Ok) (hlen : es.length ≤ 1000) (o : Option (List V)) (ho : o.getD [] = es.map SP.v) {β : Type} {f : Ex × St → Option β} {b : Option β} {B : Body}
    (hB : B = xcode (run XP) loopW base x_sleuthref01_Spans_l0) : ∀ (r : List SP) (k : Nat) (acc : List UInt8) (s : Sl), es.drop k = r → s 0 = lv 14 o → s 3 = tx acc → s 4 = vi k → acc.length + 13000000 * r.length ≤ 100000000000000 →
    (∀ s' : Sl, s' 3 = tx (acc ++ r.flatMap SP.f) → f (.exit 0, ⟨s', h⟩) = b) → ob (loopW B ⟨s, h⟩) f = b := by
  have step : ∀ st, B st = xcode (run XP) loopW base x_sleuthref01_Spans_l0 st := fun st => by rw [hB]
  have hol : (o.getD []).length = es.length := by rw [ho]; simp
  intro r
  induction r with
  | nil =>
    intro k acc s hd h1 h3 h4 hs kk
    have hk : es.length ≤ k := by simpa using hd
    have hlt : ¬ (k < es.length) := by omega
    rw [loopW_cps]
    simp -implicitDefEqProofs [step, x_sleuthref01_Spans_l0, h1, h4, hol, hlt]
    exact kk _ (by simp [h3])
  | cons e r ih =>
    intro k acc s hd h1 h3 h4 hs kk
    have hk : k < es.length := by
      by_cases hk : k < es.length
      · exact hk
      · rw [List.drop_of_length_le (by omega)] at hd; cases hd
    have hg : es[k]? = some e := by
      have := congrArg (·[0]?) hd
      simpa using this
    have hd' : es.drop (k + 1) = r := by
      have := congrArg List.tail hd
      simpa using this
    have hr := hok e (List.mem_of_getElem? hg)
    have hle := SP.le hr
    obtain ⟨vs', hlv, hat⟩ := lv_at (k := 14) (o := o) (i := k) (e := e.v) (by rw [ho]; simp [hg])
    have hvl : vs'.length = es.length := by
      rw [← hol]
      cases o with
      | none => simp [lv] at hlv
      | some x => simp [lv] at hlv; rw [hlv]; rfl
    rw [List.length_cons] at hs
    have hkv : k < vs'.length := by omega
    have hate : ∀ hh, vs'[k]'hh = e.v := fun hh => by
      rw [List.getElem?_eq_getElem hh] at hat
      exact Option.some.inj hat
    have hone := fun h => ref_span h hr
    have hadd := add_tx (a := acc) (b := e.f) (by omega)
    simp only [SP.v] at hate hone
    rw [loopW_cps]
    simp -implicitDefEqProofs [step, x_sleuthref01_Spans_l0, h1, h3, h4, hlv, hvl, hk, hate, hone, hadd]
    refine ih (k + 1) (acc ++ e.f) _ hd' ?_ ?_ ?_ ?_ fun s' e3 => ?_
    · simp [h1, hlv]
    · simp
    · simp only [upd_same]
      rw [wrap_i64 (by omega) (by omega)]
      simp
    · simp
      omega
    · exact kk s' (by rw [e3]; simp)
theorem ref_spans (h : H) {es : List SP} (hok : ∀ e ∈ es, e.Ok) (hlen : es.length ≤ 1000) {o : Option (List V)} (ho : o.getD [] = es.map SP.v) : run XP i_sleuthref01_Spans [lv 14 o] h = some (tx (fList SP.f es), h) := by
  have hol : (o.getD []).length = es.length := by rw [ho]; simp
  have hr := rng_nat (n := es.length) (by omega)
  have h1 := ref_num h hr
  have h2 := fNum_le hr
  rw [run_eq, xp_sleuthref01_Spans]
  simp -implicitDefEqProofs [x_sleuthref01_Spans, hol, h1]
  refine spans_l0 _ h es hok hlen o ho rfl es 0 (fNum es.length) _ rfl ?_ ?_ ?_ (by omega) fun s' e3 => ?_
  · simp
  · simp
  · simp
  · simp -implicitDefEqProofs [e3, fList]
theorem ref_trace (h : H) {a : TC} (ha : a.Ok) : run XP i_sleuthref01_Trace [a.v] h = some (tx a.f, h) := by
  have e1 := fNum_le ha.id
  have e2 := fNum_le ha.wt
  have e3 := fSpans_le ha.sps ha.sl
  have h1 := fun h => ref_num h ha.id
  have h2 := fun h => ref_num h ha.wt
  have h3 := fun h => ref_spans h ha.sps ha.sl (slc_getD ha.sn)
  have a0 := add_tx (a := fNum a.id) (b := fNum a.wt) (by omega)
  have a1 := add_tx (a := fNum a.id ++ fNum a.wt) (b := fList SP.f a.sps) (by simp; omega)
  rw [run_eq, xp_sleuthref01_Trace]
  simp -implicitDefEqProofs [x_sleuthref01_Trace, TC.v, h1, h2, h3, a0, a1, TC.f, fNums, noOwn]
theorem ref_fragment (h : H) {a : FR} (ha : a.Ok) : run XP i_sleuthref01_Fragment [a.v] h = some (tx a.f, h) := by
  have e1 := fNum_le ha.ag
  have e2 := fNum_le ha.sq
  have e3 := fSpans_le ha.sps ha.sl
  have q1 := rng_nat (n := a.exs.length) (by have := ha.xl; omega)
  have e4 := fNum_le q1
  have h1 := fun h => ref_num h ha.ag
  have h2 := fun h => ref_num h ha.sq
  have h3 := fun h => ref_spans h ha.sps ha.sl (slc_getD ha.sn)
  have h4 := fun h => ref_num h q1
  have o1 := slc_getD (v := EX.v) ha.xn
  have m1 : ((slc EX.v a.exs a.xn).getD []).length = a.exs.length := by rw [o1]; simp
  have a0 := add_tx (a := fNum a.ag) (b := fNum a.sq) (by omega)
  have a1 := add_tx (a := fNum a.ag ++ fNum a.sq) (b := fList SP.f a.sps) (by simp; omega)
  simp only [List.append_assoc] at a1
  obtain ⟨A, hA⟩ : ∃ A, A = fNum a.ag ++ (fNum a.sq ++ fList SP.f a.sps) := ⟨_, rfl⟩
  have lA : A.length ≤ 13000002000 := by rw [hA]; simp; omega
  rw [← hA] at a1
  have a2 := add_tx (a := A) (b := fNum a.exs.length) (by omega)
  rw [run_eq, xp_sleuthref01_Fragment]
  simp -implicitDefEqProofs [x_sleuthref01_Fragment, FR.v, h1, h2, h3, a0, a1, m1, h4, a2, noOwn]
  refine Fragment_l0 _ h _ a.exs ha.exs ha.xl (slc EX.v a.exs a.xn) o1 rfl rfl a.exs 0 (A ++ fNum a.exs.length) _ rfl ?_ ?_ ?_ ?_ fun s1 p3 p1 => ?_
  · simp
  · simp
  · simp
  · have := ha.xl
    simp
    omega
  simp -implicitDefEqProofs [p3, hA, FR.f, fNums, fList]

/-! ### Read again -/
def FR.nrm (v : FR) : FR := ⟨v.ag, v.sq, v.sps.map SP.nrm, v.exs, v.sps.isEmpty, v.exs.isEmpty⟩
def TC.nrm (v : TC) : TC := ⟨v.id, v.wt, v.sps.map SP.nrm, v.sps.isEmpty⟩
theorem flat_nrm (l : List SP) : fList SP.f (l.map SP.nrm) = fList SP.f l := by
  simp only [fList, List.length_map]
  congr 1
  induction l with
  | nil => rfl
  | cons x l ih => simp only [List.map_cons, List.flatMap_cons, ih, SP.nrm_f]
theorem FR.nrm_f (v : FR) : v.nrm.f = v.f := by simp only [FR.nrm, FR.f, flat_nrm]
theorem TC.nrm_f (v : TC) : v.nrm.f = v.f := by simp only [TC.nrm, TC.f, flat_nrm]
theorem nrms_ok {l : List SP} (h : ∀ e ∈ l, e.Ok) : ∀ e ∈ l.map SP.nrm, e.Ok := by
  intro e he
  obtain ⟨x, hx, rfl⟩ := List.mem_map.1 he
  exact SP.nrm_ok (h x hx)
theorem FR.nrm_ok {v : FR} (h : v.Ok) : v.nrm.Ok := ⟨h.ag, h.sq, nrms_ok h.sps, h.exs, by simpa [FR.nrm] using h.sl, h.xl, fun e => by simpa [FR.nrm] using e, fun e => by simpa [FR.nrm] using e⟩
theorem TC.nrm_ok {v : TC} (h : v.Ok) : v.nrm.Ok := ⟨h.id, h.wt, nrms_ok h.sps, by simpa [TC.nrm] using h.sl, fun e => by simpa [TC.nrm] using e⟩
theorem FR.f_form {s : ByteArray} {v : FR} {rest : List UInt8} (hv : v.Ok) (ht : ∀ e ∈ v.sps, e.Fit) (h : bts s = v.f ++ rest) :
    rNums s 2 0 0 = ([v.ag, v.sq], (fNums [v.ag, v.sq]).length, 0) ∧ rElems rSpan s (fNums [v.ag, v.sq]).length 0 = (v.sps.map SP.nrm, (fNums [v.ag, v.sq]).length + (fList SP.f v.sps).length, 0) ∧
      rElems rEx s ((fNums [v.ag, v.sq]).length + (fList SP.f v.sps).length) 0 = (v.exs, v.f.length, 0) := by
  have h0 : (bts s).drop 0 = fNums [v.ag, v.sq] ++ (fList SP.f v.sps ++ (fList EX.f v.exs ++ rest)) := by rw [List.drop_zero, h]; simp [FR.f]
  have h1 := fNums_form [v.ag, v.sq] 0 (by simp [hv.ag, hv.sq]) h0
  have h2' := drop_next h0
  rw [Nat.zero_add] at h1 h2'
  have h2 := fList_form (g := SP.nrm) (one := rSpan) SP.f_ne (by have := hv.sl; omega) (fun x hx a rest e => SP.f_form (hv.sps x hx) (ht x hx) e) h2'
  have h3 := fList_form (g := fun x => x) (one := rEx) EX.f_ne (by have := hv.xl; omega) (fun x hx a rest e => EX.f_form (hv.exs x hx) e) (drop_next h2')
  simp only [List.map_id'] at h3
  refine ⟨h1, h2, ?_⟩
  rw [h3]
  simp [FR.f, Nat.add_assoc]
theorem dFrag_form {v : FR} (hv : v.Ok) (ht : ∀ e ∈ v.sps, e.Fit) : dFrag ⟨v.f.toArray⟩ = (v.nrm, 0) := by
  obtain ⟨h1, h2, h3⟩ := FR.f_form (s := ⟨v.f.toArray⟩) (rest := []) hv ht (by rw [bts_ofList]; simp)
  unfold dFrag
  rw [h1]
  simp only
  rw [h2]
  simp only
  rw [h3]
  simp [rEnd, size_ofList, mkFR, FR.nrm]
theorem dTrace_form {v : TC} (hv : v.Ok) (ht : ∀ e ∈ v.sps, e.Fit) : dTrace ⟨v.f.toArray⟩ = (v.nrm, 0) := by
  have h0 : (bts ⟨v.f.toArray⟩).drop 0 = fNums [v.id, v.wt] ++ (fList SP.f v.sps ++ []) := by rw [List.drop_zero, bts_ofList]; simp [TC.f]
  have h1 := fNums_form [v.id, v.wt] 0 (by simp [hv.id, hv.wt]) h0
  have h2' := drop_next h0
  have h2 := fList_form (g := SP.nrm) (one := rSpan) SP.f_ne (by have := hv.sl; omega) (fun x hx a rest e => SP.f_form (hv.sps x hx) (ht x hx) e) h2'
  rw [Nat.zero_add] at h1 h2
  have h1 : rNums _ 2 0 0 = _ := h1
  unfold dTrace
  rw [h1]
  simp only
  rw [h2]
  simp [rEnd, size_ofList, mkTC, TC.nrm, TC.f]

structure FR.Pre (a : FR) : Prop where
  ag : Rng a.ag
  sq : Rng a.sq
  sps : ∀ e ∈ a.sps, e.Pre
  exs : ∀ e ∈ a.exs, e.Ok
  sl : a.sps.length ≤ 9223372036854775807
  xl : a.exs.length ≤ 9223372036854775807
  sn : a.sn = true → a.sps = []
  xn : a.xn = true → a.exs = []
def FR.isShort (v : FR) : Bool := (v.sps.all SP.isShort && decide ((v.sps.length : Int) ≤ 4)) && !decide (8 < (v.exs.length : Int))
theorem FR.Pre.ok {v : FR} (h : v.Pre) (hs : v.isShort = true) : v.Ok := by
  simp [FR.isShort] at hs
  obtain ⟨⟨h1, h2⟩, h3⟩ := hs
  exact ⟨h.ag, h.sq, fun e he => (h.sps e he).ok (h1 e he), h.exs, by omega, by omega, h.sn, h.xn⟩
theorem FR.Pre.fit {v : FR} (hs : v.isShort = true) : ∀ e ∈ v.sps, e.Fit := by
  simp [FR.isShort] at hs
  exact fun e he => SP.short_fit (hs.1.1 e he)
theorem FR.le {v : FR} (h : v.Ok) : v.f.length ≤ 13000100000 := by
  have e1 := fNums_le (ns := [v.ag, v.sq]) (by simp [h.ag, h.sq])
  have e3 := fSpans_le h.sps h.sl
  have e4 := fNum_le (rng_nat (n := v.exs.length) (by have := h.xl; omega))
  have e5 := flatMap_le (f := EX.f) (l := v.exs) fun x hx => EX.le (h.exs x hx)
  have e6 := h.xl
  simp only [List.length_cons, List.length_nil] at e1
  simp only [FR.f, List.length_append]
  have e7 : (fList EX.f v.exs).length = (fNum v.exs.length).length + (v.exs.flatMap EX.f).length := by simp only [fList, List.length_append]
  omega
/-- EncodingFragments, of the evaluator. -/
theorem fragments_law {v : FR} (hv : v.Pre) {id wt : Int} (hid : Rng id) (hwt : Rng wt) : run XP i_sleuthlaw01_EncodingFragments [v.v, vi id, vi wt] [] = some (vb true, []) := by
  have hk := known_ok [.box false [vi v.ag, vi v.sq, lv 14 (slc SP.v v.sps v.sn), lv 5 (slc EX.v v.exs v.xn)]]
  have hs := shorts_ok [.box false [vi v.ag, vi v.sq, lv 14 (slc SP.v v.sps v.sn), lv 5 (slc EX.v v.exs v.xn)]] hv.sps hv.sl (slc_getD hv.sn)
  have o1 := slc_getD (v := EX.v) hv.xn
  have m1 : ((slc EX.v v.exs v.xn).getD []).length = v.exs.length := by rw [o1]; simp
  rw [run_eq, xp_sleuthlaw01_EncodingFragments]
  cases hb : (v.sps.all SP.isShort && decide ((v.sps.length : Int) ≤ 4)) with
  | false =>
    rw [hb] at hs
    simp -implicitDefEqProofs [x_sleuthlaw01_EncodingFragments, FR.v, noOwn, hk, hs]
  | true =>
    rw [hb] at hs
    by_cases h8 : (8 : Int) < (v.exs.length : Int)
    · simp -implicitDefEqProofs [x_sleuthlaw01_EncodingFragments, FR.v, noOwn, hk, hs, m1, h8]
    · have hsh : v.isShort = true := by simp only [FR.isShort, hb, h8, decide_false]; rfl
      have ho := hv.ok hsh
      have hf := FR.Pre.fit hsh
      obtain ⟨T, hT⟩ : ∃ T : TC, T = ⟨id, wt, v.sps, v.sn⟩ := ⟨_, rfl⟩
      have hTo : T.Ok := by rw [hT]; exact ⟨hid, hwt, ho.sps, ho.sl, ho.sn⟩
      have hTf : ∀ e ∈ T.sps, e.Fit := by rw [hT]; exact hf
      have hTv : T.v = .agg [vi id, vi wt, lv 14 (slc SP.v v.sps v.sn)] := by rw [hT]; rfl
      have g1 := fun h => E_Fragment h ho
      have g2 := fun h => E_Trace h hTo
      have g3 := fun h => D_Fragment h (s := ⟨v.f.toArray⟩) (by rw [size_ofList]; have := FR.le ho; omega)
      have lT : T.f.length ≤ 13000100000 := by
        have e1 := fNums_le (ns := [T.id, T.wt]) (by simp [hTo.id, hTo.wt])
        have e3 := fSpans_le hTo.sps hTo.sl
        simp only [List.length_cons, List.length_nil] at e1
        simp only [TC.f, List.length_append]
        omega
      have g4 := fun h => D_Trace h (s := ⟨T.f.toArray⟩) (by rw [size_ofList]; omega)
      rw [dFrag_form ho hf] at g3
      rw [dTrace_form hTo hTf] at g4
      have t1 : vs ⟨v.f.toArray⟩ = tx v.f := rfl
      have t2 : vs ⟨T.f.toArray⟩ = tx T.f := rfl
      rw [t1] at g3
      rw [t2] at g4
      have g5 := fun h => ref_fragment h ho
      have g6 := fun h => ref_trace h hTo
      have g7 := fun h => ref_fragment h (FR.nrm_ok ho)
      have g8 := fun h => ref_trace h (TC.nrm_ok hTo)
      rw [FR.nrm_f] at g7
      rw [TC.nrm_f] at g8
      rw [hTv] at g2 g6
      simp only [FR.v, TC.v] at g1 g3 g4 g5 g7 g8
      simp -implicitDefEqProofs [x_sleuthlaw01_EncodingFragments, FR.v, noOwn, hk, hs, m1, h8, g1, g2, g3, g4, g5, g6, g7, g8, putRow, addParts]
end Go.Proofs.Sl

/- What is read of a proper beginning of a form is too short. -/
namespace Go.Proofs.Sl
/-- y is a proper beginning of x. -/
def Beg (y x : List UInt8) : Prop := ∃ z, z ≠ [] ∧ x = y ++ z
theorem Beg.split {y u w : List UInt8} (h : Beg y (u ++ w)) : Beg y u ∨ ∃ y', y = u ++ y' ∧ Beg y' w := by
  obtain ⟨z, hz, e⟩ := h
  rcases List.append_eq_append_iff.1 e with ⟨a, h1, h2⟩ | ⟨c, h1, h2⟩
  · exact .inr ⟨a, h1, z, hz, h2⟩
  · by_cases hc : c = []
    · subst hc
      rw [List.append_nil] at h1
      rw [List.nil_append] at h2
      exact .inr ⟨[], by rw [h1, List.append_nil], w, by rw [← h2]; exact hz, rfl⟩
    · exact .inl ⟨c, hc, h1⟩
theorem Beg.lt {y x : List UInt8} (h : Beg y x) : y.length < x.length := by
  obtain ⟨z, hz, rfl⟩ := h
  have := List.length_pos_iff.2 hz
  rw [List.length_append]
  omega
theorem Beg.nil {y : List UInt8} (h : Beg y []) : False := by
  have := h.lt
  simp at this
section
variable {s : ByteArray} {a : Nat} {y : List UInt8}
theorem fNum_beg {n : Int} (hn : Rng n) (h : (bts s).drop a = y) (hb : Beg y (fNum n)) : (rn s a).2.2 = 4 := by
  have hbl := hn.blen
  have hlt := hb.lt
  rw [fNum_length] at hlt
  obtain ⟨z, hz, e⟩ := hb
  unfold rn
  rw [h]
  cases y with
  | nil => rfl
  | cons c r =>
    have hc : c = (if n < 0 then UInt8.ofNat (128 - blen n.natAbs) else UInt8.ofNat (128 + blen n.natAbs)) := by
      unfold fNum at e
      rw [List.cons_append] at e
      injection e with e _
      exact e.symm
    simp only [List.length_cons] at hlt
    simp only
    by_cases hneg : n < 0
    · rw [if_pos hneg] at hc
      have hpos : 0 < blen n.natAbs := by rw [blen_pos (by omega)]; omega
      have hcn : c.toNat = 128 - blen n.natAbs := by rw [hc]; simp; omega
      have h1 : c.toNat < 128 := by omega
      have h2 : 128 - c.toNat = blen n.natAbs := by omega
      rw [if_pos h1, h2, if_neg (by omega), if_pos (by omega)]
    · rw [if_neg hneg] at hc
      have hcn : c.toNat = 128 + blen n.natAbs := by rw [hc]; simp; omega
      have h1 : ¬ c.toNat < 128 := by omega
      have h2 : c.toNat - 128 = blen n.natAbs := by omega
      rw [if_neg h1, h2, if_neg (by omega), if_pos (by omega)]
theorem rNum_st {e : Int} (he : e ≠ 0) : rNum s a e = (0, a, e) := by unfold rNum; rw [if_pos he]
theorem rSz_st {e most more : Int} (he : e ≠ 0) : rSz s a e most more = (0, a, e) := by unfold rSz; rw [if_pos he]
theorem rText_st {e most : Int} (he : e ≠ 0) : (rText s a e most).2.2 = e := by unfold rText; rw [rSz_st he]
theorem rBool_st {e : Int} (he : e ≠ 0) : (rBool s a e).2.2 = e := by unfold rBool; rw [if_pos he]
theorem rNums_st : ∀ (n a : Nat) (e : Int), e ≠ 0 → (rNums s n a e).2.2 = e
  | 0, a, e, _ => rfl
  | n + 1, a, e, he => by
    rw [rNums, rNum_st he]
    exact rNums_st n a e he
theorem rElems_st {α : Type} {one : ByteArray → Nat → Int → α × Nat × Int} {e : Int} (he : e ≠ 0) : (rElems one s a e).2.2 = e := by
  unfold rElems
  rw [rSz_st he]
  rfl
theorem rNum_beg {n : Int} (hn : Rng n) (h : (bts s).drop a = y) (hb : Beg y (fNum n)) : (rNum s a 0).2.2 = 4 := by
  have := fNum_beg hn h hb
  unfold rNum
  rw [if_neg (by simp), if_pos (by rw [this]; decide)]
  exact this
theorem rNums_beg : ∀ (ns : List Int) (a : Nat) (y : List UInt8), (∀ n ∈ ns, Rng n) → (bts s).drop a = y → Beg y (fNums ns) → (rNums s ns.length a 0).2.2 = 4
  | [], a, y, _, _, hb => hb.nil.elim
  | n :: ns, a, y, hr, h, hb => by
    have hsp := Beg.split hb
    clear hb
    rcases hsp with hb | ⟨y', rfl, hb⟩
    · have h1 := rNum_beg (hr n (by simp)) h hb
      rw [List.length_cons, rNums]
      simp only
      rw [h1]
      exact rNums_st _ _ _ (by decide)
    · have h1 := rNum_form (hr n (by simp)) h
      rw [List.length_cons, rNums, h1]
      exact rNums_beg ns _ y' (fun m hm => hr m (List.mem_cons_of_mem _ hm)) (drop_next h) hb
/-- A number of bytes or elements, of which there are too few. -/
theorem rSz_few {n : Nat} {most more : Int} (hn : n ≤ 1000000000000) (hm : (n : Int) ≤ most) (h : (bts s).drop a = fNum n ++ y) (hl : y.length < n) : rSz s a 0 most more = (0, a, 4) := by
  have h1 := rn_form (rng_nat (by omega)) h
  have h2 := drop_size h (drop_le h (by simp [fNum_ne]))
  rw [List.length_append] at h2
  have hz : szE s a most more = 4 := by
    unfold szE
    rw [h1]
    simp only
    rw [if_neg (by simp), if_neg (by omega), if_neg (by omega), if_pos (by omega)]
  unfold rSz
  rw [if_neg (by simp), hz]
  rfl
theorem rSz_beg {n : Nat} {most more : Int} (hn : n ≤ 1000000000000) (h : (bts s).drop a = y) (hb : Beg y (fNum n)) : rSz s a 0 most more = (0, a, 4) := by
  have h1 := fNum_beg (rng_nat (by omega)) h hb
  have hz : szE s a most more = 4 := by
    unfold szE
    rw [if_pos (by rw [h1]; decide), h1]
  unfold rSz
  rw [if_neg (by simp), hz]
  rfl
theorem rText_beg {t : ByteArray} (ht : t.size ≤ 4096) (h : (bts s).drop a = y) (hb : Beg y (fText t)) : (rText s a 0 4096).2.2 = 4 := by
  unfold rText
  have hsp := Beg.split hb
  clear hb
  rcases hsp with hb | ⟨y', rfl, hb⟩
  · rw [rSz_beg (by omega) h hb]
  · have := hb.lt
    rw [bts_length] at this
    rw [rSz_few (by omega) (by omega) h this]
theorem rBool_beg {b : Bool} (h : (bts s).drop a = y) (hb : Beg y (fBool b)) : (rBool s a 0).2.2 = 4 := by
  have h1 := fNum_beg (n := if b = true then 1 else 0) (by cases b <;> exact ⟨by decide, by decide⟩) h hb
  unfold rBool
  rw [if_neg (by simp), if_pos (by rw [h1]; decide), h1]
theorem rLoop_beg {α β : Type} {f : α → List UInt8} {g : α → β} {one : ByteArray → Nat → Int → β × Nat × Int} : ∀ (l : List α) (a : Nat) (y : List UInt8), (∀ x ∈ l, ∀ (a : Nat) (rest : List UInt8), (bts s).drop a = f x ++ rest → one s a 0 = (g x, a + (f x).length, 0)) →
    (∀ x ∈ l, ∀ (a : Nat) (y : List UInt8), (bts s).drop a = y → Beg y (f x) → (one s a 0).2.2 = 4) → (bts s).drop a = y → Beg y (l.flatMap f) → (rLoop one s l.length a 0).2.2 = 4
  | [], a, y, _, _, _, hb => hb.nil.elim
  | x :: l, a, y, hf, hg, h, hb => by
    rw [List.flatMap_cons] at hb
    have hsp := Beg.split hb
    clear hb
    rcases hsp with hb | ⟨y', rfl, hb⟩
    · have h1 := hg x (by simp) a y h hb
      rw [List.length_cons, rLoop, if_pos (by rw [h1]; decide)]
      exact h1
    · have h1 := hf x (by simp) a _ h
      have h2 := rLoop_beg l _ y' (fun x hx => hf x (List.mem_cons_of_mem _ hx)) (fun x hx => hg x (List.mem_cons_of_mem _ hx)) (drop_next h) hb
      rw [List.length_cons, rLoop, h1]
      simp only
      rw [if_neg (by simp), if_pos (by rw [h2]; decide)]
      exact h2
theorem rElems_beg {α β : Type} {f : α → List UInt8} {g : α → β} {one : ByteArray → Nat → Int → β × Nat × Int} {l : List α} (hl : l.length ≤ 4096) (hf : ∀ x ∈ l, ∀ (a : Nat) (rest : List UInt8), (bts s).drop a = f x ++ rest → one s a 0 = (g x, a + (f x).length, 0))
    (hg : ∀ x ∈ l, ∀ (a : Nat) (y : List UInt8), (bts s).drop a = y → Beg y (f x) → (one s a 0).2.2 = 4) (h : (bts s).drop a = y) (hb : Beg y (fList f l)) : (rElems one s a 0).2.2 = 4 := by
  unfold rElems
  have hsp := Beg.split hb
  clear hb
  rcases hsp with hb | ⟨y', rfl, hb⟩
  · rw [rSz_beg (by omega) h hb]
    rfl
  · by_cases hy : y'.length < l.length
    · rw [rSz_few (by omega) (by omega) h hy]
      rfl
    · rw [fSz_form (by omega) (by omega) h (by omega)]
      exact rLoop_beg l _ y' hf hg (drop_next h) hb
theorem AV.f_beg {v : AV} (hv : v.Ok) (ht : v.t.size ≤ 4096) (h : (bts s).drop a = y) (hb : Beg y v.f) : (rValue s a 0).2.2 = 4 := by
  unfold rValue
  simp only
  have hsp := Beg.split hb
  clear hb
  rcases hsp with hb | ⟨y', rfl, hb⟩
  · rw [rNum_beg hv.k h hb, rNum_st (by rw [rText_st (by decide)]; decide)]
    exact rText_st (by decide)
  · rw [rNum_form hv.k h]
    simp only
    have hsp := Beg.split hb
    clear hb
    rcases hsp with hb | ⟨y'', rfl, hb⟩
    · rw [rNum_st (by rw [rText_beg ht (drop_next h) hb]; decide)]
      exact rText_beg ht (drop_next h) hb
    · rw [fText_form ht (drop_next h)]
      simp only
      exact rNum_beg hv.n (drop_next (drop_next h)) hb
theorem rValue_st {e : Int} (he : e ≠ 0) : (rValue s a e).2.2 = e := by
  unfold rValue
  simp only
  rw [rNum_st he]
  simp only
  rw [rNum_st (by rw [rText_st he]; exact he)]
  exact rText_st he
theorem AT.f_beg {v : AT} (hv : v.Ok) (ht : v.Fit) (h : (bts s).drop a = y) (hb : Beg y v.f) : (rAttr s a 0).2.2 = 4 := by
  unfold rAttr
  simp only
  have hsp := Beg.split hb
  clear hb
  rcases hsp with hb | ⟨y', rfl, hb⟩
  · rw [rText_beg ht.1 h hb]
    exact rValue_st (by decide)
  · rw [fText_form ht.1 h]
    exact AV.f_beg hv.val ht.2 (drop_next h) hb
theorem RF.f_beg {v : RF} (hv : v.Ok) (h : (bts s).drop a = y) (hb : Beg y v.f) : (rRef s a 0).2.2 = 4 := by
  have := rNums_beg [v.t, v.i] a y (by simp [hv.t, hv.i]) h hb
  exact this
theorem EX.f_beg {v : EX} (hv : v.Ok) (h : (bts s).drop a = y) (hb : Beg y v.f) : (rEx s a 0).2.2 = 4 :=
  rNums_beg [v.fr, v.to, v.sent, v.rcv, v.least] a y (by simp [hv.fr, hv.to, hv.sent, hv.rcv, hv.least]) h hb
theorem SP.f_beg {v : SP} (hv : v.Ok) (ht : v.Fit) (h : (bts s).drop a = y) (hb : Beg y v.f) : (rSpan s a 0).2.2 = 4 := by
  have hn := hv.n
  have r6 : ∀ n ∈ [v.tr, v.id, v.par, v.rev, v.clk, v.kind], Rng n := fun n hm => hn n (by simp at hm ⊢; omega)
  have r2 : ∀ n ∈ [v.st, v.en], Rng n := fun n hm => hn n (by simp at hm ⊢; omega)
  have d4 : (4 : Int) ≠ 0 := by decide
  -- from an error on all is as it is
  have s7 : ∀ (a : Nat) (e : Int), e ≠ 0 → (rElems rRef s a e).2.2 = e := fun a e he => rElems_st he
  have s6 : ∀ (a : Nat) (e : Int), e ≠ 0 → (rElems rRef s (rElems rAttr s a e).2.1 (rElems rAttr s a e).2.2).2.2 = e := fun a e he => by
    rw [rElems_st he]
    exact s7 _ _ he
  have s5 : ∀ (a : Nat) (e : Int), e ≠ 0 → (let b := rBool s a e; let u := rElems rAttr s b.2.1 b.2.2; rElems rRef s u.2.1 u.2.2).2.2 = e := fun a e he => by
    simp only
    rw [rBool_st he]
    exact s6 _ _ he
  have s4 : ∀ (a : Nat) (e : Int), e ≠ 0 → (let x := rNums s 2 a e; let b := rBool s x.2.1 x.2.2; let u := rElems rAttr s b.2.1 b.2.2; rElems rRef s u.2.1 u.2.2).2.2 = e := fun a e he => by
    simp only
    rw [rNums_st 2 a e he]
    exact s5 _ _ he
  have s3 : ∀ (a : Nat) (e : Int), e ≠ 0 → (let t := rText s a e 4096; let x := rNums s 2 t.2.1 t.2.2; let b := rBool s x.2.1 x.2.2; let u := rElems rAttr s b.2.1 b.2.2; rElems rRef s u.2.1 u.2.2).2.2 = e := fun a e he => by
    simp only
    rw [rText_st he]
    exact s4 _ _ he
  have s2 : ∀ (a : Nat) (e : Int), e ≠ 0 → (let t0 := rText s a e 4096; let t := rText s t0.2.1 t0.2.2 4096; let x := rNums s 2 t.2.1 t.2.2; let b := rBool s x.2.1 x.2.2; let u := rElems rAttr s b.2.1 b.2.2; rElems rRef s u.2.1 u.2.2).2.2 = e := fun a e he => by
    simp only
    rw [rText_st he]
    exact s3 _ _ he
  have s1 : ∀ (a : Nat) (e : Int), e ≠ 0 → (let t9 := rText s a e 4096; let t0 := rText s t9.2.1 t9.2.2 4096; let t := rText s t0.2.1 t0.2.2 4096; let x := rNums s 2 t.2.1 t.2.2; let b := rBool s x.2.1 x.2.2; let u := rElems rAttr s b.2.1 b.2.2; rElems rRef s u.2.1 u.2.2).2.2 = e := fun a e he => by
    simp only
    rw [rText_st he]
    exact s2 _ _ he
  simp only at s5 s4 s3 s2 s1
  unfold rSpan
  simp only
  have hsp := Beg.split hb
  clear hb
  rcases hsp with hb | ⟨y1, rfl, hb⟩
  · have h1 : (rNums s 6 a 0).2.2 = 4 := rNums_beg _ a y r6 h hb
    rw [h1]
    exact s1 _ _ d4
  have h1 : rNums s 6 a 0 = _ := fNums_form _ a r6 h
  replace h := drop_next h
  rw [h1]
  simp only
  have hsp := Beg.split hb
  clear hb
  rcases hsp with hb | ⟨y1, rfl, hb⟩
  · rw [rText_beg ht.sv h hb]
    exact s2 _ _ d4
  rw [fText_form ht.sv h]
  replace h := drop_next h
  simp only
  have hsp := Beg.split hb
  clear hb
  rcases hsp with hb | ⟨y1, rfl, hb⟩
  · rw [rText_beg ht.vr h hb]
    exact s3 _ _ d4
  rw [fText_form ht.vr h]
  replace h := drop_next h
  simp only
  have hsp := Beg.split hb
  clear hb
  rcases hsp with hb | ⟨y1, rfl, hb⟩
  · rw [rText_beg ht.op h hb]
    exact s4 _ _ d4
  rw [fText_form ht.op h]
  replace h := drop_next h
  simp only
  have hsp := Beg.split hb
  clear hb
  rcases hsp with hb | ⟨y1, rfl, hb⟩
  · have h2 : (rNums s 2 _ 0).2.2 = 4 := rNums_beg _ _ _ r2 h hb
    rw [h2]
    exact s5 _ _ d4
  have h2 : rNums s 2 _ 0 = _ := fNums_form _ _ r2 h
  rw [h2]
  replace h := drop_next h
  simp only
  have hsp := Beg.split hb
  clear hb
  rcases hsp with hb | ⟨y1, rfl, hb⟩
  · rw [rBool_beg h hb]
    exact s6 _ _ d4
  rw [fBool_form h]
  replace h := drop_next h
  simp only
  have fa := fun x (hx : x ∈ v.ats) a rest (e : (bts s).drop a = x.f ++ rest) => AT.f_form (hv.ats x hx) (ht.ats x hx) e
  have fr := fun x (hx : x ∈ v.lks) a rest (e : (bts s).drop a = x.f ++ rest) => RF.f_form (hv.lks x hx) e
  have hsp := Beg.split hb
  clear hb
  rcases hsp with hb | ⟨y1, rfl, hb⟩
  · rw [rElems_beg (g := fun x => x) (by have := hv.al; omega) fa (fun x hx a y e hb => AT.f_beg (hv.ats x hx) (ht.ats x hx) e hb) h hb]
    exact s7 _ _ d4
  rw [fList_form (g := fun x => x) (one := rAttr) AT.f_ne (by have := hv.al; omega) fa h]
  replace h := drop_next h
  simp only
  exact rElems_beg (g := fun x => x) (by have := hv.ll; omega) fr (fun x hx a y e hb => RF.f_beg (hv.lks x hx) e hb) h hb
theorem FR.f_beg {v : FR} (hv : v.Ok) (ht : ∀ e ∈ v.sps, e.Fit) (h : bts s = y) (hb : Beg y v.f) : (dFrag s).2 = 4 := by
  have h : (bts s).drop 0 = y := h
  have d4 : (4 : Int) ≠ 0 := by decide
  have r2 : ∀ n ∈ [v.ag, v.sq], Rng n := by simp [hv.ag, hv.sq]
  have en : ∀ a, rEnd s a 4 = 4 := fun a => by simp [rEnd]
  have fs := fun x (hx : x ∈ v.sps) a rest (e : (bts s).drop a = x.f ++ rest) => SP.f_form (hv.sps x hx) (ht x hx) e
  have fe := fun x (hx : x ∈ v.exs) a rest (e : (bts s).drop a = x.f ++ rest) => EX.f_form (hv.exs x hx) e
  unfold dFrag
  simp only
  have hsp := Beg.split hb
  clear hb
  rcases hsp with hb | ⟨y1, rfl, hb⟩
  · have h1 : (rNums s 2 0 0).2.2 = 4 := rNums_beg _ 0 y r2 h hb
    rw [h1, rElems_st (one := rEx) (by rw [rElems_st d4]; exact d4), rElems_st d4, en]
  have h1 : rNums s 2 0 0 = _ := fNums_form _ 0 r2 h
  replace h := drop_next h
  rw [h1]
  simp only
  have hsp := Beg.split hb
  clear hb
  rcases hsp with hb | ⟨y1, rfl, hb⟩
  · have h2 := rElems_beg (g := SP.nrm) (one := rSpan) (by have := hv.sl; omega) fs (fun x hx a y e hb => SP.f_beg (hv.sps x hx) (ht x hx) e hb) h hb
    rw [h2, rElems_st d4, en]
  rw [fList_form (g := SP.nrm) (one := rSpan) SP.f_ne (by have := hv.sl; omega) fs h]
  replace h := drop_next h
  simp only
  have h3 := rElems_beg (g := fun x => x) (one := rEx) (by have := hv.xl; omega) fe (fun x hx a y e hb => EX.f_beg (hv.exs x hx) e hb) h hb
  rw [h3, en]
theorem FR.f_more {v : FR} (hv : v.Ok) (ht : ∀ e ∈ v.sps, e.Fit) {m : UInt8} (h : bts s = v.f ++ [m]) : (dFrag s).2 = 3 := by
  obtain ⟨h1, h2, h3⟩ := FR.f_form hv ht h
  have hsz : s.size = v.f.length + 1 := by rw [← bts_length, h]; simp
  unfold dFrag
  rw [h1]
  simp only
  rw [h2]
  simp only
  rw [h3]
  simp [rEnd, hsz]
end
end Go.Proofs.Sl

/- EncodingCuts, of the evaluator. -/
namespace Go.Proofs.Sl
theorem cuts_law {v : FR} (hv : v.Pre) {c m : Int} (hc0 : 0 ≤ c) (hc1 : c ≤ 65535) : run XP i_sleuthlaw01_EncodingCuts [v.v, vk .u16 c, vk .u8 m] [] = some (vb true, []) := by
  have hk := known_ok [.box false [vi v.ag, vi v.sq, lv 14 (slc SP.v v.sps v.sn), lv 5 (slc EX.v v.exs v.xn)]]
  have hs := shorts_ok [.box false [vi v.ag, vi v.sq, lv 14 (slc SP.v v.sps v.sn), lv 5 (slc EX.v v.exs v.xn)]] hv.sps hv.sl (slc_getD hv.sn)
  have o1 := slc_getD (v := EX.v) hv.xn
  have m1 : ((slc EX.v v.exs v.xn).getD []).length = v.exs.length := by rw [o1]; simp
  rw [run_eq, xp_sleuthlaw01_EncodingCuts]
  cases hb : (v.sps.all SP.isShort && decide ((v.sps.length : Int) ≤ 4)) with
  | false =>
    rw [hb] at hs
    simp -implicitDefEqProofs [x_sleuthlaw01_EncodingCuts, FR.v, noOwn, hk, hs]
  | true =>
    rw [hb] at hs
    by_cases h8 : (8 : Int) < (v.exs.length : Int)
    · simp -implicitDefEqProofs [x_sleuthlaw01_EncodingCuts, FR.v, noOwn, hk, hs, m1, h8]
    · have hsh : v.isShort = true := by simp only [FR.isShort, hb, h8, decide_false]; rfl
      have ho := hv.ok hsh
      have hf := FR.Pre.fit hsh
      have lf := FR.le ho
      have hpos : 0 < v.f.length := by simp [FR.f, fNums, fNum]
      have hne : ((v.f.length : Int) == 0) = false := by rw [beq_eq_false_iff_ne]; omega
      have hne' : (v.f.length : Int) ≠ 0 := by omega
      have g1 := fun h => E_Fragment h ho
      obtain ⟨K, hK⟩ : ∃ K : Nat, c.tmod (v.f.length : Int) = (K : Int) := ⟨(c.tmod v.f.length).toNat, (Int.toNat_of_nonneg (Int.tmod_nonneg _ hc0)).symm⟩
      have hKlt : K < v.f.length := by have := Int.tmod_lt_of_pos c (show (0 : Int) < (v.f.length : Int) by omega); rw [hK] at this; omega
      have hKle : (K : Int) ≤ (v.f.length : Int) := by omega
      have wc' : IntKind.i64.wrap c = c := wrap_i64 (by omega) (by omega)
      obtain ⟨Y, hY⟩ : ∃ Y, Y = v.f.take K := ⟨_, rfl⟩
      have hbeg : Beg Y v.f := ⟨v.f.drop K, by simp; omega, by rw [hY, List.take_append_drop]⟩
      have g2 := fun h => D_Fragment h (s := ⟨Y.toArray⟩) (by rw [size_ofList]; have := hbeg.lt; omega)
      rw [FR.f_beg (y := Y) ho hf (by rw [bts_ofList]) hbeg] at g2
      obtain ⟨B, hB⟩ : ∃ B : UInt8, B = UInt8.ofNat m.toNat := ⟨_, rfl⟩
      have g3 := fun h => D_Fragment h (s := ⟨(v.f ++ [B]).toArray⟩) (by rw [size_ofList]; simp; omega)
      rw [FR.f_more ho hf (m := B) (by rw [bts_ofList])] at g3
      have hadd := add_tx (a := v.f) (b := [B]) (by simp; omega)
      have t1 : vs ⟨(v.f ++ [B]).toArray⟩ = tx (v.f ++ [B]) := rfl
      have t2 : vs ⟨Y.toArray⟩ = tx Y := rfl
      have t3 : vs ⟨#[B]⟩ = tx [B] := rfl
      rw [t1] at g3
      obtain ⟨S, hS⟩ : ∃ S : ByteArray, S = ⟨v.f.toArray⟩ := ⟨_, rfl⟩
      have t4 : tx v.f = vs S := by rw [hS]; rfl
      have hSs : S.size = v.f.length := by rw [hS, size_ofList]
      have hSe : S.extract 0 K = ⟨Y.toArray⟩ := by rw [hS, extract_ofList, hY]; rfl
      have hle : K ≤ S.size := by omega
      have hrem : xbin .rem (vk .i64 c) (vi v.f.length) = some (vi K) := by rw [xbin_rem _ _ _ hne', hK]
      rw [t4] at g1 hadd
      rw [← t3] at hadd
      have hne2 : ((S.size : Int) == 0) = false := by rw [hSs]; exact hne
      rw [← hSs] at hrem
      have hBm : UInt8.ofNat m.toNat = B := hB.symm
      simp only [FR.v] at g1 g2 g3
      simp -implicitDefEqProofs [x_sleuthlaw01_EncodingCuts, FR.v, noOwn, hk, hs, m1, h8, g1, hne2, wc', hrem, hSe, hle, g2, g3, hadd, bytesOf, hBm, putRow]
end Go.Proofs.Sl

/- The reference reads a number. -/
namespace Go.Proofs.Sl
theorem nref_l0 (base : Nat) (h : H) (s : ByteArray) (x : V) (neg : Bool) (a : Nat) (ds : List Nat) (hsz : ds.length ≤ 8) (ha : a ≤ 1000000000000000)
    (hds : ∀ i d, ds[i]? = some d → d < 256 ∧ ∃ c : UInt8, s.data[a + 1 + i]? = some c ∧ d = if neg = true then 255 - c.toNat else c.toNat) {β : Type} {f : Ex × St → Option β} {b : Option β} {B : Body} (hB : B = xcode (run XP) loopW base x_sleuthref01_number_l0) :
    ∀ (r : List Nat) (k m : Nat) (st : Sl), ds.drop k = r → (k ≠ 0 ∨ r.head? ≠ some 0) → m < 256 ^ k → st 1 = .ptr h.length 0 → st 7 = vb neg → st 8 = vk .u64 m → st 6 = vi ds.length → st 9 = vi k →
    (∀ st' : Sl, st' 8 = vk .u64 (r.foldl (fun m d => 256 * m + d) m : Nat) → (∀ t, t < 8 → st' t = st t) → f (.exit 0, ⟨st', h ++ [.box false [vs s, vi a, x]]⟩) = b) → ob (loopW B ⟨st, h ++ [.box false [vs s, vi a, x]]⟩) f = b := by
  have step : ∀ st, B st = xcode (run XP) loopW base x_sleuthref01_number_l0 st := fun st => by rw [hB]
  intro r
  induction r with
  | nil =>
    intro k m st hd hk hm h1 h7 h8 h6 h9 kk
    have hlen : ds.length ≤ k := by simpa using hd
    have hlt : ¬ ((k : Int) < (ds.length : Int)) := by omega
    rw [loopW_cps]
    simp -implicitDefEqProofs [step, x_sleuthref01_number_l0, h6, h9, hlt]
    refine kk _ (by simp [h8]) fun t ht => by simp (disch := omega) only [upd_ne]
  | cons d r ih =>
    intro k m st hd hk hm h1 h7 h8 h6 h9 kk
    have hlen : k < ds.length := by
      by_cases hk : k < ds.length
      · exact hk
      · rw [List.drop_of_length_le (by omega)] at hd; cases hd
    have hg : ds[k]? = some d := by
      have := congrArg (·[0]?) hd
      simpa using this
    have hd' : ds.drop (k + 1) = r := by
      have := congrArg List.tail hd
      simpa using this
    obtain ⟨hd256, c, hc, hdc⟩ := hds k d hg
    have hlt : ((k : Int) < (ds.length : Int)) := by omega
    have w0 : IntKind.i64.wrap ((a : Int) + 1) = (a : Int) + 1 := wrap_i64 (by omega) (by omega)
    have w1 : IntKind.i64.wrap ((a : Int) + 1 + (k : Int)) = (a : Int) + 1 + (k : Int) := wrap_i64 (by omega) (by omega)
    have hge : (0 : Int) ≤ (a : Int) + 1 + (k : Int) := by omega
    have hak : ((a : Int) + 1 + (k : Int)).toNat = a + 1 + k := by omega
    have hm8 : m * 256 + d < 18446744073709551616 := by
      have h8 : 256 ^ k ≤ 256 ^ 7 := Nat.pow_le_pow_right (by decide) (by omega)
      have : (256 : Nat) ^ 7 = 72057594037927936 := by decide
      omega
    have wm : IntKind.u64.wrap ((m : Int) * 256) = (m : Int) * 256 := by rw [wrap_u64]; omega
    have wd : IntKind.u64.wrap (d : Int) = (d : Int) := by rw [wrap_u64]; omega
    have ws : IntKind.u64.wrap ((m : Int) * 256 + (d : Int)) = ((256 * m + d : Nat) : Int) := by rw [wrap_u64]; omega
    have hx : neg = true → IntKind.u8.wrap (255 - (c.toNat : Int)) = (d : Int) := fun hn => by
      rw [wrap_u8, hdc, if_pos hn]
      have := UInt8.toNat_lt c
      omega
    have hx' : neg = false → (c.toNat : Int) = (d : Int) := fun hn => by rw [hdc, hn]; simp
    rw [loopW_cps]
    have fin : ∀ st2 : Sl, st2 1 = .ptr h.length 0 → st2 7 = vb neg → st2 8 = vk .u64 (256 * m + d : Nat) → st2 6 = vi ds.length → st2 9 = vi (IntKind.i64.wrap ((k : Int) + 1)) → (∀ t, t < 8 → st2 t = st t) → ob (loopW B ⟨st2, h ++ [.box false [vs s, vi a, x]]⟩) f = b := by
      intro st2 g1 g7 g8 g6 g9 gf
      refine ih (k + 1) (256 * m + d) st2 hd' (.inl (by omega)) ?_ g1 g7 g8 g6 ?_ fun st' e10 ef => kk st' e10 fun t ht => (ef t ht).trans (gf t ht)
      · rw [Nat.pow_succ]
        omega
      · rw [g9, wrap_i64 (by omega) (by omega)]
        rfl
    by_cases hk0 : k = 0
    · have hdne : d ≠ 0 := by
        rcases hk with hk | hk
        · exact absurd hk0 hk
        · simpa using hk
      have hdz : ((d : Int) == 0) = false := by simp; omega
      have hkz : ((k : Int) == 0) = true := by simp [hk0]
      cases neg with
      | true =>
        simp -implicitDefEqProofs [step, x_sleuthref01_number_l0, h1, h7, h8, h6, h9, hlt, w0, w1, hge, hak, hc, hx rfl, hkz, hdz, wm, wd, ws]
        apply fin <;> first | (simp [h1, h7, h8, h6]; done) | (intro t ht; simp (disch := omega) only [upd_ne])
      | false =>
        simp -implicitDefEqProofs [step, x_sleuthref01_number_l0, h1, h7, h8, h6, h9, hlt, w0, w1, hge, hak, hc, hx' rfl, hkz, hdz, wm, wd, ws]
        apply fin <;> first | (simp [h1, h7, h8, h6]; done) | (intro t ht; simp (disch := omega) only [upd_ne])
    · have hkz : ((k : Int) == 0) = false := by simp; omega
      cases neg with
      | true =>
        simp -implicitDefEqProofs [step, x_sleuthref01_number_l0, h1, h7, h8, h6, h9, hlt, w0, w1, hge, hak, hc, hx rfl, hkz, wm, wd, ws]
        apply fin <;> first | (simp [h1, h7, h8, h6]; done) | (intro t ht; simp (disch := omega) only [upd_ne])
      | false =>
        simp -implicitDefEqProofs [step, x_sleuthref01_number_l0, h1, h7, h8, h6, h9, hlt, w0, w1, hge, hak, hc, hx' rfl, hkz, wm, wd, ws]
        apply fin <;> first | (simp [h1, h7, h8, h6]; done) | (intro t ht; simp (disch := omega) only [upd_ne])

theorem nref_l0z (base : Nat) (h : H) (s : ByteArray) (x : V) (neg : Bool) (a : Nat) (ha : a ≤ 1000000000000000) (c : UInt8) (hc : s.data[a + 1]? = some c) (h0c : (if neg = true then 255 - c.toNat else c.toNat) = 0) (n : Nat) (hn : 0 < n) {β : Type} {f : Ex × St → Option β} {b : Option β} {B : Body}
    (hB : B = xcode (run XP) loopW base x_sleuthref01_number_l0) (st : Sl) (h1 : st 1 = .ptr h.length 0) (h7 : st 7 = vb neg) (h6 : st 6 = vi n) (h9 : st 9 = vi 0)
    (kk : ∀ st' : Sl, st' 2 = vi 0 → st' 3 = vi 0 → st' 4 = vi 3 → f (.ret, ⟨st', h ++ [.box false [vs s, vi a, x]]⟩) = b) : ob (loopW B ⟨st, h ++ [.box false [vs s, vi a, x]]⟩) f = b := by
  have step : ∀ st, B st = xcode (run XP) loopW base x_sleuthref01_number_l0 st := fun st => by rw [hB]
  have w0 : IntKind.i64.wrap ((a : Int) + 1) = (a : Int) + 1 := wrap_i64 (by omega) (by omega)
  have hge : (0 : Int) ≤ (a : Int) + 1 := by omega
  have hak : ((a : Int) + 1).toNat = a + 1 := by omega
  rw [loopW_cps]
  cases neg with
  | true =>
    have hx : IntKind.u8.wrap (255 - (c.toNat : Int)) = 0 := by
      rw [wrap_u8]
      have := UInt8.toNat_lt c
      simp at h0c
      omega
    simp -implicitDefEqProofs [step, x_sleuthref01_number_l0, h1, h7, h6, h9, hn, w0, hge, hak, hc, hx]
    apply kk <;> simp
  | false =>
    have hx : (c.toNat : Int) = 0 := by simp at h0c; omega
    simp -implicitDefEqProofs [step, x_sleuthref01_number_l0, h1, h7, h6, h9, hn, w0, hge, hak, hc, hx]
    apply kk <;> simp

theorem ref_rnumber (h : H) {s : ByteArray} {a : Nat} {x : V} (hx : x.plain = true) (hs : s.size ≤ 100000000000000) (ha : a ≤ 100000000000000) :
    run XP i_sleuthref01_number [.agg [vs s, vi a, x]] h = some (.tup [vi (rn s a).1, vi (rn s a).2.1, vi (rn s a).2.2], h) := by
  rw [run_eq, xp_sleuthref01_number]
  unfold rn
  cases hd : (bts s).drop a with
  | nil =>
    have hge : s.size ≤ a := by
      have := congrArg List.length hd
      rw [List.length_drop, bts_length] at this
      simp at this
      omega
    simp -implicitDefEqProofs [x_sleuthref01_number, hx, noOwn, hge]
  | cons c r =>
    obtain ⟨hc, hsz, hr⟩ := bts_drop hd
    have hc256 := UInt8.toNat_lt c
    have hlt : ¬ s.size ≤ a := by omega
    have ha0 : (0 : Int) ≤ (a : Int) := by omega
    have wc : IntKind.i64.wrap (c.toNat : Int) = c.toNat := by rw [wrap_i64 (by omega) (by omega)]
    have wc2 : IntKind.i64.wrap ((c.toNat : Int) - 128) = (c.toNat : Int) - 128 := by rw [wrap_i64 (by omega) (by omega)]
    have wa : IntKind.i64.wrap ((a : Int) + 1) = (a : Int) + 1 := wrap_i64 (by omega) (by omega)
    have wl0 : IntKind.i64.wrap ((s.size : Int) - (a : Int)) = (s.size : Int) - (a : Int) := wrap_i64 (by omega) (by omega)
    have wl : IntKind.i64.wrap ((s.size : Int) - (a : Int) - 1) = (s.size : Int) - (a : Int) - 1 := wrap_i64 (by omega) (by omega)
    by_cases hneg : c.toNat < 128
    · have hneg' : ((c.toNat : Int) - 128 < 0) := by omega
      have hwn : IntKind.i64.wrap (-((c.toNat : Int) - 128)) = ((128 - c.toNat : Nat) : Int) := by rw [wrap_i64 (by omega) (by omega)]; omega
      obtain ⟨n, hn⟩ : ∃ n, n = (128 - c.toNat) := ⟨_, rfl⟩
      rw [← hn] at hwn
      by_cases h8 : n > 8
      · have h120 : (c.toNat : Int) < 120 := by omega
        simp -implicitDefEqProofs [x_sleuthref01_number, hx, noOwn, hlt, ha0, hc, wc, h120, hneg, ← hn, h8]
      have h120 : ¬ (c.toNat : Int) < 120 := by omega
      have h136 : ¬ 136 < (c.toNat : Int) := by omega
      by_cases hs2 : r.length < n
      · have hs2' : (s.size : Int) - (a : Int) - 1 < (n : Int) := by omega
        simp -implicitDefEqProofs [x_sleuthref01_number, hx, noOwn, hlt, ha0, hc, wc, wc2, hneg, hneg', hwn, wa, wl0, wl, ← hn, h120, h136, h8, hs2, hs2']
      have hs2' : ¬ (s.size : Int) - (a : Int) - 1 < (n : Int) := by omega
      obtain ⟨ds, hds⟩ : ∃ ds, ds = (r.take n).map fun b : UInt8 => 255 - b.toNat := ⟨_, rfl⟩
      have hdl : ds.length = n := by rw [hds]; simp; omega
      have hdg : ∀ i d, ds[i]? = some d → d < 256 ∧ ∃ c : UInt8, s.data[a + 1 + i]? = some c ∧ d = if true = true then 255 - c.toNat else c.toNat := by
        intro i d e
        rw [hds, List.getElem?_map, List.getElem?_take] at e
        split at e
        · rw [← hr i]
          cases he : r[i]? with
          | none => rw [he] at e; cases e
          | some b =>
            rw [he] at e
            simp only [Option.map_some, Option.some.injEq] at e
            have := UInt8.toNat_lt b
            exact ⟨by omega, b, rfl, by simp; omega⟩
        · cases e
      have hall : ∀ d ∈ ds, d < 256 := fun d hd => by
        obtain ⟨i, hi⟩ := List.getElem?_of_mem hd
        exact (hdg i d hi).1
      by_cases hz : ds.head? = some 0
      · have hn0 : 0 < n := by rw [← hdl]; cases ds with | nil => simp at hz | cons _ _ => simp
        have hcc : ∃ c2 : UInt8, s.data[a + 1]? = some c2 ∧ (if true = true then 255 - c2.toNat else c2.toNat) = 0 := by
          obtain ⟨_, c2, h1, h2⟩ := hdg 0 0 (by rw [← List.head?_eq_getElem?]; exact hz)
          exact ⟨c2, h1, h2.symm⟩
        obtain ⟨c2, hc2, hc0⟩ := hcc
        simp -implicitDefEqProofs [x_sleuthref01_number, hx, noOwn, hlt, ha0, hc, wc, wc2, hneg, hneg', hwn, wa, wl0, wl, ← hn, h120, h136, h8, hs2, hs2', ← hds, numE, hz]
        refine nref_l0z _ h s x true a (by omega) c2 hc2 hc0 n hn0 rfl _ ?_ ?_ ?_ ?_ fun st' e4 e5 e6 => ?_
        · simp
        · simp
        · simp
        · simp
        · simp -implicitDefEqProofs [e4, e5, e6]
      have hval : valD ds < 18446744073709551616 := by
        have h1 := foldl_lt ds 0 0 hall (by simp)
        have h2 : (256 : Nat) ^ (0 + ds.length) ≤ 256 ^ 8 := Nat.pow_le_pow_right (by decide) (by omega)
        have h3 : (256 : Nat) ^ 8 = 18446744073709551616 := by decide
        unfold valD
        omega
      obtain ⟨m, hm⟩ : ∃ m, m = valD ds := ⟨_, rfl⟩
      rw [← hm] at hval
      simp -implicitDefEqProofs [x_sleuthref01_number, hx, noOwn, hlt, ha0, hc, wc, wc2, hneg, hneg', hwn, wa, wl0, wl, ← hn, h120, h136, h8, hs2, hs2', ← hds, numE, hz, ← hm]
      refine nref_l0 _ h s x true a ds (by omega) (by omega) hdg rfl ds 0 0 _ rfl (.inr hz) (by simp) ?_ ?_ ?_ ?_ ?_ fun st' e10 ef => ?_
      · simp
      · simp
      · simp
      · simp [hdl]
      · simp
      have e10' : st' 8 = vk .u64 m := by rw [e10, hm]; rfl
      have g1 := ef 1 (by omega)
      have g6 := ef 6 (by omega)
      have g7 := ef 7 (by omega)
      simp at g1 g6 g7
      have wan : IntKind.i64.wrap ((a : Int) + 1 + (n : Int)) = (a : Int) + 1 + (n : Int) := wrap_i64 (by omega) (by omega)
      by_cases hbig : m > 9223372036854775808
      · have hb' : 9223372036854775808 < (m : Int) := by omega
        simp -implicitDefEqProofs [e10', g1, g6, g7, wa, wan, hb', hbig]
      have hb' : ¬ 9223372036854775808 < (m : Int) := by omega
      have wm : IntKind.i64.wrap (IntKind.i64.wrap (-(IntKind.i64.wrap (IntKind.u64.wrap ((m : Int) - 1)))) - 1) = -(m : Int) := by
        by_cases hm0 : m = 0
        · rw [hm0]; decide +kernel
        · have w1 : IntKind.u64.wrap ((m : Int) - 1) = (m : Int) - 1 := by rw [wrap_u64]; omega
          rw [w1, wrap_i64 (n := (m : Int) - 1) (by omega) (by omega), wrap_i64 (n := -((m : Int) - 1)) (by omega) (by omega), wrap_i64 (by omega) (by omega)]
          omega
      simp -implicitDefEqProofs [e10', g1, g6, g7, wa, wan, hb', hbig, wm, hdl]
    · have hneg' : ¬ ((c.toNat : Int) - 128 < 0) := by omega
      have hwn : ((c.toNat : Int) - 128) = ((c.toNat - 128 : Nat) : Int) := by omega
      rw [hwn] at hneg' wc2
      obtain ⟨n, hn⟩ : ∃ n, n = (c.toNat - 128) := ⟨_, rfl⟩
      rw [← hn] at hwn hneg' wc2
      by_cases h8 : n > 8
      · have h120 : ¬ (c.toNat : Int) < 120 := by omega
        have h136 : 136 < (c.toNat : Int) := by omega
        simp -implicitDefEqProofs [x_sleuthref01_number, hx, noOwn, hlt, ha0, hc, wc, h120, h136, hneg, ← hn, h8]
      have h120 : ¬ (c.toNat : Int) < 120 := by omega
      have h136 : ¬ 136 < (c.toNat : Int) := by omega
      by_cases hs2 : r.length < n
      · have hs2' : (s.size : Int) - (a : Int) - 1 < (n : Int) := by omega
        simp -implicitDefEqProofs [x_sleuthref01_number, hx, noOwn, hlt, ha0, hc, wc, wc2, hneg, hneg', hwn, wa, wl0, wl, ← hn, h120, h136, h8, hs2, hs2']
      have hs2' : ¬ (s.size : Int) - (a : Int) - 1 < (n : Int) := by omega
      obtain ⟨ds, hds⟩ : ∃ ds, ds = (r.take n).map fun b : UInt8 => b.toNat := ⟨_, rfl⟩
      have hdl : ds.length = n := by rw [hds]; simp; omega
      have hdg : ∀ i d, ds[i]? = some d → d < 256 ∧ ∃ c : UInt8, s.data[a + 1 + i]? = some c ∧ d = if false = true then 255 - c.toNat else c.toNat := by
        intro i d e
        rw [hds, List.getElem?_map, List.getElem?_take] at e
        split at e
        · rw [← hr i]
          cases he : r[i]? with
          | none => rw [he] at e; cases e
          | some b =>
            rw [he] at e
            simp only [Option.map_some, Option.some.injEq] at e
            have := UInt8.toNat_lt b
            exact ⟨by omega, b, rfl, by simp; omega⟩
        · cases e
      have hall : ∀ d ∈ ds, d < 256 := fun d hd => by
        obtain ⟨i, hi⟩ := List.getElem?_of_mem hd
        exact (hdg i d hi).1
      by_cases hz : ds.head? = some 0
      · have hn0 : 0 < n := by rw [← hdl]; cases ds with | nil => simp at hz | cons _ _ => simp
        have hcc : ∃ c2 : UInt8, s.data[a + 1]? = some c2 ∧ (if false = true then 255 - c2.toNat else c2.toNat) = 0 := by
          obtain ⟨_, c2, h1, h2⟩ := hdg 0 0 (by rw [← List.head?_eq_getElem?]; exact hz)
          exact ⟨c2, h1, h2.symm⟩
        obtain ⟨c2, hc2, hc0⟩ := hcc
        simp -implicitDefEqProofs [x_sleuthref01_number, hx, noOwn, hlt, ha0, hc, wc, wc2, hneg, hneg', hwn, wa, wl0, wl, ← hn, h120, h136, h8, hs2, hs2', ← hds, numE, hz]
        refine nref_l0z _ h s x false a (by omega) c2 hc2 hc0 n hn0 rfl _ ?_ ?_ ?_ ?_ fun st' e4 e5 e6 => ?_
        · simp
        · simp
        · simp
        · simp
        · simp -implicitDefEqProofs [e4, e5, e6]
      have hval : valD ds < 18446744073709551616 := by
        have h1 := foldl_lt ds 0 0 hall (by simp)
        have h2 : (256 : Nat) ^ (0 + ds.length) ≤ 256 ^ 8 := Nat.pow_le_pow_right (by decide) (by omega)
        have h3 : (256 : Nat) ^ 8 = 18446744073709551616 := by decide
        unfold valD
        omega
      obtain ⟨m, hm⟩ : ∃ m, m = valD ds := ⟨_, rfl⟩
      rw [← hm] at hval
      simp -implicitDefEqProofs [x_sleuthref01_number, hx, noOwn, hlt, ha0, hc, wc, wc2, hneg, hneg', hwn, wa, wl0, wl, ← hn, h120, h136, h8, hs2, hs2', ← hds, numE, hz, ← hm]
      refine nref_l0 _ h s x false a ds (by omega) (by omega) hdg rfl ds 0 0 _ rfl (.inr hz) (by simp) ?_ ?_ ?_ ?_ ?_ fun st' e10 ef => ?_
      · simp
      · simp
      · simp
      · simp [hdl]
      · simp
      have e10' : st' 8 = vk .u64 m := by rw [e10, hm]; rfl
      have g1 := ef 1 (by omega)
      have g6 := ef 6 (by omega)
      have g7 := ef 7 (by omega)
      simp at g1 g6 g7
      have wan : IntKind.i64.wrap ((a : Int) + 1 + (n : Int)) = (a : Int) + 1 + (n : Int) := wrap_i64 (by omega) (by omega)
      by_cases hbig : m > 9223372036854775807
      · have hb' : 9223372036854775807 < (m : Int) := by omega
        simp -implicitDefEqProofs [e10', g1, g6, g7, wa, wan, hb', hbig]
      have hb' : ¬ 9223372036854775807 < (m : Int) := by omega
      have hb3 : ¬ 9223372036854775808 < m := by omega
      have wm : IntKind.i64.wrap (m : Int) = (m : Int) := wrap_i64 (by omega) (by omega)
      simp -implicitDefEqProofs [e10', g1, g6, g7, wa, wan, hb', hb3, hbig, wm, hdl]
end Go.Proofs.Sl

/- The reference's reading: bools, texts, counts. -/
namespace Go.Proofs.Sl
section
variable {h t : H} {l : Nat} {s : ByteArray} {a : Nat} {e : Int}
theorem Q_Number (hl : l < h.length) (hs : s.size ≤ 10000000000000) (ha : a ≤ s.size) :
    run XP i_sleuthref01_ReadNumber [.ptr l 0] (h.set l (.box false [vs s, vi a, vi e])) = some (vi (rNum s a e).1, h.set l (.box false [vs s, vi (rNum s a e).2.1, vi (rNum s a e).2.2])) := by
  have hnum := fun h : H => ref_rnumber h (s := s) (a := a) (x := vi e) (Eq.trans rfl rfl) (by omega) (by omega)
  rw [run_eq, xp_sleuthref01_ReadNumber]
  by_cases he : e = 0
  · subst he
    by_cases hr : (rn s a).2.2 = 0
    · simp -implicitDefEqProofs [x_sleuthref01_ReadNumber, hnum, hl, hr, rNum]
    · have hr' : ((rn s a).2.2 != 0) = true := by simpa using hr
      simp -implicitDefEqProofs [x_sleuthref01_ReadNumber, hnum, hl, hr, hr', rNum]
  · have he' : (e != 0) = true := by simpa using he
    simp -implicitDefEqProofs [x_sleuthref01_ReadNumber, hnum, hl, he, he', rNum]
theorem Q_Number_r (hl : l < h.length) (hs : s.size ≤ 10000000000000) (ha : a ≤ s.size) :
    run XP i_sleuthref01_ReadNumber [.ptr l 0] (h.set l (.box false [vs s, vi a, vi e]) ++ t) = some (vi (rNum s a e).1, h.set l (.box false [vs s, vi (rNum s a e).2.1, vi (rNum s a e).2.2]) ++ t) := by
  have := Q_Number (h := h ++ t) (l := l) (s := s) (a := a) (e := e) (by simp; omega) hs ha
  simpa only [set_left hl] using this
theorem Q_Bool (hl : l < h.length) (hs : s.size ≤ 10000000000000) (ha : a ≤ s.size) :
    run XP i_sleuthref01_ReadBool [.ptr l 0] (h.set l (.box false [vs s, vi a, vi e])) = some (vb (rBool s a e).1, h.set l (.box false [vs s, vi (rBool s a e).2.1, vi (rBool s a e).2.2])) := by
  have hnum := Q_Number (a := a) (e := e) hl hs ha
  rw [run_eq, xp_sleuthref01_ReadBool]
  by_cases he : e = 0
  · subst he
    by_cases hr : (rn s a).2.2 = 0
    · have hv : rNum s a 0 = ((rn s a).1, (rn s a).2.1, 0) := by simp [rNum, hr]
      rw [hv] at hnum
      by_cases h0 : (rn s a).1 = 0
      · simp -implicitDefEqProofs [x_sleuthref01_ReadBool, hnum, hl, hr, h0, rBool]
      · have h0' : ((rn s a).1 != 0) = true := by simpa using h0
        by_cases h1 : (rn s a).1 = 1
        · simp -implicitDefEqProofs [x_sleuthref01_ReadBool, hnum, hl, hr, h0, h0', h1, rBool]
        · have h1' : ((rn s a).1 != 1) = true := by simpa using h1
          simp -implicitDefEqProofs [x_sleuthref01_ReadBool, hnum, hl, hr, h0, h0', h1, h1', rBool]
    · have hv : rNum s a 0 = (0, a, (rn s a).2.2) := by simp [rNum, hr]
      rw [hv] at hnum
      have hr2 : ((rn s a).2.2 == 0) = false := by simpa using hr
      simp -implicitDefEqProofs [x_sleuthref01_ReadBool, hnum, hl, hr, hr2, rBool]
  · have he' : (e == 0) = false := by simpa using he
    rw [rNum_st he] at hnum
    simp -implicitDefEqProofs [x_sleuthref01_ReadBool, hnum, hl, he, he', rBool]
theorem Q_sized (hl : l < h.length) (hs : s.size ≤ 10000000000000) (ha : a ≤ s.size) (most more : Int) (hm : more ≠ 0) :
    run XP i_sleuthref01_sized [.ptr l 0, vi most, vi more] (h.set l (.box false [vs s, vi a, vi e])) = some (vi (rSz s a e most more).1, h.set l (.box false [vs s, vi (rSz s a e most more).2.1, vi (rSz s a e most more).2.2])) := by
  have hnum := Q_Number (a := a) (e := e) hl hs ha
  have hm' : (more != 0) = true := by simpa using hm
  rw [run_eq, xp_sleuthref01_sized]
  by_cases he : e = 0
  · subst he
    by_cases hr : (rn s a).2.2 = 0
    · have hnx := (rn_ok hr).1
      have w : IntKind.i64.wrap ((s.size : Int) - ((rn s a).2.1 : Int)) = (s.size : Int) - ((rn s a).2.1 : Int) := wrap_i64 (by omega) (by omega)
      have hv : rNum s a 0 = ((rn s a).1, (rn s a).2.1, 0) := by simp [rNum, hr]
      rw [hv] at hnum
      by_cases h1 : (rn s a).1 < 0
      · simp -implicitDefEqProofs [x_sleuthref01_sized, hnum, hl, hr, h1, szE, rSz]
      · by_cases h2 : most < (rn s a).1
        · simp -implicitDefEqProofs [x_sleuthref01_sized, hnum, hl, hr, h1, h2, hm, hm', szE, rSz]
        · by_cases h3 : (s.size : Int) - ((rn s a).2.1 : Int) < (rn s a).1
          · simp -implicitDefEqProofs [x_sleuthref01_sized, hnum, hl, hr, h1, h2, h3, w, szE, rSz]
          · have hn : (((rn s a).1.toNat : Nat) : Int) = (rn s a).1 := by omega
            simp -implicitDefEqProofs [x_sleuthref01_sized, hnum, hl, hr, h1, h2, h3, w, szE, rSz]
            omega
    · have hv : rNum s a 0 = (0, a, (rn s a).2.2) := by simp [rNum, hr]
      rw [hv] at hnum
      have hr' : ((rn s a).2.2 != 0) = true := by simpa using hr
      simp -implicitDefEqProofs [x_sleuthref01_sized, hnum, hl, hr, hr', szE, rSz]
  · have he' : (e != 0) = true := by simpa using he
    rw [rNum_st he] at hnum
    simp -implicitDefEqProofs [x_sleuthref01_sized, hnum, hl, he, he', rSz]
theorem Q_Count (hl : l < h.length) (hs : s.size ≤ 10000000000000) (ha : a ≤ s.size) (most : Int) :
    run XP i_sleuthref01_ReadCount [.ptr l 0, vi most] (h.set l (.box false [vs s, vi a, vi e])) = some (vi (rSz s a e most 6).1, h.set l (.box false [vs s, vi (rSz s a e most 6).2.1, vi (rSz s a e most 6).2.2])) := by
  have h1 := Q_sized (e := e) hl hs ha most 6 (by decide)
  rw [run_eq, xp_sleuthref01_ReadCount]
  simp -implicitDefEqProofs [x_sleuthref01_ReadCount, h1]
theorem Q_Text (hl : l < h.length) (hs : s.size ≤ 10000000000000) (ha : a ≤ s.size) (most : Int) :
    run XP i_sleuthref01_ReadText [.ptr l 0, vi most] (h.set l (.box false [vs s, vi a, vi e])) = some (vs (rText s a e most).1, h.set l (.box false [vs s, vi (rText s a e most).2.1, vi (rText s a e most).2.2])) := by
  have h1 := Q_sized (e := e) hl hs ha most 5 (by decide)
  have h2 := rSz_le ha e most (more := 5) (by decide)
  have hext : ∀ i j, s.extract i j = ⟨(((bts s).take j).drop i).toArray⟩ := fun i j => by
    have : s = ⟨(bts s).toArray⟩ := by simp [bts]
    conv => lhs; rw [this]
    exact extract_ofList _ _ _
  unfold rText
  generalize rSz s a e most 5 = q at h1 h2 ⊢
  obtain ⟨n, a1, e1⟩ := q
  simp only at h1 h2 ⊢
  have w : IntKind.i64.wrap ((a1 : Int) + (n : Int)) = (a1 : Int) + (n : Int) := wrap_i64 (by omega) (by omega)
  have w2 : IntKind.i64.wrap ((a1 : Int) + (n : Int) - (n : Int)) = (a1 : Int) := by rw [wrap_i64 (by omega) (by omega)]; omega
  have w3 : IntKind.i64.wrap (a1 : Int) = (a1 : Int) := wrap_i64 (by omega) (by omega)
  have g1 : (0 : Int) ≤ (a1 : Int) + (n : Int) := by omega
  have g2 : ((a1 : Int) + (n : Int)).toNat = a1 + n := by omega
  rw [run_eq, xp_sleuthref01_ReadText]
  simp -implicitDefEqProofs [x_sleuthref01_ReadText, h1, hl, w, w2, w3, g1, g2, h2, hext]
  rw [List.drop_take]
  congr 2
  omega
theorem Q_Text_r (hl : l < h.length) (hs : s.size ≤ 10000000000000) (ha : a ≤ s.size) (most : Int) :
    run XP i_sleuthref01_ReadText [.ptr l 0, vi most] (h.set l (.box false [vs s, vi a, vi e]) ++ t) = some (vs (rText s a e most).1, h.set l (.box false [vs s, vi (rText s a e most).2.1, vi (rText s a e most).2.2]) ++ t) := by
  have := Q_Text (h := h ++ t) (l := l) (s := s) (a := a) (e := e) (by simp; omega) hs ha most
  simpa only [set_left hl] using this
theorem Q_Bool_r (hl : l < h.length) (hs : s.size ≤ 10000000000000) (ha : a ≤ s.size) :
    run XP i_sleuthref01_ReadBool [.ptr l 0] (h.set l (.box false [vs s, vi a, vi e]) ++ t) = some (vb (rBool s a e).1, h.set l (.box false [vs s, vi (rBool s a e).2.1, vi (rBool s a e).2.2]) ++ t) := by
  have := Q_Bool (h := h ++ t) (l := l) (s := s) (a := a) (e := e) (by simp; omega) hs ha
  simpa only [set_left hl] using this
theorem Q_Count_r (hl : l < h.length) (hs : s.size ≤ 10000000000000) (ha : a ≤ s.size) (most : Int) :
    run XP i_sleuthref01_ReadCount [.ptr l 0, vi most] (h.set l (.box false [vs s, vi a, vi e]) ++ t) = some (vi (rSz s a e most 6).1, h.set l (.box false [vs s, vi (rSz s a e most 6).2.1, vi (rSz s a e most 6).2.2]) ++ t) := by
  have := Q_Count (h := h ++ t) (l := l) (s := s) (a := a) (e := e) (by simp; omega) hs ha most
  simpa only [set_left hl] using this
theorem Q_End (hl : h[l]? = some (.box false [vs s, vi a, vi e])) : run XP i_sleuthref01_End [.ptr l 0] h = some (vi (rEnd s a e), h) := by
  rw [run_eq, xp_sleuthref01_End]
  by_cases he : e = 0
  · subst he
    by_cases hlt : a < s.size
    · simp -implicitDefEqProofs [x_sleuthref01_End, hl, hlt, rEnd]
    · simp -implicitDefEqProofs [x_sleuthref01_End, hl, hlt, rEnd]
  · have he' : (e == 0) = false := by simpa using he
    simp -implicitDefEqProofs [x_sleuthref01_End, hl, he, he', rEnd]
end
end Go.Proofs.Sl

/- The reference's reading of values. -/
namespace Go.Proofs.Sl
section
variable {h t : H} {l : Nat} {s : ByteArray} {a : Nat} {e : Int}
theorem Q_Ref (hl : l < h.length) (hs : s.size ≤ 10000000000000) (ha : a ≤ s.size) :
    run XP i_sleuthref01_ReadRef [.ptr l 0] (h.set l (.box false [vs s, vi a, vi e])) = some ((rRef s a e).1.v, h.set l (.box false [vs s, vi (rRef s a e).2.1, vi (rRef s a e).2.2])) := by
  unfold rRef
  have h1 : ∀ t : H, _ := fun t => Q_Number_r (t := t) (e := e) hl hs ha
  have b1 := rNum_le ha e
  generalize rNum s a e = q at h1 b1 ⊢
  obtain ⟨n1, a1, e1⟩ := q
  simp only at h1 b1 ⊢
  have h2 : ∀ t : H, _ := fun t => Q_Number_r (t := t) (e := e1) hl hs b1
  have b2 := rNum_le b1 e1
  generalize rNum s a1 e1 = q at h2 b2 ⊢
  obtain ⟨n2, a2, e2⟩ := q
  simp only at h2 b2 ⊢
  have hat : ∀ (X : O) (t : H), (h.set l X ++ t)[l]? = some X := fun X t => by
    rw [at_left (by simpa using hl)]
    simp [hl]
  rw [run_eq, xp_sleuthref01_ReadRef]
  by_cases he : e2 = 0
  · subst he
    simp -implicitDefEqProofs [x_sleuthref01_ReadRef, hl, hat, h1, h2, addParts, putRow, RF.v]
  · have he' : (e2 != 0) = true := by simpa using he
    simp -implicitDefEqProofs [x_sleuthref01_ReadRef, hl, hat, h1, h2, addParts, putRow, he, he', RF.v]
theorem Q_Ref_r (hl : l < h.length) (hs : s.size ≤ 10000000000000) (ha : a ≤ s.size) :
    run XP i_sleuthref01_ReadRef [.ptr l 0] (h.set l (.box false [vs s, vi a, vi e]) ++ t) = some ((rRef s a e).1.v, h.set l (.box false [vs s, vi (rRef s a e).2.1, vi (rRef s a e).2.2]) ++ t) := by
  have := Q_Ref (h := h ++ t) (l := l) (s := s) (a := a) (e := e) (by simp; omega) hs ha
  simpa only [set_left hl] using this
theorem Q_Value (hl : l < h.length) (hs : s.size ≤ 10000000000000) (ha : a ≤ s.size) :
    run XP i_sleuthref01_ReadValue [.ptr l 0] (h.set l (.box false [vs s, vi a, vi e])) = some ((rValue s a e).1.v, h.set l (.box false [vs s, vi (rValue s a e).2.1, vi (rValue s a e).2.2])) := by
  unfold rValue
  have h1 : ∀ t : H, _ := fun t => Q_Number_r (t := t) (e := e) hl hs ha
  have b1 := rNum_le ha e
  generalize rNum s a e = q at h1 b1 ⊢
  obtain ⟨n1, a1, e1⟩ := q
  simp only at h1 b1 ⊢
  have h2 : ∀ t : H, _ := fun t => Q_Text_r (t := t) (e := e1) hl hs b1 4096
  have b2 := rText_le b1 e1 4096
  generalize rText s a1 e1 4096 = q at h2 b2 ⊢
  obtain ⟨n2, a2, e2⟩ := q
  simp only at h2 b2 ⊢
  have h3 : ∀ t : H, _ := fun t => Q_Number_r (t := t) (e := e2) hl hs b2
  have b3 := rNum_le b2 e2
  generalize rNum s a2 e2 = q at h3 b3 ⊢
  obtain ⟨n3, a3, e3⟩ := q
  simp only at h3 b3 ⊢
  have hat : ∀ (X : O) (t : H), (h.set l X ++ t)[l]? = some X := fun X t => by
    rw [at_left (by simpa using hl)]
    simp [hl]
  rw [run_eq, xp_sleuthref01_ReadValue]
  by_cases he : e3 = 0
  · subst he
    simp -implicitDefEqProofs [x_sleuthref01_ReadValue, hl, hat, h1, h2, h3, addParts, putRow, AV.v]
  · have he' : (e3 != 0) = true := by simpa using he
    simp -implicitDefEqProofs [x_sleuthref01_ReadValue, hl, hat, h1, h2, h3, addParts, putRow, he, he', AV.v, AV.z]
theorem Q_Value_r (hl : l < h.length) (hs : s.size ≤ 10000000000000) (ha : a ≤ s.size) :
    run XP i_sleuthref01_ReadValue [.ptr l 0] (h.set l (.box false [vs s, vi a, vi e]) ++ t) = some ((rValue s a e).1.v, h.set l (.box false [vs s, vi (rValue s a e).2.1, vi (rValue s a e).2.2]) ++ t) := by
  have := Q_Value (h := h ++ t) (l := l) (s := s) (a := a) (e := e) (by simp; omega) hs ha
  simpa only [set_left hl] using this
theorem Q_Attr (hl : l < h.length) (hs : s.size ≤ 10000000000000) (ha : a ≤ s.size) :
    run XP i_sleuthref01_ReadAttr [.ptr l 0] (h.set l (.box false [vs s, vi a, vi e])) = some ((rAttr s a e).1.v, h.set l (.box false [vs s, vi (rAttr s a e).2.1, vi (rAttr s a e).2.2])) := by
  unfold rAttr
  have h1 : ∀ t : H, _ := fun t => Q_Text_r (t := t) (e := e) hl hs ha 4096
  have b1 := rText_le ha e 4096
  generalize rText s a e 4096 = q at h1 b1 ⊢
  obtain ⟨n1, a1, e1⟩ := q
  simp only at h1 b1 ⊢
  have h2 : ∀ t : H, _ := fun t => Q_Value_r (t := t) (e := e1) hl hs b1
  generalize rValue s a1 e1 = q at h2 ⊢
  obtain ⟨v2, a2, e2⟩ := q
  simp only [AV.v] at h2 ⊢
  have hat : ∀ (X : O) (t : H), (h.set l X ++ t)[l]? = some X := fun X t => by
    rw [at_left (by simpa using hl)]
    simp [hl]
  rw [run_eq, xp_sleuthref01_ReadAttr]
  by_cases he : e2 = 0
  · subst he
    simp -implicitDefEqProofs [x_sleuthref01_ReadAttr, hl, hat, h1, h2, addParts, putRow, AT.v]
  · have he' : (e2 != 0) = true := by simpa using he
    simp -implicitDefEqProofs [x_sleuthref01_ReadAttr, hl, hat, h1, h2, addParts, putRow, he, he', AT.v, AT.z, AV.z]
theorem Q_Attr_r (hl : l < h.length) (hs : s.size ≤ 10000000000000) (ha : a ≤ s.size) :
    run XP i_sleuthref01_ReadAttr [.ptr l 0] (h.set l (.box false [vs s, vi a, vi e]) ++ t) = some ((rAttr s a e).1.v, h.set l (.box false [vs s, vi (rAttr s a e).2.1, vi (rAttr s a e).2.2]) ++ t) := by
  have := Q_Attr (h := h ++ t) (l := l) (s := s) (a := a) (e := e) (by simp; omega) hs ha
  simpa only [set_left hl] using this

def rEx' (s : ByteArray) (a : Nat) (e : Int) : EX × Nat × Int :=
  let x1 := rNum s a e
  let x2 := rNum s x1.2.1 x1.2.2
  let x3 := rNum s x2.2.1 x2.2.2
  let x4 := rNum s x3.2.1 x3.2.2
  let x5 := rNum s x4.2.1 x4.2.2
  (if x5.2.2 = 0 then EX.of [x1.1, x2.1, x3.1, x4.1, x5.1] else EX.z, x5.2.1, x5.2.2)
theorem rEx_eq (s : ByteArray) (a : Nat) (e : Int) : rEx s a e = rEx' s a e := rfl
def rMs' (s : ByteArray) (a : Nat) (e : Int) : MS × Nat × Int :=
  let x := rNum s a e
  let y := rRef s x.2.1 x.2.2
  let z := rRef s y.2.1 y.2.2
  let x1 := rNum s z.2.1 z.2.2
  let x2 := rNum s x1.2.1 x1.2.2
  let x3 := rNum s x2.2.1 x2.2.2
  let x4 := rNum s x3.2.1 x3.2.2
  let x5 := rNum s x4.2.1 x4.2.2
  (if x5.2.2 = 0 then mkMS x.1 y.1 z.1 [x1.1, x2.1, x3.1, x4.1, x5.1] else MS.z, x5.2.1, x5.2.2)
theorem rNums5 (s : ByteArray) (a : Nat) (e : Int) : rNums s 5 a e =
    (let x1 := rNum s a e; let x2 := rNum s x1.2.1 x1.2.2; let x3 := rNum s x2.2.1 x2.2.2; let x4 := rNum s x3.2.1 x3.2.2; let x5 := rNum s x4.2.1 x4.2.2; ([x1.1, x2.1, x3.1, x4.1, x5.1], x5.2.1, x5.2.2)) := rfl
theorem rMs_eq (s : ByteArray) (a : Nat) (e : Int) : rMs s a e = rMs' s a e := by
  unfold rMs rMs'
  simp only
  generalize rNum s a e = x
  generalize rRef s x.2.1 x.2.2 = y
  generalize rRef s y.2.1 y.2.2 = z
  rw [rNums5]
theorem Q_Exchange (hl : l < h.length) (hs : s.size ≤ 10000000000000) (ha : a ≤ s.size) :
    run XP i_sleuthref01_ReadExchange [.ptr l 0] (h.set l (.box false [vs s, vi a, vi e])) = some ((rEx s a e).1.v, h.set l (.box false [vs s, vi (rEx s a e).2.1, vi (rEx s a e).2.2])) := by
  rw [rEx_eq]
  unfold rEx'
  have h1 : ∀ t : H, _ := fun t => Q_Number_r (t := t) (e := e) hl hs ha
  have b1 := rNum_le ha e
  generalize rNum s a e = q at h1 b1 ⊢
  obtain ⟨n1, a1, e1⟩ := q
  simp only at h1 b1 ⊢
  have h2 : ∀ t : H, _ := fun t => Q_Number_r (t := t) (e := e1) hl hs b1
  have b2 := rNum_le b1 e1
  generalize rNum s a1 e1 = q at h2 b2 ⊢
  obtain ⟨n2, a2, e2⟩ := q
  simp only at h2 b2 ⊢
  have h3 : ∀ t : H, _ := fun t => Q_Number_r (t := t) (e := e2) hl hs b2
  have b3 := rNum_le b2 e2
  generalize rNum s a2 e2 = q at h3 b3 ⊢
  obtain ⟨n3, a3, e3⟩ := q
  simp only at h3 b3 ⊢
  have h4 : ∀ t : H, _ := fun t => Q_Number_r (t := t) (e := e3) hl hs b3
  have b4 := rNum_le b3 e3
  generalize rNum s a3 e3 = q at h4 b4 ⊢
  obtain ⟨n4, a4, e4⟩ := q
  simp only at h4 b4 ⊢
  have h5 : ∀ t : H, _ := fun t => Q_Number_r (t := t) (e := e4) hl hs b4
  have b5 := rNum_le b4 e4
  generalize rNum s a4 e4 = q at h5 b5 ⊢
  obtain ⟨n5, a5, e5⟩ := q
  simp only at h5 b5 ⊢
  have hat : ∀ (X : O) (t : H), (h.set l X ++ t)[l]? = some X := fun X t => by
    rw [at_left (by simpa using hl)]
    simp [hl]
  rw [run_eq, xp_sleuthref01_ReadExchange]
  by_cases he : e5 = 0
  · subst he
    simp -implicitDefEqProofs [x_sleuthref01_ReadExchange, hl, hat, h1, h2, h3, h4, h5, addParts, putRow, EX.v, EX.of]
  · have he' : (e5 != 0) = true := by simpa using he
    simp -implicitDefEqProofs [x_sleuthref01_ReadExchange, hl, hat, h1, h2, h3, h4, h5, addParts, putRow, he, he', EX.v, EX.z]
theorem Q_Exchange_r (hl : l < h.length) (hs : s.size ≤ 10000000000000) (ha : a ≤ s.size) :
    run XP i_sleuthref01_ReadExchange [.ptr l 0] (h.set l (.box false [vs s, vi a, vi e]) ++ t) = some ((rEx s a e).1.v, h.set l (.box false [vs s, vi (rEx s a e).2.1, vi (rEx s a e).2.2]) ++ t) := by
  have := Q_Exchange (h := h ++ t) (l := l) (s := s) (a := a) (e := e) (by simp; omega) hs ha
  simpa only [set_left hl] using this
theorem Q_Message (hl : l < h.length) (hs : s.size ≤ 10000000000000) (ha : a ≤ s.size) :
    run XP i_sleuthref01_ReadMessage [.ptr l 0] (h.set l (.box false [vs s, vi a, vi e])) = some ((rMs s a e).1.v, h.set l (.box false [vs s, vi (rMs s a e).2.1, vi (rMs s a e).2.2])) := by
  rw [rMs_eq]
  unfold rMs'
  have h1 : ∀ t : H, _ := fun t => Q_Number_r (t := t) (e := e) hl hs ha
  have b1 := rNum_le ha e
  generalize rNum s a e = q at h1 b1 ⊢
  obtain ⟨n1, a1, e1⟩ := q
  simp only at h1 b1 ⊢
  have h2 : ∀ t : H, _ := fun t => Q_Ref_r (t := t) (e := e1) hl hs b1
  have b2 := rRef_le b1 e1
  generalize rRef s a1 e1 = q at h2 b2 ⊢
  obtain ⟨⟨p2, r2⟩, a2, e2⟩ := q
  simp only [RF.v] at h2 b2 ⊢
  have h3 : ∀ t : H, _ := fun t => Q_Ref_r (t := t) (e := e2) hl hs b2
  have b3 := rRef_le b2 e2
  generalize rRef s a2 e2 = q at h3 b3 ⊢
  obtain ⟨⟨p3, r3⟩, a3, e3⟩ := q
  simp only [RF.v] at h3 b3 ⊢
  have h4 : ∀ t : H, _ := fun t => Q_Number_r (t := t) (e := e3) hl hs b3
  have b4 := rNum_le b3 e3
  generalize rNum s a3 e3 = q at h4 b4 ⊢
  obtain ⟨n4, a4, e4⟩ := q
  simp only at h4 b4 ⊢
  have h5 : ∀ t : H, _ := fun t => Q_Number_r (t := t) (e := e4) hl hs b4
  have b5 := rNum_le b4 e4
  generalize rNum s a4 e4 = q at h5 b5 ⊢
  obtain ⟨n5, a5, e5⟩ := q
  simp only at h5 b5 ⊢
  have h6 : ∀ t : H, _ := fun t => Q_Number_r (t := t) (e := e5) hl hs b5
  have b6 := rNum_le b5 e5
  generalize rNum s a5 e5 = q at h6 b6 ⊢
  obtain ⟨n6, a6, e6⟩ := q
  simp only at h6 b6 ⊢
  have h7 : ∀ t : H, _ := fun t => Q_Number_r (t := t) (e := e6) hl hs b6
  have b7 := rNum_le b6 e6
  generalize rNum s a6 e6 = q at h7 b7 ⊢
  obtain ⟨n7, a7, e7⟩ := q
  simp only at h7 b7 ⊢
  have h8 : ∀ t : H, _ := fun t => Q_Number_r (t := t) (e := e7) hl hs b7
  have b8 := rNum_le b7 e7
  generalize rNum s a7 e7 = q at h8 b8 ⊢
  obtain ⟨n8, a8, e8⟩ := q
  simp only at h8 b8 ⊢
  have hat : ∀ (X : O) (t : H), (h.set l X ++ t)[l]? = some X := fun X t => by
    rw [at_left (by simpa using hl)]
    simp [hl]
  rw [run_eq, xp_sleuthref01_ReadMessage]
  by_cases he : e8 = 0
  · subst he
    simp -implicitDefEqProofs [x_sleuthref01_ReadMessage, hl, hat, h1, h2, h3, h4, h5, h6, h7, h8, addParts, putRow, MS.v, mkMS, EX.of]
  · have he' : (e8 != 0) = true := by simpa using he
    simp -implicitDefEqProofs [x_sleuthref01_ReadMessage, hl, hat, h1, h2, h3, h4, h5, h6, h7, h8, addParts, putRow, he, he', MS.v, MS.z, RF.z, EX.z]
theorem Q_Message_r (hl : l < h.length) (hs : s.size ≤ 10000000000000) (ha : a ≤ s.size) :
    run XP i_sleuthref01_ReadMessage [.ptr l 0] (h.set l (.box false [vs s, vi a, vi e]) ++ t) = some ((rMs s a e).1.v, h.set l (.box false [vs s, vi (rMs s a e).2.1, vi (rMs s a e).2.2]) ++ t) := by
  have := Q_Message (h := h ++ t) (l := l) (s := s) (a := a) (e := e) (by simp; omega) hs ha
  simpa only [set_left hl] using this
end
end Go.Proofs.Sl

/- The reference's reading of spans. -/
namespace Go.Proofs.Sl

theorem rspan_l0 (base : Nat) (h : H) (l : Nat) (s : ByteArray) (hl : l < h.length) (hs : s.size ≤ 10000000000000) (hbase : base = h.length) (z : O) (N : Nat) (hN : N ≤ 4096) (c0 c1 c2 c3 c4 c5 c6 c7 c8 c9 c10 c11 c13 : V) {β : Type} {f : Ex × St → Option β} {b : Option β} {B : Body} (hB : B = xcode (run XP) loopW base x_sleuthref01_ReadSpan_l0) :
    ∀ (r i a : Nat) (e : Int) (out : List AT) (w : H) (st : Sl), i + r = N → a ≤ s.size → out.length = i → (e = 0 ∨ r = 0) → st 0 = .ptr l 0 → st 3 = .ptr (h.length + 1) 0 → st 4 = vi N → st 5 = vi i →
    (∀ (st' : Sl) (us : List AT) (w' : H), ((rLoop rAttr s r a e).2.2 = 0 → us = out ++ (rLoop rAttr s r a e).1) → (∀ t, t < 4 → st' t = st t) →
      f (.exit 0, ⟨st', h.set l (.box false [vs s, vi (rLoop rAttr s r a e).2.1, vi (rLoop rAttr s r a e).2.2]) ++ (z :: .box false [c0, c1, c2, c3, c4, c5, c6, c7, c8, c9, c10, c11, ownL 4 (us.map AT.v), c13] :: w')⟩) = b) →
    ob (loopW B ⟨st, h.set l (.box false [vs s, vi a, vi e]) ++ (z :: .box false [c0, c1, c2, c3, c4, c5, c6, c7, c8, c9, c10, c11, ownL 4 (out.map AT.v), c13] :: w)⟩) f = b := by
  have step : ∀ st, B st = xcode (run XP) loopW base x_sleuthref01_ReadSpan_l0 st := fun st => by rw [hB]
  have hat : ∀ (X : O) (t : H), (h.set l X ++ t)[l]? = some X := fun X t => by
    rw [at_left (by simpa using hl)]
    simp [hl]
  intro r
  induction r with
  | zero =>
    intro i a e out w st hi ha ho hz h0 h3 h4 h5 kk
    have hlt : ¬ (i < N) := by omega
    rw [loopW_cps]
    simp -implicitDefEqProofs [step, x_sleuthref01_ReadSpan_l0, h4, h5, hlt]
    simp only [rLoop] at kk
    exact kk _ out w (fun _ => by simp) fun t ht => by simp (disch := omega) only [upd_ne]
  | succ r ih =>
    intro i a e out w st hi ha ho hz h0 h3 h4 h5 kk
    have he0 : e = 0 := hz.resolve_right (by omega)
    subst he0
    have hlt : i < N := by omega
    have hone := fun t : H => Q_Attr_r (t := t) (e := 0) hl hs ha
    have hle := rAttr_le ha 0
    rw [rLoop] at kk
    generalize rAttr s a 0 = q at hone hle kk
    obtain ⟨v, a1, e1⟩ := q
    simp only at hone hle kk
    have next : ∀ (st2 : Sl) (w2 : H), st2 0 = .ptr l 0 → st2 3 = .ptr (h.length + 1) 0 → st2 4 = vi N → st2 5 = vi (IntKind.i64.wrap ((i : Int) + 1)) → (∀ t, t < 4 → st2 t = st t) → ob (loopW B ⟨st2, h.set l (.box false [vs s, vi a1, vi e1]) ++ (z :: .box false [c0, c1, c2, c3, c4, c5, c6, c7, c8, c9, c10, c11, ownL 4 ((out ++ [v]).map AT.v), c13] :: w2)⟩) f = b := by
      intro st2 w2 g0 g3 g4 g5 gf
      have g5' : st2 5 = vi ((i + 1 : Nat) : Int) := by rw [g5, wrap_i64 (by omega) (by omega)]; rfl
      by_cases he : e1 = 0
      · subst he
        simp only [ne_eq, not_true, if_false] at kk
        refine ih (i + 1) a1 0 (out ++ [v]) w2 st2 (by omega) hle (by simp [ho]) (.inl rfl) g0 g3 g4 g5' fun st' us w' hus hf => ?_
        by_cases hz' : (rLoop rAttr s r a1 0).2.2 = 0
        · simp only [hz', ne_eq, not_true, if_false] at kk hus ⊢
          exact kk st' us w' (fun _ => by rw [hus trivial]; simp) fun t ht => (hf t ht).trans (gf t ht)
        · rw [if_pos hz'] at kk
          exact kk st' us w' (fun h => absurd h hz') fun t ht => (hf t ht).trans (gf t ht)
      · rw [if_pos he] at kk
        have he' : (e1 == 0) = false := by simpa using he
        rw [loopW_cps]
        by_cases hlt2 : (i : Int) + 1 < (N : Int)
        · simp -implicitDefEqProofs [step, x_sleuthref01_ReadSpan_l0, g0, g4, g5', hlt2, hat, he', -List.map_append]
          exact kk _ (out ++ [v]) _ (fun h => absurd h he) fun t ht => by simp (disch := omega) only [upd_ne]; exact gf t ht
        · simp -implicitDefEqProofs [step, x_sleuthref01_ReadSpan_l0, g0, g4, g5', hlt2, -List.map_append]
          exact kk _ (out ++ [v]) _ (fun h => absurd h he) fun t ht => by simp (disch := omega) only [upd_ne]; exact gf t ht
    simp only [AT.v] at hone
    rw [loopW_cps]
    by_cases hout : out = []
    · subst hout
      have e1' : ownL 4 [] = vnil := rfl
      have e2' : ownL 4 (List.map AT.v ([] ++ [v])) = .own 4 [v.v] := rfl
      rw [e2'] at next
      simp only [AT.v] at next
      have hlen : ∀ X : O, (h.set l X ++ (z :: .box false [c0, c1, c2, c3, c4, c5, c6, c7, c8, c9, c10, c11, vnil, c13] :: w)).length = h.length + (w.length + 1 + 1) := fun X => by simp
      simp -implicitDefEqProofs [step, x_sleuthref01_ReadSpan_l0, h0, h3, h4, h5, hlt, hat, e1', hone]
      apply next
      · simp [h0]
      · simp [h3]
      · simp [h4]
      · simp
      · intro t ht
        simp (disch := omega) only [upd_ne]
    · have hne : out.map AT.v ≠ [] := by simpa using hout
      have e1' : ownL 4 (out.map AT.v) = .own 4 (out.map AT.v) := by unfold ownL; rw [if_neg hne]
      have e2' : ownL 4 (List.map AT.v (out ++ [v])) = .own 4 (out.map AT.v ++ [v.v]) := by unfold ownL; rw [if_neg (by simp)]; simp
      have hlim : out.length ≤ 2932031007401 := by omega
      rw [e2'] at next
      simp only [AT.v] at next
      simp -implicitDefEqProofs [step, x_sleuthref01_ReadSpan_l0, h0, h3, h4, h5, hlt, hat, e1', hone, hlim]
      apply next
      · simp [h0]
      · simp [h3]
      · simp [h4]
      · simp
      · intro t ht
        simp (disch := omega) only [upd_ne]

theorem rspan_l1 (base : Nat) (h : H) (l : Nat) (s : ByteArray) (hl : l < h.length) (hs : s.size ≤ 10000000000000) (hbase : base = h.length) (z : O) (N : Nat) (hN : N ≤ 4096) (c0 c1 c2 c3 c4 c5 c6 c7 c8 c9 c10 c11 c12 : V) {β : Type} {f : Ex × St → Option β} {b : Option β} {B : Body} (hB : B = xcode (run XP) loopW base x_sleuthref01_ReadSpan_l1) :
    ∀ (r i a : Nat) (e : Int) (out : List RF) (w : H) (st : Sl), i + r = N → a ≤ s.size → out.length = i → (e = 0 ∨ r = 0) → st 0 = .ptr l 0 → st 3 = .ptr (h.length + 1) 0 → st 4 = vi N → st 6 = vi i →
    (∀ (st' : Sl) (us : List RF) (w' : H), ((rLoop rRef s r a e).2.2 = 0 → us = out ++ (rLoop rRef s r a e).1) → (∀ t, t < 4 → st' t = st t) →
      f (.exit 2, ⟨st', h.set l (.box false [vs s, vi (rLoop rRef s r a e).2.1, vi (rLoop rRef s r a e).2.2]) ++ (z :: .box false [c0, c1, c2, c3, c4, c5, c6, c7, c8, c9, c10, c11, c12, ownL 2 (us.map RF.v)] :: w')⟩) = b) →
    ob (loopW B ⟨st, h.set l (.box false [vs s, vi a, vi e]) ++ (z :: .box false [c0, c1, c2, c3, c4, c5, c6, c7, c8, c9, c10, c11, c12, ownL 2 (out.map RF.v)] :: w)⟩) f = b := by
  have step : ∀ st, B st = xcode (run XP) loopW base x_sleuthref01_ReadSpan_l1 st := fun st => by rw [hB]
  have hat : ∀ (X : O) (t : H), (h.set l X ++ t)[l]? = some X := fun X t => by
    rw [at_left (by simpa using hl)]
    simp [hl]
  intro r
  induction r with
  | zero =>
    intro i a e out w st hi ha ho hz h0 h3 h4 h5 kk
    have hlt : ¬ (i < N) := by omega
    rw [loopW_cps]
    simp -implicitDefEqProofs [step, x_sleuthref01_ReadSpan_l1, h4, h5, hlt]
    simp only [rLoop] at kk
    exact kk _ out w (fun _ => by simp) fun t ht => by simp (disch := omega) only [upd_ne]
  | succ r ih =>
    intro i a e out w st hi ha ho hz h0 h3 h4 h5 kk
    have he0 : e = 0 := hz.resolve_right (by omega)
    subst he0
    have hlt : i < N := by omega
    have hone := fun t : H => Q_Ref_r (t := t) (e := 0) hl hs ha
    have hle := rRef_le ha 0
    rw [rLoop] at kk
    generalize rRef s a 0 = q at hone hle kk
    obtain ⟨v, a1, e1⟩ := q
    simp only at hone hle kk
    have next : ∀ (st2 : Sl) (w2 : H), st2 0 = .ptr l 0 → st2 3 = .ptr (h.length + 1) 0 → st2 4 = vi N → st2 6 = vi (IntKind.i64.wrap ((i : Int) + 1)) → (∀ t, t < 4 → st2 t = st t) → ob (loopW B ⟨st2, h.set l (.box false [vs s, vi a1, vi e1]) ++ (z :: .box false [c0, c1, c2, c3, c4, c5, c6, c7, c8, c9, c10, c11, c12, ownL 2 ((out ++ [v]).map RF.v)] :: w2)⟩) f = b := by
      intro st2 w2 g0 g3 g4 g5 gf
      have g5' : st2 6 = vi ((i + 1 : Nat) : Int) := by rw [g5, wrap_i64 (by omega) (by omega)]; rfl
      by_cases he : e1 = 0
      · subst he
        simp only [ne_eq, not_true, if_false] at kk
        refine ih (i + 1) a1 0 (out ++ [v]) w2 st2 (by omega) hle (by simp [ho]) (.inl rfl) g0 g3 g4 g5' fun st' us w' hus hf => ?_
        by_cases hz' : (rLoop rRef s r a1 0).2.2 = 0
        · simp only [hz', ne_eq, not_true, if_false] at kk hus ⊢
          exact kk st' us w' (fun _ => by rw [hus trivial]; simp) fun t ht => (hf t ht).trans (gf t ht)
        · rw [if_pos hz'] at kk
          exact kk st' us w' (fun h => absurd h hz') fun t ht => (hf t ht).trans (gf t ht)
      · rw [if_pos he] at kk
        have he' : (e1 == 0) = false := by simpa using he
        rw [loopW_cps]
        by_cases hlt2 : (i : Int) + 1 < (N : Int)
        · simp -implicitDefEqProofs [step, x_sleuthref01_ReadSpan_l1, g0, g4, g5', hlt2, hat, he', -List.map_append]
          exact kk _ (out ++ [v]) _ (fun h => absurd h he) fun t ht => by simp (disch := omega) only [upd_ne]; exact gf t ht
        · simp -implicitDefEqProofs [step, x_sleuthref01_ReadSpan_l1, g0, g4, g5', hlt2, -List.map_append]
          exact kk _ (out ++ [v]) _ (fun h => absurd h he) fun t ht => by simp (disch := omega) only [upd_ne]; exact gf t ht
    simp only [RF.v] at hone
    rw [loopW_cps]
    by_cases hout : out = []
    · subst hout
      have e1' : ownL 2 [] = vnil := rfl
      have e2' : ownL 2 (List.map RF.v ([] ++ [v])) = .own 2 [v.v] := rfl
      rw [e2'] at next
      simp only [RF.v] at next
      have hlen : ∀ X : O, (h.set l X ++ (z :: .box false [c0, c1, c2, c3, c4, c5, c6, c7, c8, c9, c10, c11, c12, vnil] :: w)).length = h.length + (w.length + 1 + 1) := fun X => by simp
      simp -implicitDefEqProofs [step, x_sleuthref01_ReadSpan_l1, h0, h3, h4, h5, hlt, hat, e1', hone]
      apply next
      · simp [h0]
      · simp [h3]
      · simp [h4]
      · simp
      · intro t ht
        simp (disch := omega) only [upd_ne]
    · have hne : out.map RF.v ≠ [] := by simpa using hout
      have e1' : ownL 2 (out.map RF.v) = .own 2 (out.map RF.v) := by unfold ownL; rw [if_neg hne]
      have e2' : ownL 2 (List.map RF.v (out ++ [v])) = .own 2 (out.map RF.v ++ [v.v]) := by unfold ownL; rw [if_neg (by simp)]; simp
      have hlim : out.length ≤ 8796093022207 := by omega
      rw [e2'] at next
      simp only [RF.v] at next
      simp -implicitDefEqProofs [step, x_sleuthref01_ReadSpan_l1, h0, h3, h4, h5, hlt, hat, e1', hone, hlim]
      apply next
      · simp [h0]
      · simp [h3]
      · simp [h4]
      · simp
      · intro t ht
        simp (disch := omega) only [upd_ne]

theorem rdCells_ownL {α : Type} (v : α → V) (k : Nat) (l : List α) : rdCells (ownL k (l.map v)) = lv k (slc v l l.isEmpty) := by
  cases l <;> rfl
theorem rNums6 (s : ByteArray) (a : Nat) (e : Int) : rNums s 6 a e =
    (let x1 := rNum s a e; let x2 := rNum s x1.2.1 x1.2.2; let x3 := rNum s x2.2.1 x2.2.2; let x4 := rNum s x3.2.1 x3.2.2; let x5 := rNum s x4.2.1 x4.2.2; let x6 := rNum s x5.2.1 x5.2.2; ([x1.1, x2.1, x3.1, x4.1, x5.1, x6.1], x6.2.1, x6.2.2)) := rfl
theorem rNums2 (s : ByteArray) (a : Nat) (e : Int) : rNums s 2 a e = (let x1 := rNum s a e; let x2 := rNum s x1.2.1 x1.2.2; ([x1.1, x2.1], x2.2.1, x2.2.2)) := rfl
def rSpan' (s : ByteArray) (a : Nat) (e : Int) : SP × Nat × Int :=
  let x1 := rNum s a e
  let x2 := rNum s x1.2.1 x1.2.2
  let x3 := rNum s x2.2.1 x2.2.2
  let x4 := rNum s x3.2.1 x3.2.2
  let x5 := rNum s x4.2.1 x4.2.2
  let x6 := rNum s x5.2.1 x5.2.2
  let t1 := rText s x6.2.1 x6.2.2 4096
  let t2 := rText s t1.2.1 t1.2.2 4096
  let t3 := rText s t2.2.1 t2.2.2 4096
  let y1 := rNum s t3.2.1 t3.2.2
  let y2 := rNum s y1.2.1 y1.2.2
  let b := rBool s y2.2.1 y2.2.2
  let u := rElems rAttr s b.2.1 b.2.2
  let w := rElems rRef s u.2.1 u.2.2
  (if w.2.2 = 0 then mkSP [x1.1, x2.1, x3.1, x4.1, x5.1, x6.1] t1.1 t2.1 t3.1 [y1.1, y2.1] b.1 u.1 w.1 else SP.z, w.2.1, w.2.2)
theorem rSpan_eq (s : ByteArray) (a : Nat) (e : Int) : rSpan s a e = rSpan' s a e := by
  unfold rSpan rSpan'
  simp only
  rw [rNums6]
  simp only
  rw [rNums2]
section
variable {h t : H} {l : Nat} {s : ByteArray} {a : Nat} {e : Int}
theorem Q_Span (hl : l < h.length) (hs : s.size ≤ 10000000000000) (ha : a ≤ s.size) :
    run XP i_sleuthref01_ReadSpan [.ptr l 0] (h.set l (.box false [vs s, vi a, vi e])) = some ((rSpan s a e).1.v, h.set l (.box false [vs s, vi (rSpan s a e).2.1, vi (rSpan s a e).2.2])) := by
  rw [rSpan_eq]
  unfold rSpan'
  have h1 : ∀ t : H, _ := fun t => Q_Number_r (t := t) (e := e) hl hs ha
  have b1 := rNum_le ha e
  generalize rNum s a e = q at h1 b1 ⊢
  obtain ⟨n1, a1, e1⟩ := q
  simp only at h1 b1 ⊢
  have h2 : ∀ t : H, _ := fun t => Q_Number_r (t := t) (e := e1) hl hs b1
  have b2 := rNum_le b1 e1
  generalize rNum s a1 e1 = q at h2 b2 ⊢
  obtain ⟨n2, a2, e2⟩ := q
  simp only at h2 b2 ⊢
  have h3 : ∀ t : H, _ := fun t => Q_Number_r (t := t) (e := e2) hl hs b2
  have b3 := rNum_le b2 e2
  generalize rNum s a2 e2 = q at h3 b3 ⊢
  obtain ⟨n3, a3, e3⟩ := q
  simp only at h3 b3 ⊢
  have h4 : ∀ t : H, _ := fun t => Q_Number_r (t := t) (e := e3) hl hs b3
  have b4 := rNum_le b3 e3
  generalize rNum s a3 e3 = q at h4 b4 ⊢
  obtain ⟨n4, a4, e4⟩ := q
  simp only at h4 b4 ⊢
  have h5 : ∀ t : H, _ := fun t => Q_Number_r (t := t) (e := e4) hl hs b4
  have b5 := rNum_le b4 e4
  generalize rNum s a4 e4 = q at h5 b5 ⊢
  obtain ⟨n5, a5, e5⟩ := q
  simp only at h5 b5 ⊢
  have h6 : ∀ t : H, _ := fun t => Q_Number_r (t := t) (e := e5) hl hs b5
  have b6 := rNum_le b5 e5
  generalize rNum s a5 e5 = q at h6 b6 ⊢
  obtain ⟨n6, a6, e6⟩ := q
  simp only at h6 b6 ⊢
  have h7 : ∀ t : H, _ := fun t => Q_Text_r (t := t) (e := e6) hl hs b6 4096
  have b7 := rText_le b6 e6 4096
  generalize rText s a6 e6 4096 = q at h7 b7 ⊢
  obtain ⟨n7, a7, e7⟩ := q
  simp only at h7 b7 ⊢
  have h8 : ∀ t : H, _ := fun t => Q_Text_r (t := t) (e := e7) hl hs b7 4096
  have b8 := rText_le b7 e7 4096
  generalize rText s a7 e7 4096 = q at h8 b8 ⊢
  obtain ⟨n8, a8, e8⟩ := q
  simp only at h8 b8 ⊢
  have h9 : ∀ t : H, _ := fun t => Q_Text_r (t := t) (e := e8) hl hs b8 4096
  have b9 := rText_le b8 e8 4096
  generalize rText s a8 e8 4096 = q at h9 b9 ⊢
  obtain ⟨n9, a9, e9⟩ := q
  simp only at h9 b9 ⊢
  have h10 : ∀ t : H, _ := fun t => Q_Number_r (t := t) (e := e9) hl hs b9
  have b10 := rNum_le b9 e9
  generalize rNum s a9 e9 = q at h10 b10 ⊢
  obtain ⟨n10, a10, e10⟩ := q
  simp only at h10 b10 ⊢
  have h11 : ∀ t : H, _ := fun t => Q_Number_r (t := t) (e := e10) hl hs b10
  have b11 := rNum_le b10 e10
  generalize rNum s a10 e10 = q at h11 b11 ⊢
  obtain ⟨n11, a11, e11⟩ := q
  simp only at h11 b11 ⊢
  have h12 : ∀ t : H, _ := fun t => Q_Bool_r (t := t) (e := e11) hl hs b11
  have b12 := rBool_le b11 e11
  generalize rBool s a11 e11 = q at h12 b12 ⊢
  obtain ⟨n12, a12, e12⟩ := q
  simp only at h12 b12 ⊢
  have hc := fun t : H => Q_Count_r (t := t) (e := e12) hl hs b12 4096
  have cz := rSz_zero s a12 e12 4096 6
  have cl := rSz_le b12 e12 4096 (more := 6) (by decide)
  have cc := rSz_cap s a12 e12 4096 6 (by decide) (by decide)
  have hu : rElems rAttr s a12 e12 = rLoop rAttr s (rSz s a12 e12 4096 6).1 (rSz s a12 e12 4096 6).2.1 (rSz s a12 e12 4096 6).2.2 := rfl
  have bu := rElems_le (one := rAttr) (s := s) (fun a e h => rAttr_le h e) b12 e12
  rw [hu] at bu ⊢
  generalize rSz s a12 e12 4096 6 = q at hc cz cl cc bu ⊢
  obtain ⟨N1, a13, e13⟩ := q
  simp only at hc cz cl cc bu ⊢
  have hat : ∀ (X : O) (t : H), (h.set l X ++ t)[l]? = some X := fun X t => by
    rw [at_left (by simpa using hl)]
    simp [hl]
  rw [run_eq, xp_sleuthref01_ReadSpan]
  simp -implicitDefEqProofs [x_sleuthref01_ReadSpan, hl, hat, h1, h2, h3, h4, h5, h6, h7, h8, h9, h10, h11, h12, hc, putRow]
  have eo1 : ownL 4 (List.map AT.v []) = vnil := rfl
  have eo2 : ownL 2 (List.map RF.v []) = vnil := rfl
  have L0 := fun (f : Ex × St → Option (V × H)) (b : Option (V × H)) => rspan_l0 (β := V × H) (f := f) (b := b) (B := xcode (run XP) loopW h.length x_sleuthref01_ReadSpan_l0) h.length h l s hl hs rfl (.box false [vi 0, vi 0, vi 0, vi 0, vi 0, vi 0, vs ⟨#[]⟩, vs ⟨#[]⟩, vs ⟨#[]⟩, vi 0, vi 0, vb false, vnil, vnil]) N1 (by omega) (vi n1) (vi n2) (vi n3) (vi n4) (vi n5) (vi n6) (vs n7) (vs n8) (vs n9) (vi n10) (vi n11) (vb n12) vnil rfl N1 0 a13 e13 [] []
  rw [eo1] at L0
  refine L0 _ _ _ (by omega) (by omega) rfl ?_ ?_ ?_ ?_ ?_ fun s1 us w1 hus hf1 => ?_
  · by_cases he : e13 = 0
    · exact .inl he
    · exact .inr (cz he)
  · simp
  · simp
  · simp
  · simp
  have g0 := hf1 0 (by omega)
  have g2 := hf1 2 (by omega)
  have g3 := hf1 3 (by omega)
  simp at g0 g2 g3
  have hsz := rLoop_nil rAttr s N1 a13 e13
  generalize rLoop rAttr s N1 a13 e13 = q at hus bu hsz ⊢
  obtain ⟨u1, a14, e14⟩ := q
  simp only [List.nil_append] at hus bu hsz ⊢
  have hd := fun t : H => Q_Count_r (t := t) (e := e14) hl hs bu 4096
  have dz := rSz_zero s a14 e14 4096 6
  have dl := rSz_le bu e14 4096 (more := 6) (by decide)
  have dc := rSz_cap s a14 e14 4096 6 (by decide) (by decide)
  have dst : e14 ≠ 0 → rSz s a14 e14 4096 6 = (0, a14, e14) := fun he => rSz_st he
  have hw : rElems rRef s a14 e14 = rLoop rRef s (rSz s a14 e14 4096 6).1 (rSz s a14 e14 4096 6).2.1 (rSz s a14 e14 4096 6).2.2 := rfl
  rw [hw]
  generalize rSz s a14 e14 4096 6 = q at hd dz dl dc dst ⊢
  obtain ⟨N2, a15, e15⟩ := q
  simp only at hd dz dl dc dst ⊢
  simp -implicitDefEqProofs [hl, hat, g0, g2, g3, hd, putRow]
  have L1 := fun (f : Ex × St → Option (V × H)) (b : Option (V × H)) => rspan_l1 (β := V × H) (f := f) (b := b) (B := xcode (run XP) loopW h.length x_sleuthref01_ReadSpan_l1) h.length h l s hl hs rfl (.box false [vi 0, vi 0, vi 0, vi 0, vi 0, vi 0, vs ⟨#[]⟩, vs ⟨#[]⟩, vs ⟨#[]⟩, vi 0, vi 0, vb false, vnil, vnil]) N2 (by omega) (vi n1) (vi n2) (vi n3) (vi n4) (vi n5) (vi n6) (vs n7) (vs n8) (vs n9) (vi n10) (vi n11) (vb n12) (ownL 4 (us.map AT.v)) rfl N2 0 a15 e15 [] w1
  rw [eo2] at L1
  refine L1 _ _ _ (by omega) (by omega) rfl ?_ ?_ ?_ ?_ ?_ fun s2 vs2 w2 hvs hf2 => ?_
  · by_cases he : e15 = 0
    · exact .inl he
    · exact .inr (dz he)
  · simp [g0]
  · simp [g3]
  · simp
  · simp
  have k0 := hf2 0 (by omega)
  have k2 := hf2 2 (by omega)
  have k3 := hf2 3 (by omega)
  simp [g0, g2, g3] at k0 k2 k3
  have hst : e14 ≠ 0 → (rLoop rRef s N2 a15 e15).2.2 = e14 := fun he => by
    have := dst he
    simp only [Prod.mk.injEq] at this
    obtain ⟨rfl, rfl, rfl⟩ := this
    rfl
  generalize rLoop rRef s N2 a15 e15 = q at hvs hst ⊢
  obtain ⟨u2, a16, e16⟩ := q
  simp only [List.nil_append] at hvs hst ⊢
  by_cases he : e16 = 0
  · subst he
    have h14 : e14 = 0 := by
      apply Classical.byContradiction
      intro hne
      exact hne (hst hne).symm
    rw [hus h14, hvs rfl]
    simp -implicitDefEqProofs [hl, hat, k0, k2, k3, putRow, rdCells_ownL, SP.v, mkSP]
  · have he' : (e16 != 0) = true := by simpa using he
    simp -implicitDefEqProofs [hl, hat, k0, k2, k3, putRow, addParts, he, he', SP.z_v]
theorem Q_Span_r (hl : l < h.length) (hs : s.size ≤ 10000000000000) (ha : a ≤ s.size) :
    run XP i_sleuthref01_ReadSpan [.ptr l 0] (h.set l (.box false [vs s, vi a, vi e]) ++ t) = some ((rSpan s a e).1.v, h.set l (.box false [vs s, vi (rSpan s a e).2.1, vi (rSpan s a e).2.2]) ++ t) := by
  have := Q_Span (h := h ++ t) (l := l) (s := s) (a := a) (e := e) (by simp; omega) hs ha
  simpa only [set_left hl] using this
end
end Go.Proofs.Sl

/- What is read is in order; a reading call on both readers. -/
namespace Go.Proofs.Sl
theorem ba_beq (t : ByteArray) : (t == t) = true := by
  cases t
  show ByteArray.beq _ _ = true
  simp [ByteArray.beq]
theorem rMs_le {s : ByteArray} {a : Nat} (ha : a ≤ s.size) (e : Int) : (rMs s a e).2.1 ≤ s.size := by
  rw [rMs_eq]
  exact rNum_le (rNum_le (rNum_le (rNum_le (rNum_le (rRef_le (rRef_le (rNum_le ha _) _) _) _) _) _) _) _
theorem rText_size (s : ByteArray) (a : Nat) (e most : Int) : (rText s a e most).1.size ≤ s.size := by
  unfold rText
  rw [size_ofList, List.length_take, List.length_drop]
  have : (bts s).length = s.size := by simp [bts]
  omega
theorem rNums_rng (s : ByteArray) : ∀ (n a : Nat) (e : Int), ∀ x ∈ (rNums s n a e).1, Rng x
  | 0, a, e => by simp [rNums]
  | n + 1, a, e => by
    intro x hx
    simp only [rNums, List.mem_cons] at hx
    rcases hx with rfl | hx
    · exact rNum_rng _ _ _
    · exact rNums_rng s n _ _ x hx
theorem rRef_ok (s : ByteArray) (a : Nat) (e : Int) : (rRef s a e).1.Ok := by
  unfold rRef
  simp only
  split
  · exact ⟨rNum_rng _ _ _, rNum_rng _ _ _⟩
  · exact ⟨Rng.zero, Rng.zero⟩
theorem rValue_okS (s : ByteArray) (hs : s.size ≤ 1000) (a : Nat) (e : Int) : (rValue s a e).1.Ok := by
  unfold rValue
  simp only
  split
  · exact ⟨rNum_rng _ _ _, by have := rText_size s (rNum s a e).2.1 (rNum s a e).2.2 4096; simp only; omega, rNum_rng _ _ _⟩
  · exact ⟨Rng.zero, Nat.zero_le _, Rng.zero⟩
theorem rAttr_okS (s : ByteArray) (hs : s.size ≤ 1000) (a : Nat) (e : Int) : (rAttr s a e).1.Ok := by
  unfold rAttr
  simp only
  split
  · exact ⟨by have := rText_size s a e 4096; simp only; omega, rValue_okS s hs _ _⟩
  · exact ⟨Nat.zero_le _, ⟨Rng.zero, Nat.zero_le _, Rng.zero⟩⟩
theorem rLoop_all {α : Type} {P : α → Prop} {one : ByteArray → Nat → Int → α × Nat × Int} {s : ByteArray} (h : ∀ a e, P (one s a e).1) : ∀ (n a : Nat) (e : Int), ∀ x ∈ (rLoop one s n a e).1, P x
  | 0, a, e => by simp [rLoop]
  | n + 1, a, e => by
    intro x hx
    rw [rLoop] at hx
    split at hx
    · simp at hx
    · split at hx
      · simp at hx
      · simp only [List.mem_cons] at hx
        rcases hx with rfl | hx
        · exact h _ _
        · exact rLoop_all h n _ _ x hx
theorem rLoop_len {α : Type} {one : ByteArray → Nat → Int → α × Nat × Int} {s : ByteArray} : ∀ (n a : Nat) (e : Int), (rLoop one s n a e).1.length ≤ n
  | 0, a, e => by simp [rLoop]
  | n + 1, a, e => by
    have := rLoop_len (one := one) (s := s) n (one s a e).2.1 (one s a e).2.2
    rw [rLoop]
    split
    · simp
    · split
      · simp
      · simp only [List.length_cons]; omega
theorem rElems_len {α : Type} (one : ByteArray → Nat → Int → α × Nat × Int) {s : ByteArray} {a : Nat} (ha : a ≤ s.size) (e : Int) : (rElems one s a e).1.length ≤ s.size := by
  have h1 := rSz_le ha e 4096 (more := 6) (by decide)
  have h2 := rLoop_len (one := one) (s := s) (rSz s a e 4096 6).1 (rSz s a e 4096 6).2.1 (rSz s a e 4096 6).2.2
  unfold rElems
  omega
theorem SP.z_ok : SP.z.Ok where
  n := by
    intro n hn
    simp [SP.z] at hn
    rw [hn]
    exact Rng.zero
  sv := Nat.zero_le _
  vr := Nat.zero_le _
  op := Nat.zero_le _
  ats := by simp [SP.z]
  lks := by simp [SP.z]
  al := by simp [SP.z]
  ll := by simp [SP.z]
  an := by simp [SP.z]
  ln := by simp [SP.z]
theorem rSpan_okS {s : ByteArray} (hs : s.size ≤ 1000) {a : Nat} (ha : a ≤ s.size) (e : Int) : (rSpan s a e).1.Ok := by
  rw [rSpan_eq]
  unfold rSpan'
  simp only
  split
  · refine ⟨?_, ?_, ?_, ?_, ?_, ?_, ?_, ?_, ?_, ?_⟩
    · intro n hn
      simp only [mkSP, List.mem_cons, List.not_mem_nil, or_false] at hn
      rcases hn with rfl | rfl | rfl | rfl | rfl | rfl | rfl | rfl <;> exact rNum_rng _ _ _
    · exact Nat.le_trans (rText_size _ _ _ _) (by omega)
    · exact Nat.le_trans (rText_size _ _ _ _) (by omega)
    · exact Nat.le_trans (rText_size _ _ _ _) (by omega)
    · exact rLoop_all (P := AT.Ok) (fun a e => rAttr_okS s hs a e) _ _ _
    · exact rLoop_all (P := RF.Ok) (fun a e => rRef_ok s a e) _ _ _
    · refine Nat.le_trans (rElems_len _ ?_ _) hs
      exact rBool_le (rNum_le (rNum_le (rText_le (rText_le (rText_le (rNum_le (rNum_le (rNum_le (rNum_le (rNum_le (rNum_le ha _) _) _) _) _) _) _ _) _ _) _ _) _) _) _
    · refine Nat.le_trans (rElems_len _ ?_ _) hs
      exact rElems_le (fun a e h => rAttr_le h e) (rBool_le (rNum_le (rNum_le (rText_le (rText_le (rText_le (rNum_le (rNum_le (rNum_le (rNum_le (rNum_le (rNum_le ha _) _) _) _) _) _) _ _) _ _) _ _) _) _) _) _
    · intro h
      simpa [mkSP] using h
    · intro h
      simpa [mkSP] using h
  · exact SP.z_ok
/-- A reading call: which, and the most. -/
structure OP where
  k : Int
  most : Int
def OP.v (o : OP) : V := .agg [vk .u8 o.k, vi o.most]
/-- Where a call leaves a reader. -/
def OP.next (o : OP) (s : ByteArray) (a : Nat) (e : Int) : Nat × Int :=
  if o.k.tmod 10 = 0 then (rNum s a e).2 else
  if o.k.tmod 10 = 1 then (rBool s a e).2 else
  if o.k.tmod 10 = 2 then (rText s a e o.most).2 else
  if o.k.tmod 10 = 3 then (rSz s a e o.most 6).2 else
  if o.k.tmod 10 = 4 then (rValue s a e).2 else
  if o.k.tmod 10 = 5 then (rAttr s a e).2 else
  if o.k.tmod 10 = 6 then (rRef s a e).2 else
  if o.k.tmod 10 = 7 then (rEx s a e).2 else
  if o.k.tmod 10 = 8 then (rMs s a e).2 else
  (rSpan s a e).2
theorem reads_0 {s : ByteArray} {a : Nat} {e : Int} {o : OP} (hs : s.size ≤ 1000) (ha : a ≤ s.size) (hk : o.k.tmod 10 = 0) :
    run XP i_sleuthlaw01_reads [.ptr 0 0, .ptr 1 0, o.v] [.box false [vs s, vi a, vi e], .box false [vs s, vi a, vi e]] = some (vb true, [.box false [vs s, vi (o.next s a e).1, vi (o.next s a e).2], .box false [vs s, vi (o.next s a e).1, vi (o.next s a e).2]]) := by
  have hR := fun (Y : O) => R_Number (h := [.dead, Y, .box false [vk .u8 o.k, vi o.most]]) (l := 0) (s := s) (a := a) (e := e) (by simp) (by omega) ha 
  have hQ := fun (Y : O) => Q_Number (h := [Y, .dead, .box false [vk .u8 o.k, vi o.most]]) (l := 1) (s := s) (a := a) (e := e) (by simp) (by omega) ha 
  have hn : o.next s a e = (rNum s a e).2 := by simp [OP.next, hk]
  rw [hn]
  generalize rNum s a e = q at hR hQ ⊢
  obtain ⟨v, a1, e1⟩ := q
  simp only [List.set_cons_zero, List.set_cons_succ, AV.v, AT.v, RF.v, EX.v, MS.v] at hR hQ ⊢
  rw [run_eq, xp_sleuthlaw01_reads]
  simp -implicitDefEqProofs [x_sleuthlaw01_reads, OP.v, hk, hR, hQ, noOwn, addParts, putRow, ba_beq]
theorem reads_1 {s : ByteArray} {a : Nat} {e : Int} {o : OP} (hs : s.size ≤ 1000) (ha : a ≤ s.size) (hk : o.k.tmod 10 = 1) :
    run XP i_sleuthlaw01_reads [.ptr 0 0, .ptr 1 0, o.v] [.box false [vs s, vi a, vi e], .box false [vs s, vi a, vi e]] = some (vb true, [.box false [vs s, vi (o.next s a e).1, vi (o.next s a e).2], .box false [vs s, vi (o.next s a e).1, vi (o.next s a e).2]]) := by
  have hR := fun (Y : O) => R_Bool (h := [.dead, Y, .box false [vk .u8 o.k, vi o.most]]) (l := 0) (s := s) (a := a) (e := e) (by simp) (by omega) ha 
  have hQ := fun (Y : O) => Q_Bool (h := [Y, .dead, .box false [vk .u8 o.k, vi o.most]]) (l := 1) (s := s) (a := a) (e := e) (by simp) (by omega) ha 
  have hn : o.next s a e = (rBool s a e).2 := by simp [OP.next, hk]
  rw [hn]
  generalize rBool s a e = q at hR hQ ⊢
  obtain ⟨v, a1, e1⟩ := q
  simp only [List.set_cons_zero, List.set_cons_succ, AV.v, AT.v, RF.v, EX.v, MS.v] at hR hQ ⊢
  rw [run_eq, xp_sleuthlaw01_reads]
  simp -implicitDefEqProofs [x_sleuthlaw01_reads, OP.v, hk, hR, hQ, noOwn, addParts, putRow, ba_beq]
theorem reads_2 {s : ByteArray} {a : Nat} {e : Int} {o : OP} (hs : s.size ≤ 1000) (ha : a ≤ s.size) (hk : o.k.tmod 10 = 2) :
    run XP i_sleuthlaw01_reads [.ptr 0 0, .ptr 1 0, o.v] [.box false [vs s, vi a, vi e], .box false [vs s, vi a, vi e]] = some (vb true, [.box false [vs s, vi (o.next s a e).1, vi (o.next s a e).2], .box false [vs s, vi (o.next s a e).1, vi (o.next s a e).2]]) := by
  have hR := fun (Y : O) => R_Text (h := [.dead, Y, .box false [vk .u8 o.k, vi o.most]]) (l := 0) (s := s) (a := a) (e := e) (by simp) (by omega) ha o.most
  have hQ := fun (Y : O) => Q_Text (h := [Y, .dead, .box false [vk .u8 o.k, vi o.most]]) (l := 1) (s := s) (a := a) (e := e) (by simp) (by omega) ha o.most
  have hn : o.next s a e = (rText s a e o.most).2 := by simp [OP.next, hk]
  rw [hn]
  generalize rText s a e o.most = q at hR hQ ⊢
  obtain ⟨v, a1, e1⟩ := q
  simp only [List.set_cons_zero, List.set_cons_succ, AV.v, AT.v, RF.v, EX.v, MS.v] at hR hQ ⊢
  rw [run_eq, xp_sleuthlaw01_reads]
  simp -implicitDefEqProofs [x_sleuthlaw01_reads, OP.v, hk, hR, hQ, noOwn, addParts, putRow, ba_beq]
theorem reads_3 {s : ByteArray} {a : Nat} {e : Int} {o : OP} (hs : s.size ≤ 1000) (ha : a ≤ s.size) (hk : o.k.tmod 10 = 3) :
    run XP i_sleuthlaw01_reads [.ptr 0 0, .ptr 1 0, o.v] [.box false [vs s, vi a, vi e], .box false [vs s, vi a, vi e]] = some (vb true, [.box false [vs s, vi (o.next s a e).1, vi (o.next s a e).2], .box false [vs s, vi (o.next s a e).1, vi (o.next s a e).2]]) := by
  have hR := fun (Y : O) => R_Count (h := [.dead, Y, .box false [vk .u8 o.k, vi o.most]]) (l := 0) (s := s) (a := a) (e := e) (by simp) (by omega) ha o.most
  have hQ := fun (Y : O) => Q_Count (h := [Y, .dead, .box false [vk .u8 o.k, vi o.most]]) (l := 1) (s := s) (a := a) (e := e) (by simp) (by omega) ha o.most
  have hn : o.next s a e = (rSz s a e o.most 6).2 := by simp [OP.next, hk]
  rw [hn]
  generalize rSz s a e o.most 6 = q at hR hQ ⊢
  obtain ⟨v, a1, e1⟩ := q
  simp only [List.set_cons_zero, List.set_cons_succ, AV.v, AT.v, RF.v, EX.v, MS.v] at hR hQ ⊢
  rw [run_eq, xp_sleuthlaw01_reads]
  simp -implicitDefEqProofs [x_sleuthlaw01_reads, OP.v, hk, hR, hQ, noOwn, addParts, putRow, ba_beq]
theorem reads_4 {s : ByteArray} {a : Nat} {e : Int} {o : OP} (hs : s.size ≤ 1000) (ha : a ≤ s.size) (hk : o.k.tmod 10 = 4) :
    run XP i_sleuthlaw01_reads [.ptr 0 0, .ptr 1 0, o.v] [.box false [vs s, vi a, vi e], .box false [vs s, vi a, vi e]] = some (vb true, [.box false [vs s, vi (o.next s a e).1, vi (o.next s a e).2], .box false [vs s, vi (o.next s a e).1, vi (o.next s a e).2]]) := by
  have hR := fun (Y : O) => R_Value (h := [.dead, Y, .box false [vk .u8 o.k, vi o.most]]) (l := 0) (s := s) (a := a) (e := e) (by simp) (by omega) ha 
  have hQ := fun (Y : O) => Q_Value (h := [Y, .dead, .box false [vk .u8 o.k, vi o.most]]) (l := 1) (s := s) (a := a) (e := e) (by simp) (by omega) ha 
  have hn : o.next s a e = (rValue s a e).2 := by simp [OP.next, hk]
  rw [hn]
  generalize rValue s a e = q at hR hQ ⊢
  obtain ⟨v, a1, e1⟩ := q
  simp only [List.set_cons_zero, List.set_cons_succ, AV.v, AT.v, RF.v, EX.v, MS.v] at hR hQ ⊢
  rw [run_eq, xp_sleuthlaw01_reads]
  simp -implicitDefEqProofs [x_sleuthlaw01_reads, OP.v, hk, hR, hQ, noOwn, addParts, putRow, ba_beq]
theorem reads_5 {s : ByteArray} {a : Nat} {e : Int} {o : OP} (hs : s.size ≤ 1000) (ha : a ≤ s.size) (hk : o.k.tmod 10 = 5) :
    run XP i_sleuthlaw01_reads [.ptr 0 0, .ptr 1 0, o.v] [.box false [vs s, vi a, vi e], .box false [vs s, vi a, vi e]] = some (vb true, [.box false [vs s, vi (o.next s a e).1, vi (o.next s a e).2], .box false [vs s, vi (o.next s a e).1, vi (o.next s a e).2]]) := by
  have hR := fun (Y : O) => R_Attr (h := [.dead, Y, .box false [vk .u8 o.k, vi o.most]]) (l := 0) (s := s) (a := a) (e := e) (by simp) (by omega) ha 
  have hQ := fun (Y : O) => Q_Attr (h := [Y, .dead, .box false [vk .u8 o.k, vi o.most]]) (l := 1) (s := s) (a := a) (e := e) (by simp) (by omega) ha 
  have hn : o.next s a e = (rAttr s a e).2 := by simp [OP.next, hk]
  rw [hn]
  generalize rAttr s a e = q at hR hQ ⊢
  obtain ⟨v, a1, e1⟩ := q
  simp only [List.set_cons_zero, List.set_cons_succ, AV.v, AT.v, RF.v, EX.v, MS.v] at hR hQ ⊢
  rw [run_eq, xp_sleuthlaw01_reads]
  simp -implicitDefEqProofs [x_sleuthlaw01_reads, OP.v, hk, hR, hQ, noOwn, addParts, putRow, ba_beq]
theorem reads_6 {s : ByteArray} {a : Nat} {e : Int} {o : OP} (hs : s.size ≤ 1000) (ha : a ≤ s.size) (hk : o.k.tmod 10 = 6) :
    run XP i_sleuthlaw01_reads [.ptr 0 0, .ptr 1 0, o.v] [.box false [vs s, vi a, vi e], .box false [vs s, vi a, vi e]] = some (vb true, [.box false [vs s, vi (o.next s a e).1, vi (o.next s a e).2], .box false [vs s, vi (o.next s a e).1, vi (o.next s a e).2]]) := by
  have hR := fun (Y : O) => R_Ref (h := [.dead, Y, .box false [vk .u8 o.k, vi o.most]]) (l := 0) (s := s) (a := a) (e := e) (by simp) (by omega) ha 
  have hQ := fun (Y : O) => Q_Ref (h := [Y, .dead, .box false [vk .u8 o.k, vi o.most]]) (l := 1) (s := s) (a := a) (e := e) (by simp) (by omega) ha 
  have hn : o.next s a e = (rRef s a e).2 := by simp [OP.next, hk]
  rw [hn]
  generalize rRef s a e = q at hR hQ ⊢
  obtain ⟨v, a1, e1⟩ := q
  simp only [List.set_cons_zero, List.set_cons_succ, AV.v, AT.v, RF.v, EX.v, MS.v] at hR hQ ⊢
  rw [run_eq, xp_sleuthlaw01_reads]
  simp -implicitDefEqProofs [x_sleuthlaw01_reads, OP.v, hk, hR, hQ, noOwn, addParts, putRow, ba_beq]
theorem reads_7 {s : ByteArray} {a : Nat} {e : Int} {o : OP} (hs : s.size ≤ 1000) (ha : a ≤ s.size) (hk : o.k.tmod 10 = 7) :
    run XP i_sleuthlaw01_reads [.ptr 0 0, .ptr 1 0, o.v] [.box false [vs s, vi a, vi e], .box false [vs s, vi a, vi e]] = some (vb true, [.box false [vs s, vi (o.next s a e).1, vi (o.next s a e).2], .box false [vs s, vi (o.next s a e).1, vi (o.next s a e).2]]) := by
  have hR := fun (Y : O) => R_Exchange (h := [.dead, Y, .box false [vk .u8 o.k, vi o.most]]) (l := 0) (s := s) (a := a) (e := e) (by simp) (by omega) ha 
  have hQ := fun (Y : O) => Q_Exchange (h := [Y, .dead, .box false [vk .u8 o.k, vi o.most]]) (l := 1) (s := s) (a := a) (e := e) (by simp) (by omega) ha 
  have hn : o.next s a e = (rEx s a e).2 := by simp [OP.next, hk]
  rw [hn]
  generalize rEx s a e = q at hR hQ ⊢
  obtain ⟨v, a1, e1⟩ := q
  simp only [List.set_cons_zero, List.set_cons_succ, AV.v, AT.v, RF.v, EX.v, MS.v] at hR hQ ⊢
  rw [run_eq, xp_sleuthlaw01_reads]
  simp -implicitDefEqProofs [x_sleuthlaw01_reads, OP.v, hk, hR, hQ, noOwn, addParts, putRow, ba_beq]
theorem reads_8 {s : ByteArray} {a : Nat} {e : Int} {o : OP} (hs : s.size ≤ 1000) (ha : a ≤ s.size) (hk : o.k.tmod 10 = 8) :
    run XP i_sleuthlaw01_reads [.ptr 0 0, .ptr 1 0, o.v] [.box false [vs s, vi a, vi e], .box false [vs s, vi a, vi e]] = some (vb true, [.box false [vs s, vi (o.next s a e).1, vi (o.next s a e).2], .box false [vs s, vi (o.next s a e).1, vi (o.next s a e).2]]) := by
  have hR := fun (Y : O) => R_Message (h := [.dead, Y, .box false [vk .u8 o.k, vi o.most]]) (l := 0) (s := s) (a := a) (e := e) (by simp) (by omega) ha 
  have hQ := fun (Y : O) => Q_Message (h := [Y, .dead, .box false [vk .u8 o.k, vi o.most]]) (l := 1) (s := s) (a := a) (e := e) (by simp) (by omega) ha 
  have hn : o.next s a e = (rMs s a e).2 := by simp [OP.next, hk]
  rw [hn]
  generalize rMs s a e = q at hR hQ ⊢
  obtain ⟨v, a1, e1⟩ := q
  simp only [List.set_cons_zero, List.set_cons_succ, AV.v, AT.v, RF.v, EX.v, MS.v] at hR hQ ⊢
  rw [run_eq, xp_sleuthlaw01_reads]
  simp -implicitDefEqProofs [x_sleuthlaw01_reads, OP.v, hk, hR, hQ, noOwn, addParts, putRow, ba_beq]
theorem reads_9 {s : ByteArray} {a : Nat} {e : Int} {o : OP} (hs : s.size ≤ 1000) (ha : a ≤ s.size) (hk : o.k.tmod 10 = 9) :
    run XP i_sleuthlaw01_reads [.ptr 0 0, .ptr 1 0, o.v] [.box false [vs s, vi a, vi e], .box false [vs s, vi a, vi e]] = some (vb true, [.box false [vs s, vi (o.next s a e).1, vi (o.next s a e).2], .box false [vs s, vi (o.next s a e).1, vi (o.next s a e).2]]) := by
  have hR := fun (Y : O) => R_Span (h := [.dead, Y, .box false [vk .u8 o.k, vi o.most]]) (l := 0) (s := s) (a := a) (e := e) (by simp) (by omega) ha 
  have hQ := fun (Y : O) => Q_Span (h := [Y, .dead, .box false [vk .u8 o.k, vi o.most]]) (l := 1) (s := s) (a := a) (e := e) (by simp) (by omega) ha 
  have ok := rSpan_okS hs ha e
  have hn : o.next s a e = (rSpan s a e).2 := by simp [OP.next, hk]
  rw [hn]
  generalize rSpan s a e = q at hR hQ ok ⊢
  obtain ⟨v, a1, e1⟩ := q
  simp only [List.set_cons_zero, List.set_cons_succ, AV.v, AT.v, RF.v, EX.v, MS.v] at hR hQ ⊢
  have hf : ∀ h, run XP i_sleuthref01_Span [v.v] h = some (tx v.f, h) := fun h => ref_span h ok
  simp only [SP.v] at hf hR hQ
  rw [run_eq, xp_sleuthlaw01_reads]
  simp -implicitDefEqProofs [x_sleuthlaw01_reads, OP.v, hk, hR, hQ, noOwn, addParts, putRow, ba_beq, hf]
theorem OP.next_le {s : ByteArray} {a : Nat} (ha : a ≤ s.size) (e : Int) (o : OP) : (o.next s a e).1 ≤ s.size := by
  unfold OP.next
  repeat' split
  · exact rNum_le ha e
  · exact rBool_le ha e
  · exact rText_le ha e _
  · have := rSz_le ha e o.most (more := 6) (by decide)
    omega
  · exact rValue_le ha e
  · exact rAttr_le ha e
  · exact rRef_le ha e
  · exact rEx_le ha e
  · exact rMs_le ha e
  · exact rSpan_le ha e
theorem law_reads {s : ByteArray} {a : Nat} {e : Int} {o : OP} (hs : s.size ≤ 1000) (ha : a ≤ s.size) (h1 : 0 ≤ o.k) :
    run XP i_sleuthlaw01_reads [.ptr 0 0, .ptr 1 0, o.v] [.box false [vs s, vi a, vi e], .box false [vs s, vi a, vi e]] = some (vb true, [.box false [vs s, vi (o.next s a e).1, vi (o.next s a e).2], .box false [vs s, vi (o.next s a e).1, vi (o.next s a e).2]]) := by
  have h2 := Int.tmod_lt_of_pos o.k (show (0 : Int) < 10 by decide)
  have h3 := Int.tmod_nonneg 10 h1
  have : o.k.tmod 10 = 0 ∨ o.k.tmod 10 = 1 ∨ o.k.tmod 10 = 2 ∨ o.k.tmod 10 = 3 ∨ o.k.tmod 10 = 4 ∨ o.k.tmod 10 = 5 ∨ o.k.tmod 10 = 6 ∨ o.k.tmod 10 = 7 ∨ o.k.tmod 10 = 8 ∨ o.k.tmod 10 = 9 := by omega
  rcases this with h | h | h | h | h | h | h | h | h | h
  · exact reads_0 hs ha h
  · exact reads_1 hs ha h
  · exact reads_2 hs ha h
  · exact reads_3 hs ha h
  · exact reads_4 hs ha h
  · exact reads_5 hs ha h
  · exact reads_6 hs ha h
  · exact reads_7 hs ha h
  · exact reads_8 hs ha h
  · exact reads_9 hs ha h
end Go.Proofs.Sl

/- EncodingReads, of the evaluator. -/
namespace Go.Proofs.Sl
structure OP.Pre (o : OP) : Prop where
  k0 : 0 ≤ o.k
  k1 : o.k ≤ 255
  m : Rng o.most
theorem reads_l0 (S : ByteArray) (hS : S.size ≤ 200) (ps : List OP) (hok : ∀ p ∈ ps, p.Pre) (hlen : ps.length ≤ 20) (o : Option (List V)) (ho : o.getD [] = ps.map OP.v) {β : Type} {f : Ex × St → Option β} {b : Option β} {B : Body}
    (hB : B = xcode (run XP) loopW 0 x_sleuthlaw01_EncodingReads_l0) : ∀ (r : List OP) (k a : Nat) (e : Int) (s : Sl), ps.drop k = r → a ≤ S.size → s 0 = vs S → s 1 = lv 2 o → s 5 = .ptr 0 0 → s 6 = .ptr 1 0 → s 7 = vi k →
    (∀ (s' : Sl) (h' : H), f (.exit 0, ⟨s', h'⟩) = b) → ob (loopW B ⟨s, [.box false [vs S, vi a, vi e], .box false [vs S, vi a, vi e]]⟩) f = b := by
  have step : ∀ st, B st = xcode (run XP) loopW 0 x_sleuthlaw01_EncodingReads_l0 st := fun st => by rw [hB]
  have hol : (o.getD []).length = ps.length := by rw [ho]; simp
  intro r
  induction r with
  | nil =>
    intro k a e s hd ha h0 h1 h5 h6 h7 kk
    have hk : ps.length ≤ k := by simpa using hd
    have hlt : ¬ (k < ps.length) := by omega
    rw [loopW_cps]
    simp -implicitDefEqProofs [step, x_sleuthlaw01_EncodingReads_l0, h1, h7, hol, hlt]
    exact kk _ _
  | cons p r ih =>
    intro k a e s hd ha h0 h1 h5 h6 h7 kk
    have hk : k < ps.length := by
      by_cases hk : k < ps.length
      · exact hk
      · rw [List.drop_of_length_le (by omega)] at hd; cases hd
    have hg : ps[k]? = some p := by
      have := congrArg (·[0]?) hd
      simpa using this
    have hd' : ps.drop (k + 1) = r := by
      have := congrArg List.tail hd
      simpa using this
    have hr := hok p (List.mem_of_getElem? hg)
    obtain ⟨vs', hlv, hat⟩ := lv_at (k := 2) (o := o) (i := k) (e := p.v) (by rw [ho]; simp [hg])
    have hvl : vs'.length = ps.length := by
      rw [← hol]
      cases o with
      | none => simp [lv] at hlv
      | some x => simp [lv] at hlv; rw [hlv]; rfl
    have hkv : k < vs'.length := by omega
    have hate : ∀ hh, vs'[k]'hh = p.v := fun hh => by
      rw [List.getElem?_eq_getElem hh] at hat
      exact Option.some.inj hat
    have hrd := law_reads (s := S) (a := a) (e := e) (o := p) (by omega) ha hr.k0
    have hle := OP.next_le ha e p
    generalize p.next S a e = q at hrd hle
    obtain ⟨a1, e1⟩ := q
    simp only at hrd hle
    have hE := R_Err (h := [.box false [vs S, vi a1, vi e1], .box false [vs S, vi a1, vi e1]]) (l := 0) (s := S) (a := a1) (e := e1) rfl
    have hL := R_Left (h := [.box false [vs S, vi a1, vi e1], .box false [vs S, vi a1, vi e1]]) (l := 0) (s := S) (a := a1) (e := e1) rfl (by omega) hle
    have hN := R_End (h := [.box false [vs S, vi a1, vi e1], .box false [vs S, vi a1, vi e1]]) (l := 0) (s := S) (a := a1) (e := e1) rfl
    have hM := Q_End (h := [.box false [vs S, vi a1, vi e1], .box false [vs S, vi a1, vi e1]]) (l := 1) (s := S) (a := a1) (e := e1) rfl
    have hw : IntKind.i64.wrap ((S.size : Int) - (a1 : Int)) = (S.size : Int) - (a1 : Int) := wrap_i64 (by omega) (by omega)
    have hnext : ∀ s2 : Sl, s2 0 = vs S → s2 1 = lv 2 o → s2 5 = .ptr 0 0 → s2 6 = .ptr 1 0 → s2 7 = vi (IntKind.i64.wrap ((k : Int) + 1)) → ob (loopW B ⟨s2, [.box false [vs S, vi a1, vi e1], .box false [vs S, vi a1, vi e1]]⟩) f = b := by
      intro s2 g0 g1 g5 g6 g7
      refine ih (k + 1) a1 e1 s2 hd' hle g0 g1 g5 g6 ?_ kk
      rw [g7, wrap_i64 (by omega) (by omega)]
      rfl
    rw [loopW_cps]
    simp only [OP.v] at hate hrd
    simp -implicitDefEqProofs [step, x_sleuthlaw01_EncodingReads_l0, h0, h1, h5, h6, h7, hlv, hvl, hk, hate, hrd, hE, hL, hN, hM, hw]
    apply hnext <;> simp [h0, h1, h5, h6, hlv]
theorem reads_law {S : ByteArray} {ps : List OP} (hok : ∀ p ∈ ps, p.Pre) {o : Option (List V)} (ho : o.getD [] = ps.map OP.v) : run XP i_sleuthlaw01_EncodingReads [vs S, lv 2 o] [] = some (vb true, []) := by
  have hk := known_ok []
  have hol : (o.getD []).length = ps.length := by rw [ho]; simp
  have hnew := fun h => R_New (s := S) (h := h)
  rw [run_eq, xp_sleuthlaw01_EncodingReads]
  by_cases hs : (200 : Int) < (S.size : Int)
  · simp -implicitDefEqProofs [x_sleuthlaw01_EncodingReads, hk, hs]
  · by_cases h20 : (20 : Int) < (ps.length : Int)
    · simp -implicitDefEqProofs [x_sleuthlaw01_EncodingReads, hk, hol, hs, h20]
    · simp -implicitDefEqProofs [x_sleuthlaw01_EncodingReads, hk, hol, hs, h20, hnew, putRow]
      have key := fun (f : Ex × St → Option (V × H)) (b : Option (V × H)) => reads_l0 (β := V × H) (f := f) (b := b) (B := xcode (run XP) loopW 0 x_sleuthlaw01_EncodingReads_l0) S (by omega) ps hok (by omega) o ho rfl ps 0 0 0
      refine key _ _ _ rfl (by omega) ?_ ?_ ?_ ?_ ?_ fun s' h' => ?_
      · simp
      · simp
      · simp
      · simp
      · simp
      · simp -implicitDefEqProofs
end Go.Proofs.Sl

/- What is read without an error has, as its form, what was there. -/
namespace Go.Proofs.Sl
/-- Reading that can be undone. -/
def Inv {α : Type} (s : ByteArray) (f : α → List UInt8) (one : Nat → Int → α × Nat × Int) : Prop :=
  ∀ (a : Nat) (e : Int), (one a e).2.2 = 0 → e = 0 ∧ (bts s).drop a = f (one a e).1 ++ (bts s).drop (one a e).2.1
section
variable {s : ByteArray}
theorem inv_num : Inv s fNum (rNum s) := by
  intro a e h
  unfold rNum at h ⊢
  by_cases he : e = 0
  · subst he
    rw [if_neg (by simp)] at h ⊢
    by_cases hr : (rn s a).2.2 = 0
    · rw [if_neg (by simpa using hr)] at h ⊢
      exact ⟨rfl, rn_inv hr⟩
    · rw [if_pos hr] at h
      exact absurd h hr
  · rw [if_pos he] at h
    exact absurd h he
theorem inv_nums : ∀ (n : Nat), Inv s fNums (rNums s n)
  | 0, a, e, h => ⟨h, rfl⟩
  | n + 1, a, e, h => by
    rw [rNums] at h ⊢
    obtain ⟨h1, h2⟩ := inv_nums n _ _ h
    obtain ⟨h3, h4⟩ := inv_num a e h1
    refine ⟨h3, ?_⟩
    rw [h4, h2, fNums, List.append_assoc]
theorem inv_bool : Inv s fBool (rBool s) := by
  intro a e h
  unfold rBool at h ⊢
  by_cases he : e = 0
  · subst he
    rw [if_neg (by simp)] at h ⊢
    by_cases hr : (rn s a).2.2 = 0
    · rw [if_neg (by simpa using hr)] at h ⊢
      by_cases hb : (rn s a).1 ≠ 0 ∧ (rn s a).1 ≠ 1
      · rw [if_pos hb] at h
        cases h
      · rw [if_neg hb]
        refine ⟨rfl, ?_⟩
        have := rn_inv hr
        rw [this]
        congr 1
        by_cases h0 : (rn s a).1 = 0
        · rw [h0]; rfl
        · have h1 : (rn s a).1 = 1 := by
            apply Classical.byContradiction
            intro h1
            exact hb ⟨h0, h1⟩
          rw [h1]; rfl
    · rw [if_pos hr] at h
      exact absurd h hr
  · rw [if_pos he] at h
    exact absurd h he
theorem inv_sz {most more : Int} (hm : more ≠ 0) {a : Nat} {e : Int} (h : (rSz s a e most more).2.2 = 0) :
    e = 0 ∧ (bts s).drop a = fNum (rSz s a e most more).1 ++ (bts s).drop (rSz s a e most more).2.1 ∧ (rSz s a e most more).2.1 + (rSz s a e most more).1 ≤ s.size := by
  unfold rSz at h ⊢
  by_cases he : e = 0
  · subst he
    rw [if_neg (by simp)] at h ⊢
    by_cases hz : szE s a most more = 0
    · rw [if_neg (by simpa using hz)] at h ⊢
      obtain ⟨h1, h2, h3, h4⟩ := szE_ok hz hm
      have h5 := (rn_ok h1).1
      have h6 := rn_inv h1
      have h7 : (((rn s a).1.toNat : Nat) : Int) = (rn s a).1 := Int.toNat_of_nonneg h2
      refine ⟨rfl, ?_, ?_⟩
      · simp only
        rw [h7]
        exact h6
      · simp only
        omega
    · rw [if_pos hz] at h
      exact absurd h hz
  · rw [if_pos he] at h
    exact absurd h he
theorem inv_text {most : Int} : Inv s fText (fun a e => rText s a e most) := by
  intro a e h
  simp only [rText] at h ⊢
  obtain ⟨h1, h2, h3⟩ := inv_sz (by decide) h
  refine ⟨h1, ?_⟩
  rw [h2]
  generalize rSz s a e most 5 = q at h3 ⊢
  obtain ⟨n, b, e1⟩ := q
  simp only at h3 ⊢
  have hl : (((bts s).drop b).take n).length = n := by
    rw [List.length_take, List.length_drop, bts_length]
    omega
  have e : bts ⟨(((bts s).drop b).take n).toArray⟩ = ((bts s).drop b).take n := bts_ofList _
  rw [fText, size_ofList, hl, e, List.append_assoc, ← List.drop_drop, List.take_append_drop]
theorem inv_loop {α : Type} {f : α → List UInt8} {one : ByteArray → Nat → Int → α × Nat × Int} (hi : Inv s f (one s)) : ∀ (n a : Nat) (e : Int), (rLoop one s n a e).2.2 = 0 →
    e = 0 ∧ (rLoop one s n a e).1.length = n ∧ (bts s).drop a = (rLoop one s n a e).1.flatMap f ++ (bts s).drop (rLoop one s n a e).2.1
  | 0, a, e, h => ⟨h, rfl, rfl⟩
  | n + 1, a, e, h => by
    rw [rLoop] at h ⊢
    by_cases h1 : (one s a e).2.2 = 0
    · rw [if_neg (by simpa using h1)] at h ⊢
      by_cases h2 : (rLoop one s n (one s a e).2.1 (one s a e).2.2).2.2 = 0
      · rw [if_neg (by simpa using h2)] at h ⊢
        obtain ⟨h3, h4⟩ := hi a e h1
        obtain ⟨h5, h6, h7⟩ := inv_loop hi n _ _ h2
        refine ⟨h3, by simp [h6], ?_⟩
        rw [h4, h7, List.flatMap_cons, List.append_assoc]
      · rw [if_pos h2] at h
        exact absurd h h2
    · rw [if_pos h1] at h
      exact absurd h h1
theorem inv_elems {α : Type} {f : α → List UInt8} {one : ByteArray → Nat → Int → α × Nat × Int} (hi : Inv s f (one s)) : Inv s (fList f) (rElems one s) := by
  intro a e h
  unfold rElems at h ⊢
  obtain ⟨h1, h2, h3⟩ := inv_loop hi _ _ _ h
  obtain ⟨h4, h5, h6⟩ := inv_sz (by decide) h1
  refine ⟨h4, ?_⟩
  rw [h5, fList, h2, List.append_assoc, ← h3]
theorem inv_value : Inv s AV.f (rValue s) := by
  intro a e h
  simp only [rValue] at h ⊢
  rw [if_pos h]
  obtain ⟨h1, h2⟩ := inv_num _ _ h
  obtain ⟨h3, h4⟩ := inv_text _ _ h1
  obtain ⟨h5, h6⟩ := inv_num _ _ h3
  refine ⟨h5, ?_⟩
  rw [h6, h4, h2]
  simp only [AV.f, List.append_assoc]
theorem inv_attr : Inv s AT.f (rAttr s) := by
  intro a e h
  simp only [rAttr] at h ⊢
  rw [if_pos h]
  obtain ⟨h1, h2⟩ := inv_value _ _ h
  obtain ⟨h3, h4⟩ := inv_text _ _ h1
  refine ⟨h3, ?_⟩
  rw [h4, h2]
  simp only [AT.f, List.append_assoc]
theorem inv_ref : Inv s RF.f (rRef s) := by
  intro a e h
  simp only [rRef] at h ⊢
  rw [if_pos h]
  obtain ⟨h1, h2⟩ := inv_num _ _ h
  obtain ⟨h3, h4⟩ := inv_num _ _ h1
  refine ⟨h3, ?_⟩
  rw [h4, h2]
  simp only [RF.f, fNums, List.append_assoc, List.append_nil, List.nil_append]
theorem inv_ex : Inv s EX.f (rEx s) := by
  intro a e h
  rw [rEx_eq] at h ⊢
  simp only [rEx'] at h ⊢
  rw [if_pos h]
  obtain ⟨h1, g1⟩ := inv_num _ _ h
  obtain ⟨h2, g2⟩ := inv_num _ _ h1
  obtain ⟨h3, g3⟩ := inv_num _ _ h2
  obtain ⟨h4, g4⟩ := inv_num _ _ h3
  obtain ⟨h5, g5⟩ := inv_num _ _ h4
  refine ⟨h5, ?_⟩
  rw [g5, g4, g3, g2, g1]
  simp only [EX.of, EX.f, fNums, List.append_assoc, List.append_nil, List.nil_append]
theorem inv_span : Inv s SP.f (rSpan s) := by
  intro a e h
  have hx := rNums_length (s := s) 6 a e
  have hy := fun a e => rNums_length (s := s) 2 a e
  simp only [rSpan] at h ⊢
  rw [if_pos h]
  obtain ⟨h1, g1⟩ := inv_elems inv_ref _ _ h
  obtain ⟨h2, g2⟩ := inv_elems inv_attr _ _ h1
  obtain ⟨h3, g3⟩ := inv_bool _ _ h2
  obtain ⟨h4, g4⟩ := inv_nums 2 _ _ h3
  obtain ⟨h5, g5⟩ := inv_text _ _ h4
  obtain ⟨h6, g6⟩ := inv_text _ _ h5
  obtain ⟨h7, g7⟩ := inv_text _ _ h6
  obtain ⟨h8, g8⟩ := inv_nums 6 _ _ h7
  refine ⟨h8, ?_⟩
  rw [g8, g7, g6, g5, g4, g3, g2, g1]
  clear h h1 h2 h3 h4 h5 h6 h7 h8 g8 g7 g6 g5 g4 g3 g2 g1
  generalize rNums s 6 a e = x at hx ⊢
  obtain ⟨xs, a0, e0⟩ := x
  simp only at hx ⊢
  generalize rText s a0 e0 4096 = t1
  generalize rText s t1.2.1 t1.2.2 4096 = t2
  generalize rText s t2.2.1 t2.2.2 4096 = t3
  have hy := hy t3.2.1 t3.2.2
  generalize rNums s 2 t3.2.1 t3.2.2 = y at hy ⊢
  obtain ⟨ys, a4, e4⟩ := y
  simp only at hy ⊢
  match xs, hx, ys, hy with
  | [x0, x1, x2, x3, x4, x5], _, [y0, y1], _ =>
    simp only [mkSP, SP.f, List.append_assoc]
end
end Go.Proofs.Sl

/- What the Decode functions return is in order, and has the string as its form. -/
namespace Go.Proofs.Sl
section
variable {s : ByteArray}
theorem rSz_n (a : Nat) (e most : Int) {more : Int} (hm : more ≠ 0) : (rSz s a e most more).1 ≤ s.size := by
  unfold rSz
  split
  · exact Nat.zero_le _
  · split
    · exact Nat.zero_le _
    · rename_i hz
      have hz' : szE s a most more = 0 := by simpa using hz
      obtain ⟨h1, h2, h3, h4⟩ := szE_ok hz' hm
      simp only
      omega
theorem rElems_n {α : Type} (one : ByteArray → Nat → Int → α × Nat × Int) (a : Nat) (e : Int) : (rElems one s a e).1.length ≤ s.size := by
  have h1 := rSz_n (s := s) a e 4096 (more := 6) (by decide)
  have h2 := rLoop_len (one := one) (s := s) (rSz s a e 4096 6).1 (rSz s a e 4096 6).2.1 (rSz s a e 4096 6).2.2
  unfold rElems
  omega
theorem rSpan_ok (hs : s.size ≤ 1000) (a : Nat) (e : Int) : (rSpan s a e).1.Ok := by
  rw [rSpan_eq]
  unfold rSpan'
  simp only
  split
  · refine ⟨?_, ?_, ?_, ?_, ?_, ?_, ?_, ?_, ?_, ?_⟩
    · intro n hn
      simp only [mkSP, List.mem_cons, List.not_mem_nil, or_false] at hn
      rcases hn with rfl | rfl | rfl | rfl | rfl | rfl | rfl | rfl <;> exact rNum_rng _ _ _
    · exact Nat.le_trans (rText_size _ _ _ _) (by omega)
    · exact Nat.le_trans (rText_size _ _ _ _) (by omega)
    · exact Nat.le_trans (rText_size _ _ _ _) (by omega)
    · exact rLoop_all (P := AT.Ok) (fun a e => rAttr_okS s hs a e) _ _ _
    · exact rLoop_all (P := RF.Ok) (fun a e => rRef_ok s a e) _ _ _
    · exact Nat.le_trans (rElems_n _ _ _) hs
    · exact Nat.le_trans (rElems_n _ _ _) hs
    · intro h
      simpa [mkSP] using h
    · intro h
      simpa [mkSP] using h
  · exact SP.z_ok
theorem rEx_ok (a : Nat) (e : Int) : (rEx s a e).1.Ok := by
  rw [rEx_eq]
  unfold rEx'
  simp only
  split
  · exact ⟨rNum_rng _ _ _, rNum_rng _ _ _, rNum_rng _ _ _, rNum_rng _ _ _, rNum_rng _ _ _⟩
  · exact ⟨Rng.zero, Rng.zero, Rng.zero, Rng.zero, Rng.zero⟩
theorem FR.z_ok : FR.z.Ok := ⟨Rng.zero, Rng.zero, by simp [FR.z], by simp [FR.z], by simp [FR.z], by simp [FR.z], by simp [FR.z], by simp [FR.z]⟩
theorem TC.z_ok : TC.z.Ok := ⟨Rng.zero, Rng.zero, by simp [TC.z], by simp [TC.z], by simp [TC.z]⟩
theorem rEnd_zero {a : Nat} {e : Int} (h : rEnd s a e = 0) : e = 0 ∧ (bts s).drop a = [] := by
  unfold rEnd at h
  by_cases he : e = 0
  · subst he
    rw [if_neg (by simp)] at h
    by_cases hl : a < s.size
    · rw [if_pos hl] at h; cases h
    · exact ⟨rfl, List.drop_of_length_le (by rw [bts_length]; omega)⟩
  · rw [if_pos he] at h
    exact absurd h he
theorem of_bts {l : List UInt8} (h : bts s = l) : tx l = vs s := by
  rw [← h]
  show vs ⟨(bts s).toArray⟩ = vs s
  simp [bts]
theorem dSpan_ok (hs : s.size ≤ 1000) : (dSpan s).1.Ok := by
  simp only [dSpan]
  split
  · exact rSpan_ok hs _ _
  · exact SP.z_ok
theorem dSpan_f (h : (dSpan s).2 = 0) : tx (dSpan s).1.f = vs s ∧ (rSpan s 0 0).1 = (dSpan s).1 := by
  simp only [dSpan] at h ⊢
  rw [if_pos h]
  obtain ⟨h1, h2⟩ := rEnd_zero h
  obtain ⟨h3, h4⟩ := inv_span _ _ h1
  refine ⟨of_bts ?_, rfl⟩
  rw [h2, List.append_nil, List.drop_zero] at h4
  exact h4
theorem dSpan_z (h : (dSpan s).2 ≠ 0) : (dSpan s).1 = SP.z := by
  simp only [dSpan] at h ⊢
  rw [if_neg h]
theorem dFrag_ok (hs : s.size ≤ 1000) : (dFrag s).1.Ok := by
  simp only [dFrag]
  split
  · have hn := rNums_rng s 2 0 0
    have hl := rNums_length (s := s) 2 0 0
    generalize rNums s 2 0 0 = x at hn hl ⊢
    obtain ⟨xs, a0, e0⟩ := x
    simp only at hn hl ⊢
    match xs, hl, hn with
    | [n1, n2], _, hn =>
      refine ⟨hn _ (by simp [mkFR]), hn _ (by simp [mkFR]), ?_, ?_, ?_, ?_, ?_, ?_⟩
      · exact rLoop_all (P := SP.Ok) (fun a e => rSpan_ok hs a e) _ _ _
      · exact rLoop_all (P := EX.Ok) (fun a e => rEx_ok a e) _ _ _
      · exact Nat.le_trans (rElems_n _ _ _) hs
      · exact Nat.le_trans (rElems_n _ _ _) hs
      · intro h
        simpa [mkFR] using h
      · intro h
        simpa [mkFR] using h
  · exact FR.z_ok
theorem dFrag_f (h : (dFrag s).2 = 0) : tx (dFrag s).1.f = vs s := by
  have hl := rNums_length (s := s) 2 0 0
  simp only [dFrag] at h ⊢
  rw [if_pos h]
  obtain ⟨h1, h2⟩ := rEnd_zero h
  obtain ⟨h3, h4⟩ := inv_elems inv_ex _ _ h1
  obtain ⟨h5, h6⟩ := inv_elems inv_span _ _ h3
  obtain ⟨h7, h8⟩ := inv_nums 2 _ _ h5
  rw [h2, List.append_nil] at h4
  rw [h6, h4, List.drop_zero] at h8
  refine of_bts ?_
  rw [h8]
  clear h h1 h2 h3 h4 h5 h6 h7 h8
  generalize rNums s 2 0 0 = x at hl ⊢
  obtain ⟨xs, a0, e0⟩ := x
  simp only at hl ⊢
  match xs, hl with
  | [n1, n2], _ => rfl
theorem dFrag_z (h : (dFrag s).2 ≠ 0) : (dFrag s).1 = FR.z := by
  simp only [dFrag] at h ⊢
  rw [if_neg h]
theorem dTrace_ok (hs : s.size ≤ 1000) : (dTrace s).1.Ok := by
  simp only [dTrace]
  split
  · have hn := rNums_rng s 2 0 0
    have hl := rNums_length (s := s) 2 0 0
    generalize rNums s 2 0 0 = x at hn hl ⊢
    obtain ⟨xs, a0, e0⟩ := x
    simp only at hn hl ⊢
    match xs, hl, hn with
    | [n1, n2], _, hn =>
      refine ⟨hn _ (by simp [mkTC]), hn _ (by simp [mkTC]), ?_, ?_, ?_⟩
      · exact rLoop_all (P := SP.Ok) (fun a e => rSpan_ok hs a e) _ _ _
      · exact Nat.le_trans (rElems_n _ _ _) hs
      · intro h
        simpa [mkTC] using h
  · exact TC.z_ok
theorem dTrace_f (h : (dTrace s).2 = 0) : tx (dTrace s).1.f = vs s := by
  have hl := rNums_length (s := s) 2 0 0
  simp only [dTrace] at h ⊢
  rw [if_pos h]
  obtain ⟨h1, h2⟩ := rEnd_zero h
  obtain ⟨h5, h6⟩ := inv_elems inv_span _ _ h1
  obtain ⟨h7, h8⟩ := inv_nums 2 _ _ h5
  rw [h2, List.append_nil] at h6
  rw [h6, List.drop_zero] at h8
  refine of_bts ?_
  rw [h8]
  clear h h1 h2 h5 h6 h7 h8
  generalize rNums s 2 0 0 = x at hl ⊢
  obtain ⟨xs, a0, e0⟩ := x
  simp only at hl ⊢
  match xs, hl with
  | [n1, n2], _ => rfl
theorem dTrace_z (h : (dTrace s).2 ≠ 0) : (dTrace s).1 = TC.z := by
  simp only [dTrace] at h ⊢
  rw [if_neg h]
end
end Go.Proofs.Sl

/- EncodingDecodes, of the evaluator. -/
namespace Go.Proofs.Sl
set_option maxHeartbeats 4000000 in
theorem decodes_law {S : ByteArray} : run XP i_sleuthlaw01_EncodingDecodes [vs S] [] = some (vb true, []) := by
  have hk := known_ok []
  by_cases hs : (400 : Int) < (S.size : Int)
  · rw [run_eq, xp_sleuthlaw01_EncodingDecodes]
    simp -implicitDefEqProofs [x_sleuthlaw01_EncodingDecodes, hk, hs]
  · have hS : S.size ≤ 1000 := by omega
    have d1 := fun h => D_Span h (s := S) (by omega)
    have d2 := fun h => D_Fragment h (s := S) (by omega)
    have d3 := fun h => D_Trace h (s := S) (by omega)
    have k1 := dSpan_ok hS
    have k2 := dFrag_ok hS
    have k3 := dTrace_ok hS
    have k4 := rSpan_ok hS 0 0
    have z1 := dSpan_z (s := S)
    have z2 := dFrag_z (s := S)
    have z3 := dTrace_z (s := S)
    have f1 := dSpan_f (s := S)
    have f2 := dFrag_f (s := S)
    have f3 := dTrace_f (s := S)
    have rs := fun (h : H) (a : SP) (ha : a.Ok) => ref_span h ha
    have r1 := fun h => ref_span h k1
    have r2 := fun h => ref_fragment h k2
    have r3 := fun h => ref_trace h k3
    have r4 := fun h => ref_span h k4
    have y1 := fun h => ref_span h SP.z_ok
    have y2 := fun h => ref_fragment h FR.z_ok
    have y3 := fun h => ref_trace h TC.z_ok
    have q1 := fun X Y Z => Q_Span (h := [X, Y, Z, .dead]) (l := 3) (s := S) (a := 0) (e := 0) (by simp) (by omega) (by omega)
    have qe := fun X Y Z W => Q_End (h := [X, Y, Z, .box false [vs S, vi (rSpan S 0 0).2.1, vi (rSpan S 0 0).2.2], W]) (l := 3) (s := S) (a := (rSpan S 0 0).2.1) (e := (rSpan S 0 0).2.2) rfl
    have he : rEnd S (rSpan S 0 0).2.1 (rSpan S 0 0).2.2 = (dSpan S).2 := rfl
    rw [he] at qe
    have e0 : ((0 : Nat) : Int) = 0 := rfl
    simp only [List.set_cons_zero, List.set_cons_succ, e0] at q1 qe
    generalize rSpan S 0 0 = B at k4 f1 r4 q1 qe
    obtain ⟨b, a1, e1⟩ := B
    generalize dSpan S = D at d1 k1 z1 f1 r1 qe
    obtain ⟨v, e⟩ := D
    generalize dFrag S = D at d2 k2 z2 f2 r2
    obtain ⟨f, g⟩ := D
    generalize dTrace S = D at d3 k3 z3 f3 r3
    obtain ⟨t, w⟩ := D
    simp only at d1 d2 d3 k1 k2 k3 k4 z1 z2 z3 f1 f2 f3 r1 r2 r3 r4 q1 qe
    obtain ⟨Z1, hZ1⟩ : ∃ Z : ByteArray, tx SP.z.f = vs Z := ⟨_, rfl⟩
    obtain ⟨Z2, hZ2⟩ : ∃ Z : ByteArray, tx FR.z.f = vs Z := ⟨_, rfl⟩
    obtain ⟨Z3, hZ3⟩ : ∃ Z : ByteArray, tx TC.z.f = vs Z := ⟨_, rfl⟩
    rw [hZ1] at y1
    rw [hZ2] at y2
    rw [hZ3] at y3
    by_cases c1 : e = 0
    · subst c1
      obtain ⟨u1, u2⟩ := f1 rfl
      subst u2
      rw [u1] at r1
      by_cases c2 : g = 0
      · subst c2
        rw [f2 rfl] at r2
        by_cases c3 : w = 0
        · subst c3
          rw [f3 rfl] at r3
          simp only [FR.v, SP.v, TC.v] at d1 d2 d3 q1 r1 r2 r3
          rw [run_eq, xp_sleuthlaw01_EncodingDecodes]
          simp -implicitDefEqProofs [x_sleuthlaw01_EncodingDecodes, hk, hs, noOwn, putRow, d1, d2, d3, q1, qe, r1, r2, r3]
        · have b3 : (w == 0) = false ∧ (w != 0) = true := by simpa using c3
          have v3 := z3 c3
          subst v3
          simp only [TC.z_v] at d3 y3
          simp only [FR.v, SP.v] at d1 d2 d3 q1 r1 r2
          rw [run_eq, xp_sleuthlaw01_EncodingDecodes]
          simp -implicitDefEqProofs [x_sleuthlaw01_EncodingDecodes, hk, hs, noOwn, putRow, d1, d2, d3, q1, qe, r1, r2, y3, b3]
      · have b2 : (g == 0) = false ∧ (g != 0) = true := by simpa using c2
        have v2 := z2 c2
        subst v2
        simp only [FR.z_v] at d2 y2
        by_cases c3 : w = 0
        · subst c3
          rw [f3 rfl] at r3
          simp only [SP.v, TC.v] at d1 d2 d3 q1 r1 r3
          rw [run_eq, xp_sleuthlaw01_EncodingDecodes]
          simp -implicitDefEqProofs [x_sleuthlaw01_EncodingDecodes, hk, hs, noOwn, putRow, d1, d2, d3, q1, qe, r1, y2, b2, r3]
        · have b3 : (w == 0) = false ∧ (w != 0) = true := by simpa using c3
          have v3 := z3 c3
          subst v3
          simp only [TC.z_v] at d3 y3
          simp only [SP.v] at d1 d2 d3 q1 r1
          rw [run_eq, xp_sleuthlaw01_EncodingDecodes]
          simp -implicitDefEqProofs [x_sleuthlaw01_EncodingDecodes, hk, hs, noOwn, putRow, d1, d2, d3, q1, qe, r1, y2, b2, y3, b3]
    · have b1 : (e == 0) = false ∧ (e != 0) = true := by simpa using c1
      have v1 := z1 c1
      subst v1
      simp only [SP.z_v] at d1 y1
      by_cases c2 : g = 0
      · subst c2
        rw [f2 rfl] at r2
        by_cases c3 : w = 0
        · subst c3
          rw [f3 rfl] at r3
          simp only [FR.v, SP.v, TC.v] at d1 d2 d3 q1 r2 r3
          rw [run_eq, xp_sleuthlaw01_EncodingDecodes]
          simp -implicitDefEqProofs [x_sleuthlaw01_EncodingDecodes, hk, hs, noOwn, putRow, d1, d2, d3, q1, qe, y1, b1, r2, r3]
        · have b3 : (w == 0) = false ∧ (w != 0) = true := by simpa using c3
          have v3 := z3 c3
          subst v3
          simp only [TC.z_v] at d3 y3
          simp only [FR.v, SP.v] at d1 d2 d3 q1 r2
          rw [run_eq, xp_sleuthlaw01_EncodingDecodes]
          simp -implicitDefEqProofs [x_sleuthlaw01_EncodingDecodes, hk, hs, noOwn, putRow, d1, d2, d3, q1, qe, y1, b1, r2, y3, b3]
      · have b2 : (g == 0) = false ∧ (g != 0) = true := by simpa using c2
        have v2 := z2 c2
        subst v2
        simp only [FR.z_v] at d2 y2
        by_cases c3 : w = 0
        · subst c3
          rw [f3 rfl] at r3
          simp only [SP.v, TC.v] at d1 d2 d3 q1 r3
          rw [run_eq, xp_sleuthlaw01_EncodingDecodes]
          simp -implicitDefEqProofs [x_sleuthlaw01_EncodingDecodes, hk, hs, noOwn, putRow, d1, d2, d3, q1, qe, y1, b1, y2, b2, r3]
        · have b3 : (w == 0) = false ∧ (w != 0) = true := by simpa using c3
          have v3 := z3 c3
          subst v3
          simp only [TC.z_v] at d3 y3
          simp only [SP.v] at d1 d2 d3 q1 
          rw [run_eq, xp_sleuthlaw01_EncodingDecodes]
          simp -implicitDefEqProofs [x_sleuthlaw01_EncodingDecodes, hk, hs, noOwn, putRow, d1, d2, d3, q1, qe, y1, b1, y2, b2, y3, b3]
end Go.Proofs.Sl

/- The methods of a nil Writer and a nil Reader. -/
namespace Go.Proofs.Sl
section
variable (h : H)
theorem N_Number (n : V) : run XP i_encoding_Writer_Number [.s (.pointer none), n] h = some (.tup [], h) := by
  rw [run_eq, xp_encoding_Writer_Number]
  simp -implicitDefEqProofs [x_encoding_Writer_Number]
theorem N_Bool (n : Bool) : run XP i_encoding_Writer_Bool [.s (.pointer none), vb n] h = some (.tup [], h) := by
  rw [run_eq, xp_encoding_Writer_Bool]
  cases n <;> simp -implicitDefEqProofs [x_encoding_Writer_Bool, N_Number]
theorem N_Text (n : V) : run XP i_encoding_Writer_Text [.s (.pointer none), n] h = some (.tup [], h) := by
  rw [run_eq, xp_encoding_Writer_Text]
  simp -implicitDefEqProofs [x_encoding_Writer_Text]
theorem N_Bytes : run XP i_encoding_Writer_Bytes [.s (.pointer none)] h = some (vs ⟨#[]⟩, h) := by
  rw [run_eq, xp_encoding_Writer_Bytes]
  simp -implicitDefEqProofs [x_encoding_Writer_Bytes]
theorem N_Len : run XP i_encoding_Writer_Len [.s (.pointer none)] h = some (vi 0, h) := by
  rw [run_eq, xp_encoding_Writer_Len]
  simp -implicitDefEqProofs [x_encoding_Writer_Len]
theorem N_ok : run XP i_encoding_Reader_ok [.s (.pointer none)] h = some (vb false, h) := by
  rw [run_eq, xp_encoding_Reader_ok]
  simp -implicitDefEqProofs [x_encoding_Reader_ok]
theorem N_RNumber : run XP i_encoding_Reader_Number [.s (.pointer none)] h = some (vi 0, h) := by
  rw [run_eq, xp_encoding_Reader_Number]
  simp -implicitDefEqProofs [x_encoding_Reader_Number, N_ok]
theorem N_RBool : run XP i_encoding_Reader_Bool [.s (.pointer none)] h = some (vb false, h) := by
  rw [run_eq, xp_encoding_Reader_Bool]
  simp -implicitDefEqProofs [x_encoding_Reader_Bool, N_ok]
theorem N_RText (n : V) : run XP i_encoding_Reader_Text [.s (.pointer none), n] h = some (vs ⟨#[]⟩, h) := by
  rw [run_eq, xp_encoding_Reader_Text]
  simp -implicitDefEqProofs [x_encoding_Reader_Text, N_ok]
theorem N_Count (n : V) : run XP i_encoding_Reader_Count [.s (.pointer none), n] h = some (vi 0, h) := by
  rw [run_eq, xp_encoding_Reader_Count]
  simp -implicitDefEqProofs [x_encoding_Reader_Count, N_ok]
theorem N_Left : run XP i_encoding_Reader_Left [.s (.pointer none)] h = some (vi 0, h) := by
  rw [run_eq, xp_encoding_Reader_Left]
  simp -implicitDefEqProofs [x_encoding_Reader_Left, N_ok]
theorem N_Err : run XP i_encoding_Reader_Err [.s (.pointer none)] h = some (vi 1, h) := by
  rw [run_eq, xp_encoding_Reader_Err]
  simp -implicitDefEqProofs [x_encoding_Reader_Err, N_ok]
theorem N_End : run XP i_encoding_Reader_End [.s (.pointer none)] h = some (vi 1, h) := by
  rw [run_eq, xp_encoding_Reader_End]
  simp -implicitDefEqProofs [x_encoding_Reader_End, N_ok]
theorem nnums_l0 (base : Nat) (vs : List Int) (hlen : vs.length ≤ 1000) {β : Type} {f : Ex × St → Option β} {b : Option β} {B : Body} (hB : B = xcode (run XP) loopW base x_encoding_Writer_numbers_l0) :
    ∀ (r k : Nat) (s : Sl), k + r = vs.length → s 0 = .s (.pointer none) → s 6 = .lst 1 (il vs) → s 7 = vi vs.length → s 8 = vi k →
    (∀ s' : Sl, f (.exit 0, ⟨s', h⟩) = b) → ob (loopW B ⟨s, h⟩) f = b := by
  have step : ∀ st, B st = xcode (run XP) loopW base x_encoding_Writer_numbers_l0 st := fun st => by rw [hB]
  intro r
  induction r with
  | zero =>
    intro k s hd h0 h6 h7 h8 kk
    rw [loopW_cps]
    have hlt : ¬ ((k : Int) < (vs.length : Int)) := by omega
    simp -implicitDefEqProofs [step, x_encoding_Writer_numbers_l0, h7, h8, hlt]
    exact kk _
  | succ r ih =>
    intro k s hd h0 h6 h7 h8 kk
    have hk : k < vs.length := by omega
    have hlt : ((k : Int) < (vs.length : Int)) := by omega
    have hel : (il vs)[k]? = some (vi vs[k]) := by simp [il, hk]
    rw [loopW_cps]
    simp -implicitDefEqProofs [step, x_encoding_Writer_numbers_l0, h0, h6, h7, h8, hlt, hk, hel, N_Number]
    refine ih (k + 1) _ (by omega) ?_ ?_ ?_ ?_ kk
    · simp [h0]
    · simp [h6]
    · simp [h7]
    · simp only [upd_same]
      rw [wrap_i64 (by omega) (by omega)]
      simp
theorem N_numbers (vs : List Int) (hlen : vs.length ≤ 1000) : run XP i_encoding_Writer_numbers [.s (.pointer none), .lst 1 (il vs)] h = some (.tup [], h) := by
  rw [run_eq, xp_encoding_Writer_numbers]
  simp -implicitDefEqProofs [x_encoding_Writer_numbers]
  refine nnums_l0 h _ vs hlen rfl vs.length 0 _ (by omega) ?_ ?_ ?_ ?_ fun s' => ?_
  · simp
  · simp
  · simp [il]
  · simp
  · simp -implicitDefEqProofs
theorem N_Ref (x y : Int) : run XP i_encoding_Writer_Ref [.s (.pointer none), .agg [vi x, vi y]] h = some (.tup [], h) := by
  have hn := fun h => N_numbers h [x, y] (by simp)
  simp only [il, List.map_cons, List.map_nil] at hn
  rw [run_eq, xp_encoding_Writer_Ref]
  simp -implicitDefEqProofs [x_encoding_Writer_Ref, hn, noOwn]
theorem N_listAT : run XP i_encoding_list_api_Attr [.s (.pointer none), vnil, .fn i_encoding_Writer_Attr [.s (.pointer none)] []] h = some (.tup [], h) := by
  rw [run_eq, xp_encoding_list_api_Attr]
  simp -implicitDefEqProofs [x_encoding_list_api_Attr, N_Number]
  rw [loopW_cps]
  simp -implicitDefEqProofs [x_encoding_list_api_Attr_l0]
theorem N_listRF : run XP i_encoding_list_api_Ref [.s (.pointer none), vnil, .fn i_encoding_Writer_Ref [.s (.pointer none)] []] h = some (.tup [], h) := by
  rw [run_eq, xp_encoding_list_api_Ref]
  simp -implicitDefEqProofs [x_encoding_list_api_Ref, N_Number]
  rw [loopW_cps]
  simp -implicitDefEqProofs [x_encoding_list_api_Ref_l0]
theorem N_Message (x : Int) : run XP i_encoding_Writer_Message [.s (.pointer none), .agg [vi x, vi 0, vi 0, vi 0, vi 0, vi 0, vi 0, vi 0, vi 0, vi 0]] h = some (.tup [], h) := by
  have hn := fun h => N_numbers h [0, 0, 0, 0, 0] (by simp)
  simp only [il, List.map_cons, List.map_nil] at hn
  rw [run_eq, xp_encoding_Writer_Message]
  simp -implicitDefEqProofs [x_encoding_Writer_Message, hn, N_Number, N_Ref, noOwn]
theorem N_Span (x : ByteArray) : run XP i_encoding_Writer_Span [.s (.pointer none), .agg [vi 0, vi 0, vi 0, vi 0, vi 0, vi 0, vs x, vs ⟨#[]⟩, vs ⟨#[]⟩, vi 0, vi 0, vb false, vnil, vnil]] h = some (.tup [], h) := by
  have hn := fun h => N_numbers h [0, 0, 0, 0, 0, 0] (by simp)
  have hm := fun h => N_numbers h [0, 0] (by simp)
  simp only [il, List.map_cons, List.map_nil] at hn hm
  rw [run_eq, xp_encoding_Writer_Span]
  simp -implicitDefEqProofs [x_encoding_Writer_Span, hn, hm, N_Text, N_Bool, N_listAT, N_listRF, noOwn]
theorem nrnums_l0 (base : Nat) (HH : H) (q m : Nat) (N j0 : Nat) (hq : q < HH.length) (hqm : q ≠ m) (hm : HH[m]? = some (.arr false 1 (ptrs q j0 N))) (hN : N ≤ 1000) (cs : List V) (hcs : HH[q]? = some (.box false cs)) (hz : ∀ k, k < N → cs[j0 + k]? = some (vi 0))
    {β : Type} {f : Ex × St → Option β} {b : Option β} {B : Body} (hB : B = xcode (run XP) loopW base x_encoding_Reader_numbers_l0) : ∀ (r k : Nat) (st : Sl), k + r = N →
    st 0 = .s (.pointer none) → st 6 = .ref m N → st 7 = vi N → st 8 = vi k →
    (∀ st' : Sl, f (.exit 0, ⟨st', HH⟩) = b) →
    ob (loopW B ⟨st, HH⟩) f = b := by
  have step : ∀ st, B st = xcode (run XP) loopW base x_encoding_Reader_numbers_l0 st := fun st => by rw [hB]
  intro r
  induction r with
  | zero =>
    intro k st hk h0 h6 h7 h8 kk
    have hlt : ¬ (k < N) := by omega
    rw [loopW_cps]
    simp -implicitDefEqProofs [step, x_encoding_Reader_numbers_l0, h7, h8, hlt]
    exact kk _
  | succ r ih =>
    intro k st hk h0 h6 h7 h8 kk
    have hlt : k < N := by omega
    have hpt : ∀ hh, (ptrs q j0 N)[k]'hh = .ptr q (j0 + k) := fun hh => by
      have := ptrs_at N q j0 k hlt
      rw [List.getElem?_eq_getElem hh] at this
      exact Option.some.inj this
    have hc := hz k hlt
    have hcl : j0 + k < cs.length := (List.getElem?_eq_some_iff.1 hc).1
    have hce : ∀ hh, cs[j0 + k]'hh = vi 0 := fun hh => (List.getElem?_eq_some_iff.1 hc).2
    have hset : cs.set (j0 + k) (vi 0) = cs := by
      have := List.set_getElem_self hcl
      rwa [hce] at this
    have hHH : HH.set q (.box false cs) = HH := by
      have h1 := List.getElem?_eq_some_iff.1 hcs
      have := List.set_getElem_self h1.1
      rwa [h1.2] at this
    rw [loopW_cps]
    simp -implicitDefEqProofs [step, x_encoding_Reader_numbers_l0, h0, h6, h7, h8, hlt, hm, ptrs_length, hpt, N_RNumber, hcs, hcl, hce, hset, hHH]
    refine ih (k + 1) _ (by omega) ?_ ?_ ?_ ?_ fun st' => kk st'
    · simp [h0]
    · simp [h6]
    · simp [h7]
    · simp only [upd_same]
      rw [wrap_i64 (by omega) (by omega)]
      simp
theorem N_rnumbers (z : O) (mid : H) (N j0 : Nat) (hN : N ≤ 1000) (cs : List V) (hz : ∀ k, k < N → cs[j0 + k]? = some (vi 0)) :
    run XP i_encoding_Reader_numbers [.s (.pointer none), .ref (h.length + (mid.length + 2)) N] (h ++ (z :: .box false cs :: (mid ++ [.arr false 1 (ptrs (h.length + 1) j0 N)]))) =
      some (.tup [], h ++ (z :: .box false cs :: (mid ++ [.arr false 1 (ptrs (h.length + 1) j0 N)]))) := by
  have hm : (h ++ (z :: .box false cs :: (mid ++ [.arr false 1 (ptrs (h.length + 1) j0 N)])) : H)[h.length + (mid.length + 2)]? = some (.arr false 1 (ptrs (h.length + 1) j0 N)) := by
    rw [at_app]
    simp
  have hq : (h ++ (z :: .box false cs :: (mid ++ [.arr false 1 (ptrs (h.length + 1) j0 N)])) : H)[h.length + 1]? = some (.box false cs) := by
    rw [at_app]
    rfl
  rw [run_eq, xp_encoding_Reader_numbers]
  simp -implicitDefEqProofs [x_encoding_Reader_numbers, hm, ptrs_length]
  refine nrnums_l0 _ _ (h.length + 1) (h.length + (mid.length + 2)) N j0 (by simp) (by omega) hm hN cs hq hz rfl N 0 _ (by omega) ?_ ?_ ?_ ?_ fun st' => ?_
  · simp
  · simp
  · simp
  · simp
  · simp -implicitDefEqProofs
    exact List.take_of_length_le (by simp)
theorem N_readValue (a c : Int) (b : ByteArray) : run XP i_encoding_read_api_Value [.s (.pointer none), .agg [vi a, vs b, vi c]] h = some (.agg [vi 0, vs ⟨#[]⟩, vi 0], h) := by
  rw [run_eq, xp_encoding_read_api_Value]
  simp -implicitDefEqProofs [x_encoding_read_api_Value, N_ok, noOwn, putRow]
theorem N_readAttr (a c : Int) (x b : ByteArray) : run XP i_encoding_read_api_Attr [.s (.pointer none), .agg [vs x, vi a, vs b, vi c]] h = some (.agg [vs ⟨#[]⟩, vi 0, vs ⟨#[]⟩, vi 0], h) := by
  rw [run_eq, xp_encoding_read_api_Attr]
  simp -implicitDefEqProofs [x_encoding_read_api_Attr, N_ok, noOwn, putRow]
theorem N_readRef (a b : Int) : run XP i_encoding_read_api_Ref [.s (.pointer none), .agg [vi a, vi b]] h = some (.agg [vi 0, vi 0], h) := by
  rw [run_eq, xp_encoding_read_api_Ref]
  simp -implicitDefEqProofs [x_encoding_read_api_Ref, N_ok, noOwn, putRow]
theorem N_readExchange (a b c d e : Int) : run XP i_encoding_read_api_Exchange [.s (.pointer none), .agg [vi a, vi b, vi c, vi d, vi e]] h = some (.agg [vi 0, vi 0, vi 0, vi 0, vi 0], h) := by
  rw [run_eq, xp_encoding_read_api_Exchange]
  simp -implicitDefEqProofs [x_encoding_read_api_Exchange, N_ok, noOwn, putRow]
theorem N_readMessage : run XP i_encoding_read_api_Message [.s (.pointer none), .agg [vi 0, vi 0, vi 0, vi 0, vi 0, vi 0, vi 0, vi 0, vi 0, vi 0]] h = some (.agg [vi 0, vi 0, vi 0, vi 0, vi 0, vi 0, vi 0, vi 0, vi 0, vi 0], h) := by
  rw [run_eq, xp_encoding_read_api_Message]
  simp -implicitDefEqProofs [x_encoding_read_api_Message, N_ok, noOwn, putRow]
theorem N_readSpan : run XP i_encoding_read_api_Span [.s (.pointer none), .agg [vi 0, vi 0, vi 0, vi 0, vi 0, vi 0, vs ⟨#[]⟩, vs ⟨#[]⟩, vs ⟨#[]⟩, vi 0, vi 0, vb false, vnil, vnil]] h = some (.agg [vi 0, vi 0, vi 0, vi 0, vi 0, vi 0, vs ⟨#[]⟩, vs ⟨#[]⟩, vs ⟨#[]⟩, vi 0, vi 0, vb false, vnil, vnil], h) := by
  rw [run_eq, xp_encoding_read_api_Span]
  simp -implicitDefEqProofs [x_encoding_read_api_Span, N_ok, noOwn, putRow]
theorem N_elemsAT : run XP i_encoding_elements_api_Attr [.s (.pointer none), .fn i_encoding_Reader_Attr [.s (.pointer none)] []] h = some (vnil, h) := by
  rw [run_eq, xp_encoding_elements_api_Attr]
  simp -implicitDefEqProofs [x_encoding_elements_api_Attr, N_Count]
  rw [loopW_cps]
  simp -implicitDefEqProofs [x_encoding_elements_api_Attr_l0]
theorem N_elemsRF : run XP i_encoding_elements_api_Ref [.s (.pointer none), .fn i_encoding_Reader_Ref [.s (.pointer none)] []] h = some (vnil, h) := by
  rw [run_eq, xp_encoding_elements_api_Ref]
  simp -implicitDefEqProofs [x_encoding_elements_api_Ref, N_Count]
  rw [loopW_cps]
  simp -implicitDefEqProofs [x_encoding_elements_api_Ref_l0]
theorem N_Value : run XP i_encoding_Reader_Value [.s (.pointer none)] h = some (.agg [vi 0, vs ⟨#[]⟩, vi 0], h) := by
  rw [run_eq, xp_encoding_Reader_Value]
  simp -implicitDefEqProofs [x_encoding_Reader_Value, N_RNumber, N_RText, N_readValue, addParts, putRow]
theorem N_Attr : run XP i_encoding_Reader_Attr [.s (.pointer none)] h = some (.agg [vs ⟨#[]⟩, vi 0, vs ⟨#[]⟩, vi 0], h) := by
  rw [run_eq, xp_encoding_Reader_Attr]
  simp -implicitDefEqProofs [x_encoding_Reader_Attr, N_Value, N_RText, N_readAttr, addParts, putRow]
theorem N_RRef : run XP i_encoding_Reader_Ref [.s (.pointer none)] h = some (.agg [vi 0, vi 0], h) := by
  rw [run_eq, xp_encoding_Reader_Ref]
  simp -implicitDefEqProofs [x_encoding_Reader_Ref, N_RNumber, N_readRef, addParts, putRow]
theorem N_Exchange : run XP i_encoding_Reader_Exchange [.s (.pointer none)] h = some (.agg [vi 0, vi 0, vi 0, vi 0, vi 0], h) := by
  have h1 := N_rnumbers h (.box false [vi 0, vi 0, vi 0, vi 0, vi 0]) [] 5 0 (by decide) [vi 0, vi 0, vi 0, vi 0, vi 0] (fun k hk => by
    have : k = 0 ∨ k = 1 ∨ k = 2 ∨ k = 3 ∨ k = 4 := by omega
    rcases this with rfl | rfl | rfl | rfl | rfl <;> rfl)
  simp only [ptrs, List.nil_append, List.length_nil, Nat.zero_add, Nat.reduceAdd] at h1
  rw [run_eq, xp_encoding_Reader_Exchange]
  simp -implicitDefEqProofs [x_encoding_Reader_Exchange, h1, N_readExchange, addParts, putRow]
theorem N_RMessage : run XP i_encoding_Reader_Message [.s (.pointer none)] h = some (.agg [vi 0, vi 0, vi 0, vi 0, vi 0, vi 0, vi 0, vi 0, vi 0, vi 0], h) := by
  have h1 := N_rnumbers h (.box false [vi 0, vi 0, vi 0, vi 0, vi 0, vi 0, vi 0, vi 0, vi 0, vi 0]) [] 5 5 (by decide) [vi 0, vi 0, vi 0, vi 0, vi 0, vi 0, vi 0, vi 0, vi 0, vi 0] (fun k hk => by
    have : k = 0 ∨ k = 1 ∨ k = 2 ∨ k = 3 ∨ k = 4 := by omega
    rcases this with rfl | rfl | rfl | rfl | rfl <;> rfl)
  simp only [ptrs, List.nil_append, List.length_nil, Nat.zero_add, Nat.reduceAdd] at h1
  rw [run_eq, xp_encoding_Reader_Message]
  simp -implicitDefEqProofs [x_encoding_Reader_Message, h1, N_RNumber, N_RRef, N_readMessage, addParts, putRow]
theorem N_RSpan : run XP i_encoding_Reader_Span [.s (.pointer none)] h = some (.agg [vi 0, vi 0, vi 0, vi 0, vi 0, vi 0, vs ⟨#[]⟩, vs ⟨#[]⟩, vs ⟨#[]⟩, vi 0, vi 0, vb false, vnil, vnil], h) := by
  have h1 := N_rnumbers h (.box false [vi 0, vi 0, vi 0, vi 0, vi 0, vi 0, vs ⟨#[]⟩, vs ⟨#[]⟩, vs ⟨#[]⟩, vi 0, vi 0, vb false, vnil, vnil]) [] 6 0 (by decide) [vi 0, vi 0, vi 0, vi 0, vi 0, vi 0, vs ⟨#[]⟩, vs ⟨#[]⟩, vs ⟨#[]⟩, vi 0, vi 0, vb false, vnil, vnil] (fun k hk => by
    have : k = 0 ∨ k = 1 ∨ k = 2 ∨ k = 3 ∨ k = 4 ∨ k = 5 := by omega
    rcases this with rfl | rfl | rfl | rfl | rfl | rfl <;> rfl)
  have h2 := N_rnumbers h (.box false [vi 0, vi 0, vi 0, vi 0, vi 0, vi 0, vs ⟨#[]⟩, vs ⟨#[]⟩, vs ⟨#[]⟩, vi 0, vi 0, vb false, vnil, vnil]) [.arr false 1 (ptrs (h.length + 1) 0 6)] 2 9 (by decide) [vi 0, vi 0, vi 0, vi 0, vi 0, vi 0, vs ⟨#[]⟩, vs ⟨#[]⟩, vs ⟨#[]⟩, vi 0, vi 0, vb false, vnil, vnil] (fun k hk => by
    have : k = 0 ∨ k = 1 := by omega
    rcases this with rfl | rfl <;> rfl)
  simp only [ptrs, List.nil_append, List.cons_append, List.length_nil, List.length_cons, Nat.zero_add, Nat.reduceAdd] at h1 h2
  rw [run_eq, xp_encoding_Reader_Span]
  simp -implicitDefEqProofs [x_encoding_Reader_Span, h1, h2, N_RText, N_RBool, N_elemsAT, N_elemsRF, N_readSpan, addParts, putRow]
end
theorem nil_law {n : Int} {S : ByteArray} : run XP i_sleuthlaw01_EncodingNil [vi n, vs S] [] = some (vb true, []) := by
  have hk := known_ok []
  by_cases hs : (20 : Int) < (S.size : Int)
  · rw [run_eq, xp_sleuthlaw01_EncodingNil]
    simp -implicitDefEqProofs [x_sleuthlaw01_EncodingNil, hk, hs]
  · have y1 := fun h => ref_span h SP.z_ok
    rw [SP.z_v] at y1
    obtain ⟨Z1, hZ1⟩ : ∃ Z : ByteArray, tx SP.z.f = vs Z := ⟨_, rfl⟩
    rw [hZ1] at y1
    rw [run_eq, xp_sleuthlaw01_EncodingNil]
    simp -implicitDefEqProofs [x_sleuthlaw01_EncodingNil, hk, hs, noOwn, putRow, addParts, N_Number, N_Bool, N_Text, N_Span, N_Message, N_RNumber, N_RBool, N_RText, N_Count, N_Value, N_Attr, N_RRef, N_Exchange, N_RMessage, N_RSpan, N_Left, N_Bytes, N_Len, N_Err, N_End, y1, ba_beq]
end Go.Proofs.Sl
