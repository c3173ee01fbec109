/- A part of the proof. -/
import Derived.Test.YtofeccbcakebfaaSlS
import Derived.Test.YtofeccbcakebfaaSlP
set_option linter.unusedVariables false
set_option linter.unusedSimpArgs false
set_option linter.unnecessarySimpa false
namespace Go.Proofs.Sl

/-! ### Whole numbers -/
theorem wrap_u8 (n : Int) : IntKind.u8.wrap n = n % 256 := rfl
theorem wrap_u64 (n : Int) : IntKind.u64.wrap n = n % 18446744073709551616 := rfl
theorem wrap_i64 {n : Int} (h1 : -9223372036854775808 ≤ n) (h2 : n ≤ 9223372036854775807) : IntKind.i64.wrap n = n := by
  have e : IntKind.i64.wrap n = if n % 18446744073709551616 ≥ 9223372036854775808 then n % 18446744073709551616 - 18446744073709551616 else n % 18446744073709551616 := by
    simp [IntKind.wrap, IntKind.bits, IntKind.signed]
  rw [e]
  split <;> omega

theorem shr_nat (m k : Nat) {kk : IntKind} (hk : k ≤ kk.bits) : (m : Int).fdiv (2 ^ min k kk.bits) = ((m / 2 ^ k : Nat) : Int) := by
  rw [Nat.min_eq_left hk, Int.fdiv_eq_ediv_of_nonneg _ (Int.le_of_lt (Int.pow_pos (by decide)))]
  simp

/-! ### Bytes -/
def bl (l : List UInt8) : List V := l.map fun b => .s (.int .u8 b.toNat)
theorem bytesOf_bl : ∀ l : List UInt8, bytesOf (bl l) = some l
  | [] => rfl
  | b :: l => by
    show ob (bytesOf (bl l)) _ = _
    rw [bytesOf_bl l]
    simp
theorem bl_length (a : List UInt8) : (bl a).length = a.length := by simp [bl]
theorem wide_bl : ∀ l : List UInt8, wide 1 (bl l) = true
  | [] => rfl
  | b :: l => by
    show ((_ : Bool) && wide 1 (bl l)) = true
    rw [wide_bl l]
    rfl
theorem closeds_bl : ∀ l : List UInt8, V.closed.closeds (bl l) = true
  | [] => rfl
  | b :: l => by
    show ((_ : Bool) && V.closed.closeds (bl l)) = true
    rw [closeds_bl l]
    rfl
/-- The cell of a writer. -/
def wc (l : List UInt8) : V := if l = [] then vnil else .own 1 (bl l)

/-- k digits to the base 256, the greatest first. -/
def dig (m : Nat) : Nat → List Nat
  | 0 => []
  | k + 1 => m / 256 ^ k % 256 :: dig m k
/-- How many bytes a number has. -/
def blen (m : Nat) : Nat := if h : m = 0 then 0 else blen (m / 256) + 1
termination_by m
decreasing_by omega

theorem run_magnitude (h : H) {n : Int} (h1 : -9223372036854775808 ≤ n) (h2 : n ≤ 9223372036854775807) : run XP i_encoding_magnitude [vi n] h = some (vk .u64 n.natAbs, h) := by
  rw [run_eq, xp_encoding_magnitude]
  by_cases hn : n < 0
  · simp -implicitDefEqProofs [x_encoding_magnitude, hn, wrap_u64]
    omega
  · simp -implicitDefEqProofs [x_encoding_magnitude, hn, wrap_u64]
    omega

theorem blen_zero : blen 0 = 0 := by unfold blen; simp
theorem blen_pos {m : Nat} (h : m ≠ 0) : blen m = blen (m / 256) + 1 := by conv => lhs; unfold blen; simp [h]

theorem num_l0 (base : Nat) (h : H) {β : Type} {f : Ex × St → Option β} {b : Option β} {B : Body} (hB : B = xcode (run XP) loopW base x_encoding_Writer_Number_l0) : ∀ (m k : Nat) (s : Sl), s 6 = vk .u64 m → s 5 = vi k → m < 18446744073709551616 → k + blen m ≤ 100 →
    (∀ s' : Sl, s' 5 = vi (k + blen m : Nat) → (∀ t, t < 5 → s' t = s t) → f (.exit 0, ⟨s', h⟩) = b) → ob (loopW B ⟨s, h⟩) f = b := by
  have step : ∀ st, B st = xcode (run XP) loopW base x_encoding_Writer_Number_l0 st := fun st => by rw [hB]
  intro m
  induction m using Nat.strongRecOn with
  | ind m ih =>
    intro k s h6 h5 hm hk kk
    rw [loopW_cps]
    by_cases h0 : m = 0
    · subst h0
      simp -implicitDefEqProofs [step, x_encoding_Writer_Number_l0, h6]
      refine kk _ ?_ fun t ht => ?_
      · simp [h5, blen_zero]
      · simp (disch := omega) only [upd_ne]
    · have hp : 0 < m := by omega
      rw [blen_pos h0] at hk kk
      simp -implicitDefEqProofs [step, x_encoding_Writer_Number_l0, h6, h5, hp]
      rw [wrap_i64 (by omega) (by omega)]
      refine ih (m / 256) (by omega) (k + 1) _ ?_ ?_ (by omega) (by omega) fun s2 h2 h3 => kk s2 ?_ fun t ht => (h3 t ht).trans ?_
      · simp only [upd_same]
        rw [shr_nat m 8 (by decide)]
      · simp
      · rw [h2]
        have e : k + 1 + blen (m / 256) = k + (blen (m / 256) + 1) := by omega
        rw [e]
      · simp (disch := omega) only [upd_ne]

/-- A digit, turned over where the number is less than zero. -/
def flipB (neg : Bool) (d : Nat) : UInt8 := UInt8.ofNat (if neg = true then 255 - d else d)
theorem flip_ok (neg : Bool) (d : Nat) (hd : d < 256) : xorI .u8 (d : Int) (if neg = true then 255 else 0) = ((flipB neg d).toNat : Int) := by
  have : ∀ neg : Bool, ∀ d : Fin 256, xorI .u8 (d.1 : Int) (if neg = true then 255 else 0) = ((flipB neg d.1).toNat : Int) := by decide +kernel
  exact this neg ⟨d, hd⟩

theorem num_l1 (base : Nat) (h : H) (l : Nat) (hl : l < h.length) (neg : Bool) (m : Nat) {β : Type} {f : Ex × St → Option β} {b : Option β} {B : Body} (hB : B = xcode (run XP) loopW base x_encoding_Writer_Number_l1) : ∀ (k : Nat) (bs : List UInt8) (s : Sl), s 0 = .ptr l 0 → s 4 = vk .u64 m → s 7 = vk .u8 (if neg = true then 255 else 0) → s 8 = vi ((k : Int) - 1) → k ≤ 8 → bs ≠ [] →
    bs.length + k ≤ 100000000001000 → (∀ s' : Sl, (∀ t, t < 4 → s' t = s t) → f (.exit 2, ⟨s', h.set l (.box false [wc (bs ++ (dig m k).map (flipB neg))])⟩) = b) →
    ob (loopW B ⟨s, h.set l (.box false [wc bs])⟩) f = b := by
  have step : ∀ st, B st = xcode (run XP) loopW base x_encoding_Writer_Number_l1 st := fun st => by rw [hB]
  intro k
  induction k with
  | zero =>
    intro bs s h0 h4 h7 h8 hk hb hs kk
    rw [loopW_cps]
    simp -implicitDefEqProofs [step, x_encoding_Writer_Number_l1, h8]
    simp only [dig, List.map_nil, List.append_nil] at kk
    exact kk _ fun t ht => by simp (disch := omega) only [upd_ne]
  | succ k ih =>
    intro bs s h0 h4 h7 h8 hk hb hs kk
    have hb' : wc bs = .own 1 (bl bs) := by simp [wc, hb]
    rw [loopW_cps]
    have h8' : s 8 = vi k := by rw [h8]; congr 2; omega
    have w8 : IntKind.i64.wrap (8 * (k : Int)) = 8 * (k : Int) := wrap_i64 (by omega) (by omega)
    have p8 : (0 : Int) ≤ 8 * (k : Int) := by omega
    have hs' : bs.length ≤ 140737488355327 := by omega
    have hd : m / 256 ^ k % 256 < 256 := Nat.mod_lt _ (by decide)
    have hmin : min (8 * (k : Int)).toNat IntKind.u64.bits = 8 * k := by
      have : IntKind.u64.bits = 64 := rfl
      rw [this]
      omega
    have hpow : (2 : Nat) ^ (8 * k) = 256 ^ k := by rw [Nat.pow_mul]
    have hv : IntKind.u8.wrap ((m : Int).fdiv (2 ^ (8 * k))) = ((m / 256 ^ k % 256 : Nat) : Int) := by
      rw [wrap_u8, Int.fdiv_eq_ediv_of_nonneg _ (Int.le_of_lt (Int.pow_pos (by decide)))]
      have : ((2 : Int) ^ (8 * k)) = ((256 ^ k : Nat) : Int) := by rw [← hpow]; simp
      rw [this]
      rfl
    have hf := flip_ok neg _ hd
    generalize hq : m / 256 ^ k % 256 = q at hv hf hd
    simp -implicitDefEqProofs [step, x_encoding_Writer_Number_l1, h0, h4, h7, h8', hb', hl, bl_length, w8, p8, hs', hmin, hv, hf]
    have hcell : V.own 1 (bl bs ++ [vk .u8 ((flipB neg q).toNat : Int)]) = wc (bs ++ [flipB neg q]) := by simp [wc, bl]
    rw [hcell]
    refine ih (bs ++ [flipB neg q]) _ ?_ ?_ ?_ ?_ (by omega) (by simp) (by simp; omega) fun s' hs' => ?_
    · simp [h0]
    · simp [h4]
    · simp [h7]
    · simp only [upd_same]
      rw [wrap_i64 (by omega) (by omega)]
    · have := kk s' fun t ht => (hs' t ht).trans (by simp (disch := omega) only [upd_ne])
      simpa [dig, hq] using this

theorem blen_le : ∀ (k m : Nat), m < 256 ^ k → blen m ≤ k
  | 0, m, h => by
    obtain rfl : m = 0 := by simpa using h
    rw [blen_zero]
    exact Nat.le_refl _
  | k + 1, m, h => by
    by_cases h0 : m = 0
    · subst h0
      rw [blen_zero]
      omega
    · rw [blen_pos h0]
      have := blen_le k (m / 256) (by rw [Nat.pow_succ] at h; omega)
      omega

/-- The form of a number. -/
def fNum (n : Int) : List UInt8 := (if n < 0 then UInt8.ofNat (128 - blen n.natAbs) else UInt8.ofNat (128 + blen n.natAbs)) :: (dig n.natAbs (blen n.natAbs)).map (flipB (decide (n < 0)))
theorem dig_length (m : Nat) : ∀ k, (dig m k).length = k
  | 0 => rfl
  | k + 1 => by simp [dig, dig_length m k]
theorem fNum_length (n : Int) : (fNum n).length = 1 + blen n.natAbs := by simp [fNum, dig_length, Nat.add_comm]

/-- An int. -/
def Rng (n : Int) : Prop := -9223372036854775808 ≤ n ∧ n ≤ 9223372036854775807
theorem Rng.blen {n : Int} (h : Rng n) : Sl.blen n.natAbs ≤ 8 := blen_le 8 _ (by have := h.1; have := h.2; omega)
theorem fNum_le {n : Int} (h : Rng n) : (fNum n).length ≤ 9 := by rw [fNum_length]; have := h.blen; omega

theorem wc_own {bs : List UInt8} (h : bs ≠ []) : wc bs = .own 1 (bl bs) := by simp [wc, h]

theorem W_number {h : H} {l : Nat} {bs : List UInt8} {n : Int} (hl : l < h.length) (hn : Rng n) (hs : bs.length ≤ 100000000000000) :
    run XP i_encoding_Writer_Number [.ptr l 0, vi n] (h.set l (.box false [wc bs])) = some (.tup [], h.set l (.box false [wc (bs ++ fNum n)])) := by
  have hb := hn.blen
  rw [run_eq, xp_encoding_Writer_Number]
  have hmag := run_magnitude (h.set l (.box false [wc bs])) hn.1 hn.2
  simp -implicitDefEqProofs [x_encoding_Writer_Number, hmag]
  refine num_l0 _ _ rfl n.natAbs 0 _ ?_ ?_ ?_ ?_ fun s' h5 hf => ?_
  · simp
  · simp
  · have := hn.1; have := hn.2; omega
  · omega
  have g0 := hf 0 (by omega)
  have g1 := hf 1 (by omega)
  have g4 := hf 4 (by omega)
  simp at g0 g1 g4
  have hlim : bs.length ≤ 140737488355327 := by omega
  obtain ⟨c1, hc1⟩ : ∃ c : UInt8, c = UInt8.ofNat (128 - blen n.natAbs) := ⟨_, rfl⟩
  obtain ⟨c2, hc2⟩ : ∃ c : UInt8, c = UInt8.ofNat (128 + blen n.natAbs) := ⟨_, rfl⟩
  have w1 : IntKind.u8.wrap (IntKind.i64.wrap (128 - (blen n.natAbs : Int))) = (c1.toNat : Int) := by
    rw [wrap_i64 (by omega) (by omega), wrap_u8, hc1]
    simp
    omega
  have w2 : IntKind.u8.wrap (IntKind.i64.wrap (128 + (blen n.natAbs : Int))) = (c2.toNat : Int) := by
    rw [wrap_i64 (by omega) (by omega), wrap_u8, hc2]
    simp
  have w3 : IntKind.i64.wrap ((blen n.natAbs : Int) - 1) = (blen n.natAbs : Int) - 1 := wrap_i64 (by omega) (by omega)
  have hcell : ∀ b : UInt8, V.own 1 (bl bs ++ [vk .u8 (b.toNat : Int)]) = wc (bs ++ [b]) := fun b => by simp [wc, bl]
  have hcell0 : ∀ b : UInt8, V.own 1 ([vk .u8 (b.toNat : Int)]) = wc ([b]) := fun b => by simp [wc, bl]
  have fin : ∀ (neg : Bool) (c : UInt8) (s' : Sl) (t : H), neg = decide (n < 0) → c = (if neg = true then c1 else c2) → s' 0 = .ptr l 0 → s' 4 = vk .u64 n.natAbs → s' 7 = vk .u8 (if neg = true then 255 else 0) → s' 8 = vi ((blen n.natAbs : Int) - 1) →
      (ob (loopW (xcode (run XP) loopW h.length x_encoding_Writer_Number_l1) ⟨s', (h ++ t).set l (.box false [wc (bs ++ [c])])⟩) fun a => backR [] (List.set h l (O.box false [wc bs])) (outOf 2 a)) = some (.tup [], h.set l (.box false [wc (bs ++ fNum n)])) := by
    intro neg c s' t hneg hc e0 e4 e7 e8
    refine num_l1 _ (h ++ t) l (by simp; omega) neg n.natAbs rfl (blen n.natAbs) (bs ++ [c]) _ e0 e4 e7 e8 hb (by simp) (by simp; omega) fun s2 h2 => ?_
    rw [set_left hl]
    simp -implicitDefEqProofs [fNum, hneg, hc, hc1, hc2]
  by_cases hb0 : bs = []
  · subst hb0
    have hw : wc [] = vnil := by simp [wc]
    rw [hw] at fin
    simp only [set_left hl, List.nil_append] at fin
    by_cases hneg : n < 0
    · simp -implicitDefEqProofs [h5, g0, g1, g4, hneg, hl, hw, w1, w3, hcell0, at_left, set_left]
      apply fin true c1 _ [.dead] <;> simp [g0, g4, hneg]
    · simp -implicitDefEqProofs [h5, g0, g1, g4, hneg, hl, hw, w2, w3, hcell0, at_left, set_left]
      apply fin false c2 _ [.dead] <;> simp [g0, g4, hneg]
  · have hw := wc_own hb0
    have fin' := fun neg c s' => fin neg c s' []
    rw [List.append_nil, hw] at fin'
    by_cases hneg : n < 0
    · simp -implicitDefEqProofs [h5, g0, g1, g4, hneg, hl, hw, w1, w3, hlim, bl_length, hcell]
      apply fin' true c1 <;> simp [g0, g4, hneg]
    · simp -implicitDefEqProofs [h5, g0, g1, g4, hneg, hl, hw, w2, w3, hlim, bl_length, hcell]
      apply fin' false c2 <;> simp [g0, g4, hneg]
end Go.Proofs.Sl

namespace Go.Proofs.Sl

/-- The bytes of a text. -/
def bts (s : ByteArray) : List UInt8 := s.data.toList
theorem bts_length (s : ByteArray) : (bts s).length = s.size := by rw [bts, Array.length_toList]; rfl
theorem ofBytes_bts (s : ByteArray) : ofBytes s = bl (bts s) := rfl
theorem bl_nil {l : List UInt8} : bl l = [] ↔ l = [] := by simp [bl]
/-- The form of a text. -/
def fText (s : ByteArray) : List UInt8 := fNum s.size ++ bts s
theorem rng_nat {n : Nat} (h : n ≤ 1000000000000000) : Rng n := ⟨by omega, by omega⟩

theorem W_text {h : H} {l : Nat} {bs : List UInt8} {s : ByteArray} (hl : l < h.length) (hs : bs.length + s.size ≤ 90000000000000) :
    run XP i_encoding_Writer_Text [.ptr l 0, vs s] (h.set l (.box false [wc bs])) = some (.tup [], h.set l (.box false [wc (bs ++ fText s)])) := by
  have hr : Rng s.size := rng_nat (by omega)
  have hn := W_number (h := h) (l := l) (bs := bs) hl hr (by omega)
  have hle := fNum_le hr
  have hne : bs ++ fNum s.size ≠ [] := by simp [fNum]
  have hw := wc_own hne
  have hlim : bs.length + (fNum s.size).length + s.size ≤ 140737488355328 := by omega
  have hlim' : bs.length + (fNum s.size).length ≤ 140737488355328 := by omega
  rw [run_eq, xp_encoding_Writer_Text]
  by_cases h0 : bts s = []
  · simp -implicitDefEqProofs [x_encoding_Writer_Text, hn, hl, hw, ofBytes_bts, wide_bl, closeds_bl, bl_length, bts_length, hlim, hlim', fText, bl_nil, h0]
  · have hne2 : bs ++ (fNum s.size ++ bts s) ≠ [] := by simp [fNum]
    have hz : ¬ s = ByteArray.empty := fun e => h0 (by rw [e]; rfl)
    simp -implicitDefEqProofs [x_encoding_Writer_Text, hn, hl, hw, ofBytes_bts, wide_bl, closeds_bl, bl_length, bts_length, hlim, hlim', fText, bl_nil, h0, hz, wc_own hne2]
    simp only [bl, List.map_append, List.append_assoc]

/-- The same where other objects follow. -/
theorem W_number_r {h t : H} {l : Nat} {bs : List UInt8} {n : Int} (hl : l < h.length) (hn : Rng n) (hs : bs.length ≤ 100000000000000) :
    run XP i_encoding_Writer_Number [.ptr l 0, vi n] (h.set l (.box false [wc bs]) ++ t) = some (.tup [], h.set l (.box false [wc (bs ++ fNum n)]) ++ t) := by
  have := W_number (h := h ++ t) (l := l) (bs := bs) (by simp; omega) hn hs
  simpa only [set_left hl] using this
theorem W_text_r {h t : H} {l : Nat} {bs : List UInt8} {s : ByteArray} (hl : l < h.length) (hs : bs.length + s.size ≤ 90000000000000) :
    run XP i_encoding_Writer_Text [.ptr l 0, vs s] (h.set l (.box false [wc bs]) ++ t) = some (.tup [], h.set l (.box false [wc (bs ++ fText s)]) ++ t) := by
  have := W_text (h := h ++ t) (l := l) (bs := bs) (s := s) (by simp; omega) hs
  simpa only [set_left hl] using this

/-- The forms of numbers. -/
def fNums : List Int → List UInt8
  | [] => []
  | n :: r => fNum n ++ fNums r
/-- A list of ints. -/
def il (l : List Int) : List V := l.map vi
theorem fNums_le : ∀ {ns : List Int}, (∀ n ∈ ns, Rng n) → (fNums ns).length ≤ 9 * ns.length
  | [], _ => by simp [fNums]
  | n :: r, h => by
    have h1 := fNum_le (h n (by simp))
    have h2 := fNums_le (ns := r) fun m hm => h m (List.mem_cons_of_mem _ hm)
    simp [fNums]
    omega

/-! ### Values of api's types -/
end Go.Proofs.Sl

namespace Go.Proofs.Sl

theorem W_bytes {h : H} {l : Nat} {bs : List UInt8} (hl : h[l]? = some (.box false [wc bs])) : run XP i_encoding_Writer_Bytes [.ptr l 0] h = some (vs ⟨bs.toArray⟩, h) := by
  rw [run_eq, xp_encoding_Writer_Bytes]
  by_cases hb : bs = []
  · subst hb
    have hw : wc [] = vnil := by simp [wc]
    simp -implicitDefEqProofs [x_encoding_Writer_Bytes, hl, hw, bytesOf]
  · simp -implicitDefEqProofs [x_encoding_Writer_Bytes, hl, wc_own hb, bytesOf_bl]
end Go.Proofs.Sl

namespace Go.Proofs.Sl

end Go.Proofs.Sl

namespace Go.Proofs.Sl

end Go.Proofs.Sl

namespace Go.Proofs.Sl

end Go.Proofs.Sl

namespace Go.Proofs.Sl

end Go.Proofs.Sl

namespace Go.Proofs.Sl

section
variable {h t : H} {l : Nat} {s : ByteArray} {a : Nat} {e : Int}
end
end Go.Proofs.Sl

namespace Go.Proofs.Sl
section
variable {h t : H} {l : Nat} {s : ByteArray} {a : Nat} {e : Int}
theorem bone {n : Int} (h1 : 0 < n) (h2 : n < 256) : blen n.natAbs = 1 := by
  have : n.natAbs / 256 = 0 := by omega
  rw [blen_pos (by omega), this, blen_zero]
theorem b3 : fNum 3 = [129, 3] := by
  unfold fNum
  rw [bone (by decide) (by decide)]
  decide +kernel
theorem b1 : fNum 1 = [129, 1] := by
  unfold fNum
  rw [bone (by decide) (by decide)]
  decide +kernel
end
end Go.Proofs.Sl

namespace Go.Proofs.Sl

theorem toList_ofList (l : List UInt8) : (⟨l.toArray⟩ : ByteArray).toList = l := by
  rw [ByteArray.toList_eq]
theorem size_ofList (l : List UInt8) : (⟨l.toArray⟩ : ByteArray).size = l.length := by
  show l.toArray.size = _
  simp
end Go.Proofs.Sl

namespace Go.Proofs.Sl

end Go.Proofs.Sl

namespace Go.Proofs.Sl

end Go.Proofs.Sl

namespace Go.Proofs.Sl
end Go.Proofs.Sl

namespace Go.Proofs.Sl
end Go.Proofs.Sl

namespace Go.Proofs.Sl
/-- A text of these bytes. -/
def tx (l : List UInt8) : V := vs ⟨l.toArray⟩
theorem tx_plain (a : List UInt8) : (tx a).plain = true := Eq.trans rfl rfl
theorem lenT_tx (a : List UInt8) : lenT (tx a) = some (vi a.length) := by simp [tx, size_ofList]
theorem eql_tx (a b : List UInt8) : xbin .eql (tx a) (tx b) = some (vb (a == b)) := by simp [tx, strOp, toList_ofList]
theorem neq_tx (a b : List UInt8) : xbin .neq (tx a) (tx b) = some (vb (!(a == b))) := by simp [tx, strOp, toList_ofList]
attribute [simp] lenT_tx eql_tx neq_tx tx_plain
end Go.Proofs.Sl

namespace Go.Proofs.Sl

end Go.Proofs.Sl

namespace Go.Proofs.Sl
end Go.Proofs.Sl

namespace Go.Proofs.Sl

section
variable {h t : H} {l : Nat} {s : ByteArray} {a : Nat} {e : Int}
end
end Go.Proofs.Sl

namespace Go.Proofs.Sl

def plains (cs : List V) : Prop := ∀ c ∈ cs, c.plain = true
theorem plains.set {cs : List V} (h : plains cs) (j : Nat) {v : V} (hv : v.plain = true) : plains (cs.set j v) := by
  intro c hc
  rcases List.mem_or_eq_of_mem_set hc with hc | rfl
  · exact h c hc
  · exact hv

section
variable {s : ByteArray}
end
end Go.Proofs.Sl

namespace Go.Proofs.Sl
section
variable {h t : H} {l : Nat} {s : ByteArray} {a : Nat} {e : Int}
end
end Go.Proofs.Sl

namespace Go.Proofs.Sl
section
variable {h t : H} {l : Nat} {s : ByteArray} {a : Nat} {e : Int}
end

end Go.Proofs.Sl

namespace Go.Proofs.Sl
section
variable {h t : H} {l : Nat} {s : ByteArray} {a : Nat} {e : Int}

end
end Go.Proofs.Sl

namespace Go.Proofs.Sl
end Go.Proofs.Sl

namespace Go.Proofs.Sl
end Go.Proofs.Sl

namespace Go.Proofs.Sl
section
variable {s : ByteArray} {a : Nat} {rest : List UInt8}
end
end Go.Proofs.Sl

namespace Go.Proofs.Sl
end Go.Proofs.Sl

namespace Go.Proofs.Sl

/-! ### Read again -/
end Go.Proofs.Sl

namespace Go.Proofs.Sl
/-- y is a proper beginning of x. -/
def Beg (y x : List UInt8) : Prop := ∃ z, z ≠ [] ∧ x = y ++ z
theorem Beg.lt {y x : List UInt8} (h : Beg y x) : y.length < x.length := by
  obtain ⟨z, hz, rfl⟩ := h
  have := List.length_pos_iff.2 hz
  rw [List.length_append]
  omega
theorem Beg.nil {y : List UInt8} (h : Beg y []) : False := by
  have := h.lt
  simp at this
section
variable {s : ByteArray} {a : Nat} {y : List UInt8}
end
end Go.Proofs.Sl

namespace Go.Proofs.Sl
end Go.Proofs.Sl

namespace Go.Proofs.Sl
section
variable {h t : H} {l : Nat} {s : ByteArray} {a : Nat} {e : Int}
end
end Go.Proofs.Sl

namespace Go.Proofs.Sl
section
variable {h t : H} {l : Nat} {s : ByteArray} {a : Nat} {e : Int}
end
end Go.Proofs.Sl

namespace Go.Proofs.Sl

section
variable {h t : H} {l : Nat} {s : ByteArray} {a : Nat} {e : Int}
end
end Go.Proofs.Sl

namespace Go.Proofs.Sl
end Go.Proofs.Sl

namespace Go.Proofs.Sl
section
variable {s : ByteArray}
end
end Go.Proofs.Sl

namespace Go.Proofs.Sl
section
variable {s : ByteArray}
end
end Go.Proofs.Sl

namespace Go.Proofs.Sl

/-- A value that a column can't have. -/
def wrongB (n : Int) : Bool := decide (n < -1152921504606846976) || decide (n > 1152921504606846976)
def chkE (vs : List Int) : Int := if vs.length > 4096 then 6 else if vs.any wrongB then 2 else 0

theorem drop_at {α : Type} {l : List α} {k : Nat} {e : α} (h : l[k]? = some e) : l.drop k = e :: l.drop (k + 1) := by
  obtain ⟨hk, he⟩ := List.getElem?_eq_some_iff.1 h
  rw [List.drop_eq_getElem_cons hk, he]
theorem wrap_up {k : Nat} (h : k < 100000000000) : IntKind.i64.wrap ((k : Int) + 1) = (k : Int) + 1 := wrap_i64 (by omega) (by omega)
theorem il_at {vs : List Int} {k : Nat} {e : Int} (h : vs[k]? = some e) : (il vs)[k]? = some (vi e) := by simp [il, h]
theorem il_length (vs : List Int) : (il vs).length = vs.length := by simp [il]

theorem run_wrong (h : H) (n : Int) : run XP i_column_wrong [vi n] h = some (vb (wrongB n), h) := by
  rw [run_eq, xp_column_wrong]
  by_cases h1 : n < -1152921504606846976
  · simp -implicitDefEqProofs [x_column_wrong, h1, wrongB]
  · simp -implicitDefEqProofs [x_column_wrong, h1, wrongB]

/-- The first of them that is wrong. -/
def ixW : List Int → Nat → Int
  | [], _ => -1
  | v :: r, k => if wrongB v = true then k else ixW r (k + 1)
theorem ixW_any : ∀ (l : List Int) (k : Nat), decide (ixW l k ≥ 0) = l.any wrongB
  | [], k => by simp [ixW]
  | v :: r, k => by
    rw [ixW, List.any_cons]
    cases hw : wrongB v with
    | true => simp
    | false => simpa using ixW_any r (k + 1)

theorem run_indexFunc {h : H} {v : V} {vs : List Int} (hv : Rd h 1 v (il vs)) (hl : vs.length ≤ 10000) :
    run XP i_slices_IndexFunc_int_int [v, .fn i_column_wrong [] []] h = some (vi (ixW vs 0), h) := by
  rw [run_eq, xp_slices_IndexFunc_int_int]
  simp -implicitDefEqProofs [x_slices_IndexFunc_int_int, hv.toL, il_length]
  refine loop_list vs (fun k s h' => Sees s [(0, v), (1, .fn i_column_wrong [] []), (7, vi vs.length), (8, vi k)] ∧ h' = h ∧ ixW vs 0 = ixW (vs.drop k) k) ?_ ?_ _ _ ⟨by simp, rfl, rfl⟩
  · rintro B f hB hf k e s h' he hk ⟨⟨h0, h1, h7, h8, -⟩, rfl, hx⟩ K
    obtain ⟨p, hp, hld⟩ := hv.at1 (il_at he) rfl
    have hlt : (k : Int) < vs.length := by omega
    have hw := run_wrong h' e
    rw [drop_at he, ixW] at hx
    cases hb : wrongB e with
    | true =>
      rw [hb, if_pos rfl] at hx
      simp -implicitDefEqProofs [hB, hf, x_slices_IndexFunc_int_int_l0, h0, h1, h7, h8, hlt, hv.toL, hp, hld, hw, hb, hx]
    | false =>
      rw [hb, if_neg (by simp)] at hx
      simp -implicitDefEqProofs [hB, x_slices_IndexFunc_int_int_l0, h0, h1, h7, h8, hlt, hv.toL, hp, hld, hw, hb]
      refine K _ _ ⟨?_, rfl, hx⟩
      simp [h0, h1, h7, wrap_up (by omega : k < 100000000000)]
  · rintro B hB s h' ⟨⟨h0, h1, h7, h8, -⟩, rfl, hx⟩
    simp -implicitDefEqProofs [hB, x_slices_IndexFunc_int_int_l0, h7, h8, hx, ixW]

theorem run_containsFunc {h : H} {v : V} {vs : List Int} (hv : Rd h 1 v (il vs)) (hl : vs.length ≤ 10000) :
    run XP i_slices_ContainsFunc_int_int [v, .fn i_column_wrong [] []] h = some (vb (vs.any wrongB), h) := by
  have h1 := run_indexFunc hv hl
  have h2 := ixW_any vs 0
  rw [run_eq, xp_slices_ContainsFunc_int_int]
  simp -implicitDefEqProofs [x_slices_ContainsFunc_int_int, h1, hv.arg0]
  simpa using h2

theorem run_check {h : H} {v : V} {vs : List Int} (hv : Rd h 1 v (il vs)) (hl : vs.length ≤ 10000) :
    run XP i_column_check [v] h = some (vi (chkE vs), h) := by
  have h1 := run_containsFunc hv hl
  rw [run_eq, xp_column_check, chkE]
  by_cases hm : vs.length > 4096
  · have hm' : 4096 < (vs.length : Int) := by omega
    simp -implicitDefEqProofs [x_column_check, hv.toL, il_length, hm, hm']
  · have hm' : ¬ 4096 < (vs.length : Int) := by omega
    cases hw : vs.any wrongB <;> simp -implicitDefEqProofs [x_column_check, hv.toL, il_length, hm, hm', h1, hw, hv.arg0]

end Go.Proofs.Sl

namespace Go.Proofs.Sl

def OkV (n : Int) : Prop := -1152921504606846976 ≤ n ∧ n ≤ 1152921504606846976
theorem wrongB_iff {n : Int} : wrongB n = false ↔ OkV n := by
  simp only [wrongB, OkV, Bool.or_eq_false_iff, decide_eq_false_iff_not]
  omega
theorem OkV.rng {n : Int} (h : OkV n) : Rng n := ⟨by have := h.1; omega, by have := h.2; omega⟩
def fPlain (vs : List Int) : List UInt8 := fNum vs.length ++ fNums vs
def difs : Int → List Int → List Int
  | _, [] => []
  | p, v :: r => (v - p) :: difs v r
def fDelta (vs : List Int) : List UInt8 := fNum vs.length ++ fNums (difs 0 vs)
theorem difs_length : ∀ (l : List Int) (p : Int), (difs p l).length = l.length
  | [], p => rfl
  | v :: r, p => by simp [difs, difs_length r]
theorem difs_rng : ∀ (l : List Int) (p : Int), OkV p → (∀ n ∈ l, OkV n) → ∀ n ∈ difs p l, Rng n
  | [], p, _, _, n, h => by simp [difs] at h
  | v :: r, p, hp, hl, n, h => by
    simp only [difs, List.mem_cons] at h
    have hv := hl v (by simp)
    rcases h with rfl | h
    · exact ⟨by have := hv.1; have := hp.2; omega, by have := hv.2; have := hp.1; omega⟩
    · exact difs_rng r v hv (fun m hm => hl m (by simp [hm])) n h

section
variable {h : H} {l : Nat} {v : V} {vs : List Int} {bs : List UInt8}

theorem P_plain (hl : l < h.length) (hv : ∀ bs, Rd (h.set l (.box false [wc bs])) 1 v (il vs)) (hr : ∀ n ∈ vs, OkV n) (hn : vs.length ≤ 10000) (hs : bs.length ≤ 60000000000000) :
    run XP i_column_plain [.ptr l 0, v] (h.set l (.box false [wc bs])) = some (.tup [], h.set l (.box false [wc (bs ++ fPlain vs)])) := by
  have hlen : Rng vs.length := rng_nat (by omega)
  have hle := fNum_le hlen
  have htot := fNums_le (ns := vs) fun n hm => (hr n hm).rng
  have hw := W_number (h := h) (bs := bs) hl hlen (by omega)
  rw [run_eq, xp_column_plain]
  simp -implicitDefEqProofs [x_column_plain, (hv _).toL, il_length, hw]
  refine loop_list vs (fun k s h' => Sees s [(0, .ptr l 0), (10, v), (11, vi vs.length), (12, vi k)] ∧ ∃ bs', h' = h.set l (.box false [wc bs']) ∧ bs' ++ fNums (vs.drop k) = bs ++ fPlain vs) ?_ ?_ _ _ ⟨by simp, bs ++ fNum vs.length, rfl, by simp [fPlain]⟩
  · rintro B f hB hf k e s h' he hk ⟨⟨h0, h10, h11, h12, -⟩, bs', rfl, hx⟩ K
    obtain ⟨p, hp, hld⟩ := (hv bs').at1 (il_at he) rfl
    have hlt : (k : Int) < vs.length := by omega
    have hlx := congrArg List.length hx
    simp [fPlain] at hlx
    have hw := W_number (h := h) (bs := bs') hl (hr e (List.mem_of_getElem? he)).rng (by omega)
    simp -implicitDefEqProofs [hB, x_column_plain_l0, h0, h10, h11, h12, hlt, hp, hld, hw]
    refine K _ _ ⟨?_, _, rfl, ?_⟩
    · simp [h0, h10, h11, wrap_up (by omega : k < 100000000000)]
    · rw [drop_at he] at hx
      simpa [fNums] using hx
  · rintro B hB s h' ⟨⟨h0, h10, h11, h12, -⟩, bs', rfl, hx⟩
    rw [List.drop_length] at hx
    simp [fNums] at hx
    simp -implicitDefEqProofs [hB, x_column_plain_l0, h11, h12, hx]

theorem P_delta (hl : l < h.length) (hv : ∀ bs, Rd (h.set l (.box false [wc bs])) 1 v (il vs)) (hr : ∀ n ∈ vs, OkV n) (hn : vs.length ≤ 10000) (hs : bs.length ≤ 60000000000000) :
    run XP i_column_delta [.ptr l 0, v] (h.set l (.box false [wc bs])) = some (.tup [], h.set l (.box false [wc (bs ++ fDelta vs)])) := by
  have hlen : Rng vs.length := rng_nat (by omega)
  have hle := fNum_le hlen
  have h00 : OkV 0 := ⟨by decide, by decide⟩
  have htot := fNums_le (ns := difs 0 vs) (difs_rng vs 0 h00 hr)
  rw [difs_length] at htot
  have hw := W_number (h := h) (bs := bs) hl hlen (by omega)
  rw [run_eq, xp_column_delta]
  simp -implicitDefEqProofs [x_column_delta, (hv _).toL, il_length, hw]
  refine loop_list vs (fun k s h' => ∃ q, Sees s [(0, .ptr l 0), (4, vi q), (11, v), (12, vi vs.length), (13, vi k)] ∧ OkV q ∧ ∃ bs', h' = h.set l (.box false [wc bs']) ∧ bs' ++ fNums (difs q (vs.drop k)) = bs ++ fDelta vs) ?_ ?_ _ _ ⟨0, by simp, h00, bs ++ fNum vs.length, rfl, by simp [fDelta]⟩
  · rintro B f hB hf k e s h' he hk ⟨q, ⟨h0, h4, h11, h12, h13, -⟩, hq, bs', rfl, hx⟩ K
    obtain ⟨p, hp, hld⟩ := (hv bs').at1 (il_at he) rfl
    have hlt : (k : Int) < vs.length := by omega
    have hlx := congrArg List.length hx
    simp [fDelta] at hlx
    have hre := hr e (List.mem_of_getElem? he)
    have hwr : IntKind.i64.wrap (e - q) = e - q := wrap_i64 (by have := hre.1; have := hq.2; omega) (by have := hre.2; have := hq.1; omega)
    have hw := W_number (h := h) (bs := bs') (n := e - q) hl ⟨by have := hre.1; have := hq.2; omega, by have := hre.2; have := hq.1; omega⟩ (by omega)
    simp -implicitDefEqProofs [hB, x_column_delta_l0, h0, h4, h11, h12, h13, hlt, hp, hld, hwr, hw]
    refine K _ _ ⟨e, ?_, hre, _, rfl, ?_⟩
    · simp [h0, h11, h12, wrap_up (by omega : k < 100000000000)]
    · rw [drop_at he] at hx
      simpa [fNums, difs] using hx
  · rintro B hB s h' ⟨q, ⟨h0, h4, h11, h12, h13, -⟩, hq, bs', rfl, hx⟩
    rw [List.drop_length] at hx
    simp [fNums, difs] at hx
    simp -implicitDefEqProofs [hB, x_column_delta_l0, h12, h13, hx]
end

/-! ### Runs -/
/-- Where the runs begin. -/
def sts : Option Int → Nat → List Int → List Int
  | _, _, [] => []
  | p, i, v :: r => if p = some v then sts (some v) (i + 1) r else (i : Int) :: sts (some v) (i + 1) r
/-- The numbers that are written of runs. -/
def runNs (g : Nat → Int) (len : Nat) : List Int → List Int
  | [] => []
  | [a] => [g a.toNat, (len : Int) - a]
  | a :: b :: r => g a.toNat :: (b - a) :: runNs g len (b :: r)
/-- The runs. -/
def grp : List Int → List (Int × Nat)
  | [] => []
  | v :: r => (v, 1 + (r.takeWhile (· == v)).length) :: grp (r.dropWhile (· == v))
termination_by l => l.length
decreasing_by
  have := (List.dropWhile_sublist (l := r) (fun x => x == v)).length_le
  simp only [List.length_cons]
  omega
def grpNs (l : List (Int × Nat)) : List Int := l.flatMap fun p => [p.1, (p.2 : Int)]
def fRuns (vs : List Int) : List UInt8 := fNum (grp vs).length ++ fNums (grpNs (grp vs))

theorem sts_skip (v : Int) : ∀ (r : List Int) (j : Nat), sts (some v) j r = sts (some v) (j + (r.takeWhile (· == v)).length) (r.dropWhile (· == v))
  | [], j => by simp [sts]
  | w :: r, j => by
    by_cases h : w = v
    · subst h
      simp only [sts, if_true, List.takeWhile_cons, List.dropWhile_cons, beq_self_eq_true, List.length_cons]
      rw [sts_skip w r (j + 1)]
      congr 1
      omega
    · have : (w == v) = false := by simpa using h
      simp [List.takeWhile_cons, List.dropWhile_cons, this]
theorem tw_dw (v : Int) (r : List Int) : (r.takeWhile (· == v)).length + (r.dropWhile (· == v)).length = r.length := by
  have := congrArg List.length (List.takeWhile_append_dropWhile (p := (· == v)) (l := r))
  rwa [List.length_append] at this
theorem drop_tw (v : Int) : ∀ r : List Int, r.drop (r.takeWhile (· == v)).length = r.dropWhile (· == v)
  | [] => rfl
  | w :: r => by
    by_cases h : (w == v) = true
    · simp [List.takeWhile_cons, List.dropWhile_cons, h, drop_tw v r]
    · simp [List.takeWhile_cons, List.dropWhile_cons, h]
theorem runs_eq (vs : List Int) : ∀ (m : Nat) (i : Nat) (rest : List Int) (p : Option Int), rest.length = m → vs.drop i = rest → p ≠ rest.head? ∨ rest = [] →
    runNs (fun n => vs.getD n 0) vs.length (sts p i rest) = grpNs (grp rest) ∧ (sts p i rest).length = (grp rest).length := by
  intro m
  induction m using Nat.strongRecOn with
  | ind m ih =>
    intro i rest p hm hd hp
    cases rest with
    | nil => simp [sts, grp, grpNs, runNs]
    | cons v r =>
      have hp' : p ≠ some v := by simpa using hp
      have hgi : vs.getD i 0 = v := by
        have := congrArg (·[0]?) hd
        simp at this
        simp [this]
      rw [sts, if_neg hp', sts_skip v r (i + 1), grp]
      have htd := tw_dw v r
      have hlen := congrArg List.length hd
      rw [List.length_drop, List.length_cons] at hlen
      have hd2 : vs.drop (i + 1 + (r.takeWhile (· == v)).length) = r.dropWhile (· == v) := by
        rw [← List.drop_drop, ← List.drop_drop, hd]
        simp only [List.drop_succ_cons, List.drop_zero]
        exact drop_tw v r
      have hne : some v ≠ (r.dropWhile (· == v)).head? ∨ r.dropWhile (· == v) = [] := by
        cases hh : (r.dropWhile (· == v)).head? with
        | none => right; simpa using hh
        | some w =>
          left
          have := List.head?_dropWhile_not (p := (· == v)) (l := r)
          rw [hh] at this
          simp at this
          simpa using fun e => this e.symm
      obtain ⟨e1, e2⟩ := ih (r.dropWhile (· == v)).length (by simp at hm; omega) (i + 1 + (r.takeWhile (· == v)).length) (r.dropWhile (· == v)) (some v) rfl hd2 hne
      refine ⟨?_, by simp [e2]⟩
      cases hr : r.dropWhile (· == v) with
      | nil =>
        rw [hr] at htd
        simp only [List.length_nil] at htd
        simp only [sts, runNs, grp, grpNs, List.flatMap_cons, List.flatMap_nil, Int.toNat_natCast]
        rw [hgi]
        simp
        omega
      | cons w r' =>
        rw [hr] at e1 hne
        have hw : (some v : Option Int) ≠ some w := by simpa using hne
        rw [sts, if_neg hw] at e1 ⊢
        rw [runNs, e1, Int.toNat_natCast, hgi]
        simp only [grpNs, List.flatMap_cons]
        simp
        omega
theorem runs_all (vs : List Int) : runNs (fun n => vs.getD n 0) vs.length (sts none 0 vs) = grpNs (grp vs) ∧ (sts none 0 vs).length = (grp vs).length :=
  runs_eq vs vs.length 0 vs none rfl rfl (by cases vs <;> simp)
end Go.Proofs.Sl

namespace Go.Proofs.Sl
theorem sts_rng : ∀ (l : List Int) (p : Option Int) (i : Nat), ∀ n ∈ sts p i l, (i : Int) ≤ n ∧ n < (i + l.length : Nat)
  | [], p, i, n, h => by simp [sts] at h
  | v :: r, p, i, n, h => by
    have key : ∀ n ∈ sts (some v) (i + 1) r, (i : Int) ≤ n ∧ n < (i + (v :: r).length : Nat) := fun n hn => by
      have := sts_rng r (some v) (i + 1) n hn
      simp only [List.length_cons]
      omega
    simp only [sts] at h
    split at h
    · exact key n h
    · simp only [List.mem_cons] at h
      rcases h with rfl | h
      · simp only [List.length_cons]; omega
      · exact key n h
theorem sts_len : ∀ (l : List Int) (p : Option Int) (i : Nat), (sts p i l).length ≤ l.length
  | [], p, i => by simp [sts]
  | v :: r, p, i => by
    have := sts_len r (some v) (i + 1)
    simp only [sts]
    split <;> simp <;> omega
theorem runNs_rng {vs : List Int} (hr : ∀ n ∈ vs, OkV n) (hn : vs.length ≤ 10000) : ∀ (st : List Int), (∀ n ∈ st, (0 : Int) ≤ n ∧ n < vs.length) → ∀ n ∈ runNs (fun n => vs.getD n 0) vs.length st, OkV n
  | [], _, n, h => by simp [runNs] at h
  | [a], hs, n, h => by
    have ha := hs a (by simp)
    simp only [runNs, List.mem_cons, List.not_mem_nil, or_false] at h
    rcases h with rfl | rfl
    · refine hr _ ?_
      rw [List.getD_eq_getElem?_getD, List.getElem?_eq_getElem (by omega)]
      exact List.getElem_mem _
    · exact ⟨by omega, by omega⟩
  | a :: b :: r, hs, n, h => by
    have ha := hs a (by simp)
    have hb := hs b (by simp)
    simp only [runNs, List.mem_cons] at h
    rcases h with rfl | rfl | h
    · refine hr _ ?_
      rw [List.getD_eq_getElem?_getD, List.getElem?_eq_getElem (by omega)]
      exact List.getElem_mem _
    · exact ⟨by omega, by omega⟩
    · exact runNs_rng hr hn (b :: r) (fun m hm => hs m (by simp [List.mem_cons.1 hm])) n h
theorem runNs_len (g : Nat → Int) (len : Nat) : ∀ st : List Int, (runNs g len st).length = 2 * st.length
  | [] => rfl
  | [a] => rfl
  | a :: b :: r => by
    simp only [runNs, List.length_cons, runNs_len g len (b :: r)]
    omega

section
variable {h : H} {l : Nat} {v : V} {vs : List Int} {bs : List UInt8}
/-- The value ahead of a row. -/
def prevO (vs : List Int) (k : Nat) : Option Int := if k = 0 then none else vs[k - 1]?

theorem P_runs (hl : l < h.length) (hv : ∀ bs, Rd (h.set l (.box false [wc bs])) 1 v (il vs)) (hr : ∀ n ∈ vs, OkV n) (hn : vs.length ≤ 10000) (hs : bs.length ≤ 60000000000000) :
    run XP i_column_runs [.ptr l 0, v] (h.set l (.box false [wc bs])) = some (.tup [], h.set l (.box false [wc (bs ++ fRuns vs)])) := by
  obtain ⟨ra1, ra2⟩ := runs_all vs
  obtain ⟨S, hS⟩ : ∃ S, S = sts none 0 vs := ⟨_, rfl⟩
  have hSr : ∀ n ∈ S, (0 : Int) ≤ n ∧ n < vs.length := fun n hn => by
    have := sts_rng vs none 0 n (hS ▸ hn)
    omega
  have hSl : S.length ≤ 10000 := by
    have := sts_len vs none 0
    rw [hS]; omega
  rw [← hS] at ra1 ra2
  have hlen : Rng S.length := rng_nat (by omega)
  have hle := fNum_le hlen
  have htot := fNums_le (ns := runNs (fun n => vs.getD n 0) vs.length S) fun n hm => (runNs_rng hr hn S hSr n hm).rng
  rw [runNs_len] at htot
  have hF : fRuns vs = fNum S.length ++ fNums (runNs (fun n => vs.getD n 0) vs.length S) := by rw [fRuns, ← ra1, ← ra2]
  rw [run_eq, xp_column_runs]
  simp -implicitDefEqProofs [x_column_runs, (hv _).toL, il_length]
  refine loop_list vs (fun k s h' => ∃ st, Sees s [(0, .ptr l 0), (1, v), (4, gv h.length (il st)), (10, v), (11, vi vs.length), (12, vi k)] ∧ h' = h.set l (.box false [wc bs]) ++ gt 1 (il st) ∧ st ++ sts (prevO vs k) k (vs.drop k) = S ∧ st.length ≤ k) ?_ ?_ _ _
    ⟨[], by simp [gv, il], by simp [gt, il], by simp [prevO, hS], by simp⟩
  · rintro B f hB hf k e s h' he hk ⟨st, ⟨h0, h1, h4, h10, h11, h12, -⟩, rfl, hx, hst⟩ K
    have hlt : (k : Int) < vs.length := by omega
    have hv' := (hv bs).app (gt 1 (il st))
    obtain ⟨p, hp, hld⟩ := hv'.at1 (il_at he) rfl
    have hpv : prevO vs (k + 1) = some e := by simp [prevO, he]
    rw [drop_at he, sts] at hx
    have hga := gv_app (h := h.set l (.box false [wc bs])) (k := 1) (n := h.length) (lim := 17592186044416) (es := il st) (ys := [vi k]) (by simp) rfl rfl (by simp) (by simp [il_length]; omega)
    have hil : il st ++ [vi k] = il (st ++ [(k : Int)]) := by simp [il]
    rw [hil] at hga
    by_cases hk0 : k = 0
    · have hkz : ((k : Int) == 0) = true := by simp [hk0]
      have hpk : prevO vs k = none := by simp [prevO, hk0]
      rw [hpk] at hx
      simp at hx
      simp -implicitDefEqProofs [hB, x_column_runs_l0, h0, h1, h4, h10, h11, h12, hlt, hp, hld, hkz, hga]
      refine K _ _ ⟨st ++ [(k : Int)], ?_, rfl, ?_, by simp; omega⟩
      · simp [h0, h1, h10, h11, wrap_up (by omega : k < 100000000000)]
      · rw [hpv]; simpa using hx
    · have hm : vs[k - 1]? = some (vs[k - 1]'(by omega)) := List.getElem?_eq_getElem (by omega)
      obtain ⟨q, hq⟩ : ∃ q, q = vs[k - 1]'(by omega) := ⟨_, rfl⟩
      rw [← hq] at hm
      obtain ⟨p2, hp2, hld2⟩ := hv'.at1 (il_at hm) rfl
      have hpk : prevO vs k = some q := by simp [prevO, hk0, hm]
      have hk0' : ((k : Int) == 0) = false := by simpa using hk0
      have hwk : IntKind.i64.wrap ((k : Int) - 1) = ((k - 1 : Nat) : Int) := by rw [wrap_i64 (by omega) (by omega)]; omega
      rw [hpk] at hx
      by_cases heq : e = q
      · subst heq
        rw [if_pos rfl] at hx
        simp -implicitDefEqProofs [hB, x_column_runs_l0, h0, h1, h4, h10, h11, h12, hlt, hp, hld, hk0', hwk, hp2, hld2]
        refine K _ _ ⟨st, ?_, rfl, ?_, by omega⟩
        · simp [h0, h1, h4, h10, h11, wrap_up (by omega : k < 100000000000)]
        · rw [hpv]; exact hx
      · have hne : (e != q) = true := by simpa using heq
        have hne' : ¬ q = e := fun e => heq e.symm
        simp [hne'] at hx
        simp -implicitDefEqProofs [hB, x_column_runs_l0, h0, h1, h4, h10, h11, h12, hlt, hp, hld, hk0', hwk, hp2, hld2, hne, hga]
        refine K _ _ ⟨st ++ [(k : Int)], ?_, rfl, ?_, by simp; omega⟩
        · simp [h0, h1, h10, h11, wrap_up (by omega : k < 100000000000)]
        · rw [hpv]; simpa using hx
  rintro B hB s h' ⟨st, ⟨h0, h1, h4, h10, h11, h12, -⟩, rfl, hx, hst⟩
  rw [List.drop_length] at hx
  simp [sts] at hx
  subst hx
  clear hst
  have hgr : ∀ bs, Rd (h.set l (.box false [wc bs]) ++ gt 1 (il st)) 1 (gv h.length (il st)) (il st) := fun bs => gv_rd0 1 (il st) (by simp)
  have hw := W_number_r (h := h) (t := gt 1 (il st)) (bs := bs) hl hlen (by omega)
  simp -implicitDefEqProofs [hB, x_column_runs_l0, h0, h1, h4, h10, h11, h12, (hgr _).toL, il_length, hw]
  refine loop_list st (fun k s h' => Sees s [(0, .ptr l 0), (1, v), (4, gv h.length (il st)), (37, gv h.length (il st)), (38, vi st.length), (39, vi k)] ∧ ∃ bs', h' = h.set l (.box false [wc bs']) ++ gt 1 (il st) ∧ bs' ++ fNums (runNs (fun n => vs.getD n 0) vs.length (st.drop k)) = bs ++ fRuns vs) ?_ ?_ _ _
    ⟨by simp [h0, h1, h4], bs ++ fNum st.length, rfl, by rw [hF]; simp⟩
  · rintro B f hB hf k e s h' he hk ⟨⟨h0, h1, h4, h37, h38, h39, -⟩, bs', rfl, hx⟩ K
    have hlt : (k : Int) < st.length := by omega
    obtain ⟨p, hp, hld⟩ := (hgr bs').at1 (il_at he) rfl
    obtain ⟨he0, he1⟩ := hSr e (List.mem_of_getElem? he)
    obtain ⟨q, hq⟩ : ∃ q, vs[e.toNat]? = some q := ⟨_, List.getElem?_eq_getElem (by omega)⟩
    have hqo := hr q (List.mem_of_getElem? hq)
    have hgq : vs.getD e.toNat 0 = q := by rw [List.getD_eq_getElem?_getD, hq]; rfl
    have hlx := congrArg List.length hx
    have hFl := congrArg List.length hF
    simp only [List.length_append] at hlx hFl
    have hle9 := fNum_le hqo.rng
    have hwk : IntKind.i64.wrap ((k : Int) + 1) = (k : Int) + 1 := wrap_up (by omega)
    have hnn : (0 : Int) ≤ (k : Int) + 1 := by omega
    have htn : ((k : Int) + 1).toNat = k + 1 := by omega
    have hw1 := W_number_r (h := h) (t := gt 1 (il st)) (bs := bs') hl hqo.rng (by omega)
    have hvq : ∀ bs, ∃ p, iaddrV (h.set l (.box false [wc bs]) ++ gt 1 (il st)) 1 v e.toNat = some p ∧ xload (h.set l (.box false [wc bs]) ++ gt 1 (il st)) 1 false p = some (vi q) := fun bs => ((hv bs).app _).at1 (il_at hq) rfl
    obtain ⟨p2, hp2, hld2⟩ := hvq bs'
    rw [drop_at he] at hx
    by_cases hk1 : k + 1 < st.length
    · obtain ⟨b, hb⟩ : ∃ b, st[k + 1]? = some b := ⟨_, List.getElem?_eq_getElem hk1⟩
      have hb01 := hSr b (List.mem_of_getElem? hb)
      have hk1' : (k : Int) + 1 < st.length := by omega
      obtain ⟨p3, hp3, hld3⟩ := (hgr bs').at1 (il_at hb) rfl
      rw [drop_at hb, runNs, ← drop_at hb, hgq] at hx
      simp only [fNums] at hx
      have hwd : IntKind.i64.wrap (b - e) = b - e := wrap_i64 (by omega) (by omega)
      have hrd : Rng (b - e) := ⟨by omega, by omega⟩
      have hw2 := W_number_r (h := h) (t := gt 1 (il st)) (bs := bs' ++ fNum q) hl hrd (by simp; omega)
      simp -implicitDefEqProofs [hB, x_column_runs_l1, h0, h1, h4, h37, h38, h39, hlt, hp, hld, ((hv _).app _).toL, il_length, hwk, hnn, htn, (hgr _).toL, hk1', hp3, hld3, he0, hp2, hld2, hw1, hwd, hw2]
      refine K _ _ ⟨?_, _, rfl, ?_⟩
      · simp [h0, h1, h4, h37, h38, hwk]
      · simpa using hx
    · have hk1' : ¬ (k : Int) + 1 < st.length := by omega
      have hdn : st.drop (k + 1) = [] := List.drop_of_length_le (by omega)
      rw [hdn, runNs, hgq] at hx
      simp only [fNums] at hx
      have hwd : IntKind.i64.wrap ((vs.length : Int) - e) = (vs.length : Int) - e := wrap_i64 (by omega) (by omega)
      have hrd : Rng ((vs.length : Int) - e) := ⟨by omega, by omega⟩
      have hw2 := W_number_r (h := h) (t := gt 1 (il st)) (bs := bs' ++ fNum q) hl hrd (by simp; omega)
      simp -implicitDefEqProofs [hB, x_column_runs_l1, h0, h1, h4, h37, h38, h39, hlt, hp, hld, ((hv _).app _).toL, il_length, hwk, (hgr _).toL, hk1', he0, hp2, hld2, hw1, hwd, hw2]
      refine K _ _ ⟨?_, _, rfl, ?_⟩
      · simp [h0, h1, h4, h37, h38, hwk]
      · rw [hdn]; simpa [runNs, fNums] using hx
  · rintro B hB s h' ⟨⟨h0, h1, h4, h37, h38, h39, -⟩, bs', rfl, hx⟩
    rw [List.drop_length] at hx
    simp [runNs, fNums] at hx
    simp -implicitDefEqProofs [hB, x_column_runs_l1, h38, h39, hx]
end
end Go.Proofs.Sl

namespace Go.Proofs.Sl

def mn (a b : Int) : Int := if b < a then b else a
def mx (a b : Int) : Int := if a < b then b else a
def zoneP : List Int → Int × Int
  | [] => (0, 0)
  | a :: r => (r.foldl mn a, r.foldl mx a)

theorem run_Min {h : H} {v : V} {a : Int} {r : List Int} (hv : Rd h 1 v (il (a :: r))) (hl : r.length ≤ 10000) : run XP i_slices_Min_int_int [v] h = some (vi (r.foldl mn a), h) := by
  obtain ⟨p0, hp0, hld0⟩ := hv.at1 (i := 0) (e := vi a) rfl rfl
  have hlen : ¬ ((r.length : Int) + 1 < 1) := by omega
  rw [run_eq, xp_slices_Min_int_int]
  simp -implicitDefEqProofs [x_slices_Min_int_int, hv.toL, il_length, hp0, hld0, hlen]
  refine loop_list r (fun k s h' => ∃ m, Sees s [(0, v), (3, vi m), (4, vi ((k : Int) + 1))] ∧ h' = h ∧ (r.drop k).foldl mn m = r.foldl mn a) ?_ ?_ _ _ ⟨a, by simp, rfl, rfl⟩
  · rintro B f hB hf k e s h' he hk ⟨m, ⟨h0, h3, h4, -⟩, rfl, hx⟩ K
    obtain ⟨p, hp, hld⟩ := hv.at1 (i := k + 1) (e := vi e) (by simp [il, he]) rfl
    have hlt : (k : Int) + 1 < (r.length : Int) + 1 := by omega
    have hnn : (0 : Int) ≤ (k : Int) + 1 := by omega
    have htn : ((k : Int) + 1).toNat = k + 1 := by omega
    have hw : IntKind.i64.wrap ((k : Int) + 1 + 1) = (k : Int) + 1 + 1 := wrap_i64 (by omega) (by omega)
    rw [drop_at he, List.foldl_cons] at hx
    simp -implicitDefEqProofs [hB, x_slices_Min_int_int_l0, h0, h3, h4, hv.toL, il_length, hlt, hnn, htn, hp, hld]
    refine K _ _ ⟨mn m e, ?_, rfl, hx⟩
    simp [h0, hw, mn]
  · rintro B hB s h' ⟨m, ⟨h0, h3, h4, -⟩, rfl, hx⟩
    have hlt : ¬ ((r.length : Int) + 1 < (r.length : Int) + 1) := by omega
    rw [List.drop_length, List.foldl_nil] at hx
    simp -implicitDefEqProofs [hB, x_slices_Min_int_int_l0, h0, h3, h4, hv.toL, il_length, hlt, hx]
theorem run_Max {h : H} {v : V} {a : Int} {r : List Int} (hv : Rd h 1 v (il (a :: r))) (hl : r.length ≤ 10000) : run XP i_slices_Max_int_int [v] h = some (vi (r.foldl mx a), h) := by
  obtain ⟨p0, hp0, hld0⟩ := hv.at1 (i := 0) (e := vi a) rfl rfl
  have hlen : ¬ ((r.length : Int) + 1 < 1) := by omega
  rw [run_eq, xp_slices_Max_int_int]
  simp -implicitDefEqProofs [x_slices_Max_int_int, hv.toL, il_length, hp0, hld0, hlen]
  refine loop_list r (fun k s h' => ∃ m, Sees s [(0, v), (3, vi m), (4, vi ((k : Int) + 1))] ∧ h' = h ∧ (r.drop k).foldl mx m = r.foldl mx a) ?_ ?_ _ _ ⟨a, by simp, rfl, rfl⟩
  · rintro B f hB hf k e s h' he hk ⟨m, ⟨h0, h3, h4, -⟩, rfl, hx⟩ K
    obtain ⟨p, hp, hld⟩ := hv.at1 (i := k + 1) (e := vi e) (by simp [il, he]) rfl
    have hlt : (k : Int) + 1 < (r.length : Int) + 1 := by omega
    have hnn : (0 : Int) ≤ (k : Int) + 1 := by omega
    have htn : ((k : Int) + 1).toNat = k + 1 := by omega
    have hw : IntKind.i64.wrap ((k : Int) + 1 + 1) = (k : Int) + 1 + 1 := wrap_i64 (by omega) (by omega)
    rw [drop_at he, List.foldl_cons] at hx
    simp -implicitDefEqProofs [hB, x_slices_Max_int_int_l0, h0, h3, h4, hv.toL, il_length, hlt, hnn, htn, hp, hld]
    refine K _ _ ⟨mx m e, ?_, rfl, hx⟩
    simp [h0, hw, mx]
  · rintro B hB s h' ⟨m, ⟨h0, h3, h4, -⟩, rfl, hx⟩
    have hlt : ¬ ((r.length : Int) + 1 < (r.length : Int) + 1) := by omega
    rw [List.drop_length, List.foldl_nil] at hx
    simp -implicitDefEqProofs [hB, x_slices_Max_int_int_l0, h0, h3, h4, hv.toL, il_length, hlt, hx]

theorem run_zone {h : H} {v : V} {vs : List Int} (hv : Rd h 1 v (il vs)) (hl : vs.length ≤ 10000) : run XP i_column_zone [v] h = some (.agg [vi (zoneP vs).1, vi (zoneP vs).2], h) := by
  cases vs with
  | nil =>
    have hv' := hv.app [.box false [vi 0, vi 0]]
    rw [run_eq, xp_column_zone]
    simp -implicitDefEqProofs [x_column_zone, hv'.toL, il_length, zoneP]
  | cons a r =>
    have hv' := hv.app [.box false [vi 0, vi 0]]
    have h1 := run_Min hv' (by simp at hl; omega)
    have h2 := run_Max hv' (by simp at hl; omega)
    have hne : ((r.length : Int) + 1 == 0) = false := by simp; omega
    rw [run_eq, xp_column_zone]
    simp -implicitDefEqProofs [x_column_zone, hv'.toL, il_length, hv.arg0, h1, h2, zoneP, hne, noOwn]

/-! ### How many bits a number has -/
def bw (m : Nat) : Nat := if m = 0 then 0 else Nat.log2 m + 1
theorem bw_shift {m k : Nat} (h : 2 ^ k ≤ m) : bw m = bw (m / 2 ^ k) + k := by
  have h0 : 0 < 2 ^ k := Nat.two_pow_pos k
  have h1 : m ≠ 0 := by omega
  have h2 : m / 2 ^ k ≠ 0 := by
    have := Nat.div_pos h h0
    omega
  have h3 : k ≤ m.log2 := (Nat.le_log2 h1).2 h
  have h4 : (m / 2 ^ k).log2 = m.log2 - k := by
    refine (Nat.log2_eq_iff h2).2 ⟨?_, ?_⟩
    · rw [Nat.le_div_iff_mul_le h0, ← Nat.pow_add, Nat.sub_add_cancel h3]
      exact Nat.log2_self_le h1
    · rw [Nat.div_lt_iff_lt_mul h0, ← Nat.pow_add]
      have : m.log2 - k + 1 + k = m.log2 + 1 := by omega
      rw [this]
      exact Nat.lt_log2_self
  rw [bw, if_neg h1, bw, if_neg h2, h4]
  omega
theorem bw_lt {m k : Nat} : m < 2 ^ k ↔ bw m ≤ k := by
  rw [bw]
  by_cases h : m = 0
  · subst h; simp [Nat.two_pow_pos]
  · rw [if_neg h]
    have := Nat.log2_lt (n := m) (k := k) h
    omega
end Go.Proofs.Sl

set_option maxRecDepth 100000
namespace Go.Proofs.Sl
theorem tab_at (x : Nat) (h : x < 256) : x_math_bits_Len64_s0.data[x]? = some (UInt8.ofNat (bw x)) := by
  have : ∀ i : Fin 256, x_math_bits_Len64_s0.data[i.1]? = some (UInt8.ofNat (bw i.1)) := by decide +kernel
  exact this ⟨x, h⟩
theorem bw_small {x : Nat} (h : x < 256) : bw x ≤ 8 := bw_lt.1 h

theorem run_Len64 (h : H) (n : Nat) (hn : n < 18446744073709551616) : run XP i_math_bits_Len64 [vk .u64 n] h = some (vi (bw n), h) := by
  have fin : ∀ (x c : Nat), x < 256 → c ≤ 56 → IntKind.i64.wrap ((c : Int) + (UInt8.toNat (UInt8.ofNat (bw x)) : Int)) = ((c + bw x : Nat) : Int) := fun x c hx hc => by
    have := bw_small hx
    rw [UInt8.toNat_ofNat', Nat.mod_eq_of_lt (by omega), wrap_i64 (by omega) (by omega)]
    omega
  have sh : ∀ (m k : Nat), k ≤ 64 → (m : Int).fdiv (2 ^ k) = ((m / 2 ^ k : Nat) : Int) := fun m k hk => by
    have := shr_nat m k (kk := .u64) hk
    have e : min k IntKind.u64.bits = k := Nat.min_eq_left hk
    rwa [e] at this
  have m32 : min 32 IntKind.u64.bits = 32 := rfl
  have m16 : min 16 IntKind.u64.bits = 16 := rfl
  have m8 : min 8 IntKind.u64.bits = 8 := rfl
  have p32 : (2 : Nat) ^ 32 = 4294967296 := by decide
  have p16 : (2 : Nat) ^ 16 = 65536 := by decide
  have p8 : (2 : Nat) ^ 8 = 256 := by decide
  have w8 : ∀ x : Nat, x < 256 → IntKind.u8.wrap (x : Int) = (x : Int) := fun x hx => by rw [wrap_u8]; omega
  -- the last part
  have go3 : ∀ (x c : Nat) (s : Sl), s 0 = vk .u64 x → s 2 = vi c → x < 256 → c ≤ 56 → bw n = c + bw x → True := fun _ _ _ _ _ _ _ _ => trivial
  rw [run_eq, xp_math_bits_Len64]
  obtain ⟨a, ca, ha1, ha2, ha3⟩ : ∃ a c : Nat, a < 4294967296 ∧ bw n = c + bw a ∧ (if 4294967296 ≤ n then a = n / 4294967296 ∧ c = 32 else a = n ∧ c = 0) := by
    by_cases h : 4294967296 ≤ n
    · refine ⟨n / 4294967296, 32, by omega, ?_, by simp [h]⟩
      have := bw_shift (m := n) (k := 32) h
      rw [p32] at this
      omega
    · exact ⟨n, 0, by omega, by omega, by simp [h]⟩
  obtain ⟨b, cb, hb1, hb2, hb3⟩ : ∃ b c : Nat, b < 65536 ∧ bw a = c + bw b ∧ (if 65536 ≤ a then b = a / 65536 ∧ c = 16 else b = a ∧ c = 0) := by
    by_cases h : 65536 ≤ a
    · refine ⟨a / 65536, 16, by omega, ?_, by simp [h]⟩
      have := bw_shift (m := a) (k := 16) h
      rw [p16] at this
      omega
    · exact ⟨a, 0, by omega, by omega, by simp [h]⟩
  obtain ⟨d, cd, hd1, hd2, hd3⟩ : ∃ d c : Nat, d < 256 ∧ bw b = c + bw d ∧ (if 256 ≤ b then d = b / 256 ∧ c = 8 else d = b ∧ c = 0) := by
    by_cases h : 256 ≤ b
    · refine ⟨b / 256, 8, by omega, ?_, by simp [h]⟩
      have := bw_shift (m := b) (k := 8) h
      rw [p8] at this
      omega
    · exact ⟨b, 0, by omega, by omega, by simp [h]⟩
  have hres : bw n = (ca + cb + cd) + bw d := by omega
  have e1 : 4294967296 ≤ (n : Int) ∧ (n : Int).fdiv 4294967296 = (a : Int) ∧ ca = 32 ∨ ¬ 4294967296 ≤ (a : Int) ∧ n = a ∧ ca = 0 := by
    by_cases h : 4294967296 ≤ n
    · rw [if_pos h] at ha3; left; refine ⟨by omega, ?_, ha3.2⟩; rw [show (4294967296 : Int) = 2 ^ 32 from by decide, sh _ _ (by decide), p32, ← ha3.1]
    · rw [if_neg h] at ha3; right; exact ⟨by omega, by omega, ha3.2⟩
  have e2 : 65536 ≤ (a : Int) ∧ (a : Int).fdiv 65536 = (b : Int) ∧ cb = 16 ∨ ¬ 65536 ≤ (b : Int) ∧ a = b ∧ cb = 0 := by
    by_cases h : 65536 ≤ a
    · rw [if_pos h] at hb3; left; refine ⟨by omega, ?_, hb3.2⟩; rw [show (65536 : Int) = 2 ^ 16 from by decide, sh _ _ (by decide), p16, ← hb3.1]
    · rw [if_neg h] at hb3; right; exact ⟨by omega, by omega, hb3.2⟩
  have e3 : 256 ≤ (b : Int) ∧ (b : Int).fdiv 256 = (d : Int) ∧ cd = 8 ∨ ¬ 256 ≤ (d : Int) ∧ b = d ∧ cd = 0 := by
    by_cases h : 256 ≤ b
    · rw [if_pos h] at hd3; left; refine ⟨by omega, ?_, hd3.2⟩; rw [show (256 : Int) = 2 ^ 8 from by decide, sh _ _ (by decide), p8, ← hd3.1]
    · rw [if_neg h] at hd3; right; exact ⟨by omega, by omega, hd3.2⟩
  have hf := fin d (ca + cb + cd) hd1 (by omega)
  have ht := tab_at d hd1
  have hwd := w8 d hd1
  have hbd := bw_small hd1
  have G1 : ¬ 4294967296 ≤ (d : Int) := by omega
  have G2 : ¬ 65536 ≤ (d : Int) := by omega
  have G3 : ¬ 4294967296 ≤ (b : Int) := by omega
  rw [hres]
  clear hres hf ha3 hb3 hd3 ha2 hb2 hd2
  rcases e1 with ⟨g1, q1, rfl⟩ | ⟨g1, q1, rfl⟩ <;> rcases e2 with ⟨g2, q2, rfl⟩ | ⟨g2, q2, rfl⟩ <;> rcases e3 with ⟨g3, q3, rfl⟩ | ⟨g3, q3, rfl⟩ <;>
    (simp -implicitDefEqProofs [x_math_bits_Len64, g1, g2, g3, G1, G2, G3, m32, m16, m8, q1, q2, q3, hwd, ht]
     rw [show IntKind.i64.wrap ((bw d : Int) % 256) = (bw d : Int) from by rw [wrap_i64 (by omega) (by omega)]; omega]
     simp (disch := omega) only [wrap_i64]
     try omega)
end Go.Proofs.Sl

namespace Go.Proofs.Sl

theorem run_Len (h : H) (n : Nat) (hn : n < 18446744073709551616) : run XP i_math_bits_Len [vk .u64 n] h = some (vi (bw n), h) := by
  have := run_Len64 h n hn
  rw [run_eq, xp_math_bits_Len]
  simp -implicitDefEqProofs [x_math_bits_Len, this]

def bsum (f : Nat → Nat) (j : Nat) : Nat → Nat
  | 0 => 0
  | m + 1 => bsum f j m + f (8 * j + m) * 2 ^ m
/-- Byte j of the first K bits. -/
def byteV (f : Nat → Nat) (K j : Nat) : Nat := bsum f j (min 8 (K - 8 * j))
def dataK (f : Nat → Nat) (N K : Nat) : List UInt8 := (List.range N).map fun j => UInt8.ofNat (byteV f K j)
theorem bsum_lt {f : Nat → Nat} (hf : ∀ k, f k ≤ 1) (j : Nat) : ∀ m, bsum f j m < 2 ^ m
  | 0 => by simp [bsum]
  | m + 1 => by
    have := bsum_lt hf j m
    have h1 := hf (8 * j + m)
    have : f (8 * j + m) * 2 ^ m ≤ 1 * 2 ^ m := Nat.mul_le_mul_right _ h1
    rw [bsum, Nat.pow_succ]
    omega
theorem byteV_lt {f : Nat → Nat} (hf : ∀ k, f k ≤ 1) (K : Nat) : byteV f K (K / 8) < 2 ^ (K % 8) := by
  have : min 8 (K - 8 * (K / 8)) = K % 8 := by omega
  rw [byteV, this]
  exact bsum_lt hf _ _
theorem byteV_up (f : Nat → Nat) (K : Nat) : byteV f (K + 1) (K / 8) = byteV f K (K / 8) + f K * 2 ^ (K % 8) := by
  have e1 : min 8 (K + 1 - 8 * (K / 8)) = K % 8 + 1 := by omega
  have e2 : min 8 (K - 8 * (K / 8)) = K % 8 := by omega
  have e3 : 8 * (K / 8) + K % 8 = K := by omega
  rw [byteV, byteV, e1, e2, bsum, e3]
theorem byteV_other (f : Nat → Nat) {K j : Nat} (h : j ≠ K / 8) : byteV f (K + 1) j = byteV f K j := by
  have : min 8 (K + 1 - 8 * j) = min 8 (K - 8 * j) := by omega
  rw [byteV, byteV, this]
theorem dataK_length (f : Nat → Nat) (N K : Nat) : (dataK f N K).length = N := by simp [dataK]
theorem dataK_zero (f : Nat → Nat) (N : Nat) : dataK f N 0 = List.replicate N 0 := by
  have : ∀ j, byteV f 0 j = 0 := fun j => by simp [byteV, bsum]
  simp only [dataK, this]
  exact List.ext_getElem (by simp) fun i h1 h2 => by simp
theorem dataK_at (f : Nat → Nat) {N K : Nat} (h : K / 8 < N) : (dataK f N K)[K / 8]? = some (UInt8.ofNat (byteV f K (K / 8))) := by
  simp [dataK, h]
theorem dataK_up (f : Nat → Nat) {N K : Nat} (h : K / 8 < N) : dataK f N (K + 1) = (dataK f N K).set (K / 8) (UInt8.ofNat (byteV f K (K / 8) + f K * 2 ^ (K % 8))) := by
  refine List.ext_getElem? fun i => ?_
  rw [List.getElem?_set]
  by_cases hi : K / 8 = i
  · subst hi
    rw [if_pos rfl, dataK_length, if_pos h, ← byteV_up]
    simp [dataK, h]
  · rw [if_neg hi]
    by_cases hN : i < N
    · simp [dataK, hN, byteV_other f (Ne.symm hi)]
    · simp [dataK, hN]

theorem or_u8 {a m b : Nat} (ha : a < 2 ^ m) (hm : m < 8) (hb : b ≤ 1) : orI .u8 ((UInt8.ofNat a).toNat : Int) ((b * 2 ^ m : Nat) : Int) = ((UInt8.ofNat (a + b * 2 ^ m)).toNat : Int) := by
  have key : ∀ m : Fin 8, ∀ b : Fin 2, ∀ a : Fin 128, a.1 < 2 ^ m.1 → orI .u8 ((UInt8.ofNat a.1).toNat : Int) ((b.1 * 2 ^ m.1 : Nat) : Int) = ((UInt8.ofNat (a.1 + b.1 * 2 ^ m.1)).toNat : Int) := by decide +kernel
  have : 2 ^ m ≤ 2 ^ 7 := Nat.pow_le_pow_right (by decide) (by omega)
  exact key ⟨m, hm⟩ ⟨b, by omega⟩ ⟨a, by omega⟩ ha
theorem shl_u8 {m b : Nat} (hm : m < 8) (hb : b ≤ 1) : IntKind.u8.wrap ((b : Int) * 2 ^ m) = ((b * 2 ^ m : Nat) : Int) := by
  have key : ∀ m : Fin 8, ∀ b : Fin 2, IntKind.u8.wrap ((b.1 : Int) * 2 ^ m.1) = ((b.1 * 2 ^ m.1 : Nat) : Int) := by decide +kernel
  exact key ⟨m, hm⟩ ⟨b, by omega⟩
theorem and_one (x : Nat) (h : x < 18446744073709551616) : andI .i64 (x : Int) 1 = ((x % 2 : Nat) : Int) := by
  have e0 : andI .i64 (x : Int) 1 = IntKind.i64.wrap ((BitVec.ofInt 64 (x : Int) &&& BitVec.ofInt 64 1).toNat : Int) := rfl
  have e1 : BitVec.ofInt 64 (x : Int) = BitVec.ofNat 64 x := BitVec.ofInt_natCast ..
  have e2 : (BitVec.ofNat 64 x &&& BitVec.ofInt 64 1).toNat = x % 2 := by
    rw [BitVec.toNat_and, BitVec.toNat_ofNat, Nat.mod_eq_of_lt (by omega)]
    exact Nat.and_one_is_mod x
  rw [e0, e1, e2, wrap_i64 (by omega) (by omega)]
theorem bl_set {l : List UInt8} {i : Nat} {b : UInt8} : (bl l).set i (.s (.int .u8 b.toNat)) = bl (l.set i b) := by simp [bl, List.map_set]
theorem bl_at {l : List UInt8} {i : Nat} {b : UInt8} (h : l[i]? = some b) : (bl l)[i]? = some (.s (.int .u8 b.toNat)) := by simp [bl, h]

/-- Bit k of values. -/
def vbit (vs : List Int) (least : Int) (w k : Nat) : Nat := (vs.getD (k / w) 0 - least).toNat / 2 ^ (k % w) % 2
theorem vbit_le (vs : List Int) (least : Int) (w k : Nat) : vbit vs least w k ≤ 1 := by
  have := Nat.mod_lt ((vs.getD (k / w) 0 - least).toNat / 2 ^ (k % w)) (y := 2) (by decide)
  rw [vbit]; omega
/-- The width, the bytes, the form. -/
def widthP (vs : List Int) : Nat := bw ((zoneP vs).2 - (zoneP vs).1).toNat
def sizeP (vs : List Int) : Nat := (vs.length * widthP vs + 7) / 8
def dataP (vs : List Int) : List UInt8 := dataK (vbit vs (zoneP vs).1 (widthP vs)) (sizeP vs) (vs.length * widthP vs)
def fPacked (vs : List Int) : List UInt8 := fNum vs.length ++ (fNum (zoneP vs).1 ++ (fNum (widthP vs) ++ fText ⟨(dataP vs).toArray⟩))

theorem foldl_mn : ∀ (r : List Int) (a : Int), r.foldl mn a ≤ a ∧ (∀ x ∈ r, r.foldl mn a ≤ x) ∧ (r.foldl mn a = a ∨ r.foldl mn a ∈ r)
  | [], a => by simp
  | b :: r, a => by
    obtain ⟨h1, h2, h3⟩ := foldl_mn r (mn a b)
    have hm : mn a b ≤ a ∧ mn a b ≤ b ∧ (mn a b = a ∨ mn a b = b) := by
      unfold mn; split <;> omega
    simp only [List.foldl_cons, List.mem_cons]
    refine ⟨by omega, fun x hx => ?_, ?_⟩
    · rcases hx with rfl | hx
      · omega
      · exact h2 x hx
    · rcases h3 with h3 | h3
      · rcases hm.2.2 with h | h
        · left; omega
        · right; left; omega
      · right; right; exact h3
theorem foldl_mx : ∀ (r : List Int) (a : Int), a ≤ r.foldl mx a ∧ (∀ x ∈ r, x ≤ r.foldl mx a) ∧ (r.foldl mx a = a ∨ r.foldl mx a ∈ r)
  | [], a => by simp
  | b :: r, a => by
    obtain ⟨h1, h2, h3⟩ := foldl_mx r (mx a b)
    have hm : a ≤ mx a b ∧ b ≤ mx a b ∧ (mx a b = a ∨ mx a b = b) := by
      unfold mx; split <;> omega
    simp only [List.foldl_cons, List.mem_cons]
    refine ⟨by omega, fun x hx => ?_, ?_⟩
    · rcases hx with rfl | hx
      · omega
      · exact h2 x hx
    · rcases h3 with h3 | h3
      · rcases hm.2.2 with h | h
        · left; omega
        · right; left; omega
      · right; right; exact h3
theorem zoneP_ok {vs : List Int} (hr : ∀ n ∈ vs, OkV n) : OkV (zoneP vs).1 ∧ OkV (zoneP vs).2 ∧ (zoneP vs).1 ≤ (zoneP vs).2 ∧ ∀ x ∈ vs, (zoneP vs).1 ≤ x ∧ x ≤ (zoneP vs).2 := by
  cases vs with
  | nil => exact ⟨⟨by decide, by decide⟩, ⟨by decide, by decide⟩, by decide, by simp⟩
  | cons a r =>
    obtain ⟨a1, a2, a3⟩ := foldl_mn r a
    obtain ⟨b1, b2, b3⟩ := foldl_mx r a
    simp only [zoneP]
    refine ⟨?_, ?_, by omega, fun x hx => ?_⟩
    · rcases a3 with h | h
      · rw [h]; exact hr a (by simp)
      · exact hr _ (List.mem_cons_of_mem _ h)
    · rcases b3 with h | h
      · rw [h]; exact hr a (by simp)
      · exact hr _ (List.mem_cons_of_mem _ h)
    · rcases List.mem_cons.1 hx with rfl | hx
      · omega
      · exact ⟨a2 x hx, b2 x hx⟩
theorem widthP_le {vs : List Int} (hr : ∀ n ∈ vs, OkV n) : widthP vs ≤ 62 := by
  obtain ⟨⟨a1, a2⟩, ⟨b1, b2⟩, hle, _⟩ := zoneP_ok hr
  refine bw_lt.1 ?_
  have : (2 : Nat) ^ 62 = 4611686018427387904 := by decide
  omega
end Go.Proofs.Sl

namespace Go.Proofs.Sl
section
variable {h : H} {l : Nat} {v : V} {vs : List Int} {bs : List UInt8}

theorem vbit_eq {vs : List Int} {least e : Int} {w i b : Nat} (he : vs[i]? = some e) (hle : least ≤ e) (hb : b < w) : vbit vs least w (i * w + b) = (e - least).toNat / 2 ^ b % 2 := by
  have h1 : (i * w + b) / w = i := by
    rw [Nat.mul_comm, Nat.mul_add_div (by omega), Nat.div_eq_of_lt hb, Nat.add_zero]
  have h2 : (i * w + b) % w = b := by
    rw [Nat.mul_comm, Nat.mul_add_mod, Nat.mod_eq_of_lt hb]
  rw [vbit, h1, h2, List.getD_eq_getElem?_getD, he]
  rfl

theorem P_packed (hl : l < h.length) (hv : ∀ bs, Rd (h.set l (.box false [wc bs])) 1 v (il vs)) (hr : ∀ n ∈ vs, OkV n) (hn : vs.length ≤ 10000) (hs : bs.length ≤ 60000000000000) :
    run XP i_column_packed [.ptr l 0, v] (h.set l (.box false [wc bs])) = some (.tup [], h.set l (.box false [wc (bs ++ fPacked vs)])) := by
  obtain ⟨hz1, hz2, hz3, hz4⟩ := zoneP_ok hr
  have hW := widthP_le hr
  obtain ⟨least, hleast⟩ : ∃ x, x = (zoneP vs).1 := ⟨_, rfl⟩
  obtain ⟨great, hgreat⟩ : ∃ x, x = (zoneP vs).2 := ⟨_, rfl⟩
  obtain ⟨w, hw⟩ : ∃ x, x = widthP vs := ⟨_, rfl⟩
  obtain ⟨N, hN⟩ : ∃ x, x = sizeP vs := ⟨_, rfl⟩
  have hNv : N = (vs.length * w + 7) / 8 := by rw [hN, hw]; rfl
  have hwd : w = bw (great - least).toNat := by rw [hw, hleast, hgreat]; rfl
  have hD : dataP vs = dataK (vbit vs least w) N (vs.length * w) := by rw [dataP, ← hleast, ← hw, ← hN]
  have hF : fPacked vs = fNum vs.length ++ (fNum least ++ (fNum w ++ fText ⟨(dataP vs).toArray⟩)) := by rw [fPacked, ← hleast, ← hw]
  have hzone := run_zone (hv bs) hn
  simp only [← hleast, ← hgreat] at hz1 hz2 hz3 hz4 hzone
  rw [← hw] at hW
  obtain ⟨a1, a2⟩ := hz1
  obtain ⟨b1, b2⟩ := hz2
  obtain ⟨D, hDd⟩ : ∃ D : Nat, great - least = D := ⟨(great - least).toNat, by omega⟩
  have hsub : IntKind.i64.wrap (great - least) = D := by rw [wrap_i64 (by omega) (by omega), hDd]
  have hcv : IntKind.u64.wrap (D : Int) = (D : Int) := by rw [wrap_u64]; omega
  have hlen := fun hh => run_Len hh D (by omega)
  rw [hDd, Int.toNat_natCast] at hwd
  rw [← hwd] at hlen
  have hprod : vs.length * w ≤ 620000 := by
    have : vs.length * w ≤ 10000 * 62 := Nat.mul_le_mul hn hW
    omega
  have hm1 : IntKind.i64.wrap ((vs.length : Int) * (w : Int)) = (vs.length : Int) * (w : Int) := by
    rw [← Int.natCast_mul, wrap_i64 (by omega) (by omega)]
  have hm2 : IntKind.i64.wrap ((vs.length : Int) * (w : Int) + 7) = (vs.length : Int) * (w : Int) + 7 := by rw [← Int.natCast_mul, wrap_i64 (by omega) (by omega)]
  have hm3 : IntKind.i64.wrap (((vs.length : Int) * (w : Int) + 7).tdiv 8) = (N : Int) := by
    rw [← Int.natCast_mul, show Int.tdiv (((vs.length * w : Nat) : Int) + 7) 8 = (((vs.length * w + 7) / 8 : Nat) : Int) from rfl, ← hNv, wrap_i64 (by omega) (by omega)]
  have hrep : List.replicate N (V.s (.int .u8 0)) = bl (List.replicate N 0) := by simp [bl]
  have hNl : N ≤ 140737488355328 := by omega
  rw [run_eq, xp_column_packed]
  simp -implicitDefEqProofs [x_column_packed, ((hv _).app _).toL, (hv bs).arg0, il_length, hzone, hsub, hcv, hlen, hm1, hm2, hm3, hNl]
  rw [hrep, ← dataK_zero (vbit vs least w) N]
  refine loop_list vs (fun i s h' => Sees s [(0, .ptr l 0), (1, v), (4, .ptr h.length 0), (5, vi w), (6, .ref (h.length + 1) N), (27, v), (28, vi vs.length), (29, vi i)] ∧
    h' = h.set l (.box false [wc bs]) ++ [.box false [vi least, vi great], .arr false 1 (bl (dataK (vbit vs least w) N (i * w)))]) ?_ ?_ _ _ ⟨by simp, by simp⟩
  · rintro B f hB hf i e s h' he hi ⟨⟨h0, h1, h4, h5, h6, h27, h28, h29, -⟩, rfl⟩ K
    obtain ⟨p, hp, hld⟩ := ((hv bs).app [.box false [vi least, vi great], .arr false 1 (bl (dataK (vbit vs least w) N (i * w)))]).at1 (il_at he) rfl
    have hlt : (i : Int) < vs.length := by omega
    obtain ⟨g1, g2⟩ := hz4 e (List.mem_of_getElem? he)
    simp -implicitDefEqProofs [hB, x_column_packed_l1, h0, h1, h4, h5, h6, h27, h28, h29, hlt, hp, hld]
    refine loop_up w (fun b s h' => Sees s [(0, .ptr l 0), (1, v), (4, .ptr h.length 0), (5, vi w), (6, .ref (h.length + 1) N), (7, vi i), (8, vi e), (27, v), (28, vi vs.length), (29, vi i), (34, vi w), (35, vi b)] ∧
      h' = h.set l (.box false [wc bs]) ++ [.box false [vi least, vi great], .arr false 1 (bl (dataK (vbit vs least w) N (i * w + b)))]) ?_ ?_ _ _ ⟨by simp [h0, h1, h4, h5, h6, h27, h28, h29], by simp⟩
    · rintro B2 f2 hB2 hf2 b s h' hb ⟨⟨h0, h1, h4, h5, h6, h7, h8, h27, h28, h29, h34, h35, -⟩, rfl⟩ K2
      obtain ⟨k, hk⟩ : ∃ k, k = i * w + b := ⟨_, rfl⟩
      have hkl : k < vs.length * w := by
        have : (i + 1) * w ≤ vs.length * w := Nat.mul_le_mul_right _ hi
        rw [Nat.add_mul, Nat.one_mul] at this
        omega
      obtain ⟨q, hq⟩ : ∃ q, q = k / 8 := ⟨_, rfl⟩
      obtain ⟨m, hm⟩ : ∃ m, m = k % 8 := ⟨_, rfl⟩
      have hqN : q < N := by omega
      have hblt : (b : Int) < w := by omega
      have hiw : i * w ≤ vs.length * w := Nat.mul_le_mul_right _ (by omega)
      have w1 : IntKind.i64.wrap ((i : Int) * (w : Int)) = (i : Int) * (w : Int) := by
        rw [← Int.natCast_mul, wrap_i64 (by omega) (by omega)]
      have w2 : IntKind.i64.wrap ((i : Int) * (w : Int) + (b : Int)) = (k : Int) := by
        rw [← Int.natCast_mul, wrap_i64 (by omega) (by omega)]
        omega
      have w3 : IntKind.i64.wrap ((k : Int) / 8) = (q : Int) := by
        rw [wrap_i64 (by omega) (by omega)]; omega
      have w9 : IntKind.i64.wrap ((b : Int) + 1) = (b : Int) + 1 := wrap_up (by omega)
      have hk2 : i * w + (b + 1) = k + 1 := by omega
      have w4 : (k : Int).tmod 8 = (m : Int) := by
        rw [show Int.tmod (k : Int) 8 = ((k % 8 : Nat) : Int) from rfl, ← hm]
      obtain ⟨D2, hD2⟩ : ∃ D2 : Nat, e - least = D2 := ⟨(e - least).toNat, by omega⟩
      have w5 : IntKind.i64.wrap (e - least) = (D2 : Int) := by rw [wrap_i64 (by omega) (by omega), hD2]
      have hmin : min b IntKind.i64.bits = b := Nat.min_eq_left (by have : IntKind.i64.bits = 64 := rfl; omega)
      have hmin8 : min m IntKind.u8.bits = m := Nat.min_eq_left (by have : IntKind.u8.bits = 8 := rfl; omega)
      have hsh := shr_nat D2 b (kk := .i64) (by have : IntKind.i64.bits = 64 := rfl; omega)
      rw [hmin] at hsh
      obtain ⟨D3, hD3⟩ : ∃ D3, D3 = D2 / 2 ^ b := ⟨_, rfl⟩
      rw [← hD3] at hsh
      have hD3l : D3 < 18446744073709551616 := by
        have := Nat.div_le_self D2 (2 ^ b)
        omega
      have hand := and_one D3 hD3l
      obtain ⟨t, ht⟩ : ∃ t, t = D3 % 2 := ⟨_, rfl⟩
      rw [← ht] at hand
      have ht1 : t ≤ 1 := by omega
      have hvb : vbit vs least w k = t := by
        rw [hk, vbit_eq he g1 hb, hD2, Int.toNat_natCast, ← hD3, ← ht]
      have w6 : IntKind.u8.wrap (t : Int) = (t : Int) := by rw [wrap_u8]; omega
      have hm8 : m < 8 := by omega
      have w7 := shl_u8 hm8 ht1
      have hbv : byteV (vbit vs least w) k q < 2 ^ m := by rw [hq, hm]; exact byteV_lt (vbit_le vs least w) k
      have w8 := or_u8 hbv hm8 ht1
      obtain ⟨sh, hsh2⟩ : ∃ sh, sh = t * 2 ^ m := ⟨_, rfl⟩
      rw [← hsh2] at w7 w8
      have hget := bl_at (dataK_at (vbit vs least w) (N := N) (K := k) (by omega))
      have hup := dataK_up (vbit vs least w) (N := N) (K := k) (by omega)
      rw [← hq] at hget hup
      rw [← hm, hvb, ← hsh2] at hup
      have hdl : (dataK (vbit vs least w) N k).length = N := dataK_length _ _ _
      have hset := bl_set (l := dataK (vbit vs least w) N k) (i := q) (b := UInt8.ofNat (byteV (vbit vs least w) k q + sh))
      rw [← hup] at hset
      rw [← hk] at *
      generalize UInt8.ofNat (byteV (vbit vs least w) k q) = c1 at *
      have hget' : ∀ hh : q < (bl (dataK (vbit vs least w) N k)).length, (bl (dataK (vbit vs least w) N k))[q]'hh = .s (.int .u8 c1.toNat) := fun hh => by
        rw [List.getElem?_eq_getElem hh] at hget
        injection hget
      generalize UInt8.ofNat (byteV (vbit vs least w) k q + sh) = c2 at *
      simp -implicitDefEqProofs [hB2, x_column_packed_l0, h0, h1, h4, h5, h6, h7, h8, h27, h28, h29, h34, h35, hblt, w1, w2, w3, w4, w5, hmin, hmin8, hsh, hand, w6, w7, w8, hdl, bl_length, hqN, hget, hget', putEl]
      refine K2 _ _ ⟨?_, ?_⟩
      · simp [h0, h1, h4, h5, h6, h7, h8, h27, h28, h29, h34, w9]
      · rw [hk2, ← hset]
    · rintro B2 hB2 s h' ⟨⟨h0, h1, h4, h5, h6, h7, h8, h27, h28, h29, h34, h35, -⟩, rfl⟩
      simp -implicitDefEqProofs [hB2, x_column_packed_l0, h29, h34, h35]
      refine K _ _ ⟨?_, ?_⟩
      · simp [h0, h1, h4, h5, h6, h27, h28, h29, wrap_up (by omega : i < 100000000000)]
      · rw [Nat.add_mul, Nat.one_mul]
  · rintro B hB s h' ⟨⟨h0, h1, h4, h5, h6, h27, h28, h29, -⟩, rfl⟩
    have hlenN : Rng (vs.length : Int) := rng_nat (by omega)
    have hlr : Rng least := ⟨by omega, by omega⟩
    have hwr : Rng (w : Int) := rng_nat (by omega)
    have l1 := fNum_le hlenN
    have l2 := fNum_le hlr
    have l3 := fNum_le hwr
    rw [← hD]
    have hdl : (dataP vs).length = N := by rw [hD]; exact dataK_length _ _ _
    have hbo := bytesOf_bl (dataP vs)
    obtain ⟨t, ht⟩ : ∃ t : H, t = [.box false [vi least, vi great], .arr false 1 (bl (dataP vs))] := ⟨_, rfl⟩
    have e1 := W_number_r (h := h) (t := t) (bs := bs) hl hlenN (by omega)
    have e2 := W_number_r (h := h) (t := t) (bs := bs ++ fNum vs.length) hl hlr (by simp; omega)
    have e3 := W_number_r (h := h) (t := t) (bs := bs ++ fNum vs.length ++ fNum least) hl hwr (by simp; omega)
    have e4 := W_text_r (h := h) (t := t) (bs := bs ++ fNum vs.length ++ fNum least ++ fNum w) (s := ⟨(dataP vs).toArray⟩) hl (by simp [ByteArray.size, hdl]; omega)
    rw [ht] at e1 e2 e3 e4
    simp only [List.append_assoc] at e1 e2 e3 e4
    simp -implicitDefEqProofs [hB, x_column_packed_l1, h0, h1, h4, h5, h6, h28, h29, ((hv _).app _).toL, il_length, e1, e2, e3, e4, bl_length, hdl, hbo, hF]
end
end Go.Proofs.Sl

namespace Go.Proofs.Sl

/-- The form of a kind. -/
def fKind (vs : List Int) : Nat → List UInt8
  | 1 => fPlain vs
  | 2 => fDelta vs
  | 3 => fRuns vs
  | _ => fPacked vs
def fCol (vs : List Int) (k : Nat) : List UInt8 := fNum k ++ fKind vs k
abbrev vbs (l : List UInt8) : V := vs ⟨l.toArray⟩

theorem wide_il : ∀ l : List Int, wide 1 (il l) = true
  | [] => rfl
  | b :: l => by
    show ((_ : Bool) && wide 1 (il l)) = true
    rw [wide_il l]
    rfl
theorem closeds_il : ∀ l : List Int, V.closed.closeds (il l) = true
  | [] => rfl
  | b :: l => by
    show ((_ : Bool) && V.closed.closeds (il l)) = true
    rw [closeds_il l]
    rfl

section
variable {h : H} {v : V} {vs : List Int}
theorem run_encode (hv : Rd h 1 v (il vs)) (hr : ∀ n ∈ vs, OkV n) (hn : vs.length ≤ 10000) {k : Nat} (h1 : 1 ≤ k) (h4 : k ≤ 4) : run XP i_column_encode [vi k, v] h = some (vbs (fCol vs k), h) := by
  obtain ⟨A, hA⟩ : ∃ A : O, A = .box false [.fn i_column_plain [] [], .fn i_column_delta [] [], .fn i_column_runs [] [], .fn i_column_packed [] []] := ⟨_, rfl⟩
  have hlb : h.length + 1 < (h ++ [A, .dead]).length := by simp
  have hk : Rng (k : Int) := rng_nat (by omega)
  have hle := fNum_le hk
  have e0 := W_number (h := h ++ [A, .dead]) (l := h.length + 1) (bs := []) hlb hk (by simp)
  have hv' : ∀ bs, Rd ((h ++ [A, .dead]).set (h.length + 1) (.box false [wc bs])) 1 v (il vs) := fun bs => by
    have := hv.app [A, .box false [wc bs]]
    simpa using this
  have e1 := P_plain (h := h ++ [A, .dead]) (l := h.length + 1) (bs := fNum k) hlb hv' hr hn (by omega)
  have e2 := P_delta (h := h ++ [A, .dead]) (l := h.length + 1) (bs := fNum k) hlb hv' hr hn (by omega)
  have e3 := P_runs (h := h ++ [A, .dead]) (l := h.length + 1) (bs := fNum k) hlb hv' hr hn (by omega)
  have e4 := P_packed (h := h ++ [A, .dead]) (l := h.length + 1) (bs := fNum k) hlb hv' hr hn (by omega)
  have hw0 : wc [] = vnil := by simp [wc]
  simp only [hA, set_app, List.set_cons_succ, List.set_cons_zero, hw0, List.nil_append] at e0 e1 e2 e3 e4
  have eb : ∀ bs, run XP i_encoding_Writer_Bytes [.ptr (h.length + 1) 0] (h ++ [.box false [.fn i_column_plain [] [], .fn i_column_delta [] [], .fn i_column_runs [] [], .fn i_column_packed [] []], .box false [wc bs]]) =
      some (vbs bs, h ++ [.box false [.fn i_column_plain [] [], .fn i_column_delta [] [], .fn i_column_runs [] [], .fn i_column_packed [] []], .box false [wc bs]]) := fun bs => W_bytes (by simp)
  have hkk : k = 1 ∨ k = 2 ∨ k = 3 ∨ k = 4 := by omega
  rw [run_eq, xp_column_encode]
  rcases hkk with rfl | rfl | rfl | rfl
  · have hc : ((1 : Nat) : Int) = 1 := rfl
    rw [hc] at e0 e1
    simp -implicitDefEqProofs [x_column_encode, noOwn, putRow, e0, hv.arg0, show IntKind.i64.wrap 0 = 0 from by decide, e1, eb, fCol, fKind]
  · have hc : ((2 : Nat) : Int) = 2 := rfl
    rw [hc] at e0 e2
    simp -implicitDefEqProofs [x_column_encode, noOwn, putRow, e0, hv.arg0, show IntKind.i64.wrap 1 = 1 from by decide, e2, eb, fCol, fKind]
  · have hc : ((3 : Nat) : Int) = 3 := rfl
    rw [hc] at e0 e3
    simp -implicitDefEqProofs [x_column_encode, noOwn, putRow, e0, hv.arg0, show IntKind.i64.wrap 2 = 2 from by decide, e3, eb, fCol, fKind]
  · have hc : ((4 : Nat) : Int) = 4 := rfl
    rw [hc] at e0 e4
    simp -implicitDefEqProofs [x_column_encode, noOwn, putRow, e0, hv.arg0, show IntKind.i64.wrap 3 = 3 from by decide, e4, eb, fCol, fKind]

theorem anyW_ok (h : ∀ n ∈ vs, OkV n) : vs.any wrongB = false := by
  rw [List.any_eq_false]
  intro x hx
  rw [wrongB_iff.2 (h x hx)]
  simp
theorem ok_any (h : vs.any wrongB = false) : ∀ n ∈ vs, OkV n := fun n hn => wrongB_iff.1 (by rw [List.any_eq_false] at h; simpa using h n hn)
theorem chkE_zero (h : chkE vs = 0) : vs.length ≤ 4096 ∧ ∀ n ∈ vs, OkV n := by
  unfold chkE at h
  split at h
  · cases h
  · split at h
    · cases h
    · rename_i h1 h2
      exact ⟨by omega, ok_any (by simpa using h2)⟩
theorem zero_chkE (h1 : vs.length ≤ 4096) (h2 : ∀ n ∈ vs, OkV n) : chkE vs = 0 := by
  rw [chkE, if_neg (by omega), anyW_ok h2]
  simp
/-- EncodeAs. -/
theorem run_encodeAs (hv : Rd h 1 v (il vs)) (hn : vs.length ≤ 10000) (k : Int) (hk : Rng k) : run XP i_column_EncodeAs [vi k, v] h =
    some (if k < 1 ∨ 4 < k then .tup [vbs [], vi 12] else if chkE vs = 0 then .tup [vbs (fCol vs k.toNat), vi 0] else .tup [vbs [], vi (chkE vs)], h) := by
  have hc := run_check hv hn
  rw [run_eq, xp_column_EncodeAs]
  by_cases h1 : k < 1
  · simp -implicitDefEqProofs [x_column_EncodeAs, h1]
  by_cases h2 : 4 < k
  · simp -implicitDefEqProofs [x_column_EncodeAs, h1, h2]
  obtain ⟨n, rfl⟩ : ∃ n : Nat, k = n := ⟨k.toNat, by omega⟩
  by_cases h3 : chkE vs = 0
  · obtain ⟨c1, c2⟩ := chkE_zero h3
    have he := run_encode hv c2 hn (k := n) (by omega) (by omega)
    simp -implicitDefEqProofs [x_column_EncodeAs, h1, h2, hv.arg0, hc, h3, he]
  · have h3' : (chkE vs != 0) = true := by simpa using h3
    simp -implicitDefEqProofs [x_column_EncodeAs, h1, h2, hv.arg0, hc, h3, h3']

/-- The best of the first k kinds. -/
def bestP (vs : List Int) : Nat → List UInt8 × Nat
  | 0 => ([], 0)
  | k + 1 => if (bestP vs k).2 = 0 ∨ (fCol vs (k + 1)).length < (bestP vs k).1.length then (fCol vs (k + 1), k + 1) else bestP vs k
/-- A column. -/
def colV (o : Option (List V)) (vs : List Int) : V := .fptr (.agg [lv 1 o, vbs (bestP vs 4).1, vi (bestP vs 4).2]) 0

theorem size_vbs (l : List UInt8) : (⟨l.toArray⟩ : ByteArray).size = l.length := by simp [ByteArray.size]
theorem run_made (h : H) {o : Option (List V)} (ho : o.getD [] = il vs) (hr : ∀ n ∈ vs, OkV n) (hn : vs.length ≤ 10000) (hc : V.closed.closeds (o.getD []) = true) : run XP i_column_made [lv 1 o] h = some (colV o vs, h) := by
  have hbv : (⟨#[]⟩ : ByteArray) = ⟨([] : List UInt8).toArray⟩ := rfl
  rw [run_eq, xp_column_made]
  simp -implicitDefEqProofs [x_column_made, noOwn, putRow]
  refine loop_up 4 (fun k s h' => Sees s [(0, lv 1 o), (3, .ptr h.length 0), (4, vi ((k : Int) + 1))] ∧ h' = h ++ [.box false [lv 1 o, vbs (bestP vs k).1, vi (bestP vs k).2]]) ?_ ?_ _ _ ⟨by simp, by simp [bestP]⟩
  · rintro B f hB hf k s h' hk ⟨⟨h0, h3, h4, -⟩, rfl⟩ K
    have hle : (k : Int) + 1 ≤ 4 := by omega
    have hw : IntKind.i64.wrap ((k : Int) + 1 + 1) = ((k + 1 : Nat) : Int) + 1 := by rw [wrap_i64 (by omega) (by omega)]; omega
    have hv : Rd (h ++ [.box false [lv 1 o, vbs (bestP vs k).1, vi (bestP vs k).2]]) 1 (lv 1 o) (il vs) := by rw [← ho]; exact Rd.lv _ _ _
    have he := run_encode hv hr hn (k := k + 1) (by omega) (by omega)
    rw [show (((k + 1 : Nat) : Nat) : Int) = (k : Int) + 1 from rfl] at he
    by_cases hz : (bestP vs k).2 = 0
    · have hz' : (((bestP vs k).2 : Int) == 0) = true := by simpa using hz
      simp -implicitDefEqProofs [hB, x_column_made_l0, h0, h3, h4, hle, he, hz', putRow]
      refine K _ _ ⟨?_, ?_⟩
      · simp [h0, h3]; exact hw
      · simp [bestP, hz]
    · have hz' : (((bestP vs k).2 : Int) == 0) = false := by simpa using hz
      by_cases hs : (fCol vs (k + 1)).length < (bestP vs k).1.length
      · have hs' : ((fCol vs (k + 1)).length : Int) < (bestP vs k).1.length := by omega
        simp -implicitDefEqProofs [hB, x_column_made_l0, h0, h3, h4, hle, he, hz', hs', size_vbs, putRow]
        refine K _ _ ⟨?_, ?_⟩
        · simp [h0, h3]; exact hw
        · simp [bestP, hs]
      · have hs' : ¬ ((fCol vs (k + 1)).length : Int) < (bestP vs k).1.length := by omega
        simp -implicitDefEqProofs [hB, x_column_made_l0, h0, h3, h4, hle, he, hz', hs', size_vbs, putRow]
        refine K _ _ ⟨?_, ?_⟩
        · simp [h0, h3]; exact hw
        · simp [bestP, hs, hz]
  · rintro B hB s h' ⟨⟨h0, h3, h4, -⟩, rfl⟩
    simp -implicitDefEqProofs [hB, x_column_made_l0, h0, h3, h4, colV]

theorem run_clone (hv : Rd h 1 v (il vs)) (hn : vs.length ≤ 10000) : ∃ r o, run XP i_slices_Clone_int_int [v] h = some (r, h) ∧ res0 r = lv 1 o ∧ o.getD [] = il vs := by
  have hv1 := hv.app [.arr false 1 []]
  have hlim : vs.length ≤ 17592186044416 := by omega
  rw [run_eq, xp_slices_Clone_int_int]
  generalize hes : il vs = es at hv hv1
  cases hv with
  | nil => exact ⟨vnil, none, by simp -implicitDefEqProofs [x_slices_Clone_int_int], rfl, rfl⟩
  | lst es =>
    subst hes
    exact ⟨.own 1 (il vs), some (il vs), by simp -implicitDefEqProofs [x_slices_Clone_int_int, wide_il, closeds_il, il_length, hlim], rfl, rfl⟩
  | ref n z es e =>
    subst hes
    have hnl := (List.getElem?_eq_some_iff.1 e).1
    exact ⟨.own 1 (il vs), some (il vs), by simp -implicitDefEqProofs [x_slices_Clone_int_int, at_left hnl, e, wide_il, closeds_il, il_length, hlim], rfl, rfl⟩

/-- New. -/
theorem run_New (hv : Rd h 1 v (il vs)) (hn : vs.length ≤ 10000) : ∃ o, o.getD [] = il vs ∧ run XP i_column_New [v] h = some (if chkE vs = 0 then .tup [colV o vs, vi 0] else .tup [vnp, vi (chkE vs)], h) := by
  have hc := run_check hv hn
  obtain ⟨r, o, hcl, hr0, ho⟩ := run_clone hv hn
  refine ⟨o, ho, ?_⟩
  rw [run_eq, xp_column_New]
  by_cases h3 : chkE vs = 0
  · obtain ⟨c1, c2⟩ := chkE_zero h3
    have hm := run_made h ho c2 hn (by rw [ho]; exact closeds_il vs)
    simp -implicitDefEqProofs [x_column_New, hv.arg0, hc, h3, hcl, hr0, hm]
    simp [colV]
  · have h3' : (chkE vs != 0) = true := by simpa using h3
    simp -implicitDefEqProofs [x_column_New, hv.arg0, hc, h3, h3']
end
end Go.Proofs.Sl

namespace Go.Proofs.Sl

end Go.Proofs.Sl

namespace Go.Proofs.Sl
section
variable {h : H} {v : V} {vs : List Int}
end
end Go.Proofs.Sl

namespace Go.Proofs.Sl
section
variable {h : H} {v : V} {vs : List Int}
end
end Go.Proofs.Sl

namespace Go.Proofs.Sl
theorem tx_eq (l : List UInt8) : vbs l = tx l := rfl
theorem ex_best : bestP [5, 5, 5] 4 = ([129, 2, 129, 3, 129, 5, 128, 128], 2) := by
  simp [bestP, fCol, fKind, fPlain, fDelta, fRuns, fPacked, difs, grp, grpNs, fNums, fNum, blen, dig, flipB, zoneP, mn, mx, widthP, bw, dataP, sizeP, dataK, fText, bts, ByteArray.size]
theorem ex_packed : fCol [3, 0, 2, 1] 4 = [129, 4, 129, 4, 128, 129, 2, 129, 1, 99] := by
  have h1 : zoneP [3, 0, 2, 1] = (0, 3) := by decide
  have h2 : widthP [3, 0, 2, 1] = 2 := by decide
  have h3 : dataP [3, 0, 2, 1] = [99] := by decide
  simp [fCol, fKind, fPacked, h1, h2, h3, fNum, blen, dig, flipB, fText, bts, ByteArray.size]
theorem colV_def (o : Option (List V)) (vs : List Int) : colV o vs = .fptr (.agg [lv 1 o, tx (bestP vs 4).1, vi (bestP vs 4).2]) 0 := rfl

theorem col_Encode (h : H) {o : Option (List V)} (vs : List Int) : run XP i_column_Column_Encode [colV o vs] h = some (tx (bestP vs 4).1, h) := by
  rw [run_eq, xp_column_Column_Encode]
  simp -implicitDefEqProofs [x_column_Column_Encode, colV_def, tx_plain]
theorem known7_ok (h : H) : run XP i_sleuthlaw07_known [] h = some (vb true, h) := by
  obtain ⟨o1, ho1, e1⟩ := run_New (h := h) (v := .lst 1 (il [5, 5, 5])) (vs := [5, 5, 5]) (.lst _) (by simp)
  have e2 := run_encodeAs (h := h) (v := .lst 1 (il [3, 0, 2, 1])) (vs := [3, 0, 2, 1]) (.lst _) (by simp) 4 ⟨by decide, by decide⟩
  have c1 : chkE [5, 5, 5] = 0 := by decide
  have c2 : chkE [3, 0, 2, 1] = 0 := by decide
  have n4 : (4 : Int).toNat = 4 := rfl
  rw [c1, if_pos rfl] at e1
  rw [c2, if_neg (by decide), if_pos rfl, n4, ex_packed, tx_eq] at e2
  simp only [il, List.map_cons, List.map_nil] at e1 e2
  have e3 := col_Encode h (o := o1) [5, 5, 5]
  rw [ex_best] at e3
  have hc : isNilPtr (colV o1 [5, 5, 5]) = some false := rfl
  have hc1 : arg0 (colV o1 [5, 5, 5]) = some (colV o1 [5, 5, 5]) := rfl
  have hc2 : res0 (colV o1 [5, 5, 5]) = colV o1 [5, 5, 5] := rfl
  have s1 : vs ⟨#[129, 2, 129, 3, 129, 5, 128, 128]⟩ = tx [129, 2, 129, 3, 129, 5, 128, 128] := rfl
  have s2 : vs ⟨#[129, 4, 129, 4, 128, 129, 2, 129, 1, 99]⟩ = tx [129, 4, 129, 4, 128, 129, 2, 129, 1, 99] := rfl
  rw [run_eq, xp_sleuthlaw07_known]
  simp -implicitDefEqProofs [x_sleuthlaw07_known, e1, e2, e3, hc, hc1, hc2, s1, s2, eql_tx, tx_plain]

end Go.Proofs.Sl

namespace Go.Proofs.Sl

theorem bestP_ok (vs : List Int) : ∀ k, (k ≠ 0 → (bestP vs k).2 ≠ 0) ∧ ∀ j, 1 ≤ j → j ≤ k → (bestP vs k).1.length ≤ (fCol vs j).length
  | 0 => ⟨fun h => absurd rfl h, fun j h1 h2 => by omega⟩
  | k + 1 => by
    obtain ⟨h1, h2⟩ := bestP_ok vs k
    rw [bestP]
    split
    · rename_i hc
      refine ⟨fun _ => by simp, fun j hj hk => ?_⟩
      by_cases hjk : j = k + 1
      · subst hjk; exact Nat.le_refl _
      · have hk0 : k ≠ 0 := by omega
        rcases hc with hc | hc
        · exact absurd hc (h1 hk0)
        · have := h2 j hj (by omega)
          simp only
          omega
    · rename_i hc
      simp only [not_or, Nat.not_lt] at hc
      refine ⟨fun _ => hc.1, fun j hj hk => ?_⟩
      by_cases hjk : j = k + 1
      · subst hjk; exact hc.2
      · exact h2 j hj (by omega)

theorem fNum_len_le {n : Int} {k : Nat} (h : n.natAbs < 256 ^ k) : (fNum n).length ≤ k + 1 := by
  have := blen_le k _ h
  rw [fNum_length]
  omega
theorem grp_rep (n : Nat) (a : Int) : grp (List.replicate n a) = if n = 0 then [] else [(a, n)] := by
  cases n with
  | zero => simp [grp]
  | succ n =>
    have h1 : ∀ n, (List.replicate n a).takeWhile (· == a) = List.replicate n a := fun n => by
      induction n with
      | zero => rfl
      | succ n ih => simp [List.replicate_succ, List.takeWhile_cons, ih]
    have h2 : ∀ n, (List.replicate n a).dropWhile (· == a) = [] := fun n => by
      induction n with
      | zero => rfl
      | succ n ih => simp [List.replicate_succ, List.dropWhile_cons, ih]
    rw [List.replicate_succ, grp, h1, h2, grp]
    simp
    omega
theorem same_len {n : Nat} {a : Int} (hn : n ≤ 200) (ha : a.natAbs < 256 ^ 4) : (fCol (List.replicate n a) 3).length ≤ 14 := by
  have l3 := fNum_len_le (n := ((3 : Nat) : Int)) (k := 1) (by decide)
  have lg := fNum_len_le (n := ((grp (List.replicate n a)).length : Int)) (k := 1) (by rw [grp_rep]; split <;> simp)
  have la := fNum_len_le ha
  have ln := fNum_len_le (n := (n : Int)) (k := 1) (by simp; omega)
  have : (fNums (grpNs (grp (List.replicate n a)))).length ≤ 7 := by
    rw [grp_rep]
    split
    · simp [grpNs, fNums]
    · simp [grpNs, fNums]; omega
  simp only [fCol, fKind, fRuns, List.length_append]
  omega

/-- What grows evenly. -/
def evn (a b : Int) (n : Nat) : List Int := (List.range n).map fun i : Nat => a + (i : Int) * b
theorem evn_succ (a b : Int) (n : Nat) : evn a b (n + 1) = evn a b n ++ [a + n * b] := by simp [evn, List.range_succ]
theorem evn_length (a b : Int) (n : Nat) : (evn a b n).length = n := by simp [evn]
theorem difs_even (a b : Int) (hb : b.natAbs < 256 ^ 2) : ∀ (n s : Nat), (fNums (difs (a + s * b) ((List.range' (s + 1) n).map fun i : Nat => a + i * b))).length ≤ 3 * n
  | 0, s => by simp [difs, fNums]
  | n + 1, s => by
    have ih := difs_even a b hb n (s + 1)
    have hl := fNum_len_le hb
    have e : a + ((s + 1 : Nat) : Int) * b - (a + (s : Int) * b) = b := by
      have : ((s + 1 : Nat) : Int) * b = (s : Int) * b + b := by
        rw [Int.natCast_succ, Int.add_mul, Int.one_mul]
      omega
    simp only [List.range'_succ, List.map_cons, difs, fNums, e, List.length_append]
    omega
theorem even_len {n : Nat} {a b : Int} (hn : n ≤ 200) (ha : a.natAbs < 256 ^ 4) (hb : b.natAbs < 256 ^ 2) : (fCol (evn a b n) 2).length ≤ 10 + 3 * n := by
  have l2 := fNum_len_le (n := ((2 : Nat) : Int)) (k := 1) (by decide)
  have ln := fNum_len_le (n := (n : Int)) (k := 1) (by simp; omega)
  have la := fNum_len_le ha
  have : (fNums (difs 0 (evn a b n))).length ≤ 5 + 3 * n := by
    cases n with
    | zero => simp [evn, difs, fNums]
    | succ n =>
      have := difs_even a b hb n 0
      have e0 : evn a b (n + 1) = a :: (List.range' 1 n).map fun i : Nat => a + i * b := by
        simp only [evn, List.range_eq_range', List.range'_succ, List.map_cons]
        simp
      rw [e0, difs, fNums]
      simp only [List.length_append]
      simp only [Int.natCast_zero, Int.zero_mul, Int.add_zero, Nat.zero_add] at this
      have e1 : a - 0 = a := by omega
      rw [e1]
      omega
  simp only [fCol, fKind, fDelta, List.length_append, evn_length]
  omega

theorem compresses_law {a b : Int} {r : Nat} (ha1 : -2147483648 ≤ a) (ha2 : a ≤ 2147483647) (hb1 : -32768 ≤ b) (hb2 : b ≤ 32767) (hr : r < 256) :
    run XP i_sleuthlaw07_ColumnCompresses [vk .i32 a, vk .i16 b, vk .u8 r] [] = some (vb true, []) := by
  obtain ⟨n, hn⟩ : ∃ n, n = r % 201 := ⟨_, rfl⟩
  have hn2 : n ≤ 200 := by omega
  have w1 : (r : Int).tmod 201 = (n : Int) := by rw [hn]; rfl
  have w2 : IntKind.i64.wrap (n : Int) = (n : Int) := wrap_i64 (by omega) (by omega)
  have wa : IntKind.i64.wrap a = a := wrap_i64 (by omega) (by omega)
  have wb : IntKind.i64.wrap b = b := wrap_i64 (by omega) (by omega)
  have hib : ∀ k : Nat, k ≤ 200 → -6553600 ≤ (k : Int) * b ∧ (k : Int) * b ≤ 6553600 := fun k hk => by
    have h1 : (k : Int) * b ≤ (k : Int) * 32768 := Int.mul_le_mul_of_nonneg_left (by omega) (by omega)
    have h2 : (k : Int) * (-32768) ≤ (k : Int) * b := Int.mul_le_mul_of_nonneg_left (by omega) (by omega)
    omega
  have hev : ∀ x ∈ evn a b n, OkV x := fun x hx => by
    simp only [evn, List.mem_map, List.mem_range] at hx
    obtain ⟨i, hi, rfl⟩ := hx
    have := hib i (by omega)
    exact ⟨by omega, by omega⟩
  have hsm : ∀ x ∈ List.replicate n a, OkV x := fun x hx => by
    rw [(List.mem_replicate.1 hx).2]
    exact ⟨by omega, by omega⟩
  have c1 := zero_chkE (vs := List.replicate n a) (by simp; omega) hsm
  have c2 := zero_chkE (vs := evn a b n) (by rw [evn_length]; omega) hev
  have hna : a.natAbs < 256 ^ 4 := by
    have : (256 : Nat) ^ 4 = 4294967296 := by decide
    omega
  have hnb : b.natAbs < 256 ^ 2 := by
    have : (256 : Nat) ^ 2 = 65536 := by decide
    omega
  have s1 := same_len hn2 hna
  have s2 := even_len hn2 hna hnb
  have b1 := (bestP_ok (List.replicate n a) 4).2 3 (by omega) (by omega)
  have b2 := (bestP_ok (evn a b n) 4).2 1 (by omega) (by omega)
  have b3 := (bestP_ok (evn a b n) 4).2 2 (by omega) (by omega)
  rw [run_eq, xp_sleuthlaw07_ColumnCompresses]
  simp -implicitDefEqProofs [x_sleuthlaw07_ColumnCompresses, w1, w2]
  refine loop_up n (fun k s h' => Sees s [(0, vk .i32 a), (1, vk .i16 b), (7, vi n), (8, gv 0 (il (List.replicate k a))), (9, gv 1 (il (evn a b k))), (10, vi k)] ∧ h' = if k = 0 then [] else [.arr false 1 (il (List.replicate k a)), .arr false 1 (il (evn a b k))]) ?_ ?_ _ _ ⟨by simp [gv, il, evn], rfl⟩
  · rintro B f hB hf k s h' hk ⟨⟨h0, h1, h7, h8, h9, h10, -⟩, rfl⟩ K
    have hlt : (k : Int) < n := by omega
    obtain ⟨m1, m2⟩ := hib k (by omega)
    have w3 : IntKind.i64.wrap ((k : Int) * b) = (k : Int) * b := wrap_i64 (by omega) (by omega)
    have w4 : IntKind.i64.wrap (a + (k : Int) * b) = a + (k : Int) * b := wrap_i64 (by omega) (by omega)
    by_cases hk0 : k = 0
    · subst hk0
      simp [gv, il, evn] at h8 h9
      simp at w3 w4
      have hn0 : 0 < n := hk
      have h10' : s 10 = vi 0 := by simpa using h10
      simp -implicitDefEqProofs [hB, x_sleuthlaw07_ColumnCompresses_l0, h0, h1, h7, h8, h9, h10', hn0, wa, wb, w3, w4]
      refine K _ _ ⟨?_, ?_⟩
      · simp [h0, h1, h7, gv, il, evn]
        decide
      · simp [il, evn]
    · have hkl : k ≤ 17592186044415 := by omega
      have hg1 : gv 0 (il (List.replicate k a)) = .ref 0 k := by simp [gv, il, hk0]
      have hg2 : gv 1 (il (evn a b k)) = .ref 1 k := by
        have : il (evn a b k) ≠ [] := fun e => by
          have := congrArg List.length e
          rw [il_length, evn_length] at this
          simp at this
          exact hk0 this
        rw [gv, if_neg this, il_length, evn_length]
      rw [hg1] at h8
      rw [hg2] at h9
      rw [if_neg hk0]
      simp -implicitDefEqProofs [hB, x_sleuthlaw07_ColumnCompresses_l0, h0, h1, h7, h8, h9, h10, hlt, wa, wb, w3, w4, il_length, evn_length, hkl]
      refine K _ _ ⟨?_, ?_⟩
      · simp [h0, h1, h7, gv, il, evn, List.range_succ, List.replicate_succ, wrap_up (by omega : k < 100000000000)]
      · rw [if_neg (by omega), evn_succ, List.replicate_succ']
        simp [il]
  · rintro B hB s h' ⟨⟨h0, h1, h7, h8, h9, h10, -⟩, rfl⟩
    obtain ⟨HH, hHH⟩ : ∃ HH : H, HH = if n = 0 then [] else [.arr false 1 (il (List.replicate n a)), .arr false 1 (il (evn a b n))] := ⟨_, rfl⟩
    have r1 : Rd HH 1 (gv 0 (il (List.replicate n a))) (il (List.replicate n a)) := by
      by_cases h : n = 0
      · subst h; simp [gv, il]; exact .nil
      · have : il (List.replicate n a) ≠ [] := by simp [il, h]
        rw [gv, if_neg this]
        exact .ref 0 false _ (by simp [hHH, h])
    have r2 : Rd HH 1 (gv 1 (il (evn a b n))) (il (evn a b n)) := by
      by_cases h : n = 0
      · subst h; simp [gv, il, evn]; exact .nil
      · have : il (evn a b n) ≠ [] := by simp [il, evn, h]
        rw [gv, if_neg this]
        exact .ref 1 false _ (by simp [hHH, h])
    rw [← hHH]
    obtain ⟨o1, _, e1⟩ := run_New r1 (by simp; omega)
    obtain ⟨o2, _, e2⟩ := run_New r2 (by rw [evn_length]; omega)
    have e3 := run_encodeAs r2 (by rw [evn_length]; omega) 1 ⟨by decide, by decide⟩
    have e4 := run_encodeAs r2 (by rw [evn_length]; omega) 2 ⟨by decide, by decide⟩
    rw [c1, if_pos rfl] at e1
    rw [c2, if_pos rfl] at e2
    rw [if_neg (by decide), c2, if_pos rfl, tx_eq] at e3 e4
    rw [show (1 : Int).toNat = 1 from rfl] at e3
    rw [show (2 : Int).toNat = 2 from rfl] at e4
    have k7 := known7_ok HH
    have hc : ∀ o vs, isNilPtr (colV o vs) = some false := fun _ _ => rfl
    have hc2 : ∀ o vs, res0 (colV o vs) = colV o vs := fun _ _ => rfl
    have hc3 : ∀ o vs, arg0 (colV o vs) = some (colV o vs) := fun _ _ => rfl
    have f1 := col_Encode HH (o := o1) (List.replicate n a)
    have f2 := col_Encode HH (o := o2) (evn a b n)
    obtain ⟨L1, hL1⟩ : ∃ L : Nat, L = (bestP (List.replicate n a) 4).1.length := ⟨_, rfl⟩
    obtain ⟨L2, hL2⟩ : ∃ L : Nat, L = (bestP (evn a b n) 4).1.length := ⟨_, rfl⟩
    obtain ⟨L3, hL3⟩ : ∃ L : Nat, L = (fCol (evn a b n) 1).length := ⟨_, rfl⟩
    obtain ⟨L4, hL4⟩ : ∃ L : Nat, L = (fCol (evn a b n) 2).length := ⟨_, rfl⟩
    rw [← hL1] at b1
    rw [← hL2, ← hL3] at b2
    rw [← hL2, ← hL4] at b3
    rw [← hL4] at s2
    have i1 : (L1 : Int) ≤ 14 := by omega
    have i2 : (L2 : Int) ≤ if L4 < L3 then (L4 : Int) else L3 := by split <;> omega
    have w5 : IntKind.i64.wrap (3 * (n : Int)) = 3 * (n : Int) := wrap_i64 (by omega) (by omega)
    have w6 : IntKind.i64.wrap (10 + 3 * (n : Int)) = 10 + 3 * (n : Int) := wrap_i64 (by omega) (by omega)
    have i3 : (L4 : Int) ≤ 10 + 3 * (n : Int) := by omega
    have hg1 := r1.arg0
    have hg2 := r2.arg0
    simp -implicitDefEqProofs [hB, x_sleuthlaw07_ColumnCompresses_l0, h7, h8, h9, h10, k7, e1, e2, e3, e4, hc, hc2, hc3, f1, f2, hg1, hg2, tx_plain, lenT_tx, ← hL1, ← hL2, ← hL3, ← hL4, i1, i2, w5, w6, i3]
end Go.Proofs.Sl

namespace Go.Proofs.Sl
section
variable {h : H}
end
end Go.Proofs.Sl

