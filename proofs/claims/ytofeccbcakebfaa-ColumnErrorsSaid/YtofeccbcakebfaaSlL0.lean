/- A part of the proof. -/
import Derived.Test.YtofeccbcakebfaaSlS
import Derived.Test.YtofeccbcakebfaaSlP
set_option linter.unusedVariables false
set_option linter.unusedSimpArgs false
set_option linter.unnecessarySimpa false
namespace Go.Proofs.Sl

/-! ### Whole numbers -/
theorem wrap_u8 (n : Int) : IntKind.u8.wrap n = n % 256 := rfl
theorem wrap_u64 (n : Int) : IntKind.u64.wrap n = n % 18446744073709551616 := rfl
theorem wrap_i64 {n : Int} (h1 : -9223372036854775808 ≤ n) (h2 : n ≤ 9223372036854775807) : IntKind.i64.wrap n = n := by
  have e : IntKind.i64.wrap n = if n % 18446744073709551616 ≥ 9223372036854775808 then n % 18446744073709551616 - 18446744073709551616 else n % 18446744073709551616 := by
    simp [IntKind.wrap, IntKind.bits, IntKind.signed]
  rw [e]
  split <;> omega

theorem shr_nat (m k : Nat) {kk : IntKind} (hk : k ≤ kk.bits) : (m : Int).fdiv (2 ^ min k kk.bits) = ((m / 2 ^ k : Nat) : Int) := by
  rw [Nat.min_eq_left hk, Int.fdiv_eq_ediv_of_nonneg _ (Int.le_of_lt (Int.pow_pos (by decide)))]
  simp

/-! ### Bytes -/
def bl (l : List UInt8) : List V := l.map fun b => .s (.int .u8 b.toNat)
theorem bytesOf_bl : ∀ l : List UInt8, bytesOf (bl l) = some l
  | [] => rfl
  | b :: l => by
    show ob (bytesOf (bl l)) _ = _
    rw [bytesOf_bl l]
    simp
theorem bl_length (a : List UInt8) : (bl a).length = a.length := by simp [bl]
theorem wide_bl : ∀ l : List UInt8, wide 1 (bl l) = true
  | [] => rfl
  | b :: l => by
    show ((_ : Bool) && wide 1 (bl l)) = true
    rw [wide_bl l]
    rfl
theorem closeds_bl : ∀ l : List UInt8, V.closed.closeds (bl l) = true
  | [] => rfl
  | b :: l => by
    show ((_ : Bool) && V.closed.closeds (bl l)) = true
    rw [closeds_bl l]
    rfl
/-- The cell of a writer. -/
def wc (l : List UInt8) : V := if l = [] then vnil else .own 1 (bl l)

/-- k digits to the base 256, the greatest first. -/
def dig (m : Nat) : Nat → List Nat
  | 0 => []
  | k + 1 => m / 256 ^ k % 256 :: dig m k
/-- How many bytes a number has. -/
def blen (m : Nat) : Nat := if h : m = 0 then 0 else blen (m / 256) + 1
termination_by m
decreasing_by omega

theorem run_magnitude (h : H) {n : Int} (h1 : -9223372036854775808 ≤ n) (h2 : n ≤ 9223372036854775807) : run XP i_encoding_magnitude [vi n] h = some (vk .u64 n.natAbs, h) := by
  rw [run_eq, xp_encoding_magnitude]
  by_cases hn : n < 0
  · simp -implicitDefEqProofs [x_encoding_magnitude, hn, wrap_u64]
    omega
  · simp -implicitDefEqProofs [x_encoding_magnitude, hn, wrap_u64]
    omega

theorem blen_zero : blen 0 = 0 := by unfold blen; simp
theorem blen_pos {m : Nat} (h : m ≠ 0) : blen m = blen (m / 256) + 1 := by conv => lhs; unfold blen; simp [h]

theorem num_l0 (base : Nat) (h : H) {β : Type} {f : Ex × St → Option β} {b : Option β} {B : Body} (hB : B = xcode (run XP) loopW base x_encoding_Writer_Number_l0) : ∀ (m k : Nat) (s : Sl), s 6 = vk .u64 m → s 5 = vi k → m < 18446744073709551616 → k + blen m ≤ 100 →
    (∀ s' : Sl, s' 5 = vi (k + blen m : Nat) → (∀ t, t < 5 → s' t = s t) → f (.exit 0, ⟨s', h⟩) = b) → ob (loopW B ⟨s, h⟩) f = b := by
  have step : ∀ st, B st = xcode (run XP) loopW base x_encoding_Writer_Number_l0 st := fun st => by rw [hB]
  intro m
  induction m using Nat.strongRecOn with
  | ind m ih =>
    intro k s h6 h5 hm hk kk
    rw [loopW_cps]
    by_cases h0 : m = 0
    · subst h0
      simp -implicitDefEqProofs [step, x_encoding_Writer_Number_l0, h6]
      refine kk _ ?_ fun t ht => ?_
      · simp [h5, blen_zero]
      · simp (disch := omega) only [upd_ne]
    · have hp : 0 < m := by omega
      rw [blen_pos h0] at hk kk
      simp -implicitDefEqProofs [step, x_encoding_Writer_Number_l0, h6, h5, hp]
      rw [wrap_i64 (by omega) (by omega)]
      refine ih (m / 256) (by omega) (k + 1) _ ?_ ?_ (by omega) (by omega) fun s2 h2 h3 => kk s2 ?_ fun t ht => (h3 t ht).trans ?_
      · simp only [upd_same]
        rw [shr_nat m 8 (by decide)]
      · simp
      · rw [h2]
        have e : k + 1 + blen (m / 256) = k + (blen (m / 256) + 1) := by omega
        rw [e]
      · simp (disch := omega) only [upd_ne]

/-- A digit, turned over where the number is less than zero. -/
def flipB (neg : Bool) (d : Nat) : UInt8 := UInt8.ofNat (if neg = true then 255 - d else d)
theorem flip_ok (neg : Bool) (d : Nat) (hd : d < 256) : xorI .u8 (d : Int) (if neg = true then 255 else 0) = ((flipB neg d).toNat : Int) := by
  have : ∀ neg : Bool, ∀ d : Fin 256, xorI .u8 (d.1 : Int) (if neg = true then 255 else 0) = ((flipB neg d.1).toNat : Int) := by decide +kernel
  exact this neg ⟨d, hd⟩

theorem num_l1 (base : Nat) (h : H) (l : Nat) (hl : l < h.length) (neg : Bool) (m : Nat) {β : Type} {f : Ex × St → Option β} {b : Option β} {B : Body} (hB : B = xcode (run XP) loopW base x_encoding_Writer_Number_l1) : ∀ (k : Nat) (bs : List UInt8) (s : Sl), s 0 = .ptr l 0 → s 4 = vk .u64 m → s 7 = vk .u8 (if neg = true then 255 else 0) → s 8 = vi ((k : Int) - 1) → k ≤ 8 → bs ≠ [] →
    bs.length + k ≤ 100000000001000 → (∀ s' : Sl, (∀ t, t < 4 → s' t = s t) → f (.exit 2, ⟨s', h.set l (.box false [wc (bs ++ (dig m k).map (flipB neg))])⟩) = b) →
    ob (loopW B ⟨s, h.set l (.box false [wc bs])⟩) f = b := by
  have step : ∀ st, B st = xcode (run XP) loopW base x_encoding_Writer_Number_l1 st := fun st => by rw [hB]
  intro k
  induction k with
  | zero =>
    intro bs s h0 h4 h7 h8 hk hb hs kk
    rw [loopW_cps]
    simp -implicitDefEqProofs [step, x_encoding_Writer_Number_l1, h8]
    simp only [dig, List.map_nil, List.append_nil] at kk
    exact kk _ fun t ht => by simp (disch := omega) only [upd_ne]
  | succ k ih =>
    intro bs s h0 h4 h7 h8 hk hb hs kk
    have hb' : wc bs = .own 1 (bl bs) := by simp [wc, hb]
    rw [loopW_cps]
    have h8' : s 8 = vi k := by rw [h8]; congr 2; omega
    have w8 : IntKind.i64.wrap (8 * (k : Int)) = 8 * (k : Int) := wrap_i64 (by omega) (by omega)
    have p8 : (0 : Int) ≤ 8 * (k : Int) := by omega
    have hs' : bs.length ≤ 140737488355327 := by omega
    have hd : m / 256 ^ k % 256 < 256 := Nat.mod_lt _ (by decide)
    have hmin : min (8 * (k : Int)).toNat IntKind.u64.bits = 8 * k := by
      have : IntKind.u64.bits = 64 := rfl
      rw [this]
      omega
    have hpow : (2 : Nat) ^ (8 * k) = 256 ^ k := by rw [Nat.pow_mul]
    have hv : IntKind.u8.wrap ((m : Int).fdiv (2 ^ (8 * k))) = ((m / 256 ^ k % 256 : Nat) : Int) := by
      rw [wrap_u8, Int.fdiv_eq_ediv_of_nonneg _ (Int.le_of_lt (Int.pow_pos (by decide)))]
      have : ((2 : Int) ^ (8 * k)) = ((256 ^ k : Nat) : Int) := by rw [← hpow]; simp
      rw [this]
      rfl
    have hf := flip_ok neg _ hd
    generalize hq : m / 256 ^ k % 256 = q at hv hf hd
    simp -implicitDefEqProofs [step, x_encoding_Writer_Number_l1, h0, h4, h7, h8', hb', hl, bl_length, w8, p8, hs', hmin, hv, hf]
    have hcell : V.own 1 (bl bs ++ [vk .u8 ((flipB neg q).toNat : Int)]) = wc (bs ++ [flipB neg q]) := by simp [wc, bl]
    rw [hcell]
    refine ih (bs ++ [flipB neg q]) _ ?_ ?_ ?_ ?_ (by omega) (by simp) (by simp; omega) fun s' hs' => ?_
    · simp [h0]
    · simp [h4]
    · simp [h7]
    · simp only [upd_same]
      rw [wrap_i64 (by omega) (by omega)]
    · have := kk s' fun t ht => (hs' t ht).trans (by simp (disch := omega) only [upd_ne])
      simpa [dig, hq] using this

theorem blen_le : ∀ (k m : Nat), m < 256 ^ k → blen m ≤ k
  | 0, m, h => by
    obtain rfl : m = 0 := by simpa using h
    rw [blen_zero]
    exact Nat.le_refl _
  | k + 1, m, h => by
    by_cases h0 : m = 0
    · subst h0
      rw [blen_zero]
      omega
    · rw [blen_pos h0]
      have := blen_le k (m / 256) (by rw [Nat.pow_succ] at h; omega)
      omega

/-- The form of a number. -/
def fNum (n : Int) : List UInt8 := (if n < 0 then UInt8.ofNat (128 - blen n.natAbs) else UInt8.ofNat (128 + blen n.natAbs)) :: (dig n.natAbs (blen n.natAbs)).map (flipB (decide (n < 0)))
theorem dig_length (m : Nat) : ∀ k, (dig m k).length = k
  | 0 => rfl
  | k + 1 => by simp [dig, dig_length m k]
theorem fNum_length (n : Int) : (fNum n).length = 1 + blen n.natAbs := by simp [fNum, dig_length, Nat.add_comm]

/-- An int. -/
def Rng (n : Int) : Prop := -9223372036854775808 ≤ n ∧ n ≤ 9223372036854775807
theorem Rng.blen {n : Int} (h : Rng n) : Sl.blen n.natAbs ≤ 8 := blen_le 8 _ (by have := h.1; have := h.2; omega)
theorem fNum_le {n : Int} (h : Rng n) : (fNum n).length ≤ 9 := by rw [fNum_length]; have := h.blen; omega

theorem wc_own {bs : List UInt8} (h : bs ≠ []) : wc bs = .own 1 (bl bs) := by simp [wc, h]

theorem W_number {h : H} {l : Nat} {bs : List UInt8} {n : Int} (hl : l < h.length) (hn : Rng n) (hs : bs.length ≤ 100000000000000) :
    run XP i_encoding_Writer_Number [.ptr l 0, vi n] (h.set l (.box false [wc bs])) = some (.tup [], h.set l (.box false [wc (bs ++ fNum n)])) := by
  have hb := hn.blen
  rw [run_eq, xp_encoding_Writer_Number]
  have hmag := run_magnitude (h.set l (.box false [wc bs])) hn.1 hn.2
  simp -implicitDefEqProofs [x_encoding_Writer_Number, hmag]
  refine num_l0 _ _ rfl n.natAbs 0 _ ?_ ?_ ?_ ?_ fun s' h5 hf => ?_
  · simp
  · simp
  · have := hn.1; have := hn.2; omega
  · omega
  have g0 := hf 0 (by omega)
  have g1 := hf 1 (by omega)
  have g4 := hf 4 (by omega)
  simp at g0 g1 g4
  have hlim : bs.length ≤ 140737488355327 := by omega
  obtain ⟨c1, hc1⟩ : ∃ c : UInt8, c = UInt8.ofNat (128 - blen n.natAbs) := ⟨_, rfl⟩
  obtain ⟨c2, hc2⟩ : ∃ c : UInt8, c = UInt8.ofNat (128 + blen n.natAbs) := ⟨_, rfl⟩
  have w1 : IntKind.u8.wrap (IntKind.i64.wrap (128 - (blen n.natAbs : Int))) = (c1.toNat : Int) := by
    rw [wrap_i64 (by omega) (by omega), wrap_u8, hc1]
    simp
    omega
  have w2 : IntKind.u8.wrap (IntKind.i64.wrap (128 + (blen n.natAbs : Int))) = (c2.toNat : Int) := by
    rw [wrap_i64 (by omega) (by omega), wrap_u8, hc2]
    simp
  have w3 : IntKind.i64.wrap ((blen n.natAbs : Int) - 1) = (blen n.natAbs : Int) - 1 := wrap_i64 (by omega) (by omega)
  have hcell : ∀ b : UInt8, V.own 1 (bl bs ++ [vk .u8 (b.toNat : Int)]) = wc (bs ++ [b]) := fun b => by simp [wc, bl]
  have hcell0 : ∀ b : UInt8, V.own 1 ([vk .u8 (b.toNat : Int)]) = wc ([b]) := fun b => by simp [wc, bl]
  have fin : ∀ (neg : Bool) (c : UInt8) (s' : Sl) (t : H), neg = decide (n < 0) → c = (if neg = true then c1 else c2) → s' 0 = .ptr l 0 → s' 4 = vk .u64 n.natAbs → s' 7 = vk .u8 (if neg = true then 255 else 0) → s' 8 = vi ((blen n.natAbs : Int) - 1) →
      (ob (loopW (xcode (run XP) loopW h.length x_encoding_Writer_Number_l1) ⟨s', (h ++ t).set l (.box false [wc (bs ++ [c])])⟩) fun a => backR [] (List.set h l (O.box false [wc bs])) (outOf 2 a)) = some (.tup [], h.set l (.box false [wc (bs ++ fNum n)])) := by
    intro neg c s' t hneg hc e0 e4 e7 e8
    refine num_l1 _ (h ++ t) l (by simp; omega) neg n.natAbs rfl (blen n.natAbs) (bs ++ [c]) _ e0 e4 e7 e8 hb (by simp) (by simp; omega) fun s2 h2 => ?_
    rw [set_left hl]
    simp -implicitDefEqProofs [fNum, hneg, hc, hc1, hc2]
  by_cases hb0 : bs = []
  · subst hb0
    have hw : wc [] = vnil := by simp [wc]
    rw [hw] at fin
    simp only [set_left hl, List.nil_append] at fin
    by_cases hneg : n < 0
    · simp -implicitDefEqProofs [h5, g0, g1, g4, hneg, hl, hw, w1, w3, hcell0, at_left, set_left]
      apply fin true c1 _ [.dead] <;> simp [g0, g4, hneg]
    · simp -implicitDefEqProofs [h5, g0, g1, g4, hneg, hl, hw, w2, w3, hcell0, at_left, set_left]
      apply fin false c2 _ [.dead] <;> simp [g0, g4, hneg]
  · have hw := wc_own hb0
    have fin' := fun neg c s' => fin neg c s' []
    rw [List.append_nil, hw] at fin'
    by_cases hneg : n < 0
    · simp -implicitDefEqProofs [h5, g0, g1, g4, hneg, hl, hw, w1, w3, hlim, bl_length, hcell]
      apply fin' true c1 <;> simp [g0, g4, hneg]
    · simp -implicitDefEqProofs [h5, g0, g1, g4, hneg, hl, hw, w2, w3, hlim, bl_length, hcell]
      apply fin' false c2 <;> simp [g0, g4, hneg]
end Go.Proofs.Sl

namespace Go.Proofs.Sl

/-- The bytes of a text. -/
def bts (s : ByteArray) : List UInt8 := s.data.toList
theorem bts_length (s : ByteArray) : (bts s).length = s.size := by rw [bts, Array.length_toList]; rfl
theorem ofBytes_bts (s : ByteArray) : ofBytes s = bl (bts s) := rfl
theorem bl_nil {l : List UInt8} : bl l = [] ↔ l = [] := by simp [bl]
/-- The form of a text. -/
def fText (s : ByteArray) : List UInt8 := fNum s.size ++ bts s
theorem rng_nat {n : Nat} (h : n ≤ 1000000000000000) : Rng n := ⟨by omega, by omega⟩

theorem W_text {h : H} {l : Nat} {bs : List UInt8} {s : ByteArray} (hl : l < h.length) (hs : bs.length + s.size ≤ 90000000000000) :
    run XP i_encoding_Writer_Text [.ptr l 0, vs s] (h.set l (.box false [wc bs])) = some (.tup [], h.set l (.box false [wc (bs ++ fText s)])) := by
  have hr : Rng s.size := rng_nat (by omega)
  have hn := W_number (h := h) (l := l) (bs := bs) hl hr (by omega)
  have hle := fNum_le hr
  have hne : bs ++ fNum s.size ≠ [] := by simp [fNum]
  have hw := wc_own hne
  have hlim : bs.length + (fNum s.size).length + s.size ≤ 140737488355328 := by omega
  have hlim' : bs.length + (fNum s.size).length ≤ 140737488355328 := by omega
  rw [run_eq, xp_encoding_Writer_Text]
  by_cases h0 : bts s = []
  · simp -implicitDefEqProofs [x_encoding_Writer_Text, hn, hl, hw, ofBytes_bts, wide_bl, closeds_bl, bl_length, bts_length, hlim, hlim', fText, bl_nil, h0]
  · have hne2 : bs ++ (fNum s.size ++ bts s) ≠ [] := by simp [fNum]
    have hz : ¬ s = ByteArray.empty := fun e => h0 (by rw [e]; rfl)
    simp -implicitDefEqProofs [x_encoding_Writer_Text, hn, hl, hw, ofBytes_bts, wide_bl, closeds_bl, bl_length, bts_length, hlim, hlim', fText, bl_nil, h0, hz, wc_own hne2]
    simp only [bl, List.map_append, List.append_assoc]

/-- The same where other objects follow. -/
theorem W_number_r {h t : H} {l : Nat} {bs : List UInt8} {n : Int} (hl : l < h.length) (hn : Rng n) (hs : bs.length ≤ 100000000000000) :
    run XP i_encoding_Writer_Number [.ptr l 0, vi n] (h.set l (.box false [wc bs]) ++ t) = some (.tup [], h.set l (.box false [wc (bs ++ fNum n)]) ++ t) := by
  have := W_number (h := h ++ t) (l := l) (bs := bs) (by simp; omega) hn hs
  simpa only [set_left hl] using this
theorem W_text_r {h t : H} {l : Nat} {bs : List UInt8} {s : ByteArray} (hl : l < h.length) (hs : bs.length + s.size ≤ 90000000000000) :
    run XP i_encoding_Writer_Text [.ptr l 0, vs s] (h.set l (.box false [wc bs]) ++ t) = some (.tup [], h.set l (.box false [wc (bs ++ fText s)]) ++ t) := by
  have := W_text (h := h ++ t) (l := l) (bs := bs) (s := s) (by simp; omega) hs
  simpa only [set_left hl] using this

/-- The forms of numbers. -/
def fNums : List Int → List UInt8
  | [] => []
  | n :: r => fNum n ++ fNums r
/-- A list of ints. -/
def il (l : List Int) : List V := l.map vi
theorem fNums_le : ∀ {ns : List Int}, (∀ n ∈ ns, Rng n) → (fNums ns).length ≤ 9 * ns.length
  | [], _ => by simp [fNums]
  | n :: r, h => by
    have h1 := fNum_le (h n (by simp))
    have h2 := fNums_le (ns := r) fun m hm => h m (List.mem_cons_of_mem _ hm)
    simp [fNums]
    omega

/-! ### Values of api's types -/
/-- A value. -/
structure AV where
  k : Int
  t : ByteArray
  n : Int
def AV.v (a : AV) : V := .agg [vi a.k, vs a.t, vi a.n]
/-- An attribute. -/
structure AT where
  key : ByteArray
  val : AV
def AT.v (a : AT) : V := .agg [vs a.key, vi a.val.k, vs a.val.t, vi a.val.n]
/-- A reference. -/
structure RF where
  t : Int
  i : Int
def RF.v (a : RF) : V := .agg [vi a.t, vi a.i]
/-- An exchange. -/
structure EX where
  fr : Int
  to : Int
  sent : Int
  rcv : Int
  least : Int
def EX.v (a : EX) : V := .agg [vi a.fr, vi a.to, vi a.sent, vi a.rcv, vi a.least]
/-- A message: its kind, two references, an exchange. -/
structure MS where
  k : Int
  a : RF
  b : RF
  x : EX
def MS.v (a : MS) : V := .agg [vi a.k, vi a.a.t, vi a.a.i, vi a.b.t, vi a.b.i, vi a.x.fr, vi a.x.to, vi a.x.sent, vi a.x.rcv, vi a.x.least]
end Go.Proofs.Sl

namespace Go.Proofs.Sl

theorem W_bytes {h : H} {l : Nat} {bs : List UInt8} (hl : h[l]? = some (.box false [wc bs])) : run XP i_encoding_Writer_Bytes [.ptr l 0] h = some (vs ⟨bs.toArray⟩, h) := by
  rw [run_eq, xp_encoding_Writer_Bytes]
  by_cases hb : bs = []
  · subst hb
    have hw : wc [] = vnil := by simp [wc]
    simp -implicitDefEqProofs [x_encoding_Writer_Bytes, hl, hw, bytesOf]
  · simp -implicitDefEqProofs [x_encoding_Writer_Bytes, hl, wc_own hb, bytesOf_bl]
end Go.Proofs.Sl

namespace Go.Proofs.Sl

/-- A span. -/
structure SP where
  tr : Int
  id : Int
  par : Int
  rev : Int
  clk : Int
  kind : Int
  sv : ByteArray
  vr : ByteArray
  op : ByteArray
  st : Int
  en : Int
  er : Bool
  ats : List AT
  lks : List RF
  /-- the two slices: nil or not -/
  an : Bool
  ln : Bool
/-- A slice of these elements: nil if so marked. -/
def slc {α : Type} (v : α → V) (l : List α) (n : Bool) : Option (List V) := if n = true then none else some (l.map v)
def SP.v (a : SP) : V := .agg [vi a.tr, vi a.id, vi a.par, vi a.rev, vi a.clk, vi a.kind, vs a.sv, vs a.vr, vs a.op, vi a.st, vi a.en, vb a.er, lv 4 (slc AT.v a.ats a.an), lv 2 (slc RF.v a.lks a.ln)]
end Go.Proofs.Sl

namespace Go.Proofs.Sl

end Go.Proofs.Sl

namespace Go.Proofs.Sl

end Go.Proofs.Sl

namespace Go.Proofs.Sl

end Go.Proofs.Sl

namespace Go.Proofs.Sl

section
variable {h t : H} {l : Nat} {s : ByteArray} {a : Nat} {e : Int}
end
end Go.Proofs.Sl

namespace Go.Proofs.Sl
section
variable {h t : H} {l : Nat} {s : ByteArray} {a : Nat} {e : Int}
theorem bone {n : Int} (h1 : 0 < n) (h2 : n < 256) : blen n.natAbs = 1 := by
  have : n.natAbs / 256 = 0 := by omega
  rw [blen_pos (by omega), this, blen_zero]
theorem b3 : fNum 3 = [129, 3] := by
  unfold fNum
  rw [bone (by decide) (by decide)]
  decide +kernel
theorem b1 : fNum 1 = [129, 1] := by
  unfold fNum
  rw [bone (by decide) (by decide)]
  decide +kernel
end
end Go.Proofs.Sl

namespace Go.Proofs.Sl

/-- At the first place where they differ u has the lesser byte. -/
def Cut (u v : List UInt8) : Prop := ∃ p a b x y, u = p ++ a :: x ∧ v = p ++ b :: y ∧ a < b
theorem Cut.take {u v : List UInt8} (h : Cut u v) : u.take (min u.length v.length) ≠ v.take (min u.length v.length) := by
  obtain ⟨p, a, b, x, y, rfl, rfl, hab⟩ := h
  intro e
  have e1 := congrArg (·[p.length]?) e
  simp only [List.getElem?_take] at e1
  rw [if_pos (by simp), if_pos (by simp)] at e1
  simp at e1
  subst e1
  exact absurd hab (by simp)

theorem toList_ofList (l : List UInt8) : (⟨l.toArray⟩ : ByteArray).toList = l := by
  rw [ByteArray.toList_eq]
theorem size_ofList (l : List UInt8) : (⟨l.toArray⟩ : ByteArray).size = l.length := by
  show l.toArray.size = _
  simp
end Go.Proofs.Sl

namespace Go.Proofs.Sl

/-- k digits, the least first. -/
def lek : Nat → Nat → List Nat
  | _, 0 => []
  | m, k + 1 => m % 256 :: lek (m / 256) k
theorem lek_snoc : ∀ k m, lek m (k + 1) = lek m k ++ [m / 256 ^ k % 256]
  | 0, m => by simp [lek]
  | k + 1, m => by
    have := lek_snoc k (m / 256)
    rw [show lek m (k + 1 + 1) = m % 256 :: lek (m / 256) (k + 1) from rfl, this]
    simp [lek, Nat.div_div_eq_div_mul, Nat.pow_succ, Nat.mul_comm]
theorem dig_lek : ∀ k m, dig m k = (lek m k).reverse
  | 0, m => rfl
  | k + 1, m => by rw [lek_snoc, List.reverse_append, ← dig_lek k m]; rfl
theorem lek_lt : ∀ k m d, d ∈ lek m k → d < 256
  | 0, m, d, h => by simp [lek] at h
  | k + 1, m, d, h => by
    simp only [lek, List.mem_cons] at h
    rcases h with rfl | h
    · exact Nat.mod_lt _ (by decide)
    · exact lek_lt k _ _ h

end Go.Proofs.Sl

namespace Go.Proofs.Sl

theorem dig_lt : ∀ k m d, d ∈ dig m k → d < 256 := fun k m d h => by
  rw [dig_lek] at h
  exact lek_lt k m d (by simpa using h)

end Go.Proofs.Sl

namespace Go.Proofs.Sl
end Go.Proofs.Sl

namespace Go.Proofs.Sl
theorem append_ofList (a b : List UInt8) : (⟨a.toArray⟩ : ByteArray) ++ ⟨b.toArray⟩ = ⟨(a ++ b).toArray⟩ := by
  have h : ((⟨a.toArray⟩ : ByteArray) ++ ⟨b.toArray⟩).data = (a ++ b).toArray := by
    rw [ByteArray.data_append]
    simp
  calc (⟨a.toArray⟩ : ByteArray) ++ ⟨b.toArray⟩ = ⟨((⟨a.toArray⟩ : ByteArray) ++ ⟨b.toArray⟩).data⟩ := rfl
    _ = _ := by rw [h]
end Go.Proofs.Sl

namespace Go.Proofs.Sl
/-- A text of these bytes. -/
def tx (l : List UInt8) : V := vs ⟨l.toArray⟩
/-- Two texts, one behind the other. -/
theorem add_tx {a b : List UInt8} (h : a.length + b.length ≤ 1000000000000000) : xbin .add (tx a) (tx b) = some (tx (a ++ b)) := by
  have hs : ¬ 9223372036854775807 < ((a.length : Int) + (b.length : Int)) := by omega
  simp [tx, strOp, size_ofList, append_ofList, hs]
theorem tx_plain (a : List UInt8) : (tx a).plain = true := Eq.trans rfl rfl
theorem lenT_tx (a : List UInt8) : lenT (tx a) = some (vi a.length) := by simp [tx, size_ofList]
theorem eql_tx (a b : List UInt8) : xbin .eql (tx a) (tx b) = some (vb (a == b)) := by simp [tx, strOp, toList_ofList]
theorem neq_tx (a b : List UInt8) : xbin .neq (tx a) (tx b) = some (vb (!(a == b))) := by simp [tx, strOp, toList_ofList]
attribute [simp] lenT_tx eql_tx neq_tx tx_plain
end Go.Proofs.Sl

namespace Go.Proofs.Sl

end Go.Proofs.Sl

namespace Go.Proofs.Sl
/-- A part: what is to be written. -/
structure PT where
  k : Int
  n0 : Int
  n1 : Int
  n2 : Int
  n3 : Int
  n4 : Int
  n5 : Int
  n6 : Int
  n7 : Int
  key : ByteArray
  s : ByteArray
def PT.v (p : PT) : V := .agg [vk .u8 p.k, vi p.n0, vi p.n1, vi p.n2, vi p.n3, vi p.n4, vi p.n5, vi p.n6, vi p.n7, vs p.key, vs p.s]
end Go.Proofs.Sl

namespace Go.Proofs.Sl

section
variable {h t : H} {l : Nat} {s : ByteArray} {a : Nat} {e : Int}
end
end Go.Proofs.Sl

namespace Go.Proofs.Sl

def plains (cs : List V) : Prop := ∀ c ∈ cs, c.plain = true
theorem plains.set {cs : List V} (h : plains cs) (j : Nat) {v : V} (hv : v.plain = true) : plains (cs.set j v) := by
  intro c hc
  rcases List.mem_or_eq_of_mem_set hc with hc | rfl
  · exact h c hc
  · exact hv

section
variable {s : ByteArray}
end
end Go.Proofs.Sl

namespace Go.Proofs.Sl
section
variable {h t : H} {l : Nat} {s : ByteArray} {a : Nat} {e : Int}
end
end Go.Proofs.Sl

namespace Go.Proofs.Sl
section
variable {h t : H} {l : Nat} {s : ByteArray} {a : Nat} {e : Int}
end

end Go.Proofs.Sl

namespace Go.Proofs.Sl
section
variable {h t : H} {l : Nat} {s : ByteArray} {a : Nat} {e : Int}

end
end Go.Proofs.Sl

namespace Go.Proofs.Sl
end Go.Proofs.Sl

namespace Go.Proofs.Sl
/-- A fragment, a trace. -/
structure FR where
  ag : Int
  sq : Int
  sps : List SP
  exs : List EX
  sn : Bool
  xn : Bool
def FR.v (a : FR) : V := .agg [vi a.ag, vi a.sq, lv 14 (slc SP.v a.sps a.sn), lv 5 (slc EX.v a.exs a.xn)]
structure TC where
  id : Int
  wt : Int
  sps : List SP
  sn : Bool
def TC.v (a : TC) : V := .agg [vi a.id, vi a.wt, lv 14 (slc SP.v a.sps a.sn)]
end Go.Proofs.Sl

namespace Go.Proofs.Sl
section
variable {s : ByteArray} {a : Nat} {rest : List UInt8}
end
end Go.Proofs.Sl

namespace Go.Proofs.Sl
end Go.Proofs.Sl

namespace Go.Proofs.Sl

/-! ### Read again -/
end Go.Proofs.Sl

namespace Go.Proofs.Sl
/-- y is a proper beginning of x. -/
def Beg (y x : List UInt8) : Prop := ∃ z, z ≠ [] ∧ x = y ++ z
theorem Beg.lt {y x : List UInt8} (h : Beg y x) : y.length < x.length := by
  obtain ⟨z, hz, rfl⟩ := h
  have := List.length_pos_iff.2 hz
  rw [List.length_append]
  omega
theorem Beg.nil {y : List UInt8} (h : Beg y []) : False := by
  have := h.lt
  simp at this
section
variable {s : ByteArray} {a : Nat} {y : List UInt8}
end
end Go.Proofs.Sl

namespace Go.Proofs.Sl
end Go.Proofs.Sl

namespace Go.Proofs.Sl
section
variable {h t : H} {l : Nat} {s : ByteArray} {a : Nat} {e : Int}
end
end Go.Proofs.Sl

namespace Go.Proofs.Sl
section
variable {h t : H} {l : Nat} {s : ByteArray} {a : Nat} {e : Int}
end
end Go.Proofs.Sl

namespace Go.Proofs.Sl

section
variable {h t : H} {l : Nat} {s : ByteArray} {a : Nat} {e : Int}
end
end Go.Proofs.Sl

namespace Go.Proofs.Sl
/-- A reading call: which, and the most. -/
structure OP where
  k : Int
  most : Int
def OP.v (o : OP) : V := .agg [vk .u8 o.k, vi o.most]
end Go.Proofs.Sl

namespace Go.Proofs.Sl
section
variable {s : ByteArray}
end
end Go.Proofs.Sl

namespace Go.Proofs.Sl
section
variable {s : ByteArray}
end
end Go.Proofs.Sl

namespace Go.Proofs.Sl

/-- A value that a column can't have. -/
def wrongB (n : Int) : Bool := decide (n < -1152921504606846976) || decide (n > 1152921504606846976)
def chkE (vs : List Int) : Int := if vs.length > 4096 then 6 else if vs.any wrongB then 2 else 0

theorem drop_at {α : Type} {l : List α} {k : Nat} {e : α} (h : l[k]? = some e) : l.drop k = e :: l.drop (k + 1) := by
  obtain ⟨hk, he⟩ := List.getElem?_eq_some_iff.1 h
  rw [List.drop_eq_getElem_cons hk, he]
theorem take_at {α : Type} {l : List α} {k : Nat} {e : α} (h : l[k]? = some e) : l.take (k + 1) = l.take k ++ [e] := by
  rw [List.take_add_one, h]; rfl
theorem wrap_up {k : Nat} (h : k < 100000000000) : IntKind.i64.wrap ((k : Int) + 1) = (k : Int) + 1 := wrap_i64 (by omega) (by omega)
theorem il_at {vs : List Int} {k : Nat} {e : Int} (h : vs[k]? = some e) : (il vs)[k]? = some (vi e) := by simp [il, h]
theorem il_length (vs : List Int) : (il vs).length = vs.length := by simp [il]

theorem run_wrong (h : H) (n : Int) : run XP i_column_wrong [vi n] h = some (vb (wrongB n), h) := by
  rw [run_eq, xp_column_wrong]
  by_cases h1 : n < -1152921504606846976
  · simp -implicitDefEqProofs [x_column_wrong, h1, wrongB]
  · simp -implicitDefEqProofs [x_column_wrong, h1, wrongB]

/-- The first of them that is wrong. -/
def ixW : List Int → Nat → Int
  | [], _ => -1
  | v :: r, k => if wrongB v = true then k else ixW r (k + 1)
theorem ixW_any : ∀ (l : List Int) (k : Nat), decide (ixW l k ≥ 0) = l.any wrongB
  | [], k => by simp [ixW]
  | v :: r, k => by
    rw [ixW, List.any_cons]
    cases hw : wrongB v with
    | true => simp
    | false => simpa using ixW_any r (k + 1)

theorem run_indexFunc {h : H} {v : V} {vs : List Int} (hv : Rd h 1 v (il vs)) (hl : vs.length ≤ 10000) :
    run XP i_slices_IndexFunc_int_int [v, .fn i_column_wrong [] []] h = some (vi (ixW vs 0), h) := by
  rw [run_eq, xp_slices_IndexFunc_int_int]
  simp -implicitDefEqProofs [x_slices_IndexFunc_int_int, hv.toL, il_length]
  refine loop_list vs (fun k s h' => Sees s [(0, v), (1, .fn i_column_wrong [] []), (7, vi vs.length), (8, vi k)] ∧ h' = h ∧ ixW vs 0 = ixW (vs.drop k) k) ?_ ?_ _ _ ⟨by simp, rfl, rfl⟩
  · rintro B f hB hf k e s h' he hk ⟨⟨h0, h1, h7, h8, -⟩, rfl, hx⟩ K
    obtain ⟨p, hp, hld⟩ := hv.at1 (il_at he) rfl
    have hlt : (k : Int) < vs.length := by omega
    have hw := run_wrong h' e
    rw [drop_at he, ixW] at hx
    cases hb : wrongB e with
    | true =>
      rw [hb, if_pos rfl] at hx
      simp -implicitDefEqProofs [hB, hf, x_slices_IndexFunc_int_int_l0, h0, h1, h7, h8, hlt, hv.toL, hp, hld, hw, hb, hx]
    | false =>
      rw [hb, if_neg (by simp)] at hx
      simp -implicitDefEqProofs [hB, x_slices_IndexFunc_int_int_l0, h0, h1, h7, h8, hlt, hv.toL, hp, hld, hw, hb]
      refine K _ _ ⟨?_, rfl, hx⟩
      simp [h0, h1, h7, wrap_up (by omega : k < 100000000000)]
  · rintro B hB s h' ⟨⟨h0, h1, h7, h8, -⟩, rfl, hx⟩
    simp -implicitDefEqProofs [hB, x_slices_IndexFunc_int_int_l0, h7, h8, hx, ixW]

theorem run_containsFunc {h : H} {v : V} {vs : List Int} (hv : Rd h 1 v (il vs)) (hl : vs.length ≤ 10000) :
    run XP i_slices_ContainsFunc_int_int [v, .fn i_column_wrong [] []] h = some (vb (vs.any wrongB), h) := by
  have h1 := run_indexFunc hv hl
  have h2 := ixW_any vs 0
  rw [run_eq, xp_slices_ContainsFunc_int_int]
  simp -implicitDefEqProofs [x_slices_ContainsFunc_int_int, h1, hv.arg0]
  simpa using h2

theorem run_check {h : H} {v : V} {vs : List Int} (hv : Rd h 1 v (il vs)) (hl : vs.length ≤ 10000) :
    run XP i_column_check [v] h = some (vi (chkE vs), h) := by
  have h1 := run_containsFunc hv hl
  rw [run_eq, xp_column_check, chkE]
  by_cases hm : vs.length > 4096
  · have hm' : 4096 < (vs.length : Int) := by omega
    simp -implicitDefEqProofs [x_column_check, hv.toL, il_length, hm, hm']
  · have hm' : ¬ 4096 < (vs.length : Int) := by omega
    cases hw : vs.any wrongB <;> simp -implicitDefEqProofs [x_column_check, hv.toL, il_length, hm, hm', h1, hw, hv.arg0]

theorem ref_check {h : H} {v : V} {vs : List Int} (hv : Rd h 1 v (il vs)) (hl : vs.length ≤ 10000) :
    run XP i_sleuthref07_Check [v] h = some (vi (chkE vs), h) := by
  rw [run_eq, xp_sleuthref07_Check, chkE]
  by_cases hm : vs.length > 4096
  · have hm' : 4096 < (vs.length : Int) := by omega
    simp -implicitDefEqProofs [x_sleuthref07_Check, hv.toL, il_length, hm, hm']
  have hm' : ¬ 4096 < (vs.length : Int) := by omega
  rw [if_neg hm]
  obtain ⟨w, hw0⟩ : ∃ w, w = vs.any wrongB := ⟨_, rfl⟩
  rw [← hw0]
  simp -implicitDefEqProofs [x_sleuthref07_Check, hv.toL, il_length, hm, hm']
  refine loop_list vs (fun k s h' => Sees s [(0, v), (3, vi k)] ∧ h' = h ∧ w = (vs.drop k).any wrongB) ?_ ?_ _ _ ⟨by simp, rfl, hw0⟩
  · rintro B f hB hf k e s h' he hk ⟨⟨h0, h3, -⟩, rfl, hx⟩ K
    obtain ⟨p, hp, hld⟩ := hv.at1 (il_at he) rfl
    have hlt : (k : Int) < vs.length := by omega
    rw [drop_at he, List.any_cons] at hx
    by_cases h1 : e < -1152921504606846976
    · have hw : wrongB e = true := by simp [wrongB, h1]
      rw [hw, Bool.true_or] at hx
      simp -implicitDefEqProofs [hB, hf, x_sleuthref07_Check_l0, h0, h3, hlt, hv.toL, hp, hld, il_length, h1, hx]
    by_cases h2 : 1152921504606846976 < e
    · have hw : wrongB e = true := by simp [wrongB, h2]
      rw [hw, Bool.true_or] at hx
      simp -implicitDefEqProofs [hB, hf, x_sleuthref07_Check_l0, h0, h3, hlt, hv.toL, hp, hld, il_length, h1, h2, hx]
    · have hw : wrongB e = false := by simp [wrongB, h1, h2]
      rw [hw, Bool.false_or] at hx
      simp -implicitDefEqProofs [hB, x_sleuthref07_Check_l0, h0, h3, hlt, hv.toL, hp, hld, il_length, h1, h2]
      refine K _ _ ⟨?_, rfl, hx⟩
      simp [h0, wrap_up (by omega : k < 100000000000)]
  · rintro B hB s h' ⟨⟨h0, h3, -⟩, rfl, hx⟩
    rw [List.drop_length, List.any_nil] at hx
    simp -implicitDefEqProofs [hB, x_sleuthref07_Check_l0, h0, h3, hv.toL, il_length, hx]
end Go.Proofs.Sl

namespace Go.Proofs.Sl

def OkV (n : Int) : Prop := -1152921504606846976 ≤ n ∧ n ≤ 1152921504606846976
theorem wrongB_iff {n : Int} : wrongB n = false ↔ OkV n := by
  simp only [wrongB, OkV, Bool.or_eq_false_iff, decide_eq_false_iff_not]
  omega
theorem OkV.rng {n : Int} (h : OkV n) : Rng n := ⟨by have := h.1; omega, by have := h.2; omega⟩
def fPlain (vs : List Int) : List UInt8 := fNum vs.length ++ fNums vs
def difs : Int → List Int → List Int
  | _, [] => []
  | p, v :: r => (v - p) :: difs v r
def fDelta (vs : List Int) : List UInt8 := fNum vs.length ++ fNums (difs 0 vs)
theorem difs_length : ∀ (l : List Int) (p : Int), (difs p l).length = l.length
  | [], p => rfl
  | v :: r, p => by simp [difs, difs_length r]
theorem difs_rng : ∀ (l : List Int) (p : Int), OkV p → (∀ n ∈ l, OkV n) → ∀ n ∈ difs p l, Rng n
  | [], p, _, _, n, h => by simp [difs] at h
  | v :: r, p, hp, hl, n, h => by
    simp only [difs, List.mem_cons] at h
    have hv := hl v (by simp)
    rcases h with rfl | h
    · exact ⟨by have := hv.1; have := hp.2; omega, by have := hv.2; have := hp.1; omega⟩
    · exact difs_rng r v hv (fun m hm => hl m (by simp [hm])) n h

section
variable {h : H} {l : Nat} {v : V} {vs : List Int} {bs : List UInt8}

theorem P_plain (hl : l < h.length) (hv : ∀ bs, Rd (h.set l (.box false [wc bs])) 1 v (il vs)) (hr : ∀ n ∈ vs, OkV n) (hn : vs.length ≤ 10000) (hs : bs.length ≤ 60000000000000) :
    run XP i_column_plain [.ptr l 0, v] (h.set l (.box false [wc bs])) = some (.tup [], h.set l (.box false [wc (bs ++ fPlain vs)])) := by
  have hlen : Rng vs.length := rng_nat (by omega)
  have hle := fNum_le hlen
  have htot := fNums_le (ns := vs) fun n hm => (hr n hm).rng
  have hw := W_number (h := h) (bs := bs) hl hlen (by omega)
  rw [run_eq, xp_column_plain]
  simp -implicitDefEqProofs [x_column_plain, (hv _).toL, il_length, hw]
  refine loop_list vs (fun k s h' => Sees s [(0, .ptr l 0), (10, v), (11, vi vs.length), (12, vi k)] ∧ ∃ bs', h' = h.set l (.box false [wc bs']) ∧ bs' ++ fNums (vs.drop k) = bs ++ fPlain vs) ?_ ?_ _ _ ⟨by simp, bs ++ fNum vs.length, rfl, by simp [fPlain]⟩
  · rintro B f hB hf k e s h' he hk ⟨⟨h0, h10, h11, h12, -⟩, bs', rfl, hx⟩ K
    obtain ⟨p, hp, hld⟩ := (hv bs').at1 (il_at he) rfl
    have hlt : (k : Int) < vs.length := by omega
    have hlx := congrArg List.length hx
    simp [fPlain] at hlx
    have hw := W_number (h := h) (bs := bs') hl (hr e (List.mem_of_getElem? he)).rng (by omega)
    simp -implicitDefEqProofs [hB, x_column_plain_l0, h0, h10, h11, h12, hlt, hp, hld, hw]
    refine K _ _ ⟨?_, _, rfl, ?_⟩
    · simp [h0, h10, h11, wrap_up (by omega : k < 100000000000)]
    · rw [drop_at he] at hx
      simpa [fNums] using hx
  · rintro B hB s h' ⟨⟨h0, h10, h11, h12, -⟩, bs', rfl, hx⟩
    rw [List.drop_length] at hx
    simp [fNums] at hx
    simp -implicitDefEqProofs [hB, x_column_plain_l0, h11, h12, hx]

theorem P_delta (hl : l < h.length) (hv : ∀ bs, Rd (h.set l (.box false [wc bs])) 1 v (il vs)) (hr : ∀ n ∈ vs, OkV n) (hn : vs.length ≤ 10000) (hs : bs.length ≤ 60000000000000) :
    run XP i_column_delta [.ptr l 0, v] (h.set l (.box false [wc bs])) = some (.tup [], h.set l (.box false [wc (bs ++ fDelta vs)])) := by
  have hlen : Rng vs.length := rng_nat (by omega)
  have hle := fNum_le hlen
  have h00 : OkV 0 := ⟨by decide, by decide⟩
  have htot := fNums_le (ns := difs 0 vs) (difs_rng vs 0 h00 hr)
  rw [difs_length] at htot
  have hw := W_number (h := h) (bs := bs) hl hlen (by omega)
  rw [run_eq, xp_column_delta]
  simp -implicitDefEqProofs [x_column_delta, (hv _).toL, il_length, hw]
  refine loop_list vs (fun k s h' => ∃ q, Sees s [(0, .ptr l 0), (4, vi q), (11, v), (12, vi vs.length), (13, vi k)] ∧ OkV q ∧ ∃ bs', h' = h.set l (.box false [wc bs']) ∧ bs' ++ fNums (difs q (vs.drop k)) = bs ++ fDelta vs) ?_ ?_ _ _ ⟨0, by simp, h00, bs ++ fNum vs.length, rfl, by simp [fDelta]⟩
  · rintro B f hB hf k e s h' he hk ⟨q, ⟨h0, h4, h11, h12, h13, -⟩, hq, bs', rfl, hx⟩ K
    obtain ⟨p, hp, hld⟩ := (hv bs').at1 (il_at he) rfl
    have hlt : (k : Int) < vs.length := by omega
    have hlx := congrArg List.length hx
    simp [fDelta] at hlx
    have hre := hr e (List.mem_of_getElem? he)
    have hwr : IntKind.i64.wrap (e - q) = e - q := wrap_i64 (by have := hre.1; have := hq.2; omega) (by have := hre.2; have := hq.1; omega)
    have hw := W_number (h := h) (bs := bs') (n := e - q) hl ⟨by have := hre.1; have := hq.2; omega, by have := hre.2; have := hq.1; omega⟩ (by omega)
    simp -implicitDefEqProofs [hB, x_column_delta_l0, h0, h4, h11, h12, h13, hlt, hp, hld, hwr, hw]
    refine K _ _ ⟨e, ?_, hre, _, rfl, ?_⟩
    · simp [h0, h11, h12, wrap_up (by omega : k < 100000000000)]
    · rw [drop_at he] at hx
      simpa [fNums, difs] using hx
  · rintro B hB s h' ⟨q, ⟨h0, h4, h11, h12, h13, -⟩, hq, bs', rfl, hx⟩
    rw [List.drop_length] at hx
    simp [fNums, difs] at hx
    simp -implicitDefEqProofs [hB, x_column_delta_l0, h12, h13, hx]
end

/-! ### Runs -/
/-- Where the runs begin. -/
def sts : Option Int → Nat → List Int → List Int
  | _, _, [] => []
  | p, i, v :: r => if p = some v then sts (some v) (i + 1) r else (i : Int) :: sts (some v) (i + 1) r
/-- The numbers that are written of runs. -/
def runNs (g : Nat → Int) (len : Nat) : List Int → List Int
  | [] => []
  | [a] => [g a.toNat, (len : Int) - a]
  | a :: b :: r => g a.toNat :: (b - a) :: runNs g len (b :: r)
/-- The runs. -/
def grp : List Int → List (Int × Nat)
  | [] => []
  | v :: r => (v, 1 + (r.takeWhile (· == v)).length) :: grp (r.dropWhile (· == v))
termination_by l => l.length
decreasing_by
  have := (List.dropWhile_sublist (l := r) (fun x => x == v)).length_le
  simp only [List.length_cons]
  omega
def grpNs (l : List (Int × Nat)) : List Int := l.flatMap fun p => [p.1, (p.2 : Int)]
def fRuns (vs : List Int) : List UInt8 := fNum (grp vs).length ++ fNums (grpNs (grp vs))

theorem sts_skip (v : Int) : ∀ (r : List Int) (j : Nat), sts (some v) j r = sts (some v) (j + (r.takeWhile (· == v)).length) (r.dropWhile (· == v))
  | [], j => by simp [sts]
  | w :: r, j => by
    by_cases h : w = v
    · subst h
      simp only [sts, if_true, List.takeWhile_cons, List.dropWhile_cons, beq_self_eq_true, List.length_cons]
      rw [sts_skip w r (j + 1)]
      congr 1
      omega
    · have : (w == v) = false := by simpa using h
      simp [List.takeWhile_cons, List.dropWhile_cons, this]
theorem tw_dw (v : Int) (r : List Int) : (r.takeWhile (· == v)).length + (r.dropWhile (· == v)).length = r.length := by
  have := congrArg List.length (List.takeWhile_append_dropWhile (p := (· == v)) (l := r))
  rwa [List.length_append] at this
theorem drop_tw (v : Int) : ∀ r : List Int, r.drop (r.takeWhile (· == v)).length = r.dropWhile (· == v)
  | [] => rfl
  | w :: r => by
    by_cases h : (w == v) = true
    · simp [List.takeWhile_cons, List.dropWhile_cons, h, drop_tw v r]
    · simp [List.takeWhile_cons, List.dropWhile_cons, h]
theorem runs_eq (vs : List Int) : ∀ (m : Nat) (i : Nat) (rest : List Int) (p : Option Int), rest.length = m → vs.drop i = rest → p ≠ rest.head? ∨ rest = [] →
    runNs (fun n => vs.getD n 0) vs.length (sts p i rest) = grpNs (grp rest) ∧ (sts p i rest).length = (grp rest).length := by
  intro m
  induction m using Nat.strongRecOn with
  | ind m ih =>
    intro i rest p hm hd hp
    cases rest with
    | nil => simp [sts, grp, grpNs, runNs]
    | cons v r =>
      have hp' : p ≠ some v := by simpa using hp
      have hgi : vs.getD i 0 = v := by
        have := congrArg (·[0]?) hd
        simp at this
        simp [this]
      rw [sts, if_neg hp', sts_skip v r (i + 1), grp]
      have htd := tw_dw v r
      have hlen := congrArg List.length hd
      rw [List.length_drop, List.length_cons] at hlen
      have hd2 : vs.drop (i + 1 + (r.takeWhile (· == v)).length) = r.dropWhile (· == v) := by
        rw [← List.drop_drop, ← List.drop_drop, hd]
        simp only [List.drop_succ_cons, List.drop_zero]
        exact drop_tw v r
      have hne : some v ≠ (r.dropWhile (· == v)).head? ∨ r.dropWhile (· == v) = [] := by
        cases hh : (r.dropWhile (· == v)).head? with
        | none => right; simpa using hh
        | some w =>
          left
          have := List.head?_dropWhile_not (p := (· == v)) (l := r)
          rw [hh] at this
          simp at this
          simpa using fun e => this e.symm
      obtain ⟨e1, e2⟩ := ih (r.dropWhile (· == v)).length (by simp at hm; omega) (i + 1 + (r.takeWhile (· == v)).length) (r.dropWhile (· == v)) (some v) rfl hd2 hne
      refine ⟨?_, by simp [e2]⟩
      cases hr : r.dropWhile (· == v) with
      | nil =>
        rw [hr] at htd
        simp only [List.length_nil] at htd
        simp only [sts, runNs, grp, grpNs, List.flatMap_cons, List.flatMap_nil, Int.toNat_natCast]
        rw [hgi]
        simp
        omega
      | cons w r' =>
        rw [hr] at e1 hne
        have hw : (some v : Option Int) ≠ some w := by simpa using hne
        rw [sts, if_neg hw] at e1 ⊢
        rw [runNs, e1, Int.toNat_natCast, hgi]
        simp only [grpNs, List.flatMap_cons]
        simp
        omega
theorem runs_all (vs : List Int) : runNs (fun n => vs.getD n 0) vs.length (sts none 0 vs) = grpNs (grp vs) ∧ (sts none 0 vs).length = (grp vs).length :=
  runs_eq vs vs.length 0 vs none rfl rfl (by cases vs <;> simp)
end Go.Proofs.Sl

namespace Go.Proofs.Sl
theorem sts_rng : ∀ (l : List Int) (p : Option Int) (i : Nat), ∀ n ∈ sts p i l, (i : Int) ≤ n ∧ n < (i + l.length : Nat)
  | [], p, i, n, h => by simp [sts] at h
  | v :: r, p, i, n, h => by
    have key : ∀ n ∈ sts (some v) (i + 1) r, (i : Int) ≤ n ∧ n < (i + (v :: r).length : Nat) := fun n hn => by
      have := sts_rng r (some v) (i + 1) n hn
      simp only [List.length_cons]
      omega
    simp only [sts] at h
    split at h
    · exact key n h
    · simp only [List.mem_cons] at h
      rcases h with rfl | h
      · simp only [List.length_cons]; omega
      · exact key n h
theorem sts_len : ∀ (l : List Int) (p : Option Int) (i : Nat), (sts p i l).length ≤ l.length
  | [], p, i => by simp [sts]
  | v :: r, p, i => by
    have := sts_len r (some v) (i + 1)
    simp only [sts]
    split <;> simp <;> omega
theorem runNs_rng {vs : List Int} (hr : ∀ n ∈ vs, OkV n) (hn : vs.length ≤ 10000) : ∀ (st : List Int), (∀ n ∈ st, (0 : Int) ≤ n ∧ n < vs.length) → ∀ n ∈ runNs (fun n => vs.getD n 0) vs.length st, OkV n
  | [], _, n, h => by simp [runNs] at h
  | [a], hs, n, h => by
    have ha := hs a (by simp)
    simp only [runNs, List.mem_cons, List.not_mem_nil, or_false] at h
    rcases h with rfl | rfl
    · refine hr _ ?_
      rw [List.getD_eq_getElem?_getD, List.getElem?_eq_getElem (by omega)]
      exact List.getElem_mem _
    · exact ⟨by omega, by omega⟩
  | a :: b :: r, hs, n, h => by
    have ha := hs a (by simp)
    have hb := hs b (by simp)
    simp only [runNs, List.mem_cons] at h
    rcases h with rfl | rfl | h
    · refine hr _ ?_
      rw [List.getD_eq_getElem?_getD, List.getElem?_eq_getElem (by omega)]
      exact List.getElem_mem _
    · exact ⟨by omega, by omega⟩
    · exact runNs_rng hr hn (b :: r) (fun m hm => hs m (by simp [List.mem_cons.1 hm])) n h
theorem runNs_len (g : Nat → Int) (len : Nat) : ∀ st : List Int, (runNs g len st).length = 2 * st.length
  | [] => rfl
  | [a] => rfl
  | a :: b :: r => by
    simp only [runNs, List.length_cons, runNs_len g len (b :: r)]
    omega

section
variable {h : H} {l : Nat} {v : V} {vs : List Int} {bs : List UInt8}
/-- The value ahead of a row. -/
def prevO (vs : List Int) (k : Nat) : Option Int := if k = 0 then none else vs[k - 1]?

theorem P_runs (hl : l < h.length) (hv : ∀ bs, Rd (h.set l (.box false [wc bs])) 1 v (il vs)) (hr : ∀ n ∈ vs, OkV n) (hn : vs.length ≤ 10000) (hs : bs.length ≤ 60000000000000) :
    run XP i_column_runs [.ptr l 0, v] (h.set l (.box false [wc bs])) = some (.tup [], h.set l (.box false [wc (bs ++ fRuns vs)])) := by
  obtain ⟨ra1, ra2⟩ := runs_all vs
  obtain ⟨S, hS⟩ : ∃ S, S = sts none 0 vs := ⟨_, rfl⟩
  have hSr : ∀ n ∈ S, (0 : Int) ≤ n ∧ n < vs.length := fun n hn => by
    have := sts_rng vs none 0 n (hS ▸ hn)
    omega
  have hSl : S.length ≤ 10000 := by
    have := sts_len vs none 0
    rw [hS]; omega
  rw [← hS] at ra1 ra2
  have hlen : Rng S.length := rng_nat (by omega)
  have hle := fNum_le hlen
  have htot := fNums_le (ns := runNs (fun n => vs.getD n 0) vs.length S) fun n hm => (runNs_rng hr hn S hSr n hm).rng
  rw [runNs_len] at htot
  have hF : fRuns vs = fNum S.length ++ fNums (runNs (fun n => vs.getD n 0) vs.length S) := by rw [fRuns, ← ra1, ← ra2]
  rw [run_eq, xp_column_runs]
  simp -implicitDefEqProofs [x_column_runs, (hv _).toL, il_length]
  refine loop_list vs (fun k s h' => ∃ st, Sees s [(0, .ptr l 0), (1, v), (4, gv h.length (il st)), (10, v), (11, vi vs.length), (12, vi k)] ∧ h' = h.set l (.box false [wc bs]) ++ gt 1 (il st) ∧ st ++ sts (prevO vs k) k (vs.drop k) = S ∧ st.length ≤ k) ?_ ?_ _ _
    ⟨[], by simp [gv, il], by simp [gt, il], by simp [prevO, hS], by simp⟩
  · rintro B f hB hf k e s h' he hk ⟨st, ⟨h0, h1, h4, h10, h11, h12, -⟩, rfl, hx, hst⟩ K
    have hlt : (k : Int) < vs.length := by omega
    have hv' := (hv bs).app (gt 1 (il st))
    obtain ⟨p, hp, hld⟩ := hv'.at1 (il_at he) rfl
    have hpv : prevO vs (k + 1) = some e := by simp [prevO, he]
    rw [drop_at he, sts] at hx
    have hga := gv_app (h := h.set l (.box false [wc bs])) (k := 1) (n := h.length) (lim := 17592186044416) (es := il st) (ys := [vi k]) (by simp) rfl rfl (by simp) (by simp [il_length]; omega)
    have hil : il st ++ [vi k] = il (st ++ [(k : Int)]) := by simp [il]
    rw [hil] at hga
    by_cases hk0 : k = 0
    · have hkz : ((k : Int) == 0) = true := by simp [hk0]
      have hpk : prevO vs k = none := by simp [prevO, hk0]
      rw [hpk] at hx
      simp at hx
      simp -implicitDefEqProofs [hB, x_column_runs_l0, h0, h1, h4, h10, h11, h12, hlt, hp, hld, hkz, hga]
      refine K _ _ ⟨st ++ [(k : Int)], ?_, rfl, ?_, by simp; omega⟩
      · simp [h0, h1, h10, h11, wrap_up (by omega : k < 100000000000)]
      · rw [hpv]; simpa using hx
    · have hm : vs[k - 1]? = some (vs[k - 1]'(by omega)) := List.getElem?_eq_getElem (by omega)
      obtain ⟨q, hq⟩ : ∃ q, q = vs[k - 1]'(by omega) := ⟨_, rfl⟩
      rw [← hq] at hm
      obtain ⟨p2, hp2, hld2⟩ := hv'.at1 (il_at hm) rfl
      have hpk : prevO vs k = some q := by simp [prevO, hk0, hm]
      have hk0' : ((k : Int) == 0) = false := by simpa using hk0
      have hwk : IntKind.i64.wrap ((k : Int) - 1) = ((k - 1 : Nat) : Int) := by rw [wrap_i64 (by omega) (by omega)]; omega
      rw [hpk] at hx
      by_cases heq : e = q
      · subst heq
        rw [if_pos rfl] at hx
        simp -implicitDefEqProofs [hB, x_column_runs_l0, h0, h1, h4, h10, h11, h12, hlt, hp, hld, hk0', hwk, hp2, hld2]
        refine K _ _ ⟨st, ?_, rfl, ?_, by omega⟩
        · simp [h0, h1, h4, h10, h11, wrap_up (by omega : k < 100000000000)]
        · rw [hpv]; exact hx
      · have hne : (e != q) = true := by simpa using heq
        have hne' : ¬ q = e := fun e => heq e.symm
        simp [hne'] at hx
        simp -implicitDefEqProofs [hB, x_column_runs_l0, h0, h1, h4, h10, h11, h12, hlt, hp, hld, hk0', hwk, hp2, hld2, hne, hga]
        refine K _ _ ⟨st ++ [(k : Int)], ?_, rfl, ?_, by simp; omega⟩
        · simp [h0, h1, h10, h11, wrap_up (by omega : k < 100000000000)]
        · rw [hpv]; simpa using hx
  rintro B hB s h' ⟨st, ⟨h0, h1, h4, h10, h11, h12, -⟩, rfl, hx, hst⟩
  rw [List.drop_length] at hx
  simp [sts] at hx
  subst hx
  clear hst
  have hgr : ∀ bs, Rd (h.set l (.box false [wc bs]) ++ gt 1 (il st)) 1 (gv h.length (il st)) (il st) := fun bs => gv_rd0 1 (il st) (by simp)
  have hw := W_number_r (h := h) (t := gt 1 (il st)) (bs := bs) hl hlen (by omega)
  simp -implicitDefEqProofs [hB, x_column_runs_l0, h0, h1, h4, h10, h11, h12, (hgr _).toL, il_length, hw]
  refine loop_list st (fun k s h' => Sees s [(0, .ptr l 0), (1, v), (4, gv h.length (il st)), (37, gv h.length (il st)), (38, vi st.length), (39, vi k)] ∧ ∃ bs', h' = h.set l (.box false [wc bs']) ++ gt 1 (il st) ∧ bs' ++ fNums (runNs (fun n => vs.getD n 0) vs.length (st.drop k)) = bs ++ fRuns vs) ?_ ?_ _ _
    ⟨by simp [h0, h1, h4], bs ++ fNum st.length, rfl, by rw [hF]; simp⟩
  · rintro B f hB hf k e s h' he hk ⟨⟨h0, h1, h4, h37, h38, h39, -⟩, bs', rfl, hx⟩ K
    have hlt : (k : Int) < st.length := by omega
    obtain ⟨p, hp, hld⟩ := (hgr bs').at1 (il_at he) rfl
    obtain ⟨he0, he1⟩ := hSr e (List.mem_of_getElem? he)
    obtain ⟨q, hq⟩ : ∃ q, vs[e.toNat]? = some q := ⟨_, List.getElem?_eq_getElem (by omega)⟩
    have hqo := hr q (List.mem_of_getElem? hq)
    have hgq : vs.getD e.toNat 0 = q := by rw [List.getD_eq_getElem?_getD, hq]; rfl
    have hlx := congrArg List.length hx
    have hFl := congrArg List.length hF
    simp only [List.length_append] at hlx hFl
    have hle9 := fNum_le hqo.rng
    have hwk : IntKind.i64.wrap ((k : Int) + 1) = (k : Int) + 1 := wrap_up (by omega)
    have hnn : (0 : Int) ≤ (k : Int) + 1 := by omega
    have htn : ((k : Int) + 1).toNat = k + 1 := by omega
    have hw1 := W_number_r (h := h) (t := gt 1 (il st)) (bs := bs') hl hqo.rng (by omega)
    have hvq : ∀ bs, ∃ p, iaddrV (h.set l (.box false [wc bs]) ++ gt 1 (il st)) 1 v e.toNat = some p ∧ xload (h.set l (.box false [wc bs]) ++ gt 1 (il st)) 1 false p = some (vi q) := fun bs => ((hv bs).app _).at1 (il_at hq) rfl
    obtain ⟨p2, hp2, hld2⟩ := hvq bs'
    rw [drop_at he] at hx
    by_cases hk1 : k + 1 < st.length
    · obtain ⟨b, hb⟩ : ∃ b, st[k + 1]? = some b := ⟨_, List.getElem?_eq_getElem hk1⟩
      have hb01 := hSr b (List.mem_of_getElem? hb)
      have hk1' : (k : Int) + 1 < st.length := by omega
      obtain ⟨p3, hp3, hld3⟩ := (hgr bs').at1 (il_at hb) rfl
      rw [drop_at hb, runNs, ← drop_at hb, hgq] at hx
      simp only [fNums] at hx
      have hwd : IntKind.i64.wrap (b - e) = b - e := wrap_i64 (by omega) (by omega)
      have hrd : Rng (b - e) := ⟨by omega, by omega⟩
      have hw2 := W_number_r (h := h) (t := gt 1 (il st)) (bs := bs' ++ fNum q) hl hrd (by simp; omega)
      simp -implicitDefEqProofs [hB, x_column_runs_l1, h0, h1, h4, h37, h38, h39, hlt, hp, hld, ((hv _).app _).toL, il_length, hwk, hnn, htn, (hgr _).toL, hk1', hp3, hld3, he0, hp2, hld2, hw1, hwd, hw2]
      refine K _ _ ⟨?_, _, rfl, ?_⟩
      · simp [h0, h1, h4, h37, h38, hwk]
      · simpa using hx
    · have hk1' : ¬ (k : Int) + 1 < st.length := by omega
      have hdn : st.drop (k + 1) = [] := List.drop_of_length_le (by omega)
      rw [hdn, runNs, hgq] at hx
      simp only [fNums] at hx
      have hwd : IntKind.i64.wrap ((vs.length : Int) - e) = (vs.length : Int) - e := wrap_i64 (by omega) (by omega)
      have hrd : Rng ((vs.length : Int) - e) := ⟨by omega, by omega⟩
      have hw2 := W_number_r (h := h) (t := gt 1 (il st)) (bs := bs' ++ fNum q) hl hrd (by simp; omega)
      simp -implicitDefEqProofs [hB, x_column_runs_l1, h0, h1, h4, h37, h38, h39, hlt, hp, hld, ((hv _).app _).toL, il_length, hwk, (hgr _).toL, hk1', he0, hp2, hld2, hw1, hwd, hw2]
      refine K _ _ ⟨?_, _, rfl, ?_⟩
      · simp [h0, h1, h4, h37, h38, hwk]
      · rw [hdn]; simpa [runNs, fNums] using hx
  · rintro B hB s h' ⟨⟨h0, h1, h4, h37, h38, h39, -⟩, bs', rfl, hx⟩
    rw [List.drop_length] at hx
    simp [runNs, fNums] at hx
    simp -implicitDefEqProofs [hB, x_column_runs_l1, h38, h39, hx]
end
end Go.Proofs.Sl

namespace Go.Proofs.Sl

def mn (a b : Int) : Int := if b < a then b else a
def mx (a b : Int) : Int := if a < b then b else a
def zoneP : List Int → Int × Int
  | [] => (0, 0)
  | a :: r => (r.foldl mn a, r.foldl mx a)

theorem run_Min {h : H} {v : V} {a : Int} {r : List Int} (hv : Rd h 1 v (il (a :: r))) (hl : r.length ≤ 10000) : run XP i_slices_Min_int_int [v] h = some (vi (r.foldl mn a), h) := by
  obtain ⟨p0, hp0, hld0⟩ := hv.at1 (i := 0) (e := vi a) rfl rfl
  have hlen : ¬ ((r.length : Int) + 1 < 1) := by omega
  rw [run_eq, xp_slices_Min_int_int]
  simp -implicitDefEqProofs [x_slices_Min_int_int, hv.toL, il_length, hp0, hld0, hlen]
  refine loop_list r (fun k s h' => ∃ m, Sees s [(0, v), (3, vi m), (4, vi ((k : Int) + 1))] ∧ h' = h ∧ (r.drop k).foldl mn m = r.foldl mn a) ?_ ?_ _ _ ⟨a, by simp, rfl, rfl⟩
  · rintro B f hB hf k e s h' he hk ⟨m, ⟨h0, h3, h4, -⟩, rfl, hx⟩ K
    obtain ⟨p, hp, hld⟩ := hv.at1 (i := k + 1) (e := vi e) (by simp [il, he]) rfl
    have hlt : (k : Int) + 1 < (r.length : Int) + 1 := by omega
    have hnn : (0 : Int) ≤ (k : Int) + 1 := by omega
    have htn : ((k : Int) + 1).toNat = k + 1 := by omega
    have hw : IntKind.i64.wrap ((k : Int) + 1 + 1) = (k : Int) + 1 + 1 := wrap_i64 (by omega) (by omega)
    rw [drop_at he, List.foldl_cons] at hx
    simp -implicitDefEqProofs [hB, x_slices_Min_int_int_l0, h0, h3, h4, hv.toL, il_length, hlt, hnn, htn, hp, hld]
    refine K _ _ ⟨mn m e, ?_, rfl, hx⟩
    simp [h0, hw, mn]
  · rintro B hB s h' ⟨m, ⟨h0, h3, h4, -⟩, rfl, hx⟩
    have hlt : ¬ ((r.length : Int) + 1 < (r.length : Int) + 1) := by omega
    rw [List.drop_length, List.foldl_nil] at hx
    simp -implicitDefEqProofs [hB, x_slices_Min_int_int_l0, h0, h3, h4, hv.toL, il_length, hlt, hx]
theorem run_Max {h : H} {v : V} {a : Int} {r : List Int} (hv : Rd h 1 v (il (a :: r))) (hl : r.length ≤ 10000) : run XP i_slices_Max_int_int [v] h = some (vi (r.foldl mx a), h) := by
  obtain ⟨p0, hp0, hld0⟩ := hv.at1 (i := 0) (e := vi a) rfl rfl
  have hlen : ¬ ((r.length : Int) + 1 < 1) := by omega
  rw [run_eq, xp_slices_Max_int_int]
  simp -implicitDefEqProofs [x_slices_Max_int_int, hv.toL, il_length, hp0, hld0, hlen]
  refine loop_list r (fun k s h' => ∃ m, Sees s [(0, v), (3, vi m), (4, vi ((k : Int) + 1))] ∧ h' = h ∧ (r.drop k).foldl mx m = r.foldl mx a) ?_ ?_ _ _ ⟨a, by simp, rfl, rfl⟩
  · rintro B f hB hf k e s h' he hk ⟨m, ⟨h0, h3, h4, -⟩, rfl, hx⟩ K
    obtain ⟨p, hp, hld⟩ := hv.at1 (i := k + 1) (e := vi e) (by simp [il, he]) rfl
    have hlt : (k : Int) + 1 < (r.length : Int) + 1 := by omega
    have hnn : (0 : Int) ≤ (k : Int) + 1 := by omega
    have htn : ((k : Int) + 1).toNat = k + 1 := by omega
    have hw : IntKind.i64.wrap ((k : Int) + 1 + 1) = (k : Int) + 1 + 1 := wrap_i64 (by omega) (by omega)
    rw [drop_at he, List.foldl_cons] at hx
    simp -implicitDefEqProofs [hB, x_slices_Max_int_int_l0, h0, h3, h4, hv.toL, il_length, hlt, hnn, htn, hp, hld]
    refine K _ _ ⟨mx m e, ?_, rfl, hx⟩
    simp [h0, hw, mx]
  · rintro B hB s h' ⟨m, ⟨h0, h3, h4, -⟩, rfl, hx⟩
    have hlt : ¬ ((r.length : Int) + 1 < (r.length : Int) + 1) := by omega
    rw [List.drop_length, List.foldl_nil] at hx
    simp -implicitDefEqProofs [hB, x_slices_Max_int_int_l0, h0, h3, h4, hv.toL, il_length, hlt, hx]

theorem run_zone {h : H} {v : V} {vs : List Int} (hv : Rd h 1 v (il vs)) (hl : vs.length ≤ 10000) : run XP i_column_zone [v] h = some (.agg [vi (zoneP vs).1, vi (zoneP vs).2], h) := by
  cases vs with
  | nil =>
    have hv' := hv.app [.box false [vi 0, vi 0]]
    rw [run_eq, xp_column_zone]
    simp -implicitDefEqProofs [x_column_zone, hv'.toL, il_length, zoneP]
  | cons a r =>
    have hv' := hv.app [.box false [vi 0, vi 0]]
    have h1 := run_Min hv' (by simp at hl; omega)
    have h2 := run_Max hv' (by simp at hl; omega)
    have hne : ((r.length : Int) + 1 == 0) = false := by simp; omega
    rw [run_eq, xp_column_zone]
    simp -implicitDefEqProofs [x_column_zone, hv'.toL, il_length, hv.arg0, h1, h2, zoneP, hne, noOwn]

/-- The reference's. -/
theorem ref_zone {h : H} {v : V} {vs : List Int} (hv : Rd h 1 v (il vs)) (hl : vs.length ≤ 10000) : run XP i_sleuthref07_Zone [v] h = some (.tup [vi (zoneP vs).1, vi (zoneP vs).2], h) := by
  rw [run_eq, xp_sleuthref07_Zone]
  simp -implicitDefEqProofs [x_sleuthref07_Zone]
  refine loop_list vs (fun k s h' => ∃ a b, Sees s [(0, v), (2, vi a), (3, vi b), (4, vi k)] ∧ h' = h ∧ (if k = 0 then a = 0 ∧ b = 0 else ((vs.drop k).foldl mn a, (vs.drop k).foldl mx b) = zoneP vs)) ?_ ?_ _ _ ⟨0, 0, by simp, rfl, by simp⟩
  · rintro B f hB hf k e s h' he hk ⟨a, b, ⟨h0, h2, h3, h4, -⟩, rfl, hx⟩ K
    obtain ⟨p, hp, hld⟩ := hv.at1 (il_at he) rfl
    have hlt : (k : Int) < vs.length := by omega
    by_cases hk0 : k = 0
    · have hkz : ((k : Int) == 0) = true := by simp [hk0]
      rw [hk0] at he
      obtain ⟨p0, hp0, hld0⟩ := hv.at1 (il_at he) rfl
      simp -implicitDefEqProofs [hB, x_sleuthref07_Zone_l0, h0, h2, h3, h4, hv.toL, il_length, hlt, hkz, hp, hld, hp0, hld0]
      refine K _ _ ⟨e, e, ?_, rfl, ?_⟩
      · simp [h0, wrap_up (by omega : k < 100000000000)]
      · rw [if_neg (by omega), hk0]
        cases vs with
        | nil => simp at he
        | cons x r =>
          simp at he
          subst he
          simp [zoneP]
    · have hkz : ((k : Int) == 0) = false := by simpa using hk0
      rw [if_neg hk0, drop_at he, List.foldl_cons, List.foldl_cons] at hx
      simp -implicitDefEqProofs [hB, x_sleuthref07_Zone_l0, h0, h2, h3, h4, hv.toL, il_length, hlt, hkz, hp, hld]
      refine K _ _ ⟨mn a e, mx b e, ?_, rfl, ?_⟩
      · simp [h0, wrap_up (by omega : k < 100000000000), mn, mx]
      · rw [if_neg (by omega)]; exact hx
  · rintro B hB s h' ⟨a, b, ⟨h0, h2, h3, h4, -⟩, rfl, hx⟩
    have hz : zoneP vs = (a, b) := by
      cases vs with
      | nil => simp at hx; simp [zoneP, hx]
      | cons x r => rw [if_neg (by simp), List.drop_length] at hx; simpa using hx.symm
    simp -implicitDefEqProofs [hB, x_sleuthref07_Zone_l0, h0, h2, h3, h4, hv.toL, il_length, hz]

/-! ### How many bits a number has -/
def bw (m : Nat) : Nat := if m = 0 then 0 else Nat.log2 m + 1
theorem bw_shift {m k : Nat} (h : 2 ^ k ≤ m) : bw m = bw (m / 2 ^ k) + k := by
  have h0 : 0 < 2 ^ k := Nat.two_pow_pos k
  have h1 : m ≠ 0 := by omega
  have h2 : m / 2 ^ k ≠ 0 := by
    have := Nat.div_pos h h0
    omega
  have h3 : k ≤ m.log2 := (Nat.le_log2 h1).2 h
  have h4 : (m / 2 ^ k).log2 = m.log2 - k := by
    refine (Nat.log2_eq_iff h2).2 ⟨?_, ?_⟩
    · rw [Nat.le_div_iff_mul_le h0, ← Nat.pow_add, Nat.sub_add_cancel h3]
      exact Nat.log2_self_le h1
    · rw [Nat.div_lt_iff_lt_mul h0, ← Nat.pow_add]
      have : m.log2 - k + 1 + k = m.log2 + 1 := by omega
      rw [this]
      exact Nat.lt_log2_self
  rw [bw, if_neg h1, bw, if_neg h2, h4]
  omega
theorem bw_lt {m k : Nat} : m < 2 ^ k ↔ bw m ≤ k := by
  rw [bw]
  by_cases h : m = 0
  · subst h; simp [Nat.two_pow_pos]
  · rw [if_neg h]
    have := Nat.log2_lt (n := m) (k := k) h
    omega
end Go.Proofs.Sl

set_option maxRecDepth 100000
namespace Go.Proofs.Sl
theorem tab_at (x : Nat) (h : x < 256) : x_math_bits_Len64_s0.data[x]? = some (UInt8.ofNat (bw x)) := by
  have : ∀ i : Fin 256, x_math_bits_Len64_s0.data[i.1]? = some (UInt8.ofNat (bw i.1)) := by decide +kernel
  exact this ⟨x, h⟩
theorem bw_small {x : Nat} (h : x < 256) : bw x ≤ 8 := bw_lt.1 h

theorem run_Len64 (h : H) (n : Nat) (hn : n < 18446744073709551616) : run XP i_math_bits_Len64 [vk .u64 n] h = some (vi (bw n), h) := by
  have fin : ∀ (x c : Nat), x < 256 → c ≤ 56 → IntKind.i64.wrap ((c : Int) + (UInt8.toNat (UInt8.ofNat (bw x)) : Int)) = ((c + bw x : Nat) : Int) := fun x c hx hc => by
    have := bw_small hx
    rw [UInt8.toNat_ofNat', Nat.mod_eq_of_lt (by omega), wrap_i64 (by omega) (by omega)]
    omega
  have sh : ∀ (m k : Nat), k ≤ 64 → (m : Int).fdiv (2 ^ k) = ((m / 2 ^ k : Nat) : Int) := fun m k hk => by
    have := shr_nat m k (kk := .u64) hk
    have e : min k IntKind.u64.bits = k := Nat.min_eq_left hk
    rwa [e] at this
  have m32 : min 32 IntKind.u64.bits = 32 := rfl
  have m16 : min 16 IntKind.u64.bits = 16 := rfl
  have m8 : min 8 IntKind.u64.bits = 8 := rfl
  have p32 : (2 : Nat) ^ 32 = 4294967296 := by decide
  have p16 : (2 : Nat) ^ 16 = 65536 := by decide
  have p8 : (2 : Nat) ^ 8 = 256 := by decide
  have w8 : ∀ x : Nat, x < 256 → IntKind.u8.wrap (x : Int) = (x : Int) := fun x hx => by rw [wrap_u8]; omega
  -- the last part
  have go3 : ∀ (x c : Nat) (s : Sl), s 0 = vk .u64 x → s 2 = vi c → x < 256 → c ≤ 56 → bw n = c + bw x → True := fun _ _ _ _ _ _ _ _ => trivial
  rw [run_eq, xp_math_bits_Len64]
  obtain ⟨a, ca, ha1, ha2, ha3⟩ : ∃ a c : Nat, a < 4294967296 ∧ bw n = c + bw a ∧ (if 4294967296 ≤ n then a = n / 4294967296 ∧ c = 32 else a = n ∧ c = 0) := by
    by_cases h : 4294967296 ≤ n
    · refine ⟨n / 4294967296, 32, by omega, ?_, by simp [h]⟩
      have := bw_shift (m := n) (k := 32) h
      rw [p32] at this
      omega
    · exact ⟨n, 0, by omega, by omega, by simp [h]⟩
  obtain ⟨b, cb, hb1, hb2, hb3⟩ : ∃ b c : Nat, b < 65536 ∧ bw a = c + bw b ∧ (if 65536 ≤ a then b = a / 65536 ∧ c = 16 else b = a ∧ c = 0) := by
    by_cases h : 65536 ≤ a
    · refine ⟨a / 65536, 16, by omega, ?_, by simp [h]⟩
      have := bw_shift (m := a) (k := 16) h
      rw [p16] at this
      omega
    · exact ⟨a, 0, by omega, by omega, by simp [h]⟩
  obtain ⟨d, cd, hd1, hd2, hd3⟩ : ∃ d c : Nat, d < 256 ∧ bw b = c + bw d ∧ (if 256 ≤ b then d = b / 256 ∧ c = 8 else d = b ∧ c = 0) := by
    by_cases h : 256 ≤ b
    · refine ⟨b / 256, 8, by omega, ?_, by simp [h]⟩
      have := bw_shift (m := b) (k := 8) h
      rw [p8] at this
      omega
    · exact ⟨b, 0, by omega, by omega, by simp [h]⟩
  have hres : bw n = (ca + cb + cd) + bw d := by omega
  have e1 : 4294967296 ≤ (n : Int) ∧ (n : Int).fdiv 4294967296 = (a : Int) ∧ ca = 32 ∨ ¬ 4294967296 ≤ (a : Int) ∧ n = a ∧ ca = 0 := by
    by_cases h : 4294967296 ≤ n
    · rw [if_pos h] at ha3; left; refine ⟨by omega, ?_, ha3.2⟩; rw [show (4294967296 : Int) = 2 ^ 32 from by decide, sh _ _ (by decide), p32, ← ha3.1]
    · rw [if_neg h] at ha3; right; exact ⟨by omega, by omega, ha3.2⟩
  have e2 : 65536 ≤ (a : Int) ∧ (a : Int).fdiv 65536 = (b : Int) ∧ cb = 16 ∨ ¬ 65536 ≤ (b : Int) ∧ a = b ∧ cb = 0 := by
    by_cases h : 65536 ≤ a
    · rw [if_pos h] at hb3; left; refine ⟨by omega, ?_, hb3.2⟩; rw [show (65536 : Int) = 2 ^ 16 from by decide, sh _ _ (by decide), p16, ← hb3.1]
    · rw [if_neg h] at hb3; right; exact ⟨by omega, by omega, hb3.2⟩
  have e3 : 256 ≤ (b : Int) ∧ (b : Int).fdiv 256 = (d : Int) ∧ cd = 8 ∨ ¬ 256 ≤ (d : Int) ∧ b = d ∧ cd = 0 := by
    by_cases h : 256 ≤ b
    · rw [if_pos h] at hd3; left; refine ⟨by omega, ?_, hd3.2⟩; rw [show (256 : Int) = 2 ^ 8 from by decide, sh _ _ (by decide), p8, ← hd3.1]
    · rw [if_neg h] at hd3; right; exact ⟨by omega, by omega, hd3.2⟩
  have hf := fin d (ca + cb + cd) hd1 (by omega)
  have ht := tab_at d hd1
  have hwd := w8 d hd1
  have hbd := bw_small hd1
  have G1 : ¬ 4294967296 ≤ (d : Int) := by omega
  have G2 : ¬ 65536 ≤ (d : Int) := by omega
  have G3 : ¬ 4294967296 ≤ (b : Int) := by omega
  rw [hres]
  clear hres hf ha3 hb3 hd3 ha2 hb2 hd2
  rcases e1 with ⟨g1, q1, rfl⟩ | ⟨g1, q1, rfl⟩ <;> rcases e2 with ⟨g2, q2, rfl⟩ | ⟨g2, q2, rfl⟩ <;> rcases e3 with ⟨g3, q3, rfl⟩ | ⟨g3, q3, rfl⟩ <;>
    (simp -implicitDefEqProofs [x_math_bits_Len64, g1, g2, g3, G1, G2, G3, m32, m16, m8, q1, q2, q3, hwd, ht]
     rw [show IntKind.i64.wrap ((bw d : Int) % 256) = (bw d : Int) from by rw [wrap_i64 (by omega) (by omega)]; omega]
     simp (disch := omega) only [wrap_i64]
     try omega)
end Go.Proofs.Sl

namespace Go.Proofs.Sl

theorem run_Len (h : H) (n : Nat) (hn : n < 18446744073709551616) : run XP i_math_bits_Len [vk .u64 n] h = some (vi (bw n), h) := by
  have := run_Len64 h n hn
  rw [run_eq, xp_math_bits_Len]
  simp -implicitDefEqProofs [x_math_bits_Len, this]

def bsum (f : Nat → Nat) (j : Nat) : Nat → Nat
  | 0 => 0
  | m + 1 => bsum f j m + f (8 * j + m) * 2 ^ m
/-- Byte j of the first K bits. -/
def byteV (f : Nat → Nat) (K j : Nat) : Nat := bsum f j (min 8 (K - 8 * j))
def dataK (f : Nat → Nat) (N K : Nat) : List UInt8 := (List.range N).map fun j => UInt8.ofNat (byteV f K j)
theorem bsum_lt {f : Nat → Nat} (hf : ∀ k, f k ≤ 1) (j : Nat) : ∀ m, bsum f j m < 2 ^ m
  | 0 => by simp [bsum]
  | m + 1 => by
    have := bsum_lt hf j m
    have h1 := hf (8 * j + m)
    have : f (8 * j + m) * 2 ^ m ≤ 1 * 2 ^ m := Nat.mul_le_mul_right _ h1
    rw [bsum, Nat.pow_succ]
    omega
theorem byteV_lt {f : Nat → Nat} (hf : ∀ k, f k ≤ 1) (K : Nat) : byteV f K (K / 8) < 2 ^ (K % 8) := by
  have : min 8 (K - 8 * (K / 8)) = K % 8 := by omega
  rw [byteV, this]
  exact bsum_lt hf _ _
theorem byteV_up (f : Nat → Nat) (K : Nat) : byteV f (K + 1) (K / 8) = byteV f K (K / 8) + f K * 2 ^ (K % 8) := by
  have e1 : min 8 (K + 1 - 8 * (K / 8)) = K % 8 + 1 := by omega
  have e2 : min 8 (K - 8 * (K / 8)) = K % 8 := by omega
  have e3 : 8 * (K / 8) + K % 8 = K := by omega
  rw [byteV, byteV, e1, e2, bsum, e3]
theorem byteV_other (f : Nat → Nat) {K j : Nat} (h : j ≠ K / 8) : byteV f (K + 1) j = byteV f K j := by
  have : min 8 (K + 1 - 8 * j) = min 8 (K - 8 * j) := by omega
  rw [byteV, byteV, this]
theorem dataK_length (f : Nat → Nat) (N K : Nat) : (dataK f N K).length = N := by simp [dataK]
theorem dataK_zero (f : Nat → Nat) (N : Nat) : dataK f N 0 = List.replicate N 0 := by
  have : ∀ j, byteV f 0 j = 0 := fun j => by simp [byteV, bsum]
  simp only [dataK, this]
  exact List.ext_getElem (by simp) fun i h1 h2 => by simp
theorem dataK_at (f : Nat → Nat) {N K : Nat} (h : K / 8 < N) : (dataK f N K)[K / 8]? = some (UInt8.ofNat (byteV f K (K / 8))) := by
  simp [dataK, h]
theorem dataK_up (f : Nat → Nat) {N K : Nat} (h : K / 8 < N) : dataK f N (K + 1) = (dataK f N K).set (K / 8) (UInt8.ofNat (byteV f K (K / 8) + f K * 2 ^ (K % 8))) := by
  refine List.ext_getElem? fun i => ?_
  rw [List.getElem?_set]
  by_cases hi : K / 8 = i
  · subst hi
    rw [if_pos rfl, dataK_length, if_pos h, ← byteV_up]
    simp [dataK, h]
  · rw [if_neg hi]
    by_cases hN : i < N
    · simp [dataK, hN, byteV_other f (Ne.symm hi)]
    · simp [dataK, hN]

theorem or_u8 {a m b : Nat} (ha : a < 2 ^ m) (hm : m < 8) (hb : b ≤ 1) : orI .u8 ((UInt8.ofNat a).toNat : Int) ((b * 2 ^ m : Nat) : Int) = ((UInt8.ofNat (a + b * 2 ^ m)).toNat : Int) := by
  have key : ∀ m : Fin 8, ∀ b : Fin 2, ∀ a : Fin 128, a.1 < 2 ^ m.1 → orI .u8 ((UInt8.ofNat a.1).toNat : Int) ((b.1 * 2 ^ m.1 : Nat) : Int) = ((UInt8.ofNat (a.1 + b.1 * 2 ^ m.1)).toNat : Int) := by decide +kernel
  have : 2 ^ m ≤ 2 ^ 7 := Nat.pow_le_pow_right (by decide) (by omega)
  exact key ⟨m, hm⟩ ⟨b, by omega⟩ ⟨a, by omega⟩ ha
theorem shl_u8 {m b : Nat} (hm : m < 8) (hb : b ≤ 1) : IntKind.u8.wrap ((b : Int) * 2 ^ m) = ((b * 2 ^ m : Nat) : Int) := by
  have key : ∀ m : Fin 8, ∀ b : Fin 2, IntKind.u8.wrap ((b.1 : Int) * 2 ^ m.1) = ((b.1 * 2 ^ m.1 : Nat) : Int) := by decide +kernel
  exact key ⟨m, hm⟩ ⟨b, by omega⟩
theorem and_one (x : Nat) (h : x < 18446744073709551616) : andI .i64 (x : Int) 1 = ((x % 2 : Nat) : Int) := by
  have e0 : andI .i64 (x : Int) 1 = IntKind.i64.wrap ((BitVec.ofInt 64 (x : Int) &&& BitVec.ofInt 64 1).toNat : Int) := rfl
  have e1 : BitVec.ofInt 64 (x : Int) = BitVec.ofNat 64 x := BitVec.ofInt_natCast ..
  have e2 : (BitVec.ofNat 64 x &&& BitVec.ofInt 64 1).toNat = x % 2 := by
    rw [BitVec.toNat_and, BitVec.toNat_ofNat, Nat.mod_eq_of_lt (by omega)]
    exact Nat.and_one_is_mod x
  rw [e0, e1, e2, wrap_i64 (by omega) (by omega)]
theorem bl_set {l : List UInt8} {i : Nat} {b : UInt8} : (bl l).set i (.s (.int .u8 b.toNat)) = bl (l.set i b) := by simp [bl, List.map_set]
theorem bl_at {l : List UInt8} {i : Nat} {b : UInt8} (h : l[i]? = some b) : (bl l)[i]? = some (.s (.int .u8 b.toNat)) := by simp [bl, h]

/-- Bit k of values. -/
def vbit (vs : List Int) (least : Int) (w k : Nat) : Nat := (vs.getD (k / w) 0 - least).toNat / 2 ^ (k % w) % 2
theorem vbit_le (vs : List Int) (least : Int) (w k : Nat) : vbit vs least w k ≤ 1 := by
  have := Nat.mod_lt ((vs.getD (k / w) 0 - least).toNat / 2 ^ (k % w)) (y := 2) (by decide)
  rw [vbit]; omega
/-- The width, the bytes, the form. -/
def widthP (vs : List Int) : Nat := bw ((zoneP vs).2 - (zoneP vs).1).toNat
def sizeP (vs : List Int) : Nat := (vs.length * widthP vs + 7) / 8
def dataP (vs : List Int) : List UInt8 := dataK (vbit vs (zoneP vs).1 (widthP vs)) (sizeP vs) (vs.length * widthP vs)
def fPacked (vs : List Int) : List UInt8 := fNum vs.length ++ (fNum (zoneP vs).1 ++ (fNum (widthP vs) ++ fText ⟨(dataP vs).toArray⟩))

theorem foldl_mn : ∀ (r : List Int) (a : Int), r.foldl mn a ≤ a ∧ (∀ x ∈ r, r.foldl mn a ≤ x) ∧ (r.foldl mn a = a ∨ r.foldl mn a ∈ r)
  | [], a => by simp
  | b :: r, a => by
    obtain ⟨h1, h2, h3⟩ := foldl_mn r (mn a b)
    have hm : mn a b ≤ a ∧ mn a b ≤ b ∧ (mn a b = a ∨ mn a b = b) := by
      unfold mn; split <;> omega
    simp only [List.foldl_cons, List.mem_cons]
    refine ⟨by omega, fun x hx => ?_, ?_⟩
    · rcases hx with rfl | hx
      · omega
      · exact h2 x hx
    · rcases h3 with h3 | h3
      · rcases hm.2.2 with h | h
        · left; omega
        · right; left; omega
      · right; right; exact h3
theorem foldl_mx : ∀ (r : List Int) (a : Int), a ≤ r.foldl mx a ∧ (∀ x ∈ r, x ≤ r.foldl mx a) ∧ (r.foldl mx a = a ∨ r.foldl mx a ∈ r)
  | [], a => by simp
  | b :: r, a => by
    obtain ⟨h1, h2, h3⟩ := foldl_mx r (mx a b)
    have hm : a ≤ mx a b ∧ b ≤ mx a b ∧ (mx a b = a ∨ mx a b = b) := by
      unfold mx; split <;> omega
    simp only [List.foldl_cons, List.mem_cons]
    refine ⟨by omega, fun x hx => ?_, ?_⟩
    · rcases hx with rfl | hx
      · omega
      · exact h2 x hx
    · rcases h3 with h3 | h3
      · rcases hm.2.2 with h | h
        · left; omega
        · right; left; omega
      · right; right; exact h3
theorem zoneP_ok {vs : List Int} (hr : ∀ n ∈ vs, OkV n) : OkV (zoneP vs).1 ∧ OkV (zoneP vs).2 ∧ (zoneP vs).1 ≤ (zoneP vs).2 ∧ ∀ x ∈ vs, (zoneP vs).1 ≤ x ∧ x ≤ (zoneP vs).2 := by
  cases vs with
  | nil => exact ⟨⟨by decide, by decide⟩, ⟨by decide, by decide⟩, by decide, by simp⟩
  | cons a r =>
    obtain ⟨a1, a2, a3⟩ := foldl_mn r a
    obtain ⟨b1, b2, b3⟩ := foldl_mx r a
    simp only [zoneP]
    refine ⟨?_, ?_, by omega, fun x hx => ?_⟩
    · rcases a3 with h | h
      · rw [h]; exact hr a (by simp)
      · exact hr _ (List.mem_cons_of_mem _ h)
    · rcases b3 with h | h
      · rw [h]; exact hr a (by simp)
      · exact hr _ (List.mem_cons_of_mem _ h)
    · rcases List.mem_cons.1 hx with rfl | hx
      · omega
      · exact ⟨a2 x hx, b2 x hx⟩
theorem widthP_le {vs : List Int} (hr : ∀ n ∈ vs, OkV n) : widthP vs ≤ 62 := by
  obtain ⟨⟨a1, a2⟩, ⟨b1, b2⟩, hle, _⟩ := zoneP_ok hr
  refine bw_lt.1 ?_
  have : (2 : Nat) ^ 62 = 4611686018427387904 := by decide
  omega
end Go.Proofs.Sl

namespace Go.Proofs.Sl
section
variable {h : H} {l : Nat} {v : V} {vs : List Int} {bs : List UInt8}

theorem vbit_eq {vs : List Int} {least e : Int} {w i b : Nat} (he : vs[i]? = some e) (hle : least ≤ e) (hb : b < w) : vbit vs least w (i * w + b) = (e - least).toNat / 2 ^ b % 2 := by
  have h1 : (i * w + b) / w = i := by
    rw [Nat.mul_comm, Nat.mul_add_div (by omega), Nat.div_eq_of_lt hb, Nat.add_zero]
  have h2 : (i * w + b) % w = b := by
    rw [Nat.mul_comm, Nat.mul_add_mod, Nat.mod_eq_of_lt hb]
  rw [vbit, h1, h2, List.getD_eq_getElem?_getD, he]
  rfl

theorem P_packed (hl : l < h.length) (hv : ∀ bs, Rd (h.set l (.box false [wc bs])) 1 v (il vs)) (hr : ∀ n ∈ vs, OkV n) (hn : vs.length ≤ 10000) (hs : bs.length ≤ 60000000000000) :
    run XP i_column_packed [.ptr l 0, v] (h.set l (.box false [wc bs])) = some (.tup [], h.set l (.box false [wc (bs ++ fPacked vs)])) := by
  obtain ⟨hz1, hz2, hz3, hz4⟩ := zoneP_ok hr
  have hW := widthP_le hr
  obtain ⟨least, hleast⟩ : ∃ x, x = (zoneP vs).1 := ⟨_, rfl⟩
  obtain ⟨great, hgreat⟩ : ∃ x, x = (zoneP vs).2 := ⟨_, rfl⟩
  obtain ⟨w, hw⟩ : ∃ x, x = widthP vs := ⟨_, rfl⟩
  obtain ⟨N, hN⟩ : ∃ x, x = sizeP vs := ⟨_, rfl⟩
  have hNv : N = (vs.length * w + 7) / 8 := by rw [hN, hw]; rfl
  have hwd : w = bw (great - least).toNat := by rw [hw, hleast, hgreat]; rfl
  have hD : dataP vs = dataK (vbit vs least w) N (vs.length * w) := by rw [dataP, ← hleast, ← hw, ← hN]
  have hF : fPacked vs = fNum vs.length ++ (fNum least ++ (fNum w ++ fText ⟨(dataP vs).toArray⟩)) := by rw [fPacked, ← hleast, ← hw]
  have hzone := run_zone (hv bs) hn
  simp only [← hleast, ← hgreat] at hz1 hz2 hz3 hz4 hzone
  rw [← hw] at hW
  obtain ⟨a1, a2⟩ := hz1
  obtain ⟨b1, b2⟩ := hz2
  obtain ⟨D, hDd⟩ : ∃ D : Nat, great - least = D := ⟨(great - least).toNat, by omega⟩
  have hsub : IntKind.i64.wrap (great - least) = D := by rw [wrap_i64 (by omega) (by omega), hDd]
  have hcv : IntKind.u64.wrap (D : Int) = (D : Int) := by rw [wrap_u64]; omega
  have hlen := fun hh => run_Len hh D (by omega)
  rw [hDd, Int.toNat_natCast] at hwd
  rw [← hwd] at hlen
  have hprod : vs.length * w ≤ 620000 := by
    have : vs.length * w ≤ 10000 * 62 := Nat.mul_le_mul hn hW
    omega
  have hm1 : IntKind.i64.wrap ((vs.length : Int) * (w : Int)) = (vs.length : Int) * (w : Int) := by
    rw [← Int.natCast_mul, wrap_i64 (by omega) (by omega)]
  have hm2 : IntKind.i64.wrap ((vs.length : Int) * (w : Int) + 7) = (vs.length : Int) * (w : Int) + 7 := by rw [← Int.natCast_mul, wrap_i64 (by omega) (by omega)]
  have hm3 : IntKind.i64.wrap (((vs.length : Int) * (w : Int) + 7).tdiv 8) = (N : Int) := by
    rw [← Int.natCast_mul, show Int.tdiv (((vs.length * w : Nat) : Int) + 7) 8 = (((vs.length * w + 7) / 8 : Nat) : Int) from rfl, ← hNv, wrap_i64 (by omega) (by omega)]
  have hrep : List.replicate N (V.s (.int .u8 0)) = bl (List.replicate N 0) := by simp [bl]
  have hNl : N ≤ 140737488355328 := by omega
  rw [run_eq, xp_column_packed]
  simp -implicitDefEqProofs [x_column_packed, ((hv _).app _).toL, (hv bs).arg0, il_length, hzone, hsub, hcv, hlen, hm1, hm2, hm3, hNl]
  rw [hrep, ← dataK_zero (vbit vs least w) N]
  refine loop_list vs (fun i s h' => Sees s [(0, .ptr l 0), (1, v), (4, .ptr h.length 0), (5, vi w), (6, .ref (h.length + 1) N), (27, v), (28, vi vs.length), (29, vi i)] ∧
    h' = h.set l (.box false [wc bs]) ++ [.box false [vi least, vi great], .arr false 1 (bl (dataK (vbit vs least w) N (i * w)))]) ?_ ?_ _ _ ⟨by simp, by simp⟩
  · rintro B f hB hf i e s h' he hi ⟨⟨h0, h1, h4, h5, h6, h27, h28, h29, -⟩, rfl⟩ K
    obtain ⟨p, hp, hld⟩ := ((hv bs).app [.box false [vi least, vi great], .arr false 1 (bl (dataK (vbit vs least w) N (i * w)))]).at1 (il_at he) rfl
    have hlt : (i : Int) < vs.length := by omega
    obtain ⟨g1, g2⟩ := hz4 e (List.mem_of_getElem? he)
    simp -implicitDefEqProofs [hB, x_column_packed_l1, h0, h1, h4, h5, h6, h27, h28, h29, hlt, hp, hld]
    refine loop_up w (fun b s h' => Sees s [(0, .ptr l 0), (1, v), (4, .ptr h.length 0), (5, vi w), (6, .ref (h.length + 1) N), (7, vi i), (8, vi e), (27, v), (28, vi vs.length), (29, vi i), (34, vi w), (35, vi b)] ∧
      h' = h.set l (.box false [wc bs]) ++ [.box false [vi least, vi great], .arr false 1 (bl (dataK (vbit vs least w) N (i * w + b)))]) ?_ ?_ _ _ ⟨by simp [h0, h1, h4, h5, h6, h27, h28, h29], by simp⟩
    · rintro B2 f2 hB2 hf2 b s h' hb ⟨⟨h0, h1, h4, h5, h6, h7, h8, h27, h28, h29, h34, h35, -⟩, rfl⟩ K2
      obtain ⟨k, hk⟩ : ∃ k, k = i * w + b := ⟨_, rfl⟩
      have hkl : k < vs.length * w := by
        have : (i + 1) * w ≤ vs.length * w := Nat.mul_le_mul_right _ hi
        rw [Nat.add_mul, Nat.one_mul] at this
        omega
      obtain ⟨q, hq⟩ : ∃ q, q = k / 8 := ⟨_, rfl⟩
      obtain ⟨m, hm⟩ : ∃ m, m = k % 8 := ⟨_, rfl⟩
      have hqN : q < N := by omega
      have hblt : (b : Int) < w := by omega
      have hiw : i * w ≤ vs.length * w := Nat.mul_le_mul_right _ (by omega)
      have w1 : IntKind.i64.wrap ((i : Int) * (w : Int)) = (i : Int) * (w : Int) := by
        rw [← Int.natCast_mul, wrap_i64 (by omega) (by omega)]
      have w2 : IntKind.i64.wrap ((i : Int) * (w : Int) + (b : Int)) = (k : Int) := by
        rw [← Int.natCast_mul, wrap_i64 (by omega) (by omega)]
        omega
      have w3 : IntKind.i64.wrap ((k : Int) / 8) = (q : Int) := by
        rw [wrap_i64 (by omega) (by omega)]; omega
      have w9 : IntKind.i64.wrap ((b : Int) + 1) = (b : Int) + 1 := wrap_up (by omega)
      have hk2 : i * w + (b + 1) = k + 1 := by omega
      have w4 : (k : Int).tmod 8 = (m : Int) := by
        rw [show Int.tmod (k : Int) 8 = ((k % 8 : Nat) : Int) from rfl, ← hm]
      obtain ⟨D2, hD2⟩ : ∃ D2 : Nat, e - least = D2 := ⟨(e - least).toNat, by omega⟩
      have w5 : IntKind.i64.wrap (e - least) = (D2 : Int) := by rw [wrap_i64 (by omega) (by omega), hD2]
      have hmin : min b IntKind.i64.bits = b := Nat.min_eq_left (by have : IntKind.i64.bits = 64 := rfl; omega)
      have hmin8 : min m IntKind.u8.bits = m := Nat.min_eq_left (by have : IntKind.u8.bits = 8 := rfl; omega)
      have hsh := shr_nat D2 b (kk := .i64) (by have : IntKind.i64.bits = 64 := rfl; omega)
      rw [hmin] at hsh
      obtain ⟨D3, hD3⟩ : ∃ D3, D3 = D2 / 2 ^ b := ⟨_, rfl⟩
      rw [← hD3] at hsh
      have hD3l : D3 < 18446744073709551616 := by
        have := Nat.div_le_self D2 (2 ^ b)
        omega
      have hand := and_one D3 hD3l
      obtain ⟨t, ht⟩ : ∃ t, t = D3 % 2 := ⟨_, rfl⟩
      rw [← ht] at hand
      have ht1 : t ≤ 1 := by omega
      have hvb : vbit vs least w k = t := by
        rw [hk, vbit_eq he g1 hb, hD2, Int.toNat_natCast, ← hD3, ← ht]
      have w6 : IntKind.u8.wrap (t : Int) = (t : Int) := by rw [wrap_u8]; omega
      have hm8 : m < 8 := by omega
      have w7 := shl_u8 hm8 ht1
      have hbv : byteV (vbit vs least w) k q < 2 ^ m := by rw [hq, hm]; exact byteV_lt (vbit_le vs least w) k
      have w8 := or_u8 hbv hm8 ht1
      obtain ⟨sh, hsh2⟩ : ∃ sh, sh = t * 2 ^ m := ⟨_, rfl⟩
      rw [← hsh2] at w7 w8
      have hget := bl_at (dataK_at (vbit vs least w) (N := N) (K := k) (by omega))
      have hup := dataK_up (vbit vs least w) (N := N) (K := k) (by omega)
      rw [← hq] at hget hup
      rw [← hm, hvb, ← hsh2] at hup
      have hdl : (dataK (vbit vs least w) N k).length = N := dataK_length _ _ _
      have hset := bl_set (l := dataK (vbit vs least w) N k) (i := q) (b := UInt8.ofNat (byteV (vbit vs least w) k q + sh))
      rw [← hup] at hset
      rw [← hk] at *
      generalize UInt8.ofNat (byteV (vbit vs least w) k q) = c1 at *
      have hget' : ∀ hh : q < (bl (dataK (vbit vs least w) N k)).length, (bl (dataK (vbit vs least w) N k))[q]'hh = .s (.int .u8 c1.toNat) := fun hh => by
        rw [List.getElem?_eq_getElem hh] at hget
        injection hget
      generalize UInt8.ofNat (byteV (vbit vs least w) k q + sh) = c2 at *
      simp -implicitDefEqProofs [hB2, x_column_packed_l0, h0, h1, h4, h5, h6, h7, h8, h27, h28, h29, h34, h35, hblt, w1, w2, w3, w4, w5, hmin, hmin8, hsh, hand, w6, w7, w8, hdl, bl_length, hqN, hget, hget', putEl]
      refine K2 _ _ ⟨?_, ?_⟩
      · simp [h0, h1, h4, h5, h6, h7, h8, h27, h28, h29, h34, w9]
      · rw [hk2, ← hset]
    · rintro B2 hB2 s h' ⟨⟨h0, h1, h4, h5, h6, h7, h8, h27, h28, h29, h34, h35, -⟩, rfl⟩
      simp -implicitDefEqProofs [hB2, x_column_packed_l0, h29, h34, h35]
      refine K _ _ ⟨?_, ?_⟩
      · simp [h0, h1, h4, h5, h6, h27, h28, h29, wrap_up (by omega : i < 100000000000)]
      · rw [Nat.add_mul, Nat.one_mul]
  · rintro B hB s h' ⟨⟨h0, h1, h4, h5, h6, h27, h28, h29, -⟩, rfl⟩
    have hlenN : Rng (vs.length : Int) := rng_nat (by omega)
    have hlr : Rng least := ⟨by omega, by omega⟩
    have hwr : Rng (w : Int) := rng_nat (by omega)
    have l1 := fNum_le hlenN
    have l2 := fNum_le hlr
    have l3 := fNum_le hwr
    rw [← hD]
    have hdl : (dataP vs).length = N := by rw [hD]; exact dataK_length _ _ _
    have hbo := bytesOf_bl (dataP vs)
    obtain ⟨t, ht⟩ : ∃ t : H, t = [.box false [vi least, vi great], .arr false 1 (bl (dataP vs))] := ⟨_, rfl⟩
    have e1 := W_number_r (h := h) (t := t) (bs := bs) hl hlenN (by omega)
    have e2 := W_number_r (h := h) (t := t) (bs := bs ++ fNum vs.length) hl hlr (by simp; omega)
    have e3 := W_number_r (h := h) (t := t) (bs := bs ++ fNum vs.length ++ fNum least) hl hwr (by simp; omega)
    have e4 := W_text_r (h := h) (t := t) (bs := bs ++ fNum vs.length ++ fNum least ++ fNum w) (s := ⟨(dataP vs).toArray⟩) hl (by simp [ByteArray.size, hdl]; omega)
    rw [ht] at e1 e2 e3 e4
    simp only [List.append_assoc] at e1 e2 e3 e4
    simp -implicitDefEqProofs [hB, x_column_packed_l1, h0, h1, h4, h5, h6, h28, h29, ((hv _).app _).toL, il_length, e1, e2, e3, e4, bl_length, hdl, hbo, hF]
end
end Go.Proofs.Sl

namespace Go.Proofs.Sl

/-- The form of a kind. -/
def fKind (vs : List Int) : Nat → List UInt8
  | 1 => fPlain vs
  | 2 => fDelta vs
  | 3 => fRuns vs
  | _ => fPacked vs
def fCol (vs : List Int) (k : Nat) : List UInt8 := fNum k ++ fKind vs k
abbrev vbs (l : List UInt8) : V := vs ⟨l.toArray⟩

theorem wide_il : ∀ l : List Int, wide 1 (il l) = true
  | [] => rfl
  | b :: l => by
    show ((_ : Bool) && wide 1 (il l)) = true
    rw [wide_il l]
    rfl
theorem closeds_il : ∀ l : List Int, V.closed.closeds (il l) = true
  | [] => rfl
  | b :: l => by
    show ((_ : Bool) && V.closed.closeds (il l)) = true
    rw [closeds_il l]
    rfl

section
variable {h : H} {v : V} {vs : List Int}
theorem run_encode (hv : Rd h 1 v (il vs)) (hr : ∀ n ∈ vs, OkV n) (hn : vs.length ≤ 10000) {k : Nat} (h1 : 1 ≤ k) (h4 : k ≤ 4) : run XP i_column_encode [vi k, v] h = some (vbs (fCol vs k), h) := by
  obtain ⟨A, hA⟩ : ∃ A : O, A = .box false [.fn i_column_plain [] [], .fn i_column_delta [] [], .fn i_column_runs [] [], .fn i_column_packed [] []] := ⟨_, rfl⟩
  have hlb : h.length + 1 < (h ++ [A, .dead]).length := by simp
  have hk : Rng (k : Int) := rng_nat (by omega)
  have hle := fNum_le hk
  have e0 := W_number (h := h ++ [A, .dead]) (l := h.length + 1) (bs := []) hlb hk (by simp)
  have hv' : ∀ bs, Rd ((h ++ [A, .dead]).set (h.length + 1) (.box false [wc bs])) 1 v (il vs) := fun bs => by
    have := hv.app [A, .box false [wc bs]]
    simpa using this
  have e1 := P_plain (h := h ++ [A, .dead]) (l := h.length + 1) (bs := fNum k) hlb hv' hr hn (by omega)
  have e2 := P_delta (h := h ++ [A, .dead]) (l := h.length + 1) (bs := fNum k) hlb hv' hr hn (by omega)
  have e3 := P_runs (h := h ++ [A, .dead]) (l := h.length + 1) (bs := fNum k) hlb hv' hr hn (by omega)
  have e4 := P_packed (h := h ++ [A, .dead]) (l := h.length + 1) (bs := fNum k) hlb hv' hr hn (by omega)
  have hw0 : wc [] = vnil := by simp [wc]
  simp only [hA, set_app, List.set_cons_succ, List.set_cons_zero, hw0, List.nil_append] at e0 e1 e2 e3 e4
  have eb : ∀ bs, run XP i_encoding_Writer_Bytes [.ptr (h.length + 1) 0] (h ++ [.box false [.fn i_column_plain [] [], .fn i_column_delta [] [], .fn i_column_runs [] [], .fn i_column_packed [] []], .box false [wc bs]]) =
      some (vbs bs, h ++ [.box false [.fn i_column_plain [] [], .fn i_column_delta [] [], .fn i_column_runs [] [], .fn i_column_packed [] []], .box false [wc bs]]) := fun bs => W_bytes (by simp)
  have hkk : k = 1 ∨ k = 2 ∨ k = 3 ∨ k = 4 := by omega
  rw [run_eq, xp_column_encode]
  rcases hkk with rfl | rfl | rfl | rfl
  · have hc : ((1 : Nat) : Int) = 1 := rfl
    rw [hc] at e0 e1
    simp -implicitDefEqProofs [x_column_encode, noOwn, putRow, e0, hv.arg0, show IntKind.i64.wrap 0 = 0 from by decide, e1, eb, fCol, fKind]
  · have hc : ((2 : Nat) : Int) = 2 := rfl
    rw [hc] at e0 e2
    simp -implicitDefEqProofs [x_column_encode, noOwn, putRow, e0, hv.arg0, show IntKind.i64.wrap 1 = 1 from by decide, e2, eb, fCol, fKind]
  · have hc : ((3 : Nat) : Int) = 3 := rfl
    rw [hc] at e0 e3
    simp -implicitDefEqProofs [x_column_encode, noOwn, putRow, e0, hv.arg0, show IntKind.i64.wrap 2 = 2 from by decide, e3, eb, fCol, fKind]
  · have hc : ((4 : Nat) : Int) = 4 := rfl
    rw [hc] at e0 e4
    simp -implicitDefEqProofs [x_column_encode, noOwn, putRow, e0, hv.arg0, show IntKind.i64.wrap 3 = 3 from by decide, e4, eb, fCol, fKind]

theorem anyW_ok (h : ∀ n ∈ vs, OkV n) : vs.any wrongB = false := by
  rw [List.any_eq_false]
  intro x hx
  rw [wrongB_iff.2 (h x hx)]
  simp
theorem ok_any (h : vs.any wrongB = false) : ∀ n ∈ vs, OkV n := fun n hn => wrongB_iff.1 (by rw [List.any_eq_false] at h; simpa using h n hn)
theorem chkE_zero (h : chkE vs = 0) : vs.length ≤ 4096 ∧ ∀ n ∈ vs, OkV n := by
  unfold chkE at h
  split at h
  · cases h
  · split at h
    · cases h
    · rename_i h1 h2
      exact ⟨by omega, ok_any (by simpa using h2)⟩
theorem chkE_err : chkE vs = 0 ∨ chkE vs = 6 ∨ chkE vs = 2 := by
  unfold chkE
  split
  · simp
  · split <;> simp

/-- EncodeAs. -/
theorem run_encodeAs (hv : Rd h 1 v (il vs)) (hn : vs.length ≤ 10000) (k : Int) (hk : Rng k) : run XP i_column_EncodeAs [vi k, v] h =
    some (if k < 1 ∨ 4 < k then .tup [vbs [], vi 12] else if chkE vs = 0 then .tup [vbs (fCol vs k.toNat), vi 0] else .tup [vbs [], vi (chkE vs)], h) := by
  have hc := run_check hv hn
  rw [run_eq, xp_column_EncodeAs]
  by_cases h1 : k < 1
  · simp -implicitDefEqProofs [x_column_EncodeAs, h1]
  by_cases h2 : 4 < k
  · simp -implicitDefEqProofs [x_column_EncodeAs, h1, h2]
  obtain ⟨n, rfl⟩ : ∃ n : Nat, k = n := ⟨k.toNat, by omega⟩
  by_cases h3 : chkE vs = 0
  · obtain ⟨c1, c2⟩ := chkE_zero h3
    have he := run_encode hv c2 hn (k := n) (by omega) (by omega)
    simp -implicitDefEqProofs [x_column_EncodeAs, h1, h2, hv.arg0, hc, h3, he]
  · have h3' : (chkE vs != 0) = true := by simpa using h3
    simp -implicitDefEqProofs [x_column_EncodeAs, h1, h2, hv.arg0, hc, h3, h3']

/-- The best of the first k kinds. -/
def bestP (vs : List Int) : Nat → List UInt8 × Nat
  | 0 => ([], 0)
  | k + 1 => if (bestP vs k).2 = 0 ∨ (fCol vs (k + 1)).length < (bestP vs k).1.length then (fCol vs (k + 1), k + 1) else bestP vs k
/-- A column. -/
def colV (o : Option (List V)) (vs : List Int) : V := .fptr (.agg [lv 1 o, vbs (bestP vs 4).1, vi (bestP vs 4).2]) 0

theorem size_vbs (l : List UInt8) : (⟨l.toArray⟩ : ByteArray).size = l.length := by simp [ByteArray.size]
theorem run_made (h : H) {o : Option (List V)} (ho : o.getD [] = il vs) (hr : ∀ n ∈ vs, OkV n) (hn : vs.length ≤ 10000) (hc : V.closed.closeds (o.getD []) = true) : run XP i_column_made [lv 1 o] h = some (colV o vs, h) := by
  have hbv : (⟨#[]⟩ : ByteArray) = ⟨([] : List UInt8).toArray⟩ := rfl
  rw [run_eq, xp_column_made]
  simp -implicitDefEqProofs [x_column_made, noOwn, putRow]
  refine loop_up 4 (fun k s h' => Sees s [(0, lv 1 o), (3, .ptr h.length 0), (4, vi ((k : Int) + 1))] ∧ h' = h ++ [.box false [lv 1 o, vbs (bestP vs k).1, vi (bestP vs k).2]]) ?_ ?_ _ _ ⟨by simp, by simp [bestP]⟩
  · rintro B f hB hf k s h' hk ⟨⟨h0, h3, h4, -⟩, rfl⟩ K
    have hle : (k : Int) + 1 ≤ 4 := by omega
    have hw : IntKind.i64.wrap ((k : Int) + 1 + 1) = ((k + 1 : Nat) : Int) + 1 := by rw [wrap_i64 (by omega) (by omega)]; omega
    have hv : Rd (h ++ [.box false [lv 1 o, vbs (bestP vs k).1, vi (bestP vs k).2]]) 1 (lv 1 o) (il vs) := by rw [← ho]; exact Rd.lv _ _ _
    have he := run_encode hv hr hn (k := k + 1) (by omega) (by omega)
    rw [show (((k + 1 : Nat) : Nat) : Int) = (k : Int) + 1 from rfl] at he
    by_cases hz : (bestP vs k).2 = 0
    · have hz' : (((bestP vs k).2 : Int) == 0) = true := by simpa using hz
      simp -implicitDefEqProofs [hB, x_column_made_l0, h0, h3, h4, hle, he, hz', putRow]
      refine K _ _ ⟨?_, ?_⟩
      · simp [h0, h3]; exact hw
      · simp [bestP, hz]
    · have hz' : (((bestP vs k).2 : Int) == 0) = false := by simpa using hz
      by_cases hs : (fCol vs (k + 1)).length < (bestP vs k).1.length
      · have hs' : ((fCol vs (k + 1)).length : Int) < (bestP vs k).1.length := by omega
        simp -implicitDefEqProofs [hB, x_column_made_l0, h0, h3, h4, hle, he, hz', hs', size_vbs, putRow]
        refine K _ _ ⟨?_, ?_⟩
        · simp [h0, h3]; exact hw
        · simp [bestP, hs]
      · have hs' : ¬ ((fCol vs (k + 1)).length : Int) < (bestP vs k).1.length := by omega
        simp -implicitDefEqProofs [hB, x_column_made_l0, h0, h3, h4, hle, he, hz', hs', size_vbs, putRow]
        refine K _ _ ⟨?_, ?_⟩
        · simp [h0, h3]; exact hw
        · simp [bestP, hs, hz]
  · rintro B hB s h' ⟨⟨h0, h3, h4, -⟩, rfl⟩
    simp -implicitDefEqProofs [hB, x_column_made_l0, h0, h3, h4, colV]

theorem run_clone (hv : Rd h 1 v (il vs)) (hn : vs.length ≤ 10000) : ∃ r o, run XP i_slices_Clone_int_int [v] h = some (r, h) ∧ res0 r = lv 1 o ∧ o.getD [] = il vs := by
  have hv1 := hv.app [.arr false 1 []]
  have hlim : vs.length ≤ 17592186044416 := by omega
  rw [run_eq, xp_slices_Clone_int_int]
  generalize hes : il vs = es at hv hv1
  cases hv with
  | nil => exact ⟨vnil, none, by simp -implicitDefEqProofs [x_slices_Clone_int_int], rfl, rfl⟩
  | lst es =>
    subst hes
    exact ⟨.own 1 (il vs), some (il vs), by simp -implicitDefEqProofs [x_slices_Clone_int_int, wide_il, closeds_il, il_length, hlim], rfl, rfl⟩
  | ref n z es e =>
    subst hes
    have hnl := (List.getElem?_eq_some_iff.1 e).1
    exact ⟨.own 1 (il vs), some (il vs), by simp -implicitDefEqProofs [x_slices_Clone_int_int, at_left hnl, e, wide_il, closeds_il, il_length, hlim], rfl, rfl⟩

/-- New. -/
theorem run_New (hv : Rd h 1 v (il vs)) (hn : vs.length ≤ 10000) : ∃ o, o.getD [] = il vs ∧ run XP i_column_New [v] h = some (if chkE vs = 0 then .tup [colV o vs, vi 0] else .tup [vnp, vi (chkE vs)], h) := by
  have hc := run_check hv hn
  obtain ⟨r, o, hcl, hr0, ho⟩ := run_clone hv hn
  refine ⟨o, ho, ?_⟩
  rw [run_eq, xp_column_New]
  by_cases h3 : chkE vs = 0
  · obtain ⟨c1, c2⟩ := chkE_zero h3
    have hm := run_made h ho c2 hn (by rw [ho]; exact closeds_il vs)
    simp -implicitDefEqProofs [x_column_New, hv.arg0, hc, h3, hcl, hr0, hm]
    simp [colV]
  · have h3' : (chkE vs != 0) = true := by simpa using h3
    simp -implicitDefEqProofs [x_column_New, hv.arg0, hc, h3, h3']
end
end Go.Proofs.Sl

namespace Go.Proofs.Sl

theorem dig_snoc : ∀ (k m : Nat), dig m (k + 1) = dig (m / 256) k ++ [m % 256]
  | 0, m => by simp [dig]
  | k + 1, m => by
    rw [dig, dig_snoc k m, dig]
    simp [Nat.div_div_eq_div_mul, Nat.pow_succ, Nat.mul_comm]
/-- The digits. -/
def digs (m : Nat) : List UInt8 := (dig m (blen m)).map UInt8.ofNat
theorem digs_zero : digs 0 = [] := by simp [digs, blen_zero, dig]
theorem digs_pos {m : Nat} (h : m ≠ 0) : digs m = digs (m / 256) ++ [UInt8.ofNat (m % 256)] := by
  rw [digs, blen_pos h, dig_snoc]
  simp [digs]
theorem digs_length (m : Nat) : (digs m).length = blen m := by simp [digs, dig_length]
theorem and_255 (x : Nat) (h : x < 18446744073709551616) : andI .u64 (x : Int) 255 = ((x % 256 : Nat) : Int) := by
  have e0 : andI .u64 (x : Int) 255 = IntKind.u64.wrap ((BitVec.ofInt 64 (x : Int) &&& BitVec.ofInt 64 255).toNat : Int) := rfl
  have e1 : BitVec.ofInt 64 (x : Int) = BitVec.ofNat 64 x := BitVec.ofInt_natCast ..
  have e2 : (BitVec.ofNat 64 x &&& BitVec.ofInt 64 255).toNat = x % 256 := by
    rw [BitVec.toNat_and, BitVec.toNat_ofNat, Nat.mod_eq_of_lt (by omega)]
    exact Nat.and_two_pow_sub_one_eq_mod x 8
  rw [e0, e1, e2, wrap_u64]
  omega
theorem u8_nat {x : Nat} (h : x < 256) : (((UInt8.ofNat x).toNat : Nat) : Int) = x := by
  rw [UInt8.toNat_ofNat', Nat.mod_eq_of_lt (by omega)]
theorem sub_u8 (c : UInt8) : IntKind.u8.wrap (255 - (c.toNat : Int)) = ((255 - c).toNat : Int) := by
  have := UInt8.toNat_lt c
  have e : (255 - c).toNat = 255 - c.toNat := by
    rw [UInt8.toNat_sub_of_le]
    · rfl
    · exact UInt8.le_iff_toNat_le.2 (by show c.toNat ≤ 255; omega)
  rw [wrap_u8, e]
  omega

theorem ref7_number (h : H) {n : Int} (hn : Rng n) : run XP i_sleuthref07_Number [vi n] h = some (tx (fNum n), h) := by
  obtain ⟨hn1, hn2⟩ := hn
  rw [run_eq, xp_sleuthref07_Number]
  by_cases hz : n = 0
  · subst hz
    simp -implicitDefEqProofs [x_sleuthref07_Number]
    simp [tx, fNum, blen_zero, dig]
  have hz' : (n == 0) = false := by simpa using hz
  obtain ⟨m, hm⟩ : ∃ m, m = n.natAbs := ⟨_, rfl⟩
  have hm0 : m ≠ 0 := by omega
  have hbl : blen m ≤ 8 := by rw [hm]; exact Rng.blen ⟨hn1, hn2⟩
  obtain ⟨D, hD⟩ : ∃ D, D = digs m := ⟨_, rfl⟩
  have hDl : D.length = blen m := by rw [hD, digs_length]
  have hDn : D ≠ [] := by
    intro e
    rw [e, blen_pos hm0] at hDl
    simp at hDl
  -- the digits
  have go : ∀ (s : Sl) (h0 : H) (f : Ex × St → Option (V × H)) (b : Option (V × H)), s 0 = vi n → s 3 = vk .u64 m → s 4 = vnil → s 5 = vk .u64 m → h0 = h → (∀ s' h' p, s' 0 = vi n → s' 3 = vk .u64 m → s' 4 = .ref p D.length → h'[p]? = some (.arr false 1 (bl D)) → h.length ≤ p → h'.take h.length = h → f (.exit 0, ⟨s', h'⟩) = b) →
      ob (loopW (xcode (run XP) loopW h.length x_sleuthref07_Number_l0) ⟨s, h0⟩) f = b := by
    intro s h0 f b g0 g3 g4 g5 g6 kk
    refine loop_ind (fun x : Nat => x) (fun x s h' => x < 18446744073709551616 ∧ ∃ ds, Sees s [(0, vi n), (3, vk .u64 m), (5, vk .u64 x)] ∧ digs x ++ ds = D ∧ h.length ≤ h'.length ∧ h'.take h.length = h ∧ ((x = m ∧ ds = [] ∧ s 4 = vnil) ∨ ∃ p, s 4 = .ref p ds.length ∧ h'[p]? = some (.arr false 1 (bl ds)) ∧ h.length ≤ p)) ?_ m s h0
      ⟨by omega, [], by simp [g0, g3, g5], by simp [hD], by simp [g6], by simp [g6], .inl ⟨rfl, rfl, g4⟩⟩
    rintro B f' hB hf x s h' ⟨hx, ds, ⟨h0, h3, h5, -⟩, hd, hl1, hl2, hs4⟩ K
    by_cases h0x : x = 0
    · subst h0x
      simp -implicitDefEqProofs [hB, x_sleuthref07_Number_l0, h5]
      rw [digs_zero, List.nil_append] at hd
      subst hd
      rw [hf]
      rcases hs4 with ⟨e, _⟩ | ⟨p, e1, e2, e3⟩
      · exact absurd e.symm hm0
      · refine kk _ _ p ?_ ?_ ?_ e2 e3 hl2
        · simpa using h0
        · simpa using h3
        · simpa using e1
    · have hp : 0 < x := by omega
      have hand := and_255 x hx
      rw [digs_pos h0x] at hd
      have hdl : ds.length ≤ 8 := by
        have := congrArg List.length hd
        simp at this
        omega
      obtain ⟨c, hc⟩ : ∃ c, c = UInt8.ofNat (x % 256) := ⟨_, rfl⟩
      have hcv : IntKind.u8.wrap (((x % 256 : Nat)) : Int) = (c.toNat : Int) := by rw [hc, u8_nat (by omega), wrap_u8]; omega
      rw [← hc] at hd
      have hsh := shr_nat x 8 (kk := .u64) (by decide)
      have hrd : Rd (h' ++ [.arr false 1 [.s (.int .u8 c.toNat)]]) 1 (s 4) (bl ds) := by
        refine Rd.app ?_ _
        rcases hs4 with ⟨_, rfl, e⟩ | ⟨p, e1, e2, e3⟩
        · rw [e]; exact .nil
        · rw [e1, ← bl_length]; exact .ref p false _ e2
      generalize x % 256 = y at hand hcv
      have hml : 1 + ds.length ≤ 140737488355328 := by omega
      simp -implicitDefEqProofs [hB, x_sleuthref07_Number_l0, h5, hp, hand, hcv, hrd.appEls, wide_bl, closeds_bl, bl_length, hml]
      refine K (x / 256) _ _ (by omega) ⟨by omega, c :: ds, ?_, ?_, ?_, ?_, .inr ⟨h'.length, ?_, ?_, by omega⟩⟩
      · simp only [sees_cons, sees_nil]
        simp [h0, h3]
        simpa using hsh
      · rw [← hd]; simp
      · simp; omega
      · simp [List.take_append_of_le_length hl1, hl2]
      · simp [Nat.add_comm]
      · simp [bl]
  -- digits turned over
  have go1 : ∀ (s : Sl) (h0 : H) (f : Ex × St → Option (V × H)) (b : Option (V × H)) (p : Nat) (c6 : V), s 0 = vi n → s 4 = .ref p D.length → s 6 = c6 → s 7 = vi 0 → h0[p]? = some (.arr false 1 (bl D)) → h.length ≤ p → h0.take h.length = h → (∀ s' h', s' 4 = .ref p D.length → s' 6 = c6 → h'[p]? = some (.arr false 1 (bl (D.map (255 - ·)))) → h'.take h.length = h → f (.exit 2, ⟨s', h'⟩) = b) →
      ob (loopW (xcode (run XP) loopW h.length x_sleuthref07_Number_l1) ⟨s, h0⟩) f = b := by
    intro s h0 f b p c6 g0 g4 g6 g7 gp gl gt kk
    refine loop_list D (fun k s h' => Sees s [(4, .ref p D.length), (6, c6), (7, vi k)] ∧ h'[p]? = some (.arr false 1 (bl ((D.take k).map (255 - ·) ++ D.drop k))) ∧ h'.take h.length = h) ?_ ?_ _ _ ⟨by simp [g4, g6, g7], by simpa using gp, gt⟩
    · rintro B f' hB hf k c s h' hc hk ⟨⟨h4, h6, h7, -⟩, hp, hl2⟩ K
      have hlt : (k : Int) < D.length := by omega
      have hpl : p < h'.length := (List.getElem?_eq_some_iff.1 hp).1
      have hsub := sub_u8 c
      have hln : (bl ((D.take k).map (255 - ·) ++ D.drop k)).length = D.length := by simp [bl]; omega
      have hgt : ∀ hh : k < (bl ((D.take k).map (255 - ·) ++ D.drop k)).length, (bl ((D.take k).map (255 - ·) ++ D.drop k))[k]'hh = .s (.int .u8 c.toNat) := fun hh => by
        have : (bl ((D.take k).map (255 - ·) ++ D.drop k))[k]? = some (.s (.int .u8 c.toNat)) := by
          refine bl_at ?_
          rw [List.getElem?_append_right (by simp; omega)]
          have : k - min k D.length = 0 := by omega
          simpa [this] using hc
        rw [List.getElem?_eq_getElem hh] at this
        injection this
      have hset : (bl ((D.take k).map (255 - ·) ++ D.drop k)).set k (.s (.int .u8 (255 - c).toNat)) = bl ((D.take (k + 1)).map (255 - ·) ++ D.drop (k + 1)) := by
        rw [bl_set, drop_at hc, take_at hc, List.set_append_right _ _ (by simp; omega)]
        have : k - min k D.length = 0 := by omega
        simp [this]
      generalize bl ((D.take k).map (255 - ·) ++ D.drop k) = X at hp hln hgt hset
      simp -implicitDefEqProofs [hB, x_sleuthref07_Number_l1, h4, h6, h7, hp, hln, hk, hlt, hgt, hsub, putEl]
      refine K _ _ ⟨?_, ?_, ?_⟩
      · simp [h4, h6, wrap_up (by omega : k < 100000000000)]
      · rw [List.getElem?_set_self hpl, hset]
      · rw [List.take_set_of_le gl]; exact hl2
    · rintro B hB s h' ⟨⟨h4, h6, h7, -⟩, hp, hl2⟩
      have hpl : p < h'.length := (List.getElem?_eq_some_iff.1 hp).1
      rw [List.take_length, List.drop_length, List.append_nil] at hp
      simp -implicitDefEqProofs [hB, x_sleuthref07_Number_l1, h4, h6, h7, hp, bl_length]
      refine kk _ _ ?_ ?_ hp hl2
      · simpa using h4
      · simpa using h6
  have hf : fNum n = (if n < 0 then UInt8.ofNat (128 - blen m) else UInt8.ofNat (128 + blen m)) :: (if n < 0 then D.map (255 - ·) else D) := by
    rw [fNum, ← hm]
    congr 1
    have hd : ∀ (neg : Bool) (l : List Nat), (∀ d ∈ l, d < 256) → l.map (flipB neg) = if neg = true then (l.map UInt8.ofNat).map (255 - ·) else l.map UInt8.ofNat := by
      intro neg l hl
      cases neg with
      | false => simp [flipB]
      | true =>
        simp only [if_true, List.map_map]
        refine List.map_congr_left fun d hd => ?_
        have := hl d hd
        apply UInt8.toNat_inj.1
        have e2 : (255 - UInt8.ofNat d).toNat = 255 - d := by
          rw [UInt8.toNat_sub_of_le]
          · rw [UInt8.toNat_ofNat', Nat.mod_eq_of_lt (by omega)]; rfl
          · exact UInt8.le_iff_toNat_le.2 (by rw [UInt8.toNat_ofNat', Nat.mod_eq_of_lt (by omega)]; show d ≤ 255; omega)
        simp only [flipB, if_true, Function.comp]
        rw [e2, UInt8.toNat_ofNat', Nat.mod_eq_of_lt (by omega)]
    rw [hd _ _ (fun d => dig_lt _ _ _), hD]
    by_cases hneg : n < 0 <;> simp [hneg, digs]
  have c1 : IntKind.u8.wrap (IntKind.i64.wrap (128 + (blen m : Int))) = ((UInt8.ofNat (128 + blen m)).toNat : Int) := by
    rw [u8_nat (by omega), wrap_i64 (by omega) (by omega), wrap_u8]; omega
  have c2 : IntKind.u8.wrap (IntKind.i64.wrap (128 - (blen m : Int))) = ((UInt8.ofNat (128 - blen m)).toNat : Int) := by
    rw [u8_nat (by omega), wrap_i64 (by omega) (by omega), wrap_u8]; omega
  rw [hf]
  have hlim : 1 + D.length ≤ 140737488355328 := by omega
  have last : ∀ (s : Sl) (h0 : H) (p : Nat) (c : UInt8) (E : List UInt8) (g : V × H), s 6 = vk .u8 c.toNat → s 4 = .ref p E.length → h0[p]? = some (.arr false 1 (bl E)) → h0.take h.length = h → h.length ≤ h0.length → E.length ≤ 8 →
      ob (xcode (run XP) loopW h.length (.seq (.region [⟨some 51, .cp (.t 6), none⟩, ⟨some 52, .bslice true 1 [(.t 51)], none⟩, ⟨some 53, .cp (.t 4), none⟩, ⟨some 54, .append 1 140737488355328 (.t 52) (.t 53), none⟩, ⟨some 55, .toStr (.t 54), none⟩, ⟨some 2, .cp (.t 55), none⟩] none) .ret) ⟨s, h0⟩) (backR [(.inl 2, .v)] h) = some (tx (c :: E), h) := by
    intro s h0 p c E g h6 h4 hp ht hl hE
    have hpl : p < h0.length := (List.getElem?_eq_some_iff.1 hp).1
    have hmm : 1 + E.length ≤ 140737488355328 := by omega
    have hbb := bytesOf_bl (c :: E)
    rw [show bl (c :: E) = V.s (.int .u8 c.toNat) :: bl E from rfl] at hbb
    simp -implicitDefEqProofs [h6, h4, at_left hpl, hp, bl_length, wide_bl, closeds_bl, hmm, hbb, tx]
    rw [List.take_append_of_le_length hl, ht]
    exact ⟨by omega, rfl⟩
  by_cases hneg : n < 0
  · have q1 : IntKind.u64.wrap n = ((18446744073709551616 - m : Nat) : Int) := by rw [wrap_u64]; omega
    have q2 : IntKind.u64.wrap (-((18446744073709551616 - m : Nat) : Int)) = (m : Int) := by rw [wrap_u64]; omega
    obtain ⟨m', hm'⟩ : ∃ m', m' = 18446744073709551616 - m := ⟨_, rfl⟩
    rw [← hm'] at q1 q2
    rw [if_pos hneg, if_pos hneg]
    simp -implicitDefEqProofs [x_sleuthref07_Number, hz', hneg, q1, q2]
    refine go _ _ _ _ ?_ ?_ ?_ ?_ rfl fun s' h' p g0 g3 g4 gp gl gt => ?_
    · simp
    · simp
    · simp
    · simp
    simp -implicitDefEqProofs [g0, g3, g4, gp, bl_length, hDl, c1, c2, hneg]
    refine go1 _ _ _ _ p (vk .u8 (UInt8.ofNat (128 - blen m)).toNat) ?_ ?_ ?_ ?_ gp gl gt fun s2 h2 k4 k6 kp kt => ?_
    · simp [g0]
    · simp [g4, hDl]
    · simp
    · simp
    simp -implicitDefEqProofs only [outOf_same, thenC_norm]
    refine last s2 h2 p _ (D.map (255 - ·)) (vnil, []) k6 (by simpa using k4) kp kt ?_ (by simp; omega)
    have := congrArg List.length kt
    simp at this
    omega
  · have q1 : IntKind.u64.wrap n = (m : Int) := by rw [wrap_u64]; omega
    rw [if_neg hneg, if_neg hneg]
    simp -implicitDefEqProofs [x_sleuthref07_Number, hz', hneg, q1]
    refine go _ _ _ _ ?_ ?_ ?_ ?_ rfl fun s' h' p g0 g3 g4 gp gl gt => ?_
    · simp
    · simp
    · simp
    · simp
    have hpl : p < h'.length := (List.getElem?_eq_some_iff.1 gp).1
    have hbb := bytesOf_bl (UInt8.ofNat (128 + blen m) :: D)
    rw [show bl (UInt8.ofNat (128 + blen m) :: D) = V.s (.int .u8 (UInt8.ofNat (128 + blen m)).toNat) :: bl D from rfl] at hbb
    have hmm : 1 + D.length ≤ 140737488355328 := by omega
    have hle : h.length ≤ h'.length := by omega
    have hadd : D.length + 1 = 1 + blen m := by omega
    generalize hcc : UInt8.ofNat (128 + blen m) = cc at *
    simp -implicitDefEqProofs [g0, g3, g4, gp, bl_length, hDl, c1, hneg, at_left hpl, wide_bl, closeds_bl, hbb, tx, hmm, hadd]
    refine ⟨by omega, by omega, ?_, ?_⟩
    · rw [← hcc]; simp
    · rw [List.take_append_of_le_length hle, gt]
end Go.Proofs.Sl

namespace Go.Proofs.Sl
theorem dataK_same {f : Nat → Nat} {N K : Nat} (h : f K = 0) : dataK f N (K + 1) = dataK f N K := by
  by_cases hN : K / 8 < N
  · rw [dataK_up f hN, h, Nat.zero_mul, Nat.add_zero]
    refine List.ext_getElem? fun i => ?_
    rw [List.getElem?_set]
    by_cases hi : K / 8 = i
    · subst hi
      rw [if_pos rfl, dataK_length, if_pos hN, dataK_at f hN]
    · rw [if_neg hi]
  · refine List.map_congr_left fun j hj => ?_
    rw [List.mem_range] at hj
    rw [byteV_other f (by omega)]
theorem add_u8 {a m : Nat} (ha : a < 2 ^ m) (hm : m < 8) : IntKind.u8.wrap (((UInt8.ofNat a).toNat : Int) + ((2 ^ m : Nat) : Int)) = ((UInt8.ofNat (a + 1 * 2 ^ m)).toNat : Int) := by
  have : 2 ^ m ≤ 2 ^ 7 := Nat.pow_le_pow_right (by decide) (by omega)
  rw [u8_nat (by omega), u8_nat (by omega), wrap_u8]
  omega
theorem shl1_u8 {m : Nat} (hm : m < 8) : IntKind.u8.wrap ((2 : Int) ^ m) = ((2 ^ m : Nat) : Int) := by
  have key : ∀ m : Fin 8, IntKind.u8.wrap ((2 : Int) ^ m.1) = ((2 ^ m.1 : Nat) : Int) := by decide +kernel
  exact key ⟨m, hm⟩
theorem shl1_i64 {m : Nat} (hm : m ≤ 62) : IntKind.i64.wrap ((2 : Int) ^ m) = ((2 ^ m : Nat) : Int) := by
  have key : ∀ m : Fin 63, IntKind.i64.wrap ((2 : Int) ^ m.1) = ((2 ^ m.1 : Nat) : Int) := by decide +kernel
  exact key ⟨m, by omega⟩
section
variable {h : H} {v : V} {vs : List Int}
theorem ref_bits (hv : Rd h 1 v (il vs)) (hr : ∀ n ∈ vs, OkV n) (hn : vs.length ≤ 10000) : run XP i_sleuthref07_Bits [v] h = some (.tup [vi (widthP vs), tx (dataP vs)], h) := by
  obtain ⟨hz1, hz2, hz3, hz4⟩ := zoneP_ok hr
  have hW := widthP_le hr
  obtain ⟨least, hleast⟩ : ∃ x, x = (zoneP vs).1 := ⟨_, rfl⟩
  obtain ⟨great, hgreat⟩ : ∃ x, x = (zoneP vs).2 := ⟨_, rfl⟩
  obtain ⟨w, hw⟩ : ∃ x, x = widthP vs := ⟨_, rfl⟩
  obtain ⟨N, hN⟩ : ∃ x, x = sizeP vs := ⟨_, rfl⟩
  have hNv : N = (vs.length * w + 7) / 8 := by rw [hN, hw]; rfl
  have hwd : w = bw (great - least).toNat := by rw [hw, hleast, hgreat]; rfl
  have hD : dataP vs = dataK (vbit vs least w) N (vs.length * w) := by rw [dataP, ← hleast, ← hw, ← hN]
  have hzone := ref_zone hv hn
  simp only [← hleast, ← hgreat] at hz1 hz2 hz3 hz4 hzone
  rw [← hw] at hW ⊢
  obtain ⟨a1, a2⟩ := hz1
  obtain ⟨b1, b2⟩ := hz2
  obtain ⟨D, hDd⟩ : ∃ D : Nat, great - least = D := ⟨(great - least).toNat, by omega⟩
  have hsub : IntKind.i64.wrap (great - least) = D := by rw [wrap_i64 (by omega) (by omega), hDd]
  rw [hDd, Int.toNat_natCast] at hwd
  have hprod : vs.length * w ≤ 620000 := by
    have : vs.length * w ≤ 10000 * 62 := Nat.mul_le_mul hn hW
    omega
  have hm1 : IntKind.i64.wrap ((vs.length : Int) * (w : Int)) = (vs.length : Int) * (w : Int) := by
    rw [← Int.natCast_mul, wrap_i64 (by omega) (by omega)]
  have hm2 : IntKind.i64.wrap ((vs.length : Int) * (w : Int) + 7) = (vs.length : Int) * (w : Int) + 7 := by rw [← Int.natCast_mul, wrap_i64 (by omega) (by omega)]
  have hm3 : IntKind.i64.wrap (((vs.length : Int) * (w : Int) + 7).tdiv 8) = (N : Int) := by
    rw [← Int.natCast_mul, show Int.tdiv (((vs.length * w : Nat) : Int) + 7) 8 = (((vs.length * w + 7) / 8 : Nat) : Int) from rfl, ← hNv, wrap_i64 (by omega) (by omega)]
  have hrep : List.replicate N (V.s (.int .u8 0)) = bl (List.replicate N 0) := by simp [bl]
  have hNl : N ≤ 140737488355328 := by omega
  rw [run_eq, xp_sleuthref07_Bits]
  simp -implicitDefEqProofs [x_sleuthref07_Bits, hv.arg0, hzone]
  refine loop_up w (fun k s h' => Sees s [(0, v), (4, vi least), (5, vi great), (6, vi k)] ∧ h' = h) ?_ ?_ _ _ ⟨by simp, rfl⟩
  · rintro B f hB hf k s h' hk ⟨⟨h0, h4, h5, h6, -⟩, rfl⟩ K
    have hcv : IntKind.u64.wrap (k : Int) = (k : Int) := by rw [wrap_u64]; omega
    have hmin : min k IntKind.i64.bits = k := Nat.min_eq_left (by have : IntKind.i64.bits = 64 := rfl; omega)
    have hsh := shl1_i64 (m := k) (by omega)
    obtain ⟨P, hP⟩ : ∃ P, P = 2 ^ k := ⟨_, rfl⟩
    rw [← hP] at hsh
    have hge : (P : Int) ≤ (D : Int) := by
      have : ¬ D < 2 ^ k := fun hlt => by have := bw_lt.1 hlt; omega
      omega
    simp -implicitDefEqProofs [hB, x_sleuthref07_Bits_l0, h0, h4, h5, h6, hsub, hcv, hmin, hsh, hge]
    exact K _ _ ⟨by simp [h0, h4, h5, wrap_up (by omega : k < 100000000000)], rfl⟩
  · rintro B hB s h' ⟨⟨h0, h4, h5, h6, -⟩, rfl⟩
    have hcv : IntKind.u64.wrap (w : Int) = (w : Int) := by rw [wrap_u64]; omega
    have hmin : min w IntKind.i64.bits = w := Nat.min_eq_left (by have : IntKind.i64.bits = 64 := rfl; omega)
    have hsh := shl1_i64 (m := w) (by omega)
    obtain ⟨P, hP⟩ : ∃ P, P = 2 ^ w := ⟨_, rfl⟩
    rw [← hP] at hsh
    have hge : ¬ (P : Int) ≤ (D : Int) := by
      have : D < 2 ^ w := bw_lt.2 (by omega)
      omega
    simp -implicitDefEqProofs [hB, x_sleuthref07_Bits_l0, h0, h4, h5, h6, hsub, hcv, hmin, hsh, hge, hv.toL, il_length, hm1, hm2, hm3, hNl]
    clear hB hcv hmin hsh hP hge
    rw [hrep, ← dataK_zero (vbit vs least w) N]
    refine loop_list vs (fun i s h2 => Sees s [(0, v), (4, vi least), (6, vi w), (7, .ref h'.length N), (8, vi i)] ∧ h2 = h' ++ [.arr false 1 (bl (dataK (vbit vs least w) N (i * w)))]) ?_ ?_ _ _ ⟨by simp [h0, h4, h6], by simp⟩
    · rintro B f hB hf i e s h2 he hi ⟨⟨h0, h4, h6, h7, h8, -⟩, rfl⟩ K
      have hlt : (i : Int) < vs.length := by omega
      obtain ⟨g1, g2⟩ := hz4 e (List.mem_of_getElem? he)
      simp -implicitDefEqProofs [hB, x_sleuthref07_Bits_l2, h0, h4, h6, h7, h8, (hv.app _).toL, il_length, hlt]
      refine loop_up w (fun b s h2 => Sees s [(0, v), (4, vi least), (6, vi w), (7, .ref h'.length N), (8, vi i), (9, vi b)] ∧ h2 = h' ++ [.arr false 1 (bl (dataK (vbit vs least w) N (i * w + b)))]) ?_ ?_ _ _ ⟨by simp [h0, h4, h6, h7, h8], by simp⟩
      · rintro B2 f2 hB2 hf2 b s h2 hb ⟨⟨h0, h4, h6, h7, h8, h9, -⟩, rfl⟩ K2
        obtain ⟨k, hk⟩ : ∃ k, k = i * w + b := ⟨_, rfl⟩
        have hkl : k < vs.length * w := by
          have : (i + 1) * w ≤ vs.length * w := Nat.mul_le_mul_right _ hi
          rw [Nat.add_mul, Nat.one_mul] at this
          omega
        obtain ⟨q, hq⟩ : ∃ q, q = k / 8 := ⟨_, rfl⟩
        obtain ⟨m, hm⟩ : ∃ m, m = k % 8 := ⟨_, rfl⟩
        have hqN : q < N := by omega
        have hblt : (b : Int) < w := by omega
        have hiw : i * w ≤ vs.length * w := Nat.mul_le_mul_right _ (by omega)
        have w1 : IntKind.i64.wrap ((i : Int) * (w : Int)) = (i : Int) * (w : Int) := by
          rw [← Int.natCast_mul, wrap_i64 (by omega) (by omega)]
        have w2 : IntKind.i64.wrap ((i : Int) * (w : Int) + (b : Int)) = (k : Int) := by
          rw [← Int.natCast_mul, wrap_i64 (by omega) (by omega)]
          omega
        have w3 : IntKind.i64.wrap ((k : Int) / 8) = (q : Int) := by
          rw [wrap_i64 (by omega) (by omega)]; omega
        have w4 : (k : Int).tmod 8 = (m : Int) := by
          rw [show Int.tmod (k : Int) 8 = ((k % 8 : Nat) : Int) from rfl, ← hm]
        obtain ⟨D2, hD2⟩ : ∃ D2 : Nat, e - least = D2 := ⟨(e - least).toNat, by omega⟩
        have w5 : IntKind.i64.wrap (e - least) = (D2 : Int) := by rw [wrap_i64 (by omega) (by omega), hD2]
        have hmin : min b IntKind.i64.bits = b := Nat.min_eq_left (by have : IntKind.i64.bits = 64 := rfl; omega)
        have hmin8 : min m IntKind.u8.bits = m := Nat.min_eq_left (by have : IntKind.u8.bits = 8 := rfl; omega)
        have hsh := shr_nat D2 b (kk := .i64) (by have : IntKind.i64.bits = 64 := rfl; omega)
        rw [hmin] at hsh
        obtain ⟨D3, hD3⟩ : ∃ D3, D3 = D2 / 2 ^ b := ⟨_, rfl⟩
        rw [← hD3] at hsh
        have hD3l : D3 < 18446744073709551616 := by
          have := Nat.div_le_self D2 (2 ^ b)
          omega
        have hand := and_one D3 hD3l
        obtain ⟨t, ht⟩ : ∃ t, t = D3 % 2 := ⟨_, rfl⟩
        rw [← ht] at hand
        have ht1 : t ≤ 1 := by omega
        have hvb : vbit vs least w k = t := by
          rw [hk, vbit_eq he g1 hb, hD2, Int.toNat_natCast, ← hD3, ← ht]
        have cb : IntKind.u64.wrap (b : Int) = (b : Int) := by rw [wrap_u64]; omega
        have cm : IntKind.u64.wrap (m : Int) = (m : Int) := by rw [wrap_u64]; omega
        have w9 : IntKind.i64.wrap ((b : Int) + 1) = (b : Int) + 1 := wrap_up (by omega)
        have hk2 : i * w + (b + 1) = k + 1 := by omega
        obtain ⟨p, hp, hld⟩ := (hv.app [.arr false 1 (bl (dataK (vbit vs least w) N (i * w + b)))]).at1 (il_at he) rfl
        have h01 : t = 0 ∨ t = 1 := by omega
        rcases h01 with rfl | rfl
        · rw [← hk] at *
          have hsame := dataK_same (N := N) hvb
          simp -implicitDefEqProofs [hB2, x_sleuthref07_Bits_l1, h0, h4, h6, h7, h8, h9, hblt, hp, hld, w5, cb, hmin, hsh, hand]
          refine K2 _ _ ⟨?_, ?_⟩
          · simp [h0, h4, h6, h7, h8, w9]
          · rw [hk2, hsame]
        · have hm8 : m < 8 := by omega
          have hbv : byteV (vbit vs least w) k q < 2 ^ m := by rw [hq, hm]; exact byteV_lt (vbit_le vs least w) k
          have w7 := shl1_u8 hm8
          have w8 := add_u8 hbv hm8
          obtain ⟨sh, hsh2⟩ : ∃ sh, sh = 2 ^ m := ⟨_, rfl⟩
          rw [← hsh2] at w7 w8
          have hget := bl_at (dataK_at (vbit vs least w) (N := N) (K := k) (by omega))
          have hup := dataK_up (vbit vs least w) (N := N) (K := k) (by omega)
          rw [← hq] at hget hup
          rw [← hm, hvb, ← hsh2] at hup
          have hdl : (dataK (vbit vs least w) N k).length = N := dataK_length _ _ _
          have hset := bl_set (l := dataK (vbit vs least w) N k) (i := q) (b := UInt8.ofNat (byteV (vbit vs least w) k q + 1 * sh))
          rw [← hup] at hset
          rw [← hk] at *
          generalize UInt8.ofNat (byteV (vbit vs least w) k q) = c1 at *
          generalize UInt8.ofNat (byteV (vbit vs least w) k q + 1 * sh) = c2 at *
          have hget' : ∀ hh : q < (bl (dataK (vbit vs least w) N k)).length, (bl (dataK (vbit vs least w) N k))[q]'hh = .s (.int .u8 c1.toNat) := fun hh => by
            rw [List.getElem?_eq_getElem hh] at hget
            injection hget
          simp -implicitDefEqProofs [hB2, x_sleuthref07_Bits_l1, h0, h4, h6, h7, h8, h9, hblt, hp, hld, w1, w2, w3, w4, w5, cb, cm, hmin, hmin8, hsh, hand, w7, w8, hdl, bl_length, hqN, hget', putEl]
          refine K2 _ _ ⟨?_, ?_⟩
          · simp [h0, h4, h6, h7, h8, w9]
          · rw [hk2, ← hset]
      · rintro B2 hB2 s h2 ⟨⟨h0, h4, h6, h7, h8, h9, -⟩, rfl⟩
        simp -implicitDefEqProofs [hB2, x_sleuthref07_Bits_l1, h6, h8, h9]
        refine K _ _ ⟨?_, ?_⟩
        · simp [h0, h4, h6, h7, wrap_up (by omega : i < 100000000000)]
        · rw [Nat.add_mul, Nat.one_mul]
    · rintro B hB s h2 ⟨⟨h0, h4, h6, h7, h8, -⟩, rfl⟩
      rw [← hD]
      have hdl : (dataP vs).length = N := by rw [hD]; exact dataK_length _ _ _
      have hbo := bytesOf_bl (dataP vs)
      simp -implicitDefEqProofs [hB, x_sleuthref07_Bits_l2, h0, h4, h6, h7, h8, (hv.app _).toL, il_length, bl_length, hdl, hbo, tx]
end
end Go.Proofs.Sl

namespace Go.Proofs.Sl
theorem grpNs_bounds : ∀ (n : Nat) (l : List Int), l.length = n → (grp l).length ≤ l.length ∧ (∀ p ∈ grp l, p.1 ∈ l ∧ p.2 ≤ l.length) := by
  intro n
  induction n using Nat.strongRecOn with
  | ind n ih =>
    intro l hl
    cases l with
    | nil => simp [grp]
    | cons v r =>
      have h1 := (List.dropWhile_sublist (l := r) (fun x => x == v)).length_le
      have h2 := (List.takeWhile_sublist (l := r) (fun x => x == v)).length_le
      have hsub := (List.dropWhile_sublist (l := r) (fun x => x == v)).subset
      obtain ⟨i1, i2⟩ := ih (r.dropWhile (· == v)).length (by simp at hl; omega) _ rfl
      rw [grp]
      refine ⟨by simp only [List.length_cons]; omega, fun p hp => ?_⟩
      rcases List.mem_cons.1 hp with rfl | hp
      · simp only [List.length_cons]
        exact ⟨by simp, by omega⟩
      · obtain ⟨j1, j2⟩ := i2 p hp
        simp only [List.length_cons]
        exact ⟨List.mem_cons_of_mem _ (hsub j1), by omega⟩
theorem grpNs_len (l : List (Int × Nat)) : (grpNs l).length = 2 * l.length := by
  induction l with
  | nil => rfl
  | cons p r ih =>
    have : grpNs (p :: r) = p.1 :: (p.2 : Int) :: grpNs r := rfl
    rw [this]
    simp only [List.length_cons, ih]
    omega
theorem fRuns_le {vs : List Int} (hr : ∀ n ∈ vs, OkV n) (hn : vs.length ≤ 10000) : (fRuns vs).length ≤ 200000 := by
  obtain ⟨g1, g2⟩ := grpNs_bounds _ vs rfl
  have := fNum_le (n := (grp vs).length) (rng_nat (by omega))
  have := fNums_le (ns := grpNs (grp vs)) fun n hm => by
    simp only [grpNs, List.mem_flatMap, List.mem_cons, List.not_mem_nil, or_false] at hm
    obtain ⟨p, hp, rfl | rfl⟩ := hm
    · exact (hr _ (g2 p hp).1).rng
    · exact rng_nat (by have := (g2 p hp).2; omega)
  rw [grpNs_len] at this
  simp only [fRuns, List.length_append]
  omega
theorem tw_at (v : Int) : ∀ (r : List Int) (j : Nat), (j < (r.takeWhile (· == v)).length → r[j]? = some v) ∧ (j = (r.takeWhile (· == v)).length → ∀ x, r[j]? = some x → x ≠ v)
  | [], j => by simp
  | w :: r, j => by
    by_cases h : w = v
    · subst h
      cases j with
      | zero => simp [List.takeWhile_cons]
      | succ j =>
        obtain ⟨a, b⟩ := tw_at w r j
        simp only [List.takeWhile_cons, beq_self_eq_true, if_true, List.length_cons, List.getElem?_cons_succ]
        exact ⟨fun hj => a (by omega), fun hj => b (by omega)⟩
    · have : (w == v) = false := by simpa using h
      simp only [List.takeWhile_cons, this]
      refine ⟨fun hj => by simp at hj, fun hj x hx => ?_⟩
      simp at hj
      subst hj
      simp at hx
      exact hx ▸ h
section
variable {h : H} {v : V} {vs : List Int}
/-- What is written of the values for the first two kinds. -/
def rest12 (k : Nat) (vs : List Int) (i : Nat) : List Int := if k = 2 then difs ((prevO vs i).getD 0) (vs.drop i) else vs.drop i

theorem ref_form12 (hv : Rd h 1 v (il vs)) (hr : ∀ n ∈ vs, OkV n) (hn : vs.length ≤ 10000) {k : Nat} (hk : k = 1 ∨ k = 2) : run XP i_sleuthref07_Form [vi k, v] h = some (tx (fCol vs k), h) := by
  have hkr : Rng (k : Int) := rng_nat (by omega)
  have e1 := ref7_number h hkr
  have hlr : Rng (vs.length : Int) := rng_nat (by omega)
  have e2 := ref7_number h hlr
  have l1 := fNum_le hkr
  have l2 := fNum_le hlr
  have hok : ∀ i e, vs[i]? = some e → OkV (e - (prevO vs i).getD 0) ∨ Rng (e - (prevO vs i).getD 0) := fun i e he => .inr <| by
    have a := hr e (List.mem_of_getElem? he)
    have b : OkV ((prevO vs i).getD 0) := by
      unfold prevO
      split
      · exact ⟨by decide, by decide⟩
      · cases hp : vs[i - 1]? with
        | none => exact ⟨by decide, by decide⟩
        | some q => exact hr q (List.mem_of_getElem? hp)
    exact ⟨by have := a.1; have := b.2; omega, by have := a.2; have := b.1; omega⟩
  have hfin : fCol vs k = fNum k ++ (fNum vs.length ++ fNums (rest12 k vs 0)) := by
    rcases hk with rfl | rfl
    · simp [fCol, fKind, fPlain, rest12]
    · simp [fCol, fKind, fDelta, rest12, prevO]
  have hfl : (fCol vs k).length ≤ 100000 := by
    rw [hfin]
    have : (fNums (rest12 k vs 0)).length ≤ 9 * 10000 := by
      rcases hk with rfl | rfl
      · have := fNums_le (ns := vs) fun n hm => (hr n hm).rng
        simp [rest12]; omega
      · have := fNums_le (ns := difs 0 vs) (difs_rng vs 0 ⟨by decide, by decide⟩ hr)
        rw [difs_length] at this
        simp [rest12, prevO]; omega
    simp; omega
  have k12 : (k : Int) == 1 ∨ ((k : Int) == 1) = false ∧ ((k : Int) == 2) = true := by rcases hk with rfl | rfl <;> simp
  have k3 : ((k : Int) == 2) = decide (k = 2) := by rcases hk with rfl | rfl <;> rfl
  rw [run_eq, xp_sleuthref07_Form]
  have go : ∀ (s : Sl), s 0 = vi k → s 1 = v → s 5 = tx (fNum k ++ fNum vs.length) → s 6 = vi 0 → ∀ f : Ex × St → Option (V × H), (∀ s' : Sl, s' 5 = tx (fCol vs k) → f (.exit 0, ⟨s', h⟩) = some (tx (fCol vs k), h)) →
      ob (loopW (xcode (run XP) loopW h.length x_sleuthref07_Form_l0) ⟨s, h⟩) f = some (tx (fCol vs k), h) := by
    intro s g0 g1 g5 g6 f kk
    refine loop_list vs (fun i s h' => h' = h ∧ ∃ acc, Sees s [(0, vi k), (1, v), (5, tx acc), (6, vi i)] ∧ acc ++ fNums (rest12 k vs i) = fCol vs k) ?_ ?_ _ _ ⟨rfl, _, by simp only [sees_cons, sees_nil]; exact ⟨g0, g1, g5, g6, trivial⟩, by rw [hfin]; simp⟩
    · rintro B f' hB hf i e s h' he hi ⟨rfl, acc, ⟨h0, h1, h5, h6, -⟩, hx⟩ K
      have hlt : (i : Int) < vs.length := by omega
      obtain ⟨p, hp, hld⟩ := hv.at1 (il_at he) rfl
      have hal := congrArg List.length hx
      simp at hal
      have hre := hr e (List.mem_of_getElem? he)
      have hpv : prevO vs (i + 1) = some e := by simp [prevO, he]
      by_cases hk2 : k = 2 ∧ 0 < i
      · obtain ⟨rfl, hi0⟩ := hk2
        obtain ⟨q, hq⟩ : ∃ q, vs[i - 1]? = some q := ⟨_, List.getElem?_eq_getElem (by omega)⟩
        obtain ⟨p2, hp2, hld2⟩ := hv.at1 (il_at hq) rfl
        have hpq : prevO vs i = some q := by rw [prevO, if_neg (by omega), hq]
        have hrd : Rng (e - q) := by
          have := hok i e he
          rw [hpq] at this
          rcases this with a | a
          · exact a.rng
          · exact a
        have hwq : IntKind.i64.wrap (e - q) = e - q := wrap_i64 hrd.1 hrd.2
        have hwi : IntKind.i64.wrap ((i : Int) - 1) = ((i - 1 : Nat) : Int) := by rw [wrap_i64 (by omega) (by omega)]; omega
        have hi0' : (0 : Int) < i := by omega
        have en := ref7_number h' hrd
        have hl9 := fNum_le hrd
        have hadd := add_tx (a := acc) (b := fNum (e - q)) (by omega)
        have hc2 : ((2 : Nat) : Int) = 2 := rfl
        rw [hc2] at h0
        simp -implicitDefEqProofs [hB, x_sleuthref07_Form_l0, h0, h1, h5, h6, hlt, hv.toL, il_length, hp, hld, hi0, hwi, hp2, hld2, hwq, en, hadd, tx_plain]
        refine K _ _ ⟨rfl, acc ++ fNum (e - q), ?_, ?_⟩
        · simp only [sees_cons, sees_nil]
          simp [h0, h1, wrap_up (by omega : i < 100000000000)]
        · rw [rest12, if_pos rfl, hpq, drop_at he] at hx
          rw [rest12, if_pos rfl, hpv]
          simpa [difs, fNums] using hx
      · have en := ref7_number h' hre.rng
        have hl9 := fNum_le hre.rng
        have hadd := add_tx (a := acc) (b := fNum e) (by omega)
        have hxx : acc ++ (fNum e ++ fNums (rest12 k vs (i + 1))) = fCol vs k := by
          rcases hk with rfl | rfl
          · rw [rest12, if_neg (by decide), drop_at he] at hx
            rw [rest12, if_neg (by decide)]
            simpa [fNums] using hx
          · obtain rfl : i = 0 := by omega
            rw [rest12, if_pos rfl, drop_at he] at hx
            rw [rest12, if_pos rfl, hpv]
            simpa [fNums, difs, prevO] using hx
        rcases hk with rfl | rfl
        · have hc2 : ((1 : Nat) : Int) = 1 := rfl
          rw [hc2] at h0
          simp -implicitDefEqProofs [hB, x_sleuthref07_Form_l0, h0, h1, h5, h6, hlt, hv.toL, il_length, hp, hld, en, hadd, tx_plain]
          refine K _ _ ⟨rfl, acc ++ fNum e, ?_, ?_⟩
          · simp only [sees_cons, sees_nil]
            simp [h0, h1, wrap_up (by omega : i < 100000000000)]
          · simpa using hxx
        · have hi0 : ¬ 0 < i := by omega
          have hc2 : ((2 : Nat) : Int) = 2 := rfl
          rw [hc2] at h0
          simp -implicitDefEqProofs [hB, x_sleuthref07_Form_l0, h0, h1, h5, h6, hlt, hv.toL, il_length, hp, hld, hi0, en, hadd, tx_plain]
          refine K _ _ ⟨rfl, acc ++ fNum e, ?_, ?_⟩
          · simp only [sees_cons, sees_nil]
            simp [h0, h1, wrap_up (by omega : i < 100000000000)]
          · simpa using hxx
    · rintro B hB s h' ⟨rfl, acc, ⟨h0, h1, h5, h6, -⟩, hx⟩
      have hr0 : rest12 k vs vs.length = [] := by
        unfold rest12
        split <;> simp [difs]
      rw [hr0] at hx
      simp [fNums] at hx
      simp -implicitDefEqProofs [hB, x_sleuthref07_Form_l0, h1, h5, h6, hv.toL, il_length]
      exact kk _ (by simp [h5, hx])
  have hadd := add_tx (a := fNum k) (b := fNum vs.length) (by omega)
  rcases hk with rfl | rfl
  · have hc2 : ((1 : Nat) : Int) = 1 := rfl
    rw [hc2] at e1 hadd
    simp -implicitDefEqProofs [x_sleuthref07_Form, e1, hv.toL, il_length, e2, hadd, tx_plain]
    refine go _ ?_ ?_ ?_ ?_ _ fun s' h5 => ?_
    · simp
    · simp
    · simp
    · simp
    simp -implicitDefEqProofs [h5, tx_plain]
  · have hc2 : ((2 : Nat) : Int) = 2 := rfl
    rw [hc2] at e1 hadd
    simp -implicitDefEqProofs [x_sleuthref07_Form, e1, hv.toL, il_length, e2, hadd, tx_plain]
    refine go _ ?_ ?_ ?_ ?_ _ fun s' h5 => ?_
    · simp
    · simp
    · simp
    · simp
    simp -implicitDefEqProofs [h5, tx_plain]

theorem ref_form3 (hv : Rd h 1 v (il vs)) (hr : ∀ n ∈ vs, OkV n) (hn : vs.length ≤ 10000) : run XP i_sleuthref07_Form [vi 3, v] h = some (tx (fCol vs 3), h) := by
  have hkr : Rng (3 : Int) := ⟨by decide, by decide⟩
  have e1 := ref7_number h hkr
  have l1 := fNum_le hkr
  obtain ⟨G, hG⟩ : ∃ G, G = grp vs := ⟨_, rfl⟩
  obtain ⟨gb1, gb2⟩ := grpNs_bounds _ vs rfl
  rw [← hG] at gb1 gb2
  have hGr : Rng (G.length : Int) := rng_nat (by omega)
  have e2 := ref7_number h hGr
  have l2 := fNum_le hGr
  have hfl := fRuns_le hr hn
  have hF : fRuns vs = fNum G.length ++ fNums (grpNs G) := by rw [fRuns, ← hG]
  have hfl2 := congrArg List.length hF
  simp at hfl2
  rw [run_eq, xp_sleuthref07_Form]
  simp -implicitDefEqProofs [x_sleuthref07_Form, e1, tx_plain]
  refine loop_ind (fun i : Nat => vs.length - i) (fun i s h' => h' = h ∧ i ≤ vs.length ∧ ∃ (runs : Nat) (body : List UInt8), Sees s [(1, v), (5, tx (fNum 3)), (8, vi runs), (9, tx body), (10, vi i)] ∧ body ++ fNums (grpNs (grp (vs.drop i))) = fNums (grpNs G) ∧ runs + (grp (vs.drop i)).length = G.length) ?_ 0 _ _
    ⟨rfl, by omega, 0, [], by simp [tx], by simp [hG], by simp [hG]⟩
  rintro B f hB hf i s h' ⟨rfl, hi, runs, body, ⟨h1, h5, h8, h9, h10, -⟩, hx, hy⟩ K
  have hbl := congrArg List.length hx
  simp at hbl
  by_cases hlt : i < vs.length
  · have hlt' : (i : Int) < vs.length := by omega
    obtain ⟨e, he⟩ : ∃ e, vs[i]? = some e := ⟨_, List.getElem?_eq_getElem hlt⟩
    obtain ⟨p, hp, hld⟩ := hv.at1 (il_at he) rfl
    have hre := hr e (List.mem_of_getElem? he)
    obtain ⟨R, hR⟩ : ∃ R, R = vs.drop (i + 1) := ⟨_, rfl⟩
    obtain ⟨m, hm⟩ : ∃ m, m = 1 + (R.takeWhile (· == e)).length := ⟨_, rfl⟩
    have hdr : vs.drop i = e :: R := by rw [drop_at he, hR]
    rw [hdr, grp, ← hm] at hx hy
    have hdm : R.dropWhile (· == e) = vs.drop (i + m) := by
      rw [← drop_tw, hR, List.drop_drop, hm]
      congr 1
      rw [hR]
      omega
    rw [hdm] at hx hy
    have hRl : R.length = vs.length - (i + 1) := by rw [hR]; simp
    have hml : (R.takeWhile (· == e)).length ≤ R.length := (List.takeWhile_sublist _).length_le
    simp -implicitDefEqProofs [hB, x_sleuthref07_Form_l2, h1, h10, hv.toL, il_length, hlt']
    refine loop_up m (fun j s h2 => h2 = h' ∧ Sees s [(1, v), (5, tx (fNum 3)), (8, vi runs), (9, tx body), (10, vi i), (11, vi ((i : Int) + j))]) ?_ ?_ _ _ ⟨rfl, by simp only [sees_cons, sees_nil]; simp [h1, h5, h8, h9, h10]⟩
    · rintro B2 f2 hB2 hf2 j s h2 hj ⟨rfl, h1, h5, h8, h9, h10, h11, -⟩ K2
      have hij : vs[i + j]? = some e := by
        cases j with
        | zero => exact he
        | succ j =>
          have := (tw_at e R j).1 (by omega)
          rw [hR, List.getElem?_drop] at this
          rw [← this]
          congr 1
          omega
      have hlt2 : i + j < vs.length := (List.getElem?_eq_some_iff.1 hij).1
      have hlt2' : (i : Int) + j < vs.length := by omega
      have hnn : (0 : Int) ≤ (i : Int) + j := by omega
      have htn : ((i : Int) + j).toNat = i + j := by omega
      obtain ⟨p2, hp2, hld2⟩ := hv.at1 (il_at hij) rfl
      have hw : IntKind.i64.wrap ((i : Int) + j + 1) = (i : Int) + j + 1 := wrap_i64 (by omega) (by omega)
      simp -implicitDefEqProofs [hB2, x_sleuthref07_Form_l1, h1, h10, h11, hv.toL, il_length, hlt2', hnn, htn, hp2, hld2, hp, hld]
      refine K2 _ _ ⟨rfl, ?_⟩
      simp only [sees_cons, sees_nil]
      simp [h1, h5, h8, h9, h10, hw]
      omega
    · rintro B2 hB2 s h2 ⟨rfl, h1, h5, h8, h9, h10, h11, -⟩
      have hw1 : IntKind.i64.wrap ((runs : Int) + 1) = (runs : Int) + 1 := wrap_up (by omega)
      have hw2 : IntKind.i64.wrap ((i : Int) + m - i) = (m : Int) := by rw [wrap_i64 (by omega) (by omega)]; omega
      have en := ref7_number h2 hre.rng
      have hmr : Rng (m : Int) := rng_nat (by omega)
      have em := ref7_number h2 hmr
      have n9 := fNum_le hre.rng
      have m9 := fNum_le hmr
      have a1 := add_tx (a := body) (b := fNum e) (by omega)
      have a2 := add_tx (a := body ++ fNum e) (b := fNum m) (by simp; omega)
      simp only [List.append_assoc] at a2
      have hx' : body ++ (fNum e ++ (fNum m ++ fNums (grpNs (grp (vs.drop (i + m)))))) = fNums (grpNs G) := by
        rw [← hx]
        simp [grpNs, fNums]
      simp only [List.length_cons] at hy
      have done : ∀ s' : Sl, Sees s' [(1, v), (5, tx (fNum 3)), (8, vi ((runs : Int) + 1)), (9, tx (body ++ (fNum e ++ fNum m))), (10, vi ((i : Int) + m))] → ob (loopW B ⟨s', h2⟩) f = some (tx (fCol vs 3), h2) := fun s' hs' => by
        refine K (i + m) _ _ (by omega) ⟨rfl, by omega, runs + 1, body ++ (fNum e ++ fNum m), ?_, ?_, by omega⟩
        · simpa using hs'
        · simpa using hx'
      by_cases hend : i + m < vs.length
      · have hend' : (i : Int) + m < vs.length := by omega
        have hnn : (0 : Int) ≤ (i : Int) + m := by omega
        have htn : ((i : Int) + m).toNat = i + m := by omega
        obtain ⟨x, hxe⟩ : ∃ x, vs[i + m]? = some x := ⟨_, List.getElem?_eq_getElem hend⟩
        obtain ⟨p2, hp2, hld2⟩ := hv.at1 (il_at hxe) rfl
        have hne : (x == e) = false := by
          have := (tw_at e R (m - 1)).2 (by omega) x (by
            rw [hR, List.getElem?_drop, ← hxe]
            congr 1
            omega)
          simpa using this
        simp -implicitDefEqProofs [hB2, x_sleuthref07_Form_l1, h1, h5, h8, h9, h10, h11, hv.toL, il_length, hend', hnn, htn, hp2, hld2, hp, hld, hne, hw1, hw2, en, em, a1, a2, tx_plain]
        apply done
        simp only [sees_cons, sees_nil]
        simp [h1, h5]
      · have hend' : ¬ (i : Int) + m < vs.length := by omega
        simp -implicitDefEqProofs [hB2, x_sleuthref07_Form_l1, h1, h5, h8, h9, h10, h11, hv.toL, il_length, hend', hp, hld, hw1, hw2, en, em, a1, a2, tx_plain]
        apply done
        simp only [sees_cons, sees_nil]
        simp [h1, h5]
  · obtain rfl : i = vs.length := by omega
    have hlt' : ¬ (vs.length : Int) < vs.length := by omega
    have hg0 : grp ([] : List Int) = [] := by simp [grp]
    rw [List.drop_length, hg0] at hx hy
    simp [grpNs, fNums] at hx hy
    rw [← hy] at e2 l2 hF
    have a1 := add_tx (a := fNum 3) (b := fNum runs) (by omega)
    have a2 := add_tx (a := fNum 3 ++ fNum runs) (b := body) (by simp; omega)
    simp only [List.append_assoc] at a2
    have hx' : body = fNums (grpNs G) := by simpa [grpNs] using hx
    have hfin : fCol vs 3 = fNum 3 ++ (fNum runs ++ body) := by
      rw [fCol, fKind, hF, hx']
      rfl
    rw [hfin]
    simp -implicitDefEqProofs [hB, hf, x_sleuthref07_Form_l2, h1, h5, h8, h9, h10, hv.toL, il_length, e2, a1, a2, tx_plain]
theorem ref_form4 (hv : Rd h 1 v (il vs)) (hr : ∀ n ∈ vs, OkV n) (hn : vs.length ≤ 10000) : run XP i_sleuthref07_Form [vi 4, v] h = some (tx (fCol vs 4), h) := by
  have hkr : Rng (4 : Int) := ⟨by decide, by decide⟩
  have e1 := ref7_number h hkr
  have l1 := fNum_le hkr
  have hlr : Rng (vs.length : Int) := rng_nat (by omega)
  have e2 := ref7_number h hlr
  have l2 := fNum_le hlr
  obtain ⟨hz1, hz2, hz3, hz4⟩ := zoneP_ok hr
  have e3 := ref7_number h hz1.rng
  have l3 := fNum_le hz1.rng
  have hW := widthP_le hr
  have hwr : Rng (widthP vs : Int) := rng_nat (by omega)
  have e4 := ref7_number h hwr
  have l4 := fNum_le hwr
  have hdl : (dataP vs).length = sizeP vs := dataK_length _ _ _
  have hsz : sizeP vs ≤ 100000 := by
    have : vs.length * widthP vs ≤ 10000 * 62 := Nat.mul_le_mul hn hW
    unfold sizeP
    omega
  have hdr : Rng ((dataP vs).length : Int) := rng_nat (by omega)
  have e5 := ref7_number h hdr
  have l5 := fNum_le hdr
  have a1 := add_tx (a := fNum 4) (b := fNum vs.length) (by omega)
  have a2 := add_tx (a := fNum 4 ++ fNum vs.length) (b := fNum (zoneP vs).1) (by simp; omega)
  have a3 := add_tx (a := fNum 4 ++ fNum vs.length ++ fNum (zoneP vs).1) (b := fNum (widthP vs)) (by simp; omega)
  have a4 := add_tx (a := fNum 4 ++ fNum vs.length ++ fNum (zoneP vs).1 ++ fNum (widthP vs)) (b := fNum (dataP vs).length) (by simp; omega)
  have a5 := add_tx (a := fNum 4 ++ fNum vs.length ++ fNum (zoneP vs).1 ++ fNum (widthP vs) ++ fNum (dataP vs).length) (b := dataP vs) (by simp; omega)
  simp only [List.append_assoc] at a2 a3 a4 a5
  have hz := ref_zone hv hn
  have hb := ref_bits hv hr hn
  have hft : fText ⟨(dataP vs).toArray⟩ = fNum (dataP vs).length ++ dataP vs := by simp [fText, bts, ByteArray.size]
  rw [run_eq, xp_sleuthref07_Form]
  simp -implicitDefEqProofs [x_sleuthref07_Form, e1, e2, e3, e4, e5, a1, a2, a3, a4, a5, hv.arg0, hv.toL, il_length, hz, hb, tx_plain, lenT_tx, fCol, fKind, fPacked, hft]
theorem ref_form (hv : Rd h 1 v (il vs)) (hr : ∀ n ∈ vs, OkV n) (hn : vs.length ≤ 10000) {k : Nat} (h1 : 1 ≤ k) (h4 : k ≤ 4) : run XP i_sleuthref07_Form [vi k, v] h = some (tx (fCol vs k), h) := by
  have : k = 1 ∨ k = 2 ∨ k = 3 ∨ k = 4 := by omega
  rcases this with rfl | rfl | rfl | rfl
  · exact ref_form12 hv hr hn (.inl rfl)
  · exact ref_form12 hv hr hn (.inr rfl)
  · exact ref_form3 hv hr hn
  · exact ref_form4 hv hr hn
end
end Go.Proofs.Sl

namespace Go.Proofs.Sl
theorem tx_eq (l : List UInt8) : vbs l = tx l := rfl
theorem ex_best : bestP [5, 5, 5] 4 = ([129, 2, 129, 3, 129, 5, 128, 128], 2) := by
  simp [bestP, fCol, fKind, fPlain, fDelta, fRuns, fPacked, difs, grp, grpNs, fNums, fNum, blen, dig, flipB, zoneP, mn, mx, widthP, bw, dataP, sizeP, dataK, fText, bts, ByteArray.size]
theorem ex_packed : fCol [3, 0, 2, 1] 4 = [129, 4, 129, 4, 128, 129, 2, 129, 1, 99] := by
  have h1 : zoneP [3, 0, 2, 1] = (0, 3) := by decide
  have h2 : widthP [3, 0, 2, 1] = 2 := by decide
  have h3 : dataP [3, 0, 2, 1] = [99] := by decide
  simp [fCol, fKind, fPacked, h1, h2, h3, fNum, blen, dig, flipB, fText, bts, ByteArray.size]
theorem colV_def (o : Option (List V)) (vs : List Int) : colV o vs = .fptr (.agg [lv 1 o, tx (bestP vs 4).1, vi (bestP vs 4).2]) 0 := rfl

theorem col_Encode (h : H) {o : Option (List V)} (vs : List Int) : run XP i_column_Column_Encode [colV o vs] h = some (tx (bestP vs 4).1, h) := by
  rw [run_eq, xp_column_Column_Encode]
  simp -implicitDefEqProofs [x_column_Column_Encode, colV_def, tx_plain]
theorem known7_ok (h : H) : run XP i_sleuthlaw07_known [] h = some (vb true, h) := by
  obtain ⟨o1, ho1, e1⟩ := run_New (h := h) (v := .lst 1 (il [5, 5, 5])) (vs := [5, 5, 5]) (.lst _) (by simp)
  have e2 := run_encodeAs (h := h) (v := .lst 1 (il [3, 0, 2, 1])) (vs := [3, 0, 2, 1]) (.lst _) (by simp) 4 ⟨by decide, by decide⟩
  have c1 : chkE [5, 5, 5] = 0 := by decide
  have c2 : chkE [3, 0, 2, 1] = 0 := by decide
  have n4 : (4 : Int).toNat = 4 := rfl
  rw [c1, if_pos rfl] at e1
  rw [c2, if_neg (by decide), if_pos rfl, n4, ex_packed, tx_eq] at e2
  simp only [il, List.map_cons, List.map_nil] at e1 e2
  have e3 := col_Encode h (o := o1) [5, 5, 5]
  rw [ex_best] at e3
  have hc : isNilPtr (colV o1 [5, 5, 5]) = some false := rfl
  have hc1 : arg0 (colV o1 [5, 5, 5]) = some (colV o1 [5, 5, 5]) := rfl
  have hc2 : res0 (colV o1 [5, 5, 5]) = colV o1 [5, 5, 5] := rfl
  have s1 : vs ⟨#[129, 2, 129, 3, 129, 5, 128, 128]⟩ = tx [129, 2, 129, 3, 129, 5, 128, 128] := rfl
  have s2 : vs ⟨#[129, 4, 129, 4, 128, 129, 2, 129, 1, 99]⟩ = tx [129, 4, 129, 4, 128, 129, 2, 129, 1, 99] := rfl
  rw [run_eq, xp_sleuthlaw07_known]
  simp -implicitDefEqProofs [x_sleuthlaw07_known, e1, e2, e3, hc, hc1, hc2, s1, s2, eql_tx, tx_plain]

theorem chk_rep (n : Nat) : chkE (List.replicate n 0) = if n > 4096 then 6 else 0 := by
  rw [chkE, List.length_replicate]
  split
  · rfl
  · have : (List.replicate n (0 : Int)).any wrongB = false := anyW_ok fun x hx => by
      rw [(List.mem_replicate.1 hx).2]
      exact ⟨by decide, by decide⟩
    simp [this]
theorem il_rep (n : Nat) : il (List.replicate n 0) = List.replicate n (vi 0) := by simp [il]

theorem errors_law {o : Option (List V)} {vs : List Int} (ho : o.getD [] = il vs) {kind : Int} (hk : Rng kind) {more : Nat} (hm : more < 256) :
    run XP i_sleuthlaw07_ColumnErrors [lv 1 o, vi kind, vk .u8 more] [] = some (vb true, []) := by
  have hkn := known7_ok []
  rw [run_eq, xp_sleuthlaw07_ColumnErrors]
  by_cases h20 : 20 < vs.length
  · have h20' : 20 < (vs.length : Int) := by omega
    simp -implicitDefEqProofs [x_sleuthlaw07_ColumnErrors, hkn, ho, il_length, h20']
  have h20' : ¬ 20 < (vs.length : Int) := by omega
  have hv : Rd [] 1 (lv 1 o) (il vs) := by rw [← ho]; exact Rd.lv _ _ _
  have e1 := ref_check hv (by omega)
  obtain ⟨o1, ho1, e2⟩ := run_New hv (by omega)
  have e3 := run_encodeAs hv (by omega) kind hk
  -- many rows
  obtain ⟨r, hr⟩ : ∃ r, r = more % 3 := ⟨_, rfl⟩
  have w1 : (more : Int).tmod 3 = (r : Int) := by rw [hr]; rfl
  have w2 : IntKind.i64.wrap (r : Int) = (r : Int) := wrap_i64 (by omega) (by omega)
  obtain ⟨n, hn⟩ : ∃ n, n = 4095 + r := ⟨_, rfl⟩
  have w3 : IntKind.i64.wrap (4095 + (r : Int)) = (n : Int) := by rw [wrap_i64 (by omega) (by omega)]; omega
  have hn1 : n ≤ 17592186044416 := by omega
  have hvm : Rd [.arr false 1 (List.replicate n (vi 0))] 1 (.ref 0 n) (il (List.replicate n 0)) := by
    have := Rd.ref (h := [.arr false 1 (List.replicate n (vi 0))]) (k := 1) 0 false (List.replicate n (vi 0)) rfl
    rw [List.length_replicate] at this
    rwa [il_rep]
  obtain ⟨o2, ho2, e4⟩ := run_New hvm (by simp; omega)
  rw [chk_rep] at e4
  have fin : ∀ (X : V × H → Prop), True := fun _ => trivial
  have hc : ∀ o vs, isNilPtr (colV o vs) = some false := fun _ _ => rfl
  have hc2 : ∀ o vs, res0 (colV o vs) = colV o vs := fun _ _ => rfl
  have last : ∃ (c : V) (e : Int), run XP i_column_New [.ref 0 n] [.arr false 1 (List.replicate n (vi 0))] = some (.tup [c, vi e], [.arr false 1 (List.replicate n (vi 0))]) ∧ (e == 0) = decide ((n : Int) ≤ 4096) ∧ (e == 6) = decide (4096 < (n : Int)) := by
    by_cases hb : n > 4096
    · rw [if_pos hb, if_neg (by decide)] at e4
      refine ⟨_, _, e4, ?_, ?_⟩
      · have : ¬ (n : Int) ≤ 4096 := by omega
        simp [this]
      · have : 4096 < (n : Int) := by omega
        simp [this]
    · rw [if_neg hb, if_pos rfl] at e4
      refine ⟨_, _, e4, ?_, ?_⟩
      · have : (n : Int) ≤ 4096 := by omega
        simp [this]
      · have : ¬ 4096 < (n : Int) := by omega
        simp [this]
  obtain ⟨c4, e4e, e4, q1, q2⟩ := last
  have he : chkE vs = 0 ∨ chkE vs = 2 := by
    rcases chkE_err (vs := vs) with h | h | h
    · exact .inl h
    · rw [chkE, if_neg (by omega)] at h
      split at h <;> cases h
    · exact .inr h
  rcases he with he | he
  · obtain ⟨h1, h2⟩ := chkE_zero he
    rw [he, if_pos rfl] at e2
    rw [he] at e1 e3
    by_cases hk1 : kind < 1
    · rw [if_pos (.inl hk1)] at e3
      simp -implicitDefEqProofs [x_sleuthlaw07_ColumnErrors, hkn, ho, il_length, h20', e1, e2, e3, hk1, hc, hc2, w1, w2, w3, hn1, e4, q1, q2]
    by_cases hk4 : 4 < kind
    · rw [if_pos (.inr hk4)] at e3
      simp -implicitDefEqProofs [x_sleuthlaw07_ColumnErrors, hkn, ho, il_length, h20', e1, e2, e3, hk1, hk4, hc, hc2, w1, w2, w3, hn1, e4, q1, q2]
    · rw [if_neg (by omega), if_pos rfl, tx_eq] at e3
      obtain ⟨k, rfl⟩ : ∃ k : Nat, kind = k := ⟨kind.toNat, by omega⟩
      rw [Int.toNat_natCast] at e3
      have e5 := ref_form hv h2 (by omega) (k := k) (by omega) (by omega)
      simp -implicitDefEqProofs [x_sleuthlaw07_ColumnErrors, hkn, ho, il_length, h20', e1, e2, e3, hk1, hk4, e5, neq_tx, tx_plain, hc, hc2, w1, w2, w3, hn1, e4, q1, q2]
  · rw [he, if_neg (by decide)] at e2
    rw [he] at e1 e3
    by_cases hk1 : kind < 1
    · rw [if_pos (.inl hk1)] at e3
      simp -implicitDefEqProofs [x_sleuthlaw07_ColumnErrors, hkn, ho, il_length, h20', e1, e2, e3, hk1, hc, hc2, w1, w2, w3, hn1, e4, q1, q2]
    by_cases hk4 : 4 < kind
    · rw [if_pos (.inr hk4)] at e3
      simp -implicitDefEqProofs [x_sleuthlaw07_ColumnErrors, hkn, ho, il_length, h20', e1, e2, e3, hk1, hk4, hc, hc2, w1, w2, w3, hn1, e4, q1, q2]
    · rw [if_neg (by omega), if_neg (by decide)] at e3
      simp -implicitDefEqProofs [x_sleuthlaw07_ColumnErrors, hkn, ho, il_length, h20', e1, e2, e3, hk1, hk4, hc, hc2, w1, w2, w3, hn1, e4, q1, q2]
end Go.Proofs.Sl

