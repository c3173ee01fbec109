/- The forms of numbers and strings: what the Writer's methods do. -/
import Derived.Laws.Strings
import Derived.Test.YtaaadjaigfbbjaaSlS
import Derived.Test.YtaaadjaigfbbjaaSlP
set_option linter.unusedVariables false
set_option linter.unusedSimpArgs false
set_option linter.unnecessarySimpa false
namespace Go.Proofs.Sl

/-! ### Whole numbers -/
theorem wrap_u8 (n : Int) : IntKind.u8.wrap n = n % 256 := rfl
theorem wrap_u64 (n : Int) : IntKind.u64.wrap n = n % 18446744073709551616 := rfl
theorem wrap_i64 {n : Int} (h1 : -9223372036854775808 ≤ n) (h2 : n ≤ 9223372036854775807) : IntKind.i64.wrap n = n := by
  have e : IntKind.i64.wrap n = if n % 18446744073709551616 ≥ 9223372036854775808 then n % 18446744073709551616 - 18446744073709551616 else n % 18446744073709551616 := by
    simp [IntKind.wrap, IntKind.bits, IntKind.signed]
  rw [e]
  split <;> omega

theorem shr_nat (m k : Nat) {kk : IntKind} (hk : k ≤ kk.bits) : (m : Int).fdiv (2 ^ min k kk.bits) = ((m / 2 ^ k : Nat) : Int) := by
  rw [Nat.min_eq_left hk, Int.fdiv_eq_ediv_of_nonneg _ (Int.le_of_lt (Int.pow_pos (by decide)))]
  simp

/-! ### Bytes -/
def bl (l : List UInt8) : List V := l.map fun b => .s (.int .u8 b.toNat)
theorem bytesOf_bl : ∀ l : List UInt8, bytesOf (bl l) = some l
  | [] => rfl
  | b :: l => by
    show ob (bytesOf (bl l)) _ = _
    rw [bytesOf_bl l]
    simp
theorem bl_append (a b : List UInt8) : bl (a ++ b) = bl a ++ bl b := by simp [bl]
theorem bl_length (a : List UInt8) : (bl a).length = a.length := by simp [bl]
theorem wide_bl : ∀ l : List UInt8, wide 1 (bl l) = true
  | [] => rfl
  | b :: l => by
    show ((_ : Bool) && wide 1 (bl l)) = true
    rw [wide_bl l]
    rfl
theorem closeds_bl : ∀ l : List UInt8, V.closed.closeds (bl l) = true
  | [] => rfl
  | b :: l => by
    show ((_ : Bool) && V.closed.closeds (bl l)) = true
    rw [closeds_bl l]
    rfl
theorem ofBytes_bl (s : ByteArray) : ofBytes s = bl s.data.toList := rfl

/-- The cell of a writer. -/
def wc (l : List UInt8) : V := if l = [] then vnil else .own 1 (bl l)

/-- k digits to the base 256, the greatest first. -/
def dig (m : Nat) : Nat → List Nat
  | 0 => []
  | k + 1 => m / 256 ^ k % 256 :: dig m k
/-- How many bytes a number has. -/
def blen (m : Nat) : Nat := if h : m = 0 then 0 else blen (m / 256) + 1
termination_by m
decreasing_by omega

theorem run_magnitude (h : H) {n : Int} (h1 : -9223372036854775808 ≤ n) (h2 : n ≤ 9223372036854775807) : run XP i_encoding_magnitude [vi n] h = some (vk .u64 n.natAbs, h) := by
  rw [run_eq, xp_encoding_magnitude]
  by_cases hn : n < 0
  · simp -implicitDefEqProofs [x_encoding_magnitude, hn, wrap_u64]
    omega
  · simp -implicitDefEqProofs [x_encoding_magnitude, hn, wrap_u64]
    omega

theorem blen_zero : blen 0 = 0 := by unfold blen; simp
theorem blen_pos {m : Nat} (h : m ≠ 0) : blen m = blen (m / 256) + 1 := by conv => lhs; unfold blen; simp [h]

theorem num_l0 (base : Nat) (h : H) {β : Type} {f : Ex × St → Option β} {b : Option β} {B : Body} (hB : B = xcode (run XP) loopW base x_encoding_Writer_Number_l0) : ∀ (m k : Nat) (s : Sl), s 6 = vk .u64 m → s 5 = vi k → m < 18446744073709551616 → k + blen m ≤ 100 →
    (∀ s' : Sl, s' 5 = vi (k + blen m : Nat) → (∀ t, t < 5 → s' t = s t) → f (.exit 0, ⟨s', h⟩) = b) → ob (loopW B ⟨s, h⟩) f = b := by
  have step : ∀ st, B st = xcode (run XP) loopW base x_encoding_Writer_Number_l0 st := fun st => by rw [hB]
  intro m
  induction m using Nat.strongRecOn with
  | ind m ih =>
    intro k s h6 h5 hm hk kk
    rw [loopW_cps]
    by_cases h0 : m = 0
    · subst h0
      simp -implicitDefEqProofs [step, x_encoding_Writer_Number_l0, h6]
      refine kk _ ?_ fun t ht => ?_
      · simp [h5, blen_zero]
      · simp (disch := omega) only [upd_ne]
    · have hp : 0 < m := by omega
      rw [blen_pos h0] at hk kk
      simp -implicitDefEqProofs [step, x_encoding_Writer_Number_l0, h6, h5, hp]
      rw [wrap_i64 (by omega) (by omega)]
      refine ih (m / 256) (by omega) (k + 1) _ ?_ ?_ (by omega) (by omega) fun s2 h2 h3 => kk s2 ?_ fun t ht => (h3 t ht).trans ?_
      · simp only [upd_same]
        rw [shr_nat m 8 (by decide)]
      · simp
      · rw [h2]
        have e : k + 1 + blen (m / 256) = k + (blen (m / 256) + 1) := by omega
        rw [e]
      · simp (disch := omega) only [upd_ne]

/-- A digit, turned over where the number is less than zero. -/
def flipB (neg : Bool) (d : Nat) : UInt8 := UInt8.ofNat (if neg = true then 255 - d else d)
theorem flip_ok (neg : Bool) (d : Nat) (hd : d < 256) : xorI .u8 (d : Int) (if neg = true then 255 else 0) = ((flipB neg d).toNat : Int) := by
  have : ∀ neg : Bool, ∀ d : Fin 256, xorI .u8 (d.1 : Int) (if neg = true then 255 else 0) = ((flipB neg d.1).toNat : Int) := by decide +kernel
  exact this neg ⟨d, hd⟩

theorem num_l1 (base : Nat) (h : H) (l : Nat) (hl : l < h.length) (neg : Bool) (m : Nat) {β : Type} {f : Ex × St → Option β} {b : Option β} {B : Body} (hB : B = xcode (run XP) loopW base x_encoding_Writer_Number_l1) : ∀ (k : Nat) (bs : List UInt8) (s : Sl), s 0 = .ptr l 0 → s 4 = vk .u64 m → s 7 = vk .u8 (if neg = true then 255 else 0) → s 8 = vi ((k : Int) - 1) → k ≤ 8 → bs ≠ [] →
    bs.length + k ≤ 100000000001000 → (∀ s' : Sl, (∀ t, t < 4 → s' t = s t) → f (.exit 2, ⟨s', h.set l (.box false [wc (bs ++ (dig m k).map (flipB neg))])⟩) = b) →
    ob (loopW B ⟨s, h.set l (.box false [wc bs])⟩) f = b := by
  have step : ∀ st, B st = xcode (run XP) loopW base x_encoding_Writer_Number_l1 st := fun st => by rw [hB]
  intro k
  induction k with
  | zero =>
    intro bs s h0 h4 h7 h8 hk hb hs kk
    rw [loopW_cps]
    simp -implicitDefEqProofs [step, x_encoding_Writer_Number_l1, h8]
    simp only [dig, List.map_nil, List.append_nil] at kk
    exact kk _ fun t ht => by simp (disch := omega) only [upd_ne]
  | succ k ih =>
    intro bs s h0 h4 h7 h8 hk hb hs kk
    have hb' : wc bs = .own 1 (bl bs) := by simp [wc, hb]
    rw [loopW_cps]
    have h8' : s 8 = vi k := by rw [h8]; congr 2; omega
    have w8 : IntKind.i64.wrap (8 * (k : Int)) = 8 * (k : Int) := wrap_i64 (by omega) (by omega)
    have p8 : (0 : Int) ≤ 8 * (k : Int) := by omega
    have hs' : bs.length ≤ 140737488355327 := by omega
    have hd : m / 256 ^ k % 256 < 256 := Nat.mod_lt _ (by decide)
    have hmin : min (8 * (k : Int)).toNat IntKind.u64.bits = 8 * k := by
      have : IntKind.u64.bits = 64 := rfl
      rw [this]
      omega
    have hpow : (2 : Nat) ^ (8 * k) = 256 ^ k := by rw [Nat.pow_mul]
    have hv : IntKind.u8.wrap ((m : Int).fdiv (2 ^ (8 * k))) = ((m / 256 ^ k % 256 : Nat) : Int) := by
      rw [wrap_u8, Int.fdiv_eq_ediv_of_nonneg _ (Int.le_of_lt (Int.pow_pos (by decide)))]
      have : ((2 : Int) ^ (8 * k)) = ((256 ^ k : Nat) : Int) := by rw [← hpow]; simp
      rw [this]
      rfl
    have hf := flip_ok neg _ hd
    generalize hq : m / 256 ^ k % 256 = q at hv hf hd
    simp -implicitDefEqProofs [step, x_encoding_Writer_Number_l1, h0, h4, h7, h8', hb', hl, bl_length, w8, p8, hs', hmin, hv, hf]
    have hcell : V.own 1 (bl bs ++ [vk .u8 ((flipB neg q).toNat : Int)]) = wc (bs ++ [flipB neg q]) := by simp [wc, bl]
    rw [hcell]
    refine ih (bs ++ [flipB neg q]) _ ?_ ?_ ?_ ?_ (by omega) (by simp) (by simp; omega) fun s' hs' => ?_
    · simp [h0]
    · simp [h4]
    · simp [h7]
    · simp only [upd_same]
      rw [wrap_i64 (by omega) (by omega)]
    · have := kk s' fun t ht => (hs' t ht).trans (by simp (disch := omega) only [upd_ne])
      simpa [dig, hq] using this

theorem blen_le : ∀ (k m : Nat), m < 256 ^ k → blen m ≤ k
  | 0, m, h => by
    obtain rfl : m = 0 := by simpa using h
    rw [blen_zero]
    exact Nat.le_refl _
  | k + 1, m, h => by
    by_cases h0 : m = 0
    · subst h0
      rw [blen_zero]
      omega
    · rw [blen_pos h0]
      have := blen_le k (m / 256) (by rw [Nat.pow_succ] at h; omega)
      omega

/-- The form of a number. -/
def fNum (n : Int) : List UInt8 := (if n < 0 then UInt8.ofNat (128 - blen n.natAbs) else UInt8.ofNat (128 + blen n.natAbs)) :: (dig n.natAbs (blen n.natAbs)).map (flipB (decide (n < 0)))
theorem dig_length (m : Nat) : ∀ k, (dig m k).length = k
  | 0 => rfl
  | k + 1 => by simp [dig, dig_length m k]
theorem fNum_length (n : Int) : (fNum n).length = 1 + blen n.natAbs := by simp [fNum, dig_length, Nat.add_comm]

/-- An int. -/
def Rng (n : Int) : Prop := -9223372036854775808 ≤ n ∧ n ≤ 9223372036854775807
theorem Rng.blen {n : Int} (h : Rng n) : Sl.blen n.natAbs ≤ 8 := blen_le 8 _ (by have := h.1; have := h.2; omega)
theorem fNum_le {n : Int} (h : Rng n) : (fNum n).length ≤ 9 := by rw [fNum_length]; have := h.blen; omega

theorem wc_own {bs : List UInt8} (h : bs ≠ []) : wc bs = .own 1 (bl bs) := by simp [wc, h]

theorem W_number {h : H} {l : Nat} {bs : List UInt8} {n : Int} (hl : l < h.length) (hn : Rng n) (hs : bs.length ≤ 100000000000000) :
    run XP i_encoding_Writer_Number [.ptr l 0, vi n] (h.set l (.box false [wc bs])) = some (.tup [], h.set l (.box false [wc (bs ++ fNum n)])) := by
  have hb := hn.blen
  rw [run_eq, xp_encoding_Writer_Number]
  have hmag := run_magnitude (h.set l (.box false [wc bs])) hn.1 hn.2
  simp -implicitDefEqProofs [x_encoding_Writer_Number, hmag]
  refine num_l0 _ _ rfl n.natAbs 0 _ ?_ ?_ ?_ ?_ fun s' h5 hf => ?_
  · simp
  · simp
  · have := hn.1; have := hn.2; omega
  · omega
  have g0 := hf 0 (by omega)
  have g1 := hf 1 (by omega)
  have g4 := hf 4 (by omega)
  simp at g0 g1 g4
  have hlim : bs.length ≤ 140737488355327 := by omega
  obtain ⟨c1, hc1⟩ : ∃ c : UInt8, c = UInt8.ofNat (128 - blen n.natAbs) := ⟨_, rfl⟩
  obtain ⟨c2, hc2⟩ : ∃ c : UInt8, c = UInt8.ofNat (128 + blen n.natAbs) := ⟨_, rfl⟩
  have w1 : IntKind.u8.wrap (IntKind.i64.wrap (128 - (blen n.natAbs : Int))) = (c1.toNat : Int) := by
    rw [wrap_i64 (by omega) (by omega), wrap_u8, hc1]
    simp
    omega
  have w2 : IntKind.u8.wrap (IntKind.i64.wrap (128 + (blen n.natAbs : Int))) = (c2.toNat : Int) := by
    rw [wrap_i64 (by omega) (by omega), wrap_u8, hc2]
    simp
  have w3 : IntKind.i64.wrap ((blen n.natAbs : Int) - 1) = (blen n.natAbs : Int) - 1 := wrap_i64 (by omega) (by omega)
  have hcell : ∀ b : UInt8, V.own 1 (bl bs ++ [vk .u8 (b.toNat : Int)]) = wc (bs ++ [b]) := fun b => by simp [wc, bl]
  have hcell0 : ∀ b : UInt8, V.own 1 ([vk .u8 (b.toNat : Int)]) = wc ([b]) := fun b => by simp [wc, bl]
  have fin : ∀ (neg : Bool) (c : UInt8) (s' : Sl) (t : H), neg = decide (n < 0) → c = (if neg = true then c1 else c2) → s' 0 = .ptr l 0 → s' 4 = vk .u64 n.natAbs → s' 7 = vk .u8 (if neg = true then 255 else 0) → s' 8 = vi ((blen n.natAbs : Int) - 1) →
      (ob (loopW (xcode (run XP) loopW h.length x_encoding_Writer_Number_l1) ⟨s', (h ++ t).set l (.box false [wc (bs ++ [c])])⟩) fun a => backR [] (List.set h l (O.box false [wc bs])) (outOf 2 a)) = some (.tup [], h.set l (.box false [wc (bs ++ fNum n)])) := by
    intro neg c s' t hneg hc e0 e4 e7 e8
    refine num_l1 _ (h ++ t) l (by simp; omega) neg n.natAbs rfl (blen n.natAbs) (bs ++ [c]) _ e0 e4 e7 e8 hb (by simp) (by simp; omega) fun s2 h2 => ?_
    rw [set_left hl]
    simp -implicitDefEqProofs [fNum, hneg, hc, hc1, hc2]
  by_cases hb0 : bs = []
  · subst hb0
    have hw : wc [] = vnil := by simp [wc]
    rw [hw] at fin
    simp only [set_left hl, List.nil_append] at fin
    by_cases hneg : n < 0
    · simp -implicitDefEqProofs [h5, g0, g1, g4, hneg, hl, hw, w1, w3, hcell0, at_left, set_left]
      apply fin true c1 _ [.dead] <;> simp [g0, g4, hneg]
    · simp -implicitDefEqProofs [h5, g0, g1, g4, hneg, hl, hw, w2, w3, hcell0, at_left, set_left]
      apply fin false c2 _ [.dead] <;> simp [g0, g4, hneg]
  · have hw := wc_own hb0
    have fin' := fun neg c s' => fin neg c s' []
    rw [List.append_nil, hw] at fin'
    by_cases hneg : n < 0
    · simp -implicitDefEqProofs [h5, g0, g1, g4, hneg, hl, hw, w1, w3, hlim, bl_length, hcell]
      apply fin' true c1 <;> simp [g0, g4, hneg]
    · simp -implicitDefEqProofs [h5, g0, g1, g4, hneg, hl, hw, w2, w3, hlim, bl_length, hcell]
      apply fin' false c2 <;> simp [g0, g4, hneg]
end Go.Proofs.Sl

/- What the other methods of the Writer do. -/
namespace Go.Proofs.Sl

/-- The bytes of a text. -/
def bts (s : ByteArray) : List UInt8 := s.data.toList
theorem bts_length (s : ByteArray) : (bts s).length = s.size := by rw [bts, Array.length_toList]; rfl
theorem ofBytes_bts (s : ByteArray) : ofBytes s = bl (bts s) := rfl
theorem bl_nil {l : List UInt8} : bl l = [] ↔ l = [] := by simp [bl]
/-- The form of a text. -/
def fText (s : ByteArray) : List UInt8 := fNum s.size ++ bts s
theorem fText_length (s : ByteArray) : (fText s).length = (fNum s.size).length + s.size := by
  rw [fText, List.length_append, bts_length]
theorem rng_nat {n : Nat} (h : n ≤ 1000000000000000) : Rng n := ⟨by omega, by omega⟩

theorem W_text {h : H} {l : Nat} {bs : List UInt8} {s : ByteArray} (hl : l < h.length) (hs : bs.length + s.size ≤ 90000000000000) :
    run XP i_encoding_Writer_Text [.ptr l 0, vs s] (h.set l (.box false [wc bs])) = some (.tup [], h.set l (.box false [wc (bs ++ fText s)])) := by
  have hr : Rng s.size := rng_nat (by omega)
  have hn := W_number (h := h) (l := l) (bs := bs) hl hr (by omega)
  have hle := fNum_le hr
  have hne : bs ++ fNum s.size ≠ [] := by simp [fNum]
  have hw := wc_own hne
  have hlim : bs.length + (fNum s.size).length + s.size ≤ 140737488355328 := by omega
  have hlim' : bs.length + (fNum s.size).length ≤ 140737488355328 := by omega
  rw [run_eq, xp_encoding_Writer_Text]
  by_cases h0 : bts s = []
  · simp -implicitDefEqProofs [x_encoding_Writer_Text, hn, hl, hw, ofBytes_bts, wide_bl, closeds_bl, bl_length, bts_length, hlim, hlim', fText, bl_nil, h0]
  · have hne2 : bs ++ (fNum s.size ++ bts s) ≠ [] := by simp [fNum]
    have hz : ¬ s = ByteArray.empty := fun e => h0 (by rw [e]; rfl)
    simp -implicitDefEqProofs [x_encoding_Writer_Text, hn, hl, hw, ofBytes_bts, wide_bl, closeds_bl, bl_length, bts_length, hlim, hlim', fText, bl_nil, h0, hz, wc_own hne2]
    simp only [bl, List.map_append, List.append_assoc]

/-- The same where other objects follow. -/
theorem W_number_r {h t : H} {l : Nat} {bs : List UInt8} {n : Int} (hl : l < h.length) (hn : Rng n) (hs : bs.length ≤ 100000000000000) :
    run XP i_encoding_Writer_Number [.ptr l 0, vi n] (h.set l (.box false [wc bs]) ++ t) = some (.tup [], h.set l (.box false [wc (bs ++ fNum n)]) ++ t) := by
  have := W_number (h := h ++ t) (l := l) (bs := bs) (by simp; omega) hn hs
  simpa only [set_left hl] using this
theorem W_text_r {h t : H} {l : Nat} {bs : List UInt8} {s : ByteArray} (hl : l < h.length) (hs : bs.length + s.size ≤ 90000000000000) :
    run XP i_encoding_Writer_Text [.ptr l 0, vs s] (h.set l (.box false [wc bs]) ++ t) = some (.tup [], h.set l (.box false [wc (bs ++ fText s)]) ++ t) := by
  have := W_text (h := h ++ t) (l := l) (bs := bs) (s := s) (by simp; omega) hs
  simpa only [set_left hl] using this

/-- The forms of numbers. -/
def fNums : List Int → List UInt8
  | [] => []
  | n :: r => fNum n ++ fNums r
/-- A list of ints. -/
def il (l : List Int) : List V := l.map vi
theorem fNums_le : ∀ {ns : List Int}, (∀ n ∈ ns, Rng n) → (fNums ns).length ≤ 9 * ns.length
  | [], _ => by simp [fNums]
  | n :: r, h => by
    have h1 := fNum_le (h n (by simp))
    have h2 := fNums_le (ns := r) fun m hm => h m (List.mem_cons_of_mem _ hm)
    simp [fNums]
    omega

theorem numbers_l0 (base : Nat) (h : H) (l : Nat) (hl : l < h.length) (ns : List Int) (hn : ∀ n ∈ ns, Rng n) (hlen : ns.length ≤ 1000) {β : Type} {f : Ex × St → Option β} {b : Option β} {B : Body} (hB : B = xcode (run XP) loopW base x_encoding_Writer_numbers_l0) :
    ∀ (r : List Int) (k : Nat) (bs : List UInt8) (s : Sl), ns.drop k = r → s 0 = .ptr l 0 → s 6 = .lst 1 (il ns) → s 7 = vi ns.length → s 8 = vi k → bs.length + 9 * r.length ≤ 80000000000000 →
    (∀ s' : Sl, f (.exit 0, ⟨s', h.set l (.box false [wc (bs ++ fNums r)])⟩) = b) → ob (loopW B ⟨s, h.set l (.box false [wc bs])⟩) f = b := by
  have step : ∀ st, B st = xcode (run XP) loopW base x_encoding_Writer_numbers_l0 st := fun st => by rw [hB]
  intro r
  induction r with
  | nil =>
    intro k bs s hd h0 h6 h7 h8 hs kk
    have hk : ns.length ≤ k := by simpa using hd
    rw [loopW_cps]
    have hlt : ¬ ((k : Int) < (ns.length : Int)) := by omega
    simp -implicitDefEqProofs [step, x_encoding_Writer_numbers_l0, h7, h8, hlt]
    simpa [fNums] using kk _
  | cons n r ih =>
    intro k bs s hd h0 h6 h7 h8 hs kk
    have hk : k < ns.length := by
      by_cases hk : k < ns.length
      · exact hk
      · rw [List.drop_of_length_le (by omega)] at hd; cases hd
    have hg : ns[k]? = some n := by
      have := congrArg (·[0]?) hd
      simpa using this
    have hd' : ns.drop (k + 1) = r := by
      have := congrArg List.tail hd
      simpa using this
    have hr := hn n (List.mem_of_getElem? hg)
    have hle := fNum_le hr
    rw [loopW_cps]
    have hlt : ((k : Int) < (ns.length : Int)) := by omega
    simp at hs
    have hnum := W_number (h := h) (l := l) (bs := bs) hl hr (by omega)
    have hel : (il ns)[k]? = some (vi n) := by simp [il, hg]
    simp -implicitDefEqProofs [step, x_encoding_Writer_numbers_l0, h0, h6, h7, h8, hlt, hk, hel, hnum]
    refine ih (k + 1) _ _ hd' ?_ ?_ ?_ ?_ ?_ ?_
    · simp [h0]
    · simp [h6]
    · simp [h7]
    · simp only [upd_same]
      rw [wrap_i64 (by omega) (by omega)]
      simp
    · simp
      omega
    · intro s'
      simpa [fNums] using kk s'

theorem W_numbers {h : H} {l : Nat} {bs : List UInt8} {ns : List Int} (hl : l < h.length) (hn : ∀ n ∈ ns, Rng n) (hlen : ns.length ≤ 1000) (hs : bs.length ≤ 70000000000000) :
    run XP i_encoding_Writer_numbers [.ptr l 0, .lst 1 (il ns)] (h.set l (.box false [wc bs])) = some (.tup [], h.set l (.box false [wc (bs ++ fNums ns)])) := by
  rw [run_eq, xp_encoding_Writer_numbers]
  simp -implicitDefEqProofs [x_encoding_Writer_numbers]
  refine numbers_l0 _ h l hl ns hn hlen rfl ns 0 bs _ rfl ?_ ?_ ?_ ?_ (by omega) fun s' => ?_
  · simp
  · simp
  · simp [il]
  · simp
  · simp -implicitDefEqProofs
theorem W_numbers_r {h t : H} {l : Nat} {bs : List UInt8} {ns : List Int} (hl : l < h.length) (hn : ∀ n ∈ ns, Rng n) (hlen : ns.length ≤ 1000) (hs : bs.length ≤ 70000000000000) :
    run XP i_encoding_Writer_numbers [.ptr l 0, .lst 1 (il ns)] (h.set l (.box false [wc bs]) ++ t) = some (.tup [], h.set l (.box false [wc (bs ++ fNums ns)]) ++ t) := by
  have := W_numbers (h := h ++ t) (l := l) (bs := bs) (ns := ns) (by simp; omega) hn hlen hs
  simpa only [set_left hl] using this

/-! ### Values of api's types -/
theorem ne_len {l : Nat} {h : H} (hl : l < h.length) : h.length ≠ l := by omega

def fBool (b : Bool) : List UInt8 := fNum (if b = true then 1 else 0)
theorem W_bool {h : H} {l : Nat} {bs : List UInt8} {b : Bool} (hl : l < h.length) (hs : bs.length ≤ 70000000000000) :
    run XP i_encoding_Writer_Bool [.ptr l 0, vb b] (h.set l (.box false [wc bs])) = some (.tup [], h.set l (.box false [wc (bs ++ fBool b)])) := by
  have h0 := W_number (h := h) (l := l) (bs := bs) (n := 0) hl ⟨by decide, by decide⟩ (by omega)
  have h1 := W_number (h := h) (l := l) (bs := bs) (n := 1) hl ⟨by decide, by decide⟩ (by omega)
  rw [run_eq, xp_encoding_Writer_Bool]
  cases b <;> simp -implicitDefEqProofs [x_encoding_Writer_Bool, h0, h1, fBool]
theorem W_bool_r {h t : H} {l : Nat} {bs : List UInt8} {b : Bool} (hl : l < h.length) (hs : bs.length ≤ 70000000000000) :
    run XP i_encoding_Writer_Bool [.ptr l 0, vb b] (h.set l (.box false [wc bs]) ++ t) = some (.tup [], h.set l (.box false [wc (bs ++ fBool b)]) ++ t) := by
  have := W_bool (h := h ++ t) (l := l) (bs := bs) (b := b) (by simp; omega) hs
  simpa only [set_left hl] using this
theorem fBool_le (b : Bool) : (fBool b).length ≤ 9 := by cases b <;> exact fNum_le ⟨by decide, by decide⟩
theorem fText_le {s : ByteArray} {m : Nat} (h : s.size ≤ m) (hm : m ≤ 1000000000000) : (fText s).length ≤ m + 9 := by
  rw [fText_length]
  have := fNum_le (n := s.size) (rng_nat (by omega))
  omega

/-- A value. -/
structure AV where
  k : Int
  t : ByteArray
  n : Int
def AV.v (a : AV) : V := .agg [vi a.k, vs a.t, vi a.n]
structure AV.Ok (a : AV) : Prop where
  k : Rng a.k
  t : a.t.size ≤ 5000
  n : Rng a.n
def AV.f (a : AV) : List UInt8 := fNum a.k ++ (fText a.t ++ fNum a.n)
theorem AV.le {a : AV} (h : a.Ok) : a.f.length ≤ 6000 := by
  have e1 := fNum_le h.k
  have e2 := fText_le h.t (by omega)
  have e3 := fNum_le h.n
  simp [AV.f]
  omega
theorem W_value {h : H} {l : Nat} {bs : List UInt8} {a : AV} (hl : l < h.length) (ha : a.Ok) (hs : bs.length ≤ 80000000000000) :
    run XP i_encoding_Writer_Value [.ptr l 0, a.v] (h.set l (.box false [wc bs])) = some (.tup [], h.set l (.box false [wc (bs ++ a.f)])) := by
  have e1 := fNum_le ha.k
  have e2 := fText_le ha.t (by omega)
  have e3 := ha.t
  have e4 := ha.k
  have e5 := ha.n
  rw [run_eq, xp_encoding_Writer_Value]
  simp -implicitDefEqProofs (disch := first | assumption | omega | (simp; done) | (simp; omega)) [x_encoding_Writer_Value, AV.v, W_number_r, W_text_r, AV.f, noOwn]
theorem W_value_r {h t : H} {l : Nat} {bs : List UInt8} {a : AV} (hl : l < h.length) (ha : a.Ok) (hs : bs.length ≤ 80000000000000) :
    run XP i_encoding_Writer_Value [.ptr l 0, a.v] (h.set l (.box false [wc bs]) ++ t) = some (.tup [], h.set l (.box false [wc (bs ++ a.f)]) ++ t) := by
  have := W_value (h := h ++ t) (l := l) (bs := bs) (a := a) (by simp; omega) ha hs
  simpa only [set_left hl] using this
/-- An attribute. -/
structure AT where
  key : ByteArray
  val : AV
def AT.v (a : AT) : V := .agg [vs a.key, vi a.val.k, vs a.val.t, vi a.val.n]
structure AT.Ok (a : AT) : Prop where
  key : a.key.size ≤ 5000
  val : a.val.Ok
def AT.f (a : AT) : List UInt8 := fText a.key ++ a.val.f
theorem AT.le {a : AT} (h : a.Ok) : a.f.length ≤ 12000 := by
  have e1 := fText_le h.key (by omega)
  have e2 := AV.le h.val
  simp [AT.f]
  omega
theorem W_attr {h : H} {l : Nat} {bs : List UInt8} {a : AT} (hl : l < h.length) (ha : a.Ok) (hs : bs.length ≤ 70000000000000) :
    run XP i_encoding_Writer_Attr [.ptr l 0, a.v] (h.set l (.box false [wc bs])) = some (.tup [], h.set l (.box false [wc (bs ++ a.f)])) := by
  have e2 := fText_le ha.key (by omega)
  have e3 := ha.key
  have hv : ∀ t : H, run XP i_encoding_Writer_Value [.ptr l 0, .agg [vi a.val.k, vs a.val.t, vi a.val.n]] (h.set l (.box false [wc (bs ++ fText a.key)]) ++ t) = some (.tup [], h.set l (.box false [wc (bs ++ fText a.key ++ a.val.f)]) ++ t) := fun t =>
    W_value_r hl ha.val (by simp; omega)
  rw [run_eq, xp_encoding_Writer_Attr]
  simp -implicitDefEqProofs (disch := first | assumption | omega | (simp; done) | (simp; omega)) [x_encoding_Writer_Attr, AT.v, hv, W_text_r, AT.f, noOwn]
theorem W_attr_r {h t : H} {l : Nat} {bs : List UInt8} {a : AT} (hl : l < h.length) (ha : a.Ok) (hs : bs.length ≤ 70000000000000) :
    run XP i_encoding_Writer_Attr [.ptr l 0, a.v] (h.set l (.box false [wc bs]) ++ t) = some (.tup [], h.set l (.box false [wc (bs ++ a.f)]) ++ t) := by
  have := W_attr (h := h ++ t) (l := l) (bs := bs) (a := a) (by simp; omega) ha hs
  simpa only [set_left hl] using this
/-- A reference. -/
structure RF where
  t : Int
  i : Int
def RF.v (a : RF) : V := .agg [vi a.t, vi a.i]
structure RF.Ok (a : RF) : Prop where
  t : Rng a.t
  i : Rng a.i
def RF.f (a : RF) : List UInt8 := fNums [a.t, a.i]
theorem RF.le {a : RF} (h : a.Ok) : a.f.length ≤ 18 := fNums_le (ns := [a.t, a.i]) (by simp [h.t, h.i])
theorem W_ref {h : H} {l : Nat} {bs : List UInt8} {a : RF} (hl : l < h.length) (ha : a.Ok) (hs : bs.length ≤ 70000000000000) :
    run XP i_encoding_Writer_Ref [.ptr l 0, a.v] (h.set l (.box false [wc bs])) = some (.tup [], h.set l (.box false [wc (bs ++ a.f)])) := by
  have hv : ∀ t : H, run XP i_encoding_Writer_numbers [.ptr l 0, .lst 1 [vi a.t, vi a.i]] (h.set l (.box false [wc bs]) ++ t) = some (.tup [], h.set l (.box false [wc (bs ++ a.f)]) ++ t) := fun t =>
    W_numbers_r (ns := [a.t, a.i]) hl (by simp [ha.t, ha.i]) (by simp) (by omega)
  rw [run_eq, xp_encoding_Writer_Ref]
  simp -implicitDefEqProofs (disch := first | assumption | omega | (simp; done) | (simp; omega)) [x_encoding_Writer_Ref, RF.v, hv, noOwn]
theorem W_ref_r {h t : H} {l : Nat} {bs : List UInt8} {a : RF} (hl : l < h.length) (ha : a.Ok) (hs : bs.length ≤ 70000000000000) :
    run XP i_encoding_Writer_Ref [.ptr l 0, a.v] (h.set l (.box false [wc bs]) ++ t) = some (.tup [], h.set l (.box false [wc (bs ++ a.f)]) ++ t) := by
  have := W_ref (h := h ++ t) (l := l) (bs := bs) (a := a) (by simp; omega) ha hs
  simpa only [set_left hl] using this
/-- An exchange. -/
structure EX where
  fr : Int
  to : Int
  sent : Int
  rcv : Int
  least : Int
def EX.v (a : EX) : V := .agg [vi a.fr, vi a.to, vi a.sent, vi a.rcv, vi a.least]
structure EX.Ok (a : EX) : Prop where
  fr : Rng a.fr
  to : Rng a.to
  sent : Rng a.sent
  rcv : Rng a.rcv
  least : Rng a.least
def EX.f (a : EX) : List UInt8 := fNums [a.fr, a.to, a.sent, a.rcv, a.least]
theorem EX.le {a : EX} (h : a.Ok) : a.f.length ≤ 45 := fNums_le (ns := [a.fr, a.to, a.sent, a.rcv, a.least]) (by simp [h.fr, h.to, h.sent, h.rcv, h.least])
theorem W_exchange {h : H} {l : Nat} {bs : List UInt8} {a : EX} (hl : l < h.length) (ha : a.Ok) (hs : bs.length ≤ 70000000000000) :
    run XP i_encoding_Writer_Exchange [.ptr l 0, a.v] (h.set l (.box false [wc bs])) = some (.tup [], h.set l (.box false [wc (bs ++ a.f)])) := by
  have hv : ∀ t : H, run XP i_encoding_Writer_numbers [.ptr l 0, .lst 1 [vi a.fr, vi a.to, vi a.sent, vi a.rcv, vi a.least]] (h.set l (.box false [wc bs]) ++ t) = some (.tup [], h.set l (.box false [wc (bs ++ a.f)]) ++ t) := fun t =>
    W_numbers_r (ns := [a.fr, a.to, a.sent, a.rcv, a.least]) hl (by simp [ha.fr, ha.to, ha.sent, ha.rcv, ha.least]) (by simp) (by omega)
  rw [run_eq, xp_encoding_Writer_Exchange]
  simp -implicitDefEqProofs (disch := first | assumption | omega | (simp; done) | (simp; omega)) [x_encoding_Writer_Exchange, EX.v, hv, noOwn]
theorem W_exchange_r {h t : H} {l : Nat} {bs : List UInt8} {a : EX} (hl : l < h.length) (ha : a.Ok) (hs : bs.length ≤ 70000000000000) :
    run XP i_encoding_Writer_Exchange [.ptr l 0, a.v] (h.set l (.box false [wc bs]) ++ t) = some (.tup [], h.set l (.box false [wc (bs ++ a.f)]) ++ t) := by
  have := W_exchange (h := h ++ t) (l := l) (bs := bs) (a := a) (by simp; omega) ha hs
  simpa only [set_left hl] using this
/-- A message: its kind, two references, an exchange. -/
structure MS where
  k : Int
  a : RF
  b : RF
  x : EX
def MS.v (a : MS) : V := .agg [vi a.k, vi a.a.t, vi a.a.i, vi a.b.t, vi a.b.i, vi a.x.fr, vi a.x.to, vi a.x.sent, vi a.x.rcv, vi a.x.least]
structure MS.Ok (m : MS) : Prop where
  k : Rng m.k
  a : m.a.Ok
  b : m.b.Ok
  x : m.x.Ok
def MS.f (a : MS) : List UInt8 := fNum a.k ++ (a.a.f ++ (a.b.f ++ a.x.f))
theorem MS.le {a : MS} (h : a.Ok) : a.f.length ≤ 90 := by
  have e1 := fNum_le h.k
  have e2 := RF.le h.a
  have e3 := RF.le h.b
  have e4 := EX.le h.x
  simp [MS.f]
  omega
theorem W_message {h : H} {l : Nat} {bs : List UInt8} {a : MS} (hl : l < h.length) (ha : a.Ok) (hs : bs.length ≤ 60000000000000) :
    run XP i_encoding_Writer_Message [.ptr l 0, a.v] (h.set l (.box false [wc bs])) = some (.tup [], h.set l (.box false [wc (bs ++ a.f)])) := by
  have e1 := fNum_le ha.k
  have e2 := RF.le ha.a
  have e3 := RF.le ha.b
  have e4 := ha.k
  have h1 : ∀ t : H, run XP i_encoding_Writer_Ref [.ptr l 0, .agg [vi a.a.t, vi a.a.i]] (h.set l (.box false [wc (bs ++ fNum a.k)]) ++ t) = some (.tup [], h.set l (.box false [wc (bs ++ fNum a.k ++ a.a.f)]) ++ t) := fun t =>
    W_ref_r hl ha.a (by simp; omega)
  have h2 : ∀ t : H, run XP i_encoding_Writer_Ref [.ptr l 0, .agg [vi a.b.t, vi a.b.i]] (h.set l (.box false [wc (bs ++ (fNum a.k ++ a.a.f))]) ++ t) = some (.tup [], h.set l (.box false [wc (bs ++ (fNum a.k ++ a.a.f) ++ a.b.f)]) ++ t) := fun t =>
    W_ref_r hl ha.b (by simp; omega)
  have h3 : ∀ t : H, run XP i_encoding_Writer_numbers [.ptr l 0, .lst 1 [vi a.x.fr, vi a.x.to, vi a.x.sent, vi a.x.rcv, vi a.x.least]] (h.set l (.box false [wc (bs ++ (fNum a.k ++ (a.a.f ++ a.b.f)))]) ++ t) = some (.tup [], h.set l (.box false [wc (bs ++ (fNum a.k ++ (a.a.f ++ a.b.f)) ++ a.x.f)]) ++ t) := fun t =>
    W_numbers_r (ns := [a.x.fr, a.x.to, a.x.sent, a.x.rcv, a.x.least]) hl (by simp [ha.x.fr, ha.x.to, ha.x.sent, ha.x.rcv, ha.x.least]) (by simp) (by simp; omega)
  rw [run_eq, xp_encoding_Writer_Message]
  simp -implicitDefEqProofs (disch := first | assumption | omega | (simp; done) | (simp; omega)) [x_encoding_Writer_Message, MS.v, h1, h2, h3, W_number_r, noOwn, MS.f]
theorem W_message_r {h t : H} {l : Nat} {bs : List UInt8} {a : MS} (hl : l < h.length) (ha : a.Ok) (hs : bs.length ≤ 60000000000000) :
    run XP i_encoding_Writer_Message [.ptr l 0, a.v] (h.set l (.box false [wc bs]) ++ t) = some (.tup [], h.set l (.box false [wc (bs ++ a.f)]) ++ t) := by
  have := W_message (h := h ++ t) (l := l) (bs := bs) (a := a) (by simp; omega) ha hs
  simpa only [set_left hl] using this
end Go.Proofs.Sl

/- What the Writer does with lists and spans. -/
namespace Go.Proofs.Sl

/-- The form of a list. -/
def fList {α : Type} (f : α → List UInt8) (l : List α) : List UInt8 := fNum l.length ++ l.flatMap f
theorem flatMap_le {α : Type} {f : α → List UInt8} {n : Nat} : ∀ {l : List α}, (∀ x ∈ l, (f x).length ≤ n) → (l.flatMap f).length ≤ n * l.length
  | [], _ => by simp
  | x :: l, h => by
    have h1 := h x (by simp)
    have h2 := flatMap_le (l := l) fun y hy => h y (List.mem_cons_of_mem _ hy)
    simp only [List.flatMap_cons, List.length_append, List.length_cons, Nat.mul_add, Nat.mul_one]
    omega

theorem listAT_l0 (base : Nat) (h : H) (l : Nat) (hl : l < h.length) (es : List AT) (hok : ∀ e ∈ es, e.Ok) (hlen : es.length ≤ 1000) (o : Option (List V)) (ho : o.getD [] = es.map AT.v) {β : Type} {f : Ex × St → Option β} {b : Option β} {B : Body}
    (hB : B = xcode (run XP) loopW base x_encoding_list_api_Attr_l0) : ∀ (r : List AT) (k : Nat) (bs : List UInt8) (t : H) (s : Sl), es.drop k = r → base ≤ h.length + t.length → s 2 = .fn i_encoding_Writer_Attr [.ptr l 0] [] → s 12 = lv 4 o → s 13 = vi es.length → s 14 = vi k →
    bs.length + 12000 * r.length ≤ 60000000000000 → (∀ (s' : Sl) (t' : H), f (.exit 0, ⟨s', h.set l (.box false [wc (bs ++ r.flatMap AT.f)]) ++ t'⟩) = b) → ob (loopW B ⟨s, h.set l (.box false [wc bs]) ++ t⟩) f = b := by
  have step : ∀ st, B st = xcode (run XP) loopW base x_encoding_list_api_Attr_l0 st := fun st => by rw [hB]
  intro r
  induction r with
  | nil =>
    intro k bs t s hd hbase h2 h12 h13 h14 hs kk
    have hk : es.length ≤ k := by simpa using hd
    have hlt : ¬ ((k : Int) < (es.length : Int)) := by omega
    rw [loopW_cps]
    simp -implicitDefEqProofs [step, x_encoding_list_api_Attr_l0, h13, h14, hlt]
    simpa using kk _ t
  | cons e r ih =>
    intro k bs t s hd hbase h2 h12 h13 h14 hs kk
    have hk : k < es.length := by
      by_cases hk : k < es.length
      · exact hk
      · rw [List.drop_of_length_le (by omega)] at hd; cases hd
    have hg : es[k]? = some e := by
      have := congrArg (·[0]?) hd
      simpa using this
    have hd' : es.drop (k + 1) = r := by
      have := congrArg List.tail hd
      simpa using this
    have hr := hok e (List.mem_of_getElem? hg)
    have hle := AT.le hr
    have hlt : ((k : Int) < (es.length : Int)) := by omega
    have hge : (0 : Int) ≤ (k : Int) := by omega
    obtain ⟨vs', hlv, hat⟩ := lv_at (k := 4) (o := o) (i := k) (e := e.v) (by rw [ho]; simp [hg])
    rw [List.length_cons] at hs
    have hone : ∀ t : H, run XP i_encoding_Writer_Attr [.ptr l 0, e.v] (h.set l (.box false [wc bs]) ++ t) = some (.tup [], h.set l (.box false [wc (bs ++ e.f)]) ++ t) := fun t => W_attr_r hl hr (by omega)
    simp only [AT.v] at hat hone
    rw [loopW_cps]
    simp -implicitDefEqProofs [step, x_encoding_list_api_Attr_l0, h2, h12, h13, h14, hlt, hlv, hat, hone, putRow]
    refine ih (k + 1) _ _ _ hd' ?_ ?_ ?_ ?_ ?_ ?_ fun s' t' => ?_
    · simp; omega
    · simp [h2]
    · simp [h12, hlv]
    · simp [h13]
    · simp only [upd_same]
      rw [wrap_i64 (by omega) (by omega)]
      simp
    · simp
      omega
    · simpa using kk s' t'

theorem W_listAT {h : H} {l : Nat} {bs : List UInt8} {es : List AT} {o : Option (List V)} (hl : l < h.length) (hok : ∀ e ∈ es, e.Ok) (hlen : es.length ≤ 1000) (ho : o.getD [] = es.map AT.v) (hs : bs.length + 9 + 12000 * es.length ≤ 60000000000000) :
    run XP i_encoding_list_api_Attr [.ptr l 0, lv 4 o, .fn i_encoding_Writer_Attr [.ptr l 0] []] (h.set l (.box false [wc bs])) = some (.tup [], h.set l (.box false [wc (bs ++ fList AT.f es)])) := by
  have hr : Rng es.length := rng_nat (by omega)
  have hle := fNum_le hr
  have hn := W_number (h := h) (l := l) (bs := bs) hl hr (by omega)
  have hle' : (o.getD []).length = es.length := by rw [ho]; simp
  rw [run_eq, xp_encoding_list_api_Attr]
  simp -implicitDefEqProofs [x_encoding_list_api_Attr, hn, hle']
  have key := listAT_l0 h.length h l hl es hok hlen o ho (β := V × H) (f := fun a => backR [] (h.set l (.box false [wc bs])) (outOf 0 a)) (b := some (.tup [], h.set l (.box false [wc (bs ++ fList AT.f es)]))) rfl es 0 (bs ++ fNum es.length) []
  rw [List.append_nil] at key
  refine key _ rfl (by simp) ?_ ?_ ?_ ?_ (by simp; omega) fun s' t' => ?_
  · simp
  · simp
  · simp
  · simp
  · simp -implicitDefEqProofs [fList]
theorem W_listAT_r {h t : H} {l : Nat} {bs : List UInt8} {es : List AT} {o : Option (List V)} (hl : l < h.length) (hok : ∀ e ∈ es, e.Ok) (hlen : es.length ≤ 1000) (ho : o.getD [] = es.map AT.v) (hs : bs.length + 9 + 12000 * es.length ≤ 60000000000000) :
    run XP i_encoding_list_api_Attr [.ptr l 0, lv 4 o, .fn i_encoding_Writer_Attr [.ptr l 0] []] (h.set l (.box false [wc bs]) ++ t) = some (.tup [], h.set l (.box false [wc (bs ++ fList AT.f es)]) ++ t) := by
  have := W_listAT (h := h ++ t) (l := l) (bs := bs) (es := es) (o := o) (by simp; omega) hok hlen ho hs
  simpa only [set_left hl] using this

theorem listRF_l0 (base : Nat) (h : H) (l : Nat) (hl : l < h.length) (es : List RF) (hok : ∀ e ∈ es, e.Ok) (hlen : es.length ≤ 1000) (o : Option (List V)) (ho : o.getD [] = es.map RF.v) {β : Type} {f : Ex × St → Option β} {b : Option β} {B : Body}
    (hB : B = xcode (run XP) loopW base x_encoding_list_api_Ref_l0) : ∀ (r : List RF) (k : Nat) (bs : List UInt8) (t : H) (s : Sl), es.drop k = r → base ≤ h.length + t.length → s 2 = .fn i_encoding_Writer_Ref [.ptr l 0] [] → s 12 = lv 2 o → s 13 = vi es.length → s 14 = vi k →
    bs.length + 18 * r.length ≤ 60000000000000 → (∀ (s' : Sl) (t' : H), f (.exit 0, ⟨s', h.set l (.box false [wc (bs ++ r.flatMap RF.f)]) ++ t'⟩) = b) → ob (loopW B ⟨s, h.set l (.box false [wc bs]) ++ t⟩) f = b := by
  have step : ∀ st, B st = xcode (run XP) loopW base x_encoding_list_api_Ref_l0 st := fun st => by rw [hB]
  intro r
  induction r with
  | nil =>
    intro k bs t s hd hbase h2 h12 h13 h14 hs kk
    have hk : es.length ≤ k := by simpa using hd
    have hlt : ¬ ((k : Int) < (es.length : Int)) := by omega
    rw [loopW_cps]
    simp -implicitDefEqProofs [step, x_encoding_list_api_Ref_l0, h13, h14, hlt]
    simpa using kk _ t
  | cons e r ih =>
    intro k bs t s hd hbase h2 h12 h13 h14 hs kk
    have hk : k < es.length := by
      by_cases hk : k < es.length
      · exact hk
      · rw [List.drop_of_length_le (by omega)] at hd; cases hd
    have hg : es[k]? = some e := by
      have := congrArg (·[0]?) hd
      simpa using this
    have hd' : es.drop (k + 1) = r := by
      have := congrArg List.tail hd
      simpa using this
    have hr := hok e (List.mem_of_getElem? hg)
    have hle := RF.le hr
    have hlt : ((k : Int) < (es.length : Int)) := by omega
    have hge : (0 : Int) ≤ (k : Int) := by omega
    obtain ⟨vs', hlv, hat⟩ := lv_at (k := 2) (o := o) (i := k) (e := e.v) (by rw [ho]; simp [hg])
    rw [List.length_cons] at hs
    have hone : ∀ t : H, run XP i_encoding_Writer_Ref [.ptr l 0, e.v] (h.set l (.box false [wc bs]) ++ t) = some (.tup [], h.set l (.box false [wc (bs ++ e.f)]) ++ t) := fun t => W_ref_r hl hr (by omega)
    simp only [RF.v] at hat hone
    rw [loopW_cps]
    simp -implicitDefEqProofs [step, x_encoding_list_api_Ref_l0, h2, h12, h13, h14, hlt, hlv, hat, hone, putRow]
    refine ih (k + 1) _ _ _ hd' ?_ ?_ ?_ ?_ ?_ ?_ fun s' t' => ?_
    · simp; omega
    · simp [h2]
    · simp [h12, hlv]
    · simp [h13]
    · simp only [upd_same]
      rw [wrap_i64 (by omega) (by omega)]
      simp
    · simp
      omega
    · simpa using kk s' t'

theorem W_listRF {h : H} {l : Nat} {bs : List UInt8} {es : List RF} {o : Option (List V)} (hl : l < h.length) (hok : ∀ e ∈ es, e.Ok) (hlen : es.length ≤ 1000) (ho : o.getD [] = es.map RF.v) (hs : bs.length + 9 + 18 * es.length ≤ 60000000000000) :
    run XP i_encoding_list_api_Ref [.ptr l 0, lv 2 o, .fn i_encoding_Writer_Ref [.ptr l 0] []] (h.set l (.box false [wc bs])) = some (.tup [], h.set l (.box false [wc (bs ++ fList RF.f es)])) := by
  have hr : Rng es.length := rng_nat (by omega)
  have hle := fNum_le hr
  have hn := W_number (h := h) (l := l) (bs := bs) hl hr (by omega)
  have hle' : (o.getD []).length = es.length := by rw [ho]; simp
  rw [run_eq, xp_encoding_list_api_Ref]
  simp -implicitDefEqProofs [x_encoding_list_api_Ref, hn, hle']
  have key := listRF_l0 h.length h l hl es hok hlen o ho (β := V × H) (f := fun a => backR [] (h.set l (.box false [wc bs])) (outOf 0 a)) (b := some (.tup [], h.set l (.box false [wc (bs ++ fList RF.f es)]))) rfl es 0 (bs ++ fNum es.length) []
  rw [List.append_nil] at key
  refine key _ rfl (by simp) ?_ ?_ ?_ ?_ (by simp; omega) fun s' t' => ?_
  · simp
  · simp
  · simp
  · simp
  · simp -implicitDefEqProofs [fList]
theorem W_listRF_r {h t : H} {l : Nat} {bs : List UInt8} {es : List RF} {o : Option (List V)} (hl : l < h.length) (hok : ∀ e ∈ es, e.Ok) (hlen : es.length ≤ 1000) (ho : o.getD [] = es.map RF.v) (hs : bs.length + 9 + 18 * es.length ≤ 60000000000000) :
    run XP i_encoding_list_api_Ref [.ptr l 0, lv 2 o, .fn i_encoding_Writer_Ref [.ptr l 0] []] (h.set l (.box false [wc bs]) ++ t) = some (.tup [], h.set l (.box false [wc (bs ++ fList RF.f es)]) ++ t) := by
  have := W_listRF (h := h ++ t) (l := l) (bs := bs) (es := es) (o := o) (by simp; omega) hok hlen ho hs
  simpa only [set_left hl] using this

theorem W_bytes {h : H} {l : Nat} {bs : List UInt8} (hl : h[l]? = some (.box false [wc bs])) : run XP i_encoding_Writer_Bytes [.ptr l 0] h = some (vs ⟨bs.toArray⟩, h) := by
  rw [run_eq, xp_encoding_Writer_Bytes]
  by_cases hb : bs = []
  · subst hb
    have hw : wc [] = vnil := by simp [wc]
    simp -implicitDefEqProofs [x_encoding_Writer_Bytes, hl, hw, bytesOf]
  · simp -implicitDefEqProofs [x_encoding_Writer_Bytes, hl, wc_own hb, bytesOf_bl]
theorem W_len {h : H} {l : Nat} {bs : List UInt8} (hl : h[l]? = some (.box false [wc bs])) : run XP i_encoding_Writer_Len [.ptr l 0] h = some (vi bs.length, h) := by
  rw [run_eq, xp_encoding_Writer_Len]
  by_cases hb : bs = []
  · subst hb
    have hw : wc [] = vnil := by simp [wc]
    simp -implicitDefEqProofs [x_encoding_Writer_Len, hl, hw]
  · simp -implicitDefEqProofs [x_encoding_Writer_Len, hl, wc_own hb, bl_length]
theorem at_set {h : H} {l : Nat} {x : O} (e : h[l]? = some x) : h.set l x = h := by
  have hl := (List.getElem?_eq_some_iff.1 e).1
  have := (List.getElem?_eq_some_iff.1 e).2
  rw [← this]
  exact List.set_getElem_self hl
end Go.Proofs.Sl

/- What the Writer does with spans. -/
namespace Go.Proofs.Sl

/-- A span. -/
structure SP where
  tr : Int
  id : Int
  par : Int
  rev : Int
  clk : Int
  kind : Int
  sv : ByteArray
  vr : ByteArray
  op : ByteArray
  st : Int
  en : Int
  er : Bool
  ats : List AT
  lks : List RF
  /-- the two slices: nil or not -/
  an : Bool
  ln : Bool
/-- A slice of these elements: nil if so marked. -/
def slc {α : Type} (v : α → V) (l : List α) (n : Bool) : Option (List V) := if n = true then none else some (l.map v)
def SP.v (a : SP) : V := .agg [vi a.tr, vi a.id, vi a.par, vi a.rev, vi a.clk, vi a.kind, vs a.sv, vs a.vr, vs a.op, vi a.st, vi a.en, vb a.er, lv 4 (slc AT.v a.ats a.an), lv 2 (slc RF.v a.lks a.ln)]
structure SP.Ok (a : SP) : Prop where
  n : ∀ n ∈ [a.tr, a.id, a.par, a.rev, a.clk, a.kind, a.st, a.en], Rng n
  sv : a.sv.size ≤ 5000
  vr : a.vr.size ≤ 5000
  op : a.op.size ≤ 5000
  ats : ∀ e ∈ a.ats, e.Ok
  lks : ∀ e ∈ a.lks, e.Ok
  al : a.ats.length ≤ 1000
  ll : a.lks.length ≤ 1000
  an : a.an = true → a.ats = []
  ln : a.ln = true → a.lks = []
theorem slc_getD {α : Type} {v : α → V} {l : List α} {n : Bool} (h : n = true → l = []) : (slc v l n).getD [] = l.map v := by
  cases n with
  | true => rw [h rfl]; rfl
  | false => rfl
def SP.f (a : SP) : List UInt8 := fNums [a.tr, a.id, a.par, a.rev, a.clk, a.kind] ++ (fText a.sv ++ (fText a.vr ++ (fText a.op ++ (fNums [a.st, a.en] ++ (fBool a.er ++ (fList AT.f a.ats ++ fList RF.f a.lks))))))
theorem SP.le {a : SP} (h : a.Ok) : a.f.length ≤ 13000000 := by
  have hn := h.n
  have e1 := fNums_le (ns := [a.tr, a.id, a.par, a.rev, a.clk, a.kind]) fun n hm => hn n (by simp at hm ⊢; omega)
  have e2 := fText_le h.sv (by omega)
  have e3 := fText_le h.vr (by omega)
  have e4 := fText_le h.op (by omega)
  have e5 := fNums_le (ns := [a.st, a.en]) fun n hm => hn n (by simp at hm ⊢; omega)
  have e6 := fBool_le a.er
  have e7 := fNum_le (rng_nat (n := a.ats.length) (by have := h.al; omega))
  have e8 := fNum_le (rng_nat (n := a.lks.length) (by have := h.ll; omega))
  have e9 := flatMap_le (f := AT.f) (l := a.ats) fun x hx => AT.le (h.ats x hx)
  have e10 := flatMap_le (f := RF.f) (l := a.lks) fun x hx => RF.le (h.lks x hx)
  have e11 := h.al
  have e12 := h.ll
  simp only [List.length_cons, List.length_nil] at e1 e5
  simp only [SP.f, fList, List.length_append]
  omega
theorem W_span {h : H} {l : Nat} {bs : List UInt8} {a : SP} (hl : l < h.length) (ha : a.Ok) (hs : bs.length ≤ 50000000000000) :
    run XP i_encoding_Writer_Span [.ptr l 0, a.v] (h.set l (.box false [wc bs])) = some (.tup [], h.set l (.box false [wc (bs ++ a.f)])) := by
  have hn := ha.n
  have r1 : ∀ n ∈ [a.tr, a.id, a.par, a.rev, a.clk, a.kind], Rng n := fun n hm => hn n (by simp at hm ⊢; omega)
  have r2 : ∀ n ∈ [a.st, a.en], Rng n := fun n hm => hn n (by simp at hm ⊢; omega)
  have e1 := fNums_le r1
  have e2 := fText_le ha.sv (by omega)
  have e3 := fText_le ha.vr (by omega)
  have e4 := fText_le ha.op (by omega)
  have e5 := fNums_le r2
  have e6 := fBool_le a.er
  have e7 := fNum_le (rng_nat (n := a.ats.length) (by have := ha.al; omega))
  have e9 := flatMap_le (f := AT.f) (l := a.ats) fun x hx => AT.le (ha.ats x hx)
  have e11 := ha.al
  have e12 := ha.ll
  have z1 := ha.sv
  have z2 := ha.vr
  have z3 := ha.op
  simp only [List.length_cons, List.length_nil] at e1 e5
  obtain ⟨A, hA⟩ : ∃ A, A = fNums [a.tr, a.id, a.par, a.rev, a.clk, a.kind] := ⟨_, rfl⟩
  obtain ⟨D, hD⟩ : ∃ D, D = fNums [a.st, a.en] := ⟨_, rfl⟩
  have h1 : ∀ t : H, run XP i_encoding_Writer_numbers [.ptr l 0, .lst 1 [vi a.tr, vi a.id, vi a.par, vi a.rev, vi a.clk, vi a.kind]] (h.set l (.box false [wc bs]) ++ t) = some (.tup [], h.set l (.box false [wc (bs ++ A)]) ++ t) := fun t => by
    rw [hA]
    exact W_numbers_r (ns := [a.tr, a.id, a.par, a.rev, a.clk, a.kind]) hl r1 (by simp) (by omega)
  have h2 : ∀ (t : H) (cs : List UInt8), cs.length ≤ 60000000000000 → run XP i_encoding_Writer_numbers [.ptr l 0, .lst 1 [vi a.st, vi a.en]] (h.set l (.box false [wc cs]) ++ t) = some (.tup [], h.set l (.box false [wc (cs ++ D)]) ++ t) := fun t cs hc => by
    rw [hD]
    exact W_numbers_r (ns := [a.st, a.en]) hl r2 (by simp) (by omega)
  have h3 : ∀ (t : H) (cs : List UInt8), cs.length ≤ 50000001000000 → run XP i_encoding_list_api_Attr [.ptr l 0, lv 4 (slc AT.v a.ats a.an), .fn i_encoding_Writer_Attr [.ptr l 0] []] (h.set l (.box false [wc cs]) ++ t) = some (.tup [], h.set l (.box false [wc (cs ++ fList AT.f a.ats)]) ++ t) := fun t cs hc =>
    W_listAT_r hl ha.ats ha.al (slc_getD ha.an) (by omega)
  have h4 : ∀ (t : H) (cs : List UInt8), cs.length ≤ 50001000000000 → run XP i_encoding_list_api_Ref [.ptr l 0, lv 2 (slc RF.v a.lks a.ln), .fn i_encoding_Writer_Ref [.ptr l 0] []] (h.set l (.box false [wc cs]) ++ t) = some (.tup [], h.set l (.box false [wc (cs ++ fList RF.f a.lks)]) ++ t) := fun t cs hc =>
    W_listRF_r hl ha.lks ha.ll (slc_getD ha.ln) (by omega)
  rw [← hA] at e1
  rw [← hD] at e5
  have e13 : (fList AT.f a.ats).length ≤ 9 + 12000 * 1000 := by
    simp only [fList, List.length_append]
    omega
  rw [run_eq, xp_encoding_Writer_Span]
  simp -implicitDefEqProofs (disch := first | assumption | (simp; done) | omega | (simp; omega)) [x_encoding_Writer_Span, SP.v, h1, h2, h3, h4, W_text_r, W_bool_r, noOwn, SP.f, ← hA, ← hD]
theorem W_span_r {h t : H} {l : Nat} {bs : List UInt8} {a : SP} (hl : l < h.length) (ha : a.Ok) (hs : bs.length ≤ 50000000000000) :
    run XP i_encoding_Writer_Span [.ptr l 0, a.v] (h.set l (.box false [wc bs]) ++ t) = some (.tup [], h.set l (.box false [wc (bs ++ a.f)]) ++ t) := by
  have := W_span (h := h ++ t) (l := l) (bs := bs) (a := a) (by simp; omega) ha hs
  simpa only [set_left hl] using this
end Go.Proofs.Sl

/- What the Writer does with spans. -/
namespace Go.Proofs.Sl

theorem listEX_l0 (base : Nat) (h : H) (l : Nat) (hl : l < h.length) (es : List EX) (hok : ∀ e ∈ es, e.Ok) (hlen : es.length ≤ 1000) (o : Option (List V)) (ho : o.getD [] = es.map EX.v) {β : Type} {f : Ex × St → Option β} {b : Option β} {B : Body}
    (hB : B = xcode (run XP) loopW base x_encoding_list_api_Exchange_l0) : ∀ (r : List EX) (k : Nat) (bs : List UInt8) (t : H) (s : Sl), es.drop k = r → base ≤ h.length + t.length → s 2 = .fn i_encoding_Writer_Exchange [.ptr l 0] [] → s 12 = lv 5 o → s 13 = vi es.length → s 14 = vi k →
    bs.length + 45 * r.length ≤ 60000000000000 → (∀ (s' : Sl) (t' : H), f (.exit 0, ⟨s', h.set l (.box false [wc (bs ++ r.flatMap EX.f)]) ++ t'⟩) = b) → ob (loopW B ⟨s, h.set l (.box false [wc bs]) ++ t⟩) f = b := by
  have step : ∀ st, B st = xcode (run XP) loopW base x_encoding_list_api_Exchange_l0 st := fun st => by rw [hB]
  intro r
  induction r with
  | nil =>
    intro k bs t s hd hbase h2 h12 h13 h14 hs kk
    have hk : es.length ≤ k := by simpa using hd
    have hlt : ¬ ((k : Int) < (es.length : Int)) := by omega
    rw [loopW_cps]
    simp -implicitDefEqProofs [step, x_encoding_list_api_Exchange_l0, h13, h14, hlt]
    simpa using kk _ t
  | cons e r ih =>
    intro k bs t s hd hbase h2 h12 h13 h14 hs kk
    have hk : k < es.length := by
      by_cases hk : k < es.length
      · exact hk
      · rw [List.drop_of_length_le (by omega)] at hd; cases hd
    have hg : es[k]? = some e := by
      have := congrArg (·[0]?) hd
      simpa using this
    have hd' : es.drop (k + 1) = r := by
      have := congrArg List.tail hd
      simpa using this
    have hr := hok e (List.mem_of_getElem? hg)
    have hle := EX.le hr
    have hlt : ((k : Int) < (es.length : Int)) := by omega
    have hge : (0 : Int) ≤ (k : Int) := by omega
    obtain ⟨vs', hlv, hat⟩ := lv_at (k := 5) (o := o) (i := k) (e := e.v) (by rw [ho]; simp [hg])
    rw [List.length_cons] at hs
    have hone : ∀ t : H, run XP i_encoding_Writer_Exchange [.ptr l 0, e.v] (h.set l (.box false [wc bs]) ++ t) = some (.tup [], h.set l (.box false [wc (bs ++ e.f)]) ++ t) := fun t => W_exchange_r hl hr (by omega)
    simp only [EX.v] at hat hone
    rw [loopW_cps]
    simp -implicitDefEqProofs [step, x_encoding_list_api_Exchange_l0, h2, h12, h13, h14, hlt, hlv, hat, hone, putRow]
    refine ih (k + 1) _ _ _ hd' ?_ ?_ ?_ ?_ ?_ ?_ fun s' t' => ?_
    · simp; omega
    · simp [h2]
    · simp [h12, hlv]
    · simp [h13]
    · simp only [upd_same]
      rw [wrap_i64 (by omega) (by omega)]
      simp
    · simp
      omega
    · simpa using kk s' t'

theorem W_listEX {h : H} {l : Nat} {bs : List UInt8} {es : List EX} {o : Option (List V)} (hl : l < h.length) (hok : ∀ e ∈ es, e.Ok) (hlen : es.length ≤ 1000) (ho : o.getD [] = es.map EX.v) (hs : bs.length + 9 + 45 * es.length ≤ 60000000000000) :
    run XP i_encoding_list_api_Exchange [.ptr l 0, lv 5 o, .fn i_encoding_Writer_Exchange [.ptr l 0] []] (h.set l (.box false [wc bs])) = some (.tup [], h.set l (.box false [wc (bs ++ fList EX.f es)])) := by
  have hr : Rng es.length := rng_nat (by omega)
  have hle := fNum_le hr
  have hn := W_number (h := h) (l := l) (bs := bs) hl hr (by omega)
  have hle' : (o.getD []).length = es.length := by rw [ho]; simp
  rw [run_eq, xp_encoding_list_api_Exchange]
  simp -implicitDefEqProofs [x_encoding_list_api_Exchange, hn, hle']
  have key := listEX_l0 h.length h l hl es hok hlen o ho (β := V × H) (f := fun a => backR [] (h.set l (.box false [wc bs])) (outOf 0 a)) (b := some (.tup [], h.set l (.box false [wc (bs ++ fList EX.f es)]))) rfl es 0 (bs ++ fNum es.length) []
  rw [List.append_nil] at key
  refine key _ rfl (by simp) ?_ ?_ ?_ ?_ (by simp; omega) fun s' t' => ?_
  · simp
  · simp
  · simp
  · simp
  · simp -implicitDefEqProofs [fList]
theorem W_listEX_r {h t : H} {l : Nat} {bs : List UInt8} {es : List EX} {o : Option (List V)} (hl : l < h.length) (hok : ∀ e ∈ es, e.Ok) (hlen : es.length ≤ 1000) (ho : o.getD [] = es.map EX.v) (hs : bs.length + 9 + 45 * es.length ≤ 60000000000000) :
    run XP i_encoding_list_api_Exchange [.ptr l 0, lv 5 o, .fn i_encoding_Writer_Exchange [.ptr l 0] []] (h.set l (.box false [wc bs]) ++ t) = some (.tup [], h.set l (.box false [wc (bs ++ fList EX.f es)]) ++ t) := by
  have := W_listEX (h := h ++ t) (l := l) (bs := bs) (es := es) (o := o) (by simp; omega) hok hlen ho hs
  simpa only [set_left hl] using this
end Go.Proofs.Sl

/- What the Writer does with spans. -/
namespace Go.Proofs.Sl

theorem listSP_l0 (base : Nat) (h : H) (l : Nat) (hl : l < h.length) (es : List SP) (hok : ∀ e ∈ es, e.Ok) (hlen : es.length ≤ 1000) (o : Option (List V)) (ho : o.getD [] = es.map SP.v) {β : Type} {f : Ex × St → Option β} {b : Option β} {B : Body}
    (hB : B = xcode (run XP) loopW base x_encoding_list_api_Span_l0) : ∀ (r : List SP) (k : Nat) (bs : List UInt8) (t : H) (s : Sl), es.drop k = r → base ≤ h.length + t.length → s 2 = .fn i_encoding_Writer_Span [.ptr l 0] [] → s 12 = lv 14 o → s 13 = vi es.length → s 14 = vi k →
    bs.length + 13000000 * r.length ≤ 40000000000000 → (∀ (s' : Sl) (t' : H), f (.exit 0, ⟨s', h.set l (.box false [wc (bs ++ r.flatMap SP.f)]) ++ t'⟩) = b) → ob (loopW B ⟨s, h.set l (.box false [wc bs]) ++ t⟩) f = b := by
  have step : ∀ st, B st = xcode (run XP) loopW base x_encoding_list_api_Span_l0 st := fun st => by rw [hB]
  intro r
  induction r with
  | nil =>
    intro k bs t s hd hbase h2 h12 h13 h14 hs kk
    have hk : es.length ≤ k := by simpa using hd
    have hlt : ¬ ((k : Int) < (es.length : Int)) := by omega
    rw [loopW_cps]
    simp -implicitDefEqProofs [step, x_encoding_list_api_Span_l0, h13, h14, hlt]
    simpa using kk _ t
  | cons e r ih =>
    intro k bs t s hd hbase h2 h12 h13 h14 hs kk
    have hk : k < es.length := by
      by_cases hk : k < es.length
      · exact hk
      · rw [List.drop_of_length_le (by omega)] at hd; cases hd
    have hg : es[k]? = some e := by
      have := congrArg (·[0]?) hd
      simpa using this
    have hd' : es.drop (k + 1) = r := by
      have := congrArg List.tail hd
      simpa using this
    have hr := hok e (List.mem_of_getElem? hg)
    have hle := SP.le hr
    have hlt : ((k : Int) < (es.length : Int)) := by omega
    have hge : (0 : Int) ≤ (k : Int) := by omega
    obtain ⟨vs', hlv, hat⟩ := lv_at (k := 14) (o := o) (i := k) (e := e.v) (by rw [ho]; simp [hg])
    rw [List.length_cons] at hs
    have hone : ∀ t : H, run XP i_encoding_Writer_Span [.ptr l 0, e.v] (h.set l (.box false [wc bs]) ++ t) = some (.tup [], h.set l (.box false [wc (bs ++ e.f)]) ++ t) := fun t => W_span_r hl hr (by omega)
    simp only [SP.v] at hat hone
    rw [loopW_cps]
    simp -implicitDefEqProofs [step, x_encoding_list_api_Span_l0, h2, h12, h13, h14, hlt, hlv, hat, hone, putRow]
    refine ih (k + 1) _ _ _ hd' ?_ ?_ ?_ ?_ ?_ ?_ fun s' t' => ?_
    · simp; omega
    · simp [h2]
    · simp [h12, hlv]
    · simp [h13]
    · simp only [upd_same]
      rw [wrap_i64 (by omega) (by omega)]
      simp
    · simp
      omega
    · simpa using kk s' t'

theorem W_listSP {h : H} {l : Nat} {bs : List UInt8} {es : List SP} {o : Option (List V)} (hl : l < h.length) (hok : ∀ e ∈ es, e.Ok) (hlen : es.length ≤ 1000) (ho : o.getD [] = es.map SP.v) (hs : bs.length + 9 + 13000000 * es.length ≤ 40000000000000) :
    run XP i_encoding_list_api_Span [.ptr l 0, lv 14 o, .fn i_encoding_Writer_Span [.ptr l 0] []] (h.set l (.box false [wc bs])) = some (.tup [], h.set l (.box false [wc (bs ++ fList SP.f es)])) := by
  have hr : Rng es.length := rng_nat (by omega)
  have hle := fNum_le hr
  have hn := W_number (h := h) (l := l) (bs := bs) hl hr (by omega)
  have hle' : (o.getD []).length = es.length := by rw [ho]; simp
  rw [run_eq, xp_encoding_list_api_Span]
  simp -implicitDefEqProofs [x_encoding_list_api_Span, hn, hle']
  have key := listSP_l0 h.length h l hl es hok hlen o ho (β := V × H) (f := fun a => backR [] (h.set l (.box false [wc bs])) (outOf 0 a)) (b := some (.tup [], h.set l (.box false [wc (bs ++ fList SP.f es)]))) rfl es 0 (bs ++ fNum es.length) []
  rw [List.append_nil] at key
  refine key _ rfl (by simp) ?_ ?_ ?_ ?_ (by simp; omega) fun s' t' => ?_
  · simp
  · simp
  · simp
  · simp
  · simp -implicitDefEqProofs [fList]
theorem W_listSP_r {h t : H} {l : Nat} {bs : List UInt8} {es : List SP} {o : Option (List V)} (hl : l < h.length) (hok : ∀ e ∈ es, e.Ok) (hlen : es.length ≤ 1000) (ho : o.getD [] = es.map SP.v) (hs : bs.length + 9 + 13000000 * es.length ≤ 40000000000000) :
    run XP i_encoding_list_api_Span [.ptr l 0, lv 14 o, .fn i_encoding_Writer_Span [.ptr l 0] []] (h.set l (.box false [wc bs]) ++ t) = some (.tup [], h.set l (.box false [wc (bs ++ fList SP.f es)]) ++ t) := by
  have := W_listSP (h := h ++ t) (l := l) (bs := bs) (es := es) (o := o) (by simp; omega) hok hlen ho hs
  simpa only [set_left hl] using this
end Go.Proofs.Sl

/- What the Reader does with a number. -/
namespace Go.Proofs.Sl

/-- A reader: its text, its offset, its first error. -/
def rd (s : ByteArray) (a : Nat) (e : Int) : O := .box false [vs s, vi a, vi e]

/-- A number, the offset behind it, the error. -/
def valD (ds : List Nat) : Nat := ds.foldl (fun m d => 256 * m + d) 0
def numE (a : Nat) (neg : Bool) (ds : List Nat) : Int × Nat × Int :=
  if ds.head? = some 0 then (0, 0, 3) else
    let m := valD ds
    if neg = false ∧ m > 9223372036854775807 ∨ m > 9223372036854775808 then (0, 0, 3) else (if neg = true then -(m : Int) else m, a + 1 + ds.length, 0)
def rn (s : ByteArray) (a : Nat) : Int × Nat × Int := match (bts s).drop a with
  | [] => (0, 0, 4)
  | c :: r =>
    let neg := decide (c.toNat < 128)
    let size := if c.toNat < 128 then 128 - c.toNat else c.toNat - 128
    if size > 8 then (0, 0, 3) else if r.length < size then (0, 0, 4) else
      numE a neg ((r.take size).map fun b => if c.toNat < 128 then 255 - b.toNat else b.toNat)

theorem or_add {m d : Nat} (hm : m * 256 < 18446744073709551616) (hd : d < 256) : orI .u64 ((m : Int) * 256) (d : Int) = ((256 * m + d : Nat) : Int) := by
  have e0 : orI .u64 ((m : Int) * 256) (d : Int) = IntKind.u64.wrap ((BitVec.ofInt 64 ((m : Int) * 256) ||| BitVec.ofInt 64 (d : Int)).toNat : Int) := rfl
  have e1 : BitVec.ofInt 64 ((m : Int) * 256) = BitVec.ofNat 64 (m * 256) := by
    rw [← BitVec.ofInt_natCast]
    simp
  have e2 : BitVec.ofInt 64 (d : Int) = BitVec.ofNat 64 d := BitVec.ofInt_natCast ..
  have e3 : (BitVec.ofNat 64 (m * 256) ||| BitVec.ofNat 64 d).toNat = 256 * m + d := by
    rw [BitVec.toNat_or, BitVec.toNat_ofNat, BitVec.toNat_ofNat, Nat.mod_eq_of_lt (by omega), Nat.mod_eq_of_lt (by omega)]
    have := Nat.two_pow_add_eq_or_of_lt (i := 8) (b := d) (by omega) m
    rw [Nat.mul_comm m 256, ← this]
  rw [e0, e1, e2, e3, wrap_u64]
  omega

theorem number_l0 (base : Nat) (h : H) (l : Nat) (s : ByteArray) (x y : V) (z : Bool) (hl : h[l]? = some (.box z [vs s, x, y])) (neg : Bool) (a : Nat) (ds : List Nat) (hsz : ds.length ≤ 8) (ha : a ≤ 1000000000000000)
    (hds : ∀ i d, ds[i]? = some d → d < 256 ∧ ∃ c : UInt8, s.data[a + i]? = some c ∧ d = if neg = true then 255 - c.toNat else c.toNat) {β : Type} {f : Ex × St → Option β} {b : Option β} {B : Body} (hB : B = xcode (run XP) loopW base x_encoding_Reader_number_l0) :
    ∀ (r : List Nat) (k m : Nat) (st : Sl), ds.drop k = r → (k ≠ 0 ∨ r.head? ≠ some 0) → m < 256 ^ k → st 0 = .ptr l 0 → st 1 = vi a → st 9 = vk .u8 (if neg = true then 255 else 0) → st 10 = vk .u64 m → st 46 = vi ds.length → st 47 = vi k →
    (∀ st' : Sl, st' 10 = vk .u64 (r.foldl (fun m d => 256 * m + d) m : Nat) → (∀ t, t < 9 → st' t = st t) → f (.exit 0, ⟨st', h⟩) = b) → ob (loopW B ⟨st, h⟩) f = b := by
  have step : ∀ st, B st = xcode (run XP) loopW base x_encoding_Reader_number_l0 st := fun st => by rw [hB]
  intro r
  induction r with
  | nil =>
    intro k m st hd hk hm h0 h1 h9 h10 h46 h47 kk
    have hlen : ds.length ≤ k := by simpa using hd
    have hlt : ¬ ((k : Int) < (ds.length : Int)) := by omega
    rw [loopW_cps]
    simp -implicitDefEqProofs [step, x_encoding_Reader_number_l0, h46, h47, hlt]
    refine kk _ (by simp [h10]) fun t ht => by simp (disch := omega) only [upd_ne]
  | cons d r ih =>
    intro k m st hd hk hm h0 h1 h9 h10 h46 h47 kk
    have hlen : k < ds.length := by
      by_cases hk : k < ds.length
      · exact hk
      · rw [List.drop_of_length_le (by omega)] at hd; cases hd
    have hg : ds[k]? = some d := by
      have := congrArg (·[0]?) hd
      simpa using this
    have hd' : ds.drop (k + 1) = r := by
      have := congrArg List.tail hd
      simpa using this
    obtain ⟨hd256, c, hc, hdc⟩ := hds k d hg
    have hlt : ((k : Int) < (ds.length : Int)) := by omega
    have w1 : IntKind.i64.wrap ((a : Int) + (k : Int)) = (a : Int) + (k : Int) := wrap_i64 (by omega) (by omega)
    have hge : (0 : Int) ≤ (a : Int) + (k : Int) := by omega
    have hak : ((a : Int) + (k : Int)).toNat = a + k := by omega
    have hx : xorI .u8 (c.toNat : Int) (if neg = true then 255 else 0) = (d : Int) := by
      rw [flip_ok neg _ (UInt8.toNat_lt c), hdc]
      have := UInt8.toNat_lt c
      cases neg <;> simp [flipB]
      omega
    have hm8 : m * 256 < 18446744073709551616 := by
      have h8 : 256 ^ k ≤ 256 ^ 7 := Nat.pow_le_pow_right (by decide) (by omega)
      have : (256 : Nat) ^ 7 = 72057594037927936 := by decide
      omega
    have wm : IntKind.u64.wrap ((m : Int) * 256) = (m : Int) * 256 := by rw [wrap_u64]; omega
    have wd : IntKind.u64.wrap (d : Int) = (d : Int) := by rw [wrap_u64]; omega
    have hor := or_add hm8 hd256
    have hmin : (2 : Int) ^ min 8 IntKind.u64.bits = 256 := rfl
    rw [loopW_cps]
    have fin : ∀ st2 : Sl, st2 0 = .ptr l 0 → st2 1 = vi a → st2 9 = vk .u8 (if neg = true then 255 else 0) → st2 10 = vk .u64 (256 * m + d : Nat) → st2 46 = vi ds.length → st2 47 = vi (IntKind.i64.wrap ((k : Int) + 1)) → (∀ t, t < 9 → st2 t = st t) → ob (loopW B ⟨st2, h⟩) f = b := by
      intro st2 g0 g1 g9 g10 g46 g47 gf
      refine ih (k + 1) (256 * m + d) st2 hd' (.inl (by omega)) ?_ g0 g1 g9 g10 g46 ?_ fun st' e10 ef => kk st' e10 fun t ht => (ef t ht).trans (gf t ht)
      · rw [Nat.pow_succ]
        omega
      · rw [g47, wrap_i64 (by omega) (by omega)]
        rfl
    by_cases hk0 : k = 0
    · have hdne : d ≠ 0 := by
        rcases hk with hk | hk
        · exact absurd hk0 hk
        · simpa using hk
      have hdz : ((d : Int) == 0) = false := by simp; omega
      have hkz : ((k : Int) == 0) = true := by simp [hk0]
      simp -implicitDefEqProofs [step, x_encoding_Reader_number_l0, h0, h1, h9, h10, h46, h47, hlt, hl, w1, hge, hak, hc, hx, hkz, hdz, wm, wd, hor, hmin]
      apply fin <;> first | (simp [h0, h1, h9, h46]; done) | (intro t ht; simp (disch := omega) only [upd_ne])
    · have hkz : ((k : Int) == 0) = false := by simp; omega
      simp -implicitDefEqProofs [step, x_encoding_Reader_number_l0, h0, h1, h9, h10, h46, h47, hlt, hl, w1, hge, hak, hc, hx, hkz, wm, wd, hor, hmin]
      apply fin <;> first | (simp [h0, h1, h9, h46]; done) | (intro t ht; simp (disch := omega) only [upd_ne])

theorem number_l0z (base : Nat) (h : H) (l : Nat) (s : ByteArray) (x y : V) (z : Bool) (hl : h[l]? = some (.box z [vs s, x, y])) (neg : Bool) (a : Nat) (ha : a ≤ 1000000000000000) (c : UInt8) (hc : s.data[a]? = some c) (h0c : (if neg = true then 255 - c.toNat else c.toNat) = 0) (n : Nat) (hn : 0 < n) {β : Type} {f : Ex × St → Option β} {b : Option β} {B : Body}
    (hB : B = xcode (run XP) loopW base x_encoding_Reader_number_l0) (st : Sl) (h0 : st 0 = .ptr l 0) (h1 : st 1 = vi a) (h9 : st 9 = vk .u8 (if neg = true then 255 else 0)) (h46 : st 46 = vi n) (h47 : st 47 = vi 0)
    (kk : ∀ st' : Sl, st' 4 = vi 0 → st' 5 = vi 0 → st' 6 = vi 3 → f (.ret, ⟨st', h⟩) = b) : ob (loopW B ⟨st, h⟩) f = b := by
  have step : ∀ st, B st = xcode (run XP) loopW base x_encoding_Reader_number_l0 st := fun st => by rw [hB]
  have hlt : ((0 : Int) < (n : Int)) := by omega
  have w1 : IntKind.i64.wrap (a : Int) = (a : Int) := wrap_i64 (by omega) (by omega)
  have hx : xorI .u8 (c.toNat : Int) (if neg = true then 255 else 0) = 0 := by
    rw [flip_ok neg _ (UInt8.toNat_lt c)]
    have := UInt8.toNat_lt c
    cases neg <;> simp [flipB] at h0c ⊢ <;> omega
  rw [loopW_cps]
  simp -implicitDefEqProofs [step, x_encoding_Reader_number_l0, h0, h1, h9, h46, h47, hn, hl, w1, hc, hx]
  apply kk <;> simp

theorem bts_drop {s : ByteArray} {a : Nat} {c : UInt8} {r : List UInt8} (e : (bts s).drop a = c :: r) : s.data[a]? = some c ∧ s.size = a + 1 + r.length ∧ ∀ i, r[i]? = s.data[a + 1 + i]? := by
  have h1 : (bts s)[a]? = some c := by
    have := congrArg (·[0]?) e
    simpa using this
  have h2 := congrArg List.length e
  rw [List.length_drop, bts_length] at h2
  simp at h2
  refine ⟨by simpa [bts] using h1, by omega, fun i => ?_⟩
  have := congrArg (·[i + 1]?) e
  simp [bts] at this
  rw [← this]
  congr 1
  omega

theorem foldl_lt : ∀ (r : List Nat) (m k : Nat), (∀ d ∈ r, d < 256) → m < 256 ^ k → r.foldl (fun m d => 256 * m + d) m < 256 ^ (k + r.length)
  | [], m, k, _, h => by simpa using h
  | d :: r, m, k, hd, h => by
    have h1 := hd d (by simp)
    have := foldl_lt r (256 * m + d) (k + 1) (fun x hx => hd x (List.mem_cons_of_mem _ hx)) (by rw [Nat.pow_succ]; omega)
    rw [List.length_cons]
    have e : k + (r.length + 1) = k + 1 + r.length := by omega
    rw [e]
    exact this

theorem wrap_back {m : Int} (h1 : -9223372036854775808 ≤ m) (h2 : m ≤ 9223372036854775807) : IntKind.i64.wrap (m % 18446744073709551616) = m := by
  have e : IntKind.i64.wrap (m % 18446744073709551616) = if m % 18446744073709551616 % 18446744073709551616 ≥ 9223372036854775808 then m % 18446744073709551616 % 18446744073709551616 - 18446744073709551616 else m % 18446744073709551616 % 18446744073709551616 := by
    simp [IntKind.wrap, IntKind.bits, IntKind.signed]
  rw [e]
  split <;> omega
theorem R_number {h : H} {l : Nat} {s : ByteArray} {x y : V} {z : Bool} (hl : h[l]? = some (.box z [vs s, x, y])) {a : Nat} (hs : s.size ≤ 100000000000000) (ha : a ≤ 100000000000000) :
    run XP i_encoding_Reader_number [.ptr l 0, vi a] h = some (.tup [vi (rn s a).1, vi (rn s a).2.1, vi (rn s a).2.2], h) := by
  rw [run_eq, xp_encoding_Reader_number]
  unfold rn
  cases hd : (bts s).drop a with
  | nil =>
    have hge : s.size ≤ a := by
      have := congrArg List.length hd
      rw [List.length_drop, bts_length] at this
      simp at this
      omega
    have hge' : (s.size : Int) ≤ (a : Int) := by omega
    simp -implicitDefEqProofs [x_encoding_Reader_number, hl, hge']
  | cons c r =>
    obtain ⟨hc, hsz, hr⟩ := bts_drop hd
    have hlt : ¬ (s.size : Int) ≤ (a : Int) := by omega
    have ha0 : (0 : Int) ≤ (a : Int) := by omega
    have wc : IntKind.i64.wrap (c.toNat : Int) = c.toNat := by have := UInt8.toNat_lt c; rw [wrap_i64 (by omega) (by omega)]
    have wc2 : IntKind.i64.wrap ((c.toNat : Int) - 128) = (c.toNat : Int) - 128 := by have := UInt8.toNat_lt c; rw [wrap_i64 (by omega) (by omega)]
    have wa : IntKind.i64.wrap ((a : Int) + 1) = (a : Int) + 1 := wrap_i64 (by omega) (by omega)
    have wl : IntKind.i64.wrap ((s.size : Int) - ((a : Int) + 1)) = (s.size : Int) - ((a : Int) + 1) := wrap_i64 (by omega) (by omega)
    by_cases hneg : c.toNat < 128
    · have hneg' : ((c.toNat : Int) - 128 < 0) := by omega
      have hwn : IntKind.i64.wrap (-((c.toNat : Int) - 128)) = ((128 - c.toNat : Nat) : Int) := by rw [wrap_i64 (by omega) (by omega)]; omega
      obtain ⟨n, hn⟩ : ∃ n, n = (128 - c.toNat) := ⟨_, rfl⟩
      rw [← hn] at hwn
      by_cases h8 : n > 8
      · have h8' : 8 < (n : Int) := by omega
        simp -implicitDefEqProofs [x_encoding_Reader_number, hl, hlt, ha0, hc, wc, wc2, hneg, hneg', hwn, wa, wl, ← hn, h8, h8']
      have h8' : ¬ 8 < (n : Int) := by omega
      by_cases hs2 : r.length < n
      · have hs2' : (s.size : Int) - ((a : Int) + 1) < (n : Int) := by omega
        simp -implicitDefEqProofs [x_encoding_Reader_number, hl, hlt, ha0, hc, wc, wc2, hneg, hneg', hwn, wa, wl, ← hn, h8, h8', hs2, hs2']
      have hs2' : ¬ (s.size : Int) - ((a : Int) + 1) < (n : Int) := by omega
      obtain ⟨ds, hds⟩ : ∃ ds, ds = (r.take n).map fun b : UInt8 => 255 - b.toNat := ⟨_, rfl⟩
      have hdl : ds.length = n := by rw [hds]; simp; omega
      have hdg : ∀ i d, ds[i]? = some d → d < 256 ∧ ∃ c : UInt8, s.data[a + 1 + i]? = some c ∧ d = if true = true then 255 - c.toNat else c.toNat := by
        intro i d e
        rw [hds, List.getElem?_map, List.getElem?_take] at e
        split at e
        · rw [← hr i]
          cases he : r[i]? with
          | none => rw [he] at e; cases e
          | some b =>
            rw [he] at e
            simp only [Option.map_some, Option.some.injEq] at e
            have := UInt8.toNat_lt b
            exact ⟨by omega, b, rfl, by simp; omega⟩
        · cases e
      have hall : ∀ d ∈ ds, d < 256 := fun d hd => by
        obtain ⟨i, hi⟩ := List.getElem?_of_mem hd
        exact (hdg i d hi).1
      have hRn : (if n > 8 then ((0, 0, 3) : Int × Nat × Int) else if r.length < n then (0, 0, 4) else numE a true ds) = numE a true ds := by rw [if_neg h8, if_neg hs2]
      by_cases hz : ds.head? = some 0
      · have hn0 : 0 < n := by rw [← hdl]; cases ds with | nil => simp at hz | cons _ _ => simp
        have hcc : ∃ c2 : UInt8, s.data[a + 1]? = some c2 ∧ (if true = true then 255 - c2.toNat else c2.toNat) = 0 := by
          obtain ⟨_, c2, h1, h2⟩ := hdg 0 0 (by rw [← List.head?_eq_getElem?]; exact hz)
          exact ⟨c2, h1, h2.symm⟩
        obtain ⟨c2, hc2, hc0⟩ := hcc
        simp -implicitDefEqProofs [x_encoding_Reader_number, hl, hlt, ha0, hc, wc, wc2, hneg, hneg', hwn, wa, wl, ← hn, h8, h8', hs2, hs2', ← hds, numE, hz]
        refine number_l0z _ h l s x y z hl true (a + 1) (by omega) c2 hc2 hc0 n hn0 rfl _ ?_ ?_ ?_ ?_ ?_ fun st' e4 e5 e6 => ?_
        · simp
        · simp
        · simp
        · simp
        · simp
        · simp -implicitDefEqProofs [e4, e5, e6]
      have hval : valD ds < 18446744073709551616 := by
        have h1 := foldl_lt ds 0 0 hall (by simp)
        have h2 : (256 : Nat) ^ (0 + ds.length) ≤ 256 ^ 8 := Nat.pow_le_pow_right (by decide) (by omega)
        have h3 : (256 : Nat) ^ 8 = 18446744073709551616 := by decide
        unfold valD
        omega
      obtain ⟨m, hm⟩ : ∃ m, m = valD ds := ⟨_, rfl⟩
      rw [← hm] at hval
      simp -implicitDefEqProofs [x_encoding_Reader_number, hl, hlt, ha0, hc, wc, wc2, hneg, hneg', hwn, wa, wl, ← hn, h8, h8', hs2, hs2', ← hds, numE, hz, ← hm]
      refine number_l0 _ h l s x y z hl true (a + 1) ds (by omega) (by omega) hdg rfl ds 0 0 _ rfl (.inr hz) (by simp) ?_ ?_ ?_ ?_ ?_ ?_ fun st' e10 ef => ?_
      · simp
      · simp
      · simp
      · simp
      · simp [hdl]
      · simp
      have e10' : st' 10 = vk .u64 m := by rw [e10, hm]; rfl
      have g0 := ef 0 (by omega)
      have g1 := ef 1 (by omega)
      have g7 := ef 7 (by omega)
      have g8 := ef 8 (by omega)
      simp at g0 g1 g7 g8
      have wan : IntKind.i64.wrap ((a : Int) + 1 + (n : Int)) = (a : Int) + 1 + (n : Int) := wrap_i64 (by omega) (by omega)
      by_cases hbig : m > 9223372036854775808
      · have hb' : 9223372036854775808 < (m : Int) := by omega
        simp -implicitDefEqProofs [e10', g0, g1, g7, g8, hb', hbig]
      have hb' : ¬ 9223372036854775808 < (m : Int) := by omega
      have wm : IntKind.i64.wrap (IntKind.u64.wrap (-(m : Int))) = -(m : Int) := by
        rw [wrap_u64]
        exact wrap_back (by omega) (by omega)
      simp -implicitDefEqProofs [e10', g0, g1, g7, g8, hb', hbig, wm, wan, hdl]
    · have hneg' : ¬ ((c.toNat : Int) - 128 < 0) := by omega
      have hwn : ((c.toNat : Int) - 128) = ((c.toNat - 128 : Nat) : Int) := by omega
      rw [hwn] at hneg' wc2
      obtain ⟨n, hn⟩ : ∃ n, n = (c.toNat - 128) := ⟨_, rfl⟩
      rw [← hn] at hwn hneg' wc2
      by_cases h8 : n > 8
      · have h8' : 8 < (n : Int) := by omega
        simp -implicitDefEqProofs [x_encoding_Reader_number, hl, hlt, ha0, hc, wc, wc2, hneg, hneg', hwn, wa, wl, ← hn, h8, h8']
      have h8' : ¬ 8 < (n : Int) := by omega
      by_cases hs2 : r.length < n
      · have hs2' : (s.size : Int) - ((a : Int) + 1) < (n : Int) := by omega
        simp -implicitDefEqProofs [x_encoding_Reader_number, hl, hlt, ha0, hc, wc, wc2, hneg, hneg', hwn, wa, wl, ← hn, h8, h8', hs2, hs2']
      have hs2' : ¬ (s.size : Int) - ((a : Int) + 1) < (n : Int) := by omega
      obtain ⟨ds, hds⟩ : ∃ ds, ds = (r.take n).map fun b : UInt8 => b.toNat := ⟨_, rfl⟩
      have hdl : ds.length = n := by rw [hds]; simp; omega
      have hdg : ∀ i d, ds[i]? = some d → d < 256 ∧ ∃ c : UInt8, s.data[a + 1 + i]? = some c ∧ d = if false = true then 255 - c.toNat else c.toNat := by
        intro i d e
        rw [hds, List.getElem?_map, List.getElem?_take] at e
        split at e
        · rw [← hr i]
          cases he : r[i]? with
          | none => rw [he] at e; cases e
          | some b =>
            rw [he] at e
            simp only [Option.map_some, Option.some.injEq] at e
            have := UInt8.toNat_lt b
            exact ⟨by omega, b, rfl, by simp; omega⟩
        · cases e
      have hall : ∀ d ∈ ds, d < 256 := fun d hd => by
        obtain ⟨i, hi⟩ := List.getElem?_of_mem hd
        exact (hdg i d hi).1
      have hRn : (if n > 8 then ((0, 0, 3) : Int × Nat × Int) else if r.length < n then (0, 0, 4) else numE a false ds) = numE a false ds := by rw [if_neg h8, if_neg hs2]
      by_cases hz : ds.head? = some 0
      · have hn0 : 0 < n := by rw [← hdl]; cases ds with | nil => simp at hz | cons _ _ => simp
        have hcc : ∃ c2 : UInt8, s.data[a + 1]? = some c2 ∧ (if false = true then 255 - c2.toNat else c2.toNat) = 0 := by
          obtain ⟨_, c2, h1, h2⟩ := hdg 0 0 (by rw [← List.head?_eq_getElem?]; exact hz)
          exact ⟨c2, h1, h2.symm⟩
        obtain ⟨c2, hc2, hc0⟩ := hcc
        simp -implicitDefEqProofs [x_encoding_Reader_number, hl, hlt, ha0, hc, wc, wc2, hneg, hneg', hwn, wa, wl, ← hn, h8, h8', hs2, hs2', ← hds, numE, hz]
        refine number_l0z _ h l s x y z hl false (a + 1) (by omega) c2 hc2 hc0 n hn0 rfl _ ?_ ?_ ?_ ?_ ?_ fun st' e4 e5 e6 => ?_
        · simp
        · simp
        · simp
        · simp
        · simp
        · simp -implicitDefEqProofs [e4, e5, e6]
      have hval : valD ds < 18446744073709551616 := by
        have h1 := foldl_lt ds 0 0 hall (by simp)
        have h2 : (256 : Nat) ^ (0 + ds.length) ≤ 256 ^ 8 := Nat.pow_le_pow_right (by decide) (by omega)
        have h3 : (256 : Nat) ^ 8 = 18446744073709551616 := by decide
        unfold valD
        omega
      obtain ⟨m, hm⟩ : ∃ m, m = valD ds := ⟨_, rfl⟩
      rw [← hm] at hval
      simp -implicitDefEqProofs [x_encoding_Reader_number, hl, hlt, ha0, hc, wc, wc2, hneg, hneg', hwn, wa, wl, ← hn, h8, h8', hs2, hs2', ← hds, numE, hz, ← hm]
      refine number_l0 _ h l s x y z hl false (a + 1) ds (by omega) (by omega) hdg rfl ds 0 0 _ rfl (.inr hz) (by simp) ?_ ?_ ?_ ?_ ?_ ?_ fun st' e10 ef => ?_
      · simp
      · simp
      · simp
      · simp
      · simp [hdl]
      · simp
      have e10' : st' 10 = vk .u64 m := by rw [e10, hm]; rfl
      have g0 := ef 0 (by omega)
      have g1 := ef 1 (by omega)
      have g7 := ef 7 (by omega)
      have g8 := ef 8 (by omega)
      simp at g0 g1 g7 g8
      have wan : IntKind.i64.wrap ((a : Int) + 1 + (n : Int)) = (a : Int) + 1 + (n : Int) := wrap_i64 (by omega) (by omega)
      by_cases hbig : m > 9223372036854775807
      · have hb' : 9223372036854775807 < (m : Int) := by omega
        simp -implicitDefEqProofs [e10', g0, g1, g7, g8, hb', hbig]
      have hb' : ¬ 9223372036854775807 < (m : Int) := by omega
      have hb2 : ¬ 9223372036854775808 < (m : Int) := by omega
      have hb3 : ¬ 9223372036854775808 < m := by omega
      have wm : IntKind.i64.wrap (m : Int) = (m : Int) := wrap_i64 (by omega) (by omega)
      simp -implicitDefEqProofs [e10', g0, g1, g7, g8, hb', hb2, hb3, hbig, wm, wan, hdl]
end Go.Proofs.Sl

/- What the Reader's methods do: numbers and references. -/
namespace Go.Proofs.Sl

theorem rn_ok {s : ByteArray} {a : Nat} (h : (rn s a).2.2 = 0) : (rn s a).2.1 ≤ s.size ∧ a < (rn s a).2.1 ∧ Rng (rn s a).1 := by
  unfold rn at h ⊢
  cases hd : (bts s).drop a with
  | nil => rw [hd] at h; simp at h
  | cons c r =>
    obtain ⟨hc, hsz, hr⟩ := bts_drop hd
    rw [hd] at h
    simp only at h ⊢
    obtain ⟨n, hn⟩ : ∃ n, n = if c.toNat < 128 then 128 - c.toNat else c.toNat - 128 := ⟨_, rfl⟩
    rw [← hn] at h ⊢
    by_cases h8 : n > 8
    · rw [if_pos h8] at h; simp at h
    · rw [if_neg h8] at h ⊢
      by_cases hs : r.length < n
      · rw [if_pos hs] at h; simp at h
      · rw [if_neg hs] at h ⊢
        obtain ⟨ds, hds⟩ : ∃ ds, ds = (r.take n).map fun b : UInt8 => if c.toNat < 128 then 255 - b.toNat else b.toNat := ⟨_, rfl⟩
        rw [← hds] at h ⊢
        have hdl : ds.length = n := by rw [hds]; simp; omega
        unfold numE at h ⊢
        by_cases hz : ds.head? = some 0
        · rw [if_pos hz] at h; simp at h
        · rw [if_neg hz] at h ⊢
          simp only at h ⊢
          by_cases hb : decide (c.toNat < 128) = false ∧ valD ds > 9223372036854775807 ∨ valD ds > 9223372036854775808
          · rw [if_pos hb] at h; simp at h
          · rw [if_neg hb]
            simp only
            refine ⟨by omega, by omega, ?_⟩
            by_cases hc' : c.toNat < 128
            · simp only [hc', decide_true] at hb ⊢
              simp at hb
              exact ⟨by first | (simp; done) | (simp; omega), by first | (simp; done) | (simp; omega)⟩
            · simp only [hc', decide_false] at hb ⊢
              simp at hb
              exact ⟨by first | (simp; done) | (simp; omega), by first | (simp; done) | (simp; omega)⟩
theorem rn_err (s : ByteArray) (a : Nat) : (rn s a).2.2 = 0 ∨ (rn s a).2.2 = 3 ∨ (rn s a).2.2 = 4 := by
  unfold rn
  cases hd : (bts s).drop a with
  | nil => simp
  | cons c r =>
    simp only
    generalize (if c.toNat < 128 then 128 - c.toNat else c.toNat - 128) = n
    generalize (List.map (fun b : UInt8 => if c.toNat < 128 then 255 - b.toNat else b.toNat) (List.take n r)) = ds
    by_cases h8 : n > 8
    · rw [if_pos h8]; simp
    · rw [if_neg h8]
      by_cases hs : r.length < n
      · rw [if_pos hs]; simp
      · rw [if_neg hs]
        unfold numE
        by_cases hz : ds.head? = some 0
        · rw [if_pos hz]; simp
        · rw [if_neg hz]
          simp only
          by_cases hb : decide (c.toNat < 128) = false ∧ valD ds > 9223372036854775807 ∨ valD ds > 9223372036854775808
          · rw [if_pos hb]; simp
          · rw [if_neg hb]; simp
theorem Rng.zero : Rng 0 := ⟨by decide, by decide⟩

/-- Reading a number: what comes of it, the offset, the error. -/
def rNum (s : ByteArray) (a : Nat) (e : Int) : Int × Nat × Int :=
  if e ≠ 0 then (0, a, e) else if (rn s a).2.2 ≠ 0 then (0, a, (rn s a).2.2) else ((rn s a).1, (rn s a).2.1, 0)
theorem rNum_le {s : ByteArray} {a : Nat} (h : a ≤ s.size) (e : Int) : (rNum s a e).2.1 ≤ s.size := by
  unfold rNum
  split
  · exact h
  · split
    · exact h
    · exact (rn_ok (by rename_i hh; simpa using hh)).1
theorem rNum_rng (s : ByteArray) (a : Nat) (e : Int) : Rng (rNum s a e).1 := by
  unfold rNum
  split
  · exact Rng.zero
  · split
    · exact Rng.zero
    · exact (rn_ok (by rename_i hh; simpa using hh)).2.2

section
variable {h t : H} {l : Nat} {s : ByteArray} {a : Nat} {e : Int}
theorem R_ok {z : Bool} {x y : V} (hl : h[l]? = some (.box z [x, y, vi e])) : run XP i_encoding_Reader_ok [.ptr l 0] h = some (vb (e == 0), h) := by
  rw [run_eq, xp_encoding_Reader_ok]
  simp -implicitDefEqProofs [x_encoding_Reader_ok, hl]
theorem R_fail0 {x y : V} (hl : l < h.length) {k : Int} : run XP i_encoding_Reader_fail [.ptr l 0, vi k] (h.set l (.box false [x, y, vi 0])) = some (.tup [], h.set l (.box false [x, y, vi k])) := by
  rw [run_eq, xp_encoding_Reader_fail]
  simp -implicitDefEqProofs [x_encoding_Reader_fail, hl]
theorem R_Number (hl : l < h.length) (hs : s.size ≤ 10000000000000) (ha : a ≤ s.size) :
    run XP i_encoding_Reader_Number [.ptr l 0] (h.set l (.box false [vs s, vi a, vi e])) = some (vi (rNum s a e).1, h.set l (.box false [vs s, vi (rNum s a e).2.1, vi (rNum s a e).2.2])) := by
  have hat : (h.set l (.box false [vs s, vi a, vi e]))[l]? = some (.box false [vs s, vi a, vi e]) := by simp [hl]
  have hok := R_ok hat
  have hnum := R_number hat (a := a) (by omega) (by omega)
  rw [run_eq, xp_encoding_Reader_Number]
  by_cases he : e = 0
  · subst he
    by_cases hr : (rn s a).2.2 = 0
    · simp -implicitDefEqProofs [x_encoding_Reader_Number, hok, hnum, hl, hr, rNum]
    · have hr' : ((rn s a).2.2 != 0) = true := by simpa using hr
      simp -implicitDefEqProofs [x_encoding_Reader_Number, hok, hnum, hl, hr, hr', rNum, R_fail0]
  · have he' : (e == 0) = false := by simpa using he
    simp -implicitDefEqProofs [x_encoding_Reader_Number, hok, he', he, rNum]
theorem R_Number_r (hl : l < h.length) (hs : s.size ≤ 10000000000000) (ha : a ≤ s.size) :
    run XP i_encoding_Reader_Number [.ptr l 0] (h.set l (.box false [vs s, vi a, vi e]) ++ t) = some (vi (rNum s a e).1, h.set l (.box false [vs s, vi (rNum s a e).2.1, vi (rNum s a e).2.2]) ++ t) := by
  have := R_Number (h := h ++ t) (l := l) (s := s) (a := a) (e := e) (by simp; omega) hs ha
  simpa only [set_left hl] using this
theorem R_ok_r {x y : V} (hl : l < h.length) : run XP i_encoding_Reader_ok [.ptr l 0] (h.set l (.box false [x, y, vi e]) ++ t) = some (vb (e == 0), h.set l (.box false [x, y, vi e]) ++ t) :=
  R_ok (z := false) (x := x) (y := y) (by rw [at_left (by simpa using hl)]; simp [hl])
theorem R_Err (hl : h[l]? = some (.box false [vs s, vi a, vi e])) : run XP i_encoding_Reader_Err [.ptr l 0] h = some (vi e, h) := by
  rw [run_eq, xp_encoding_Reader_Err]
  simp -implicitDefEqProofs [x_encoding_Reader_Err, hl]
theorem R_Left (hl : h[l]? = some (.box false [vs s, vi a, vi e])) (hs : s.size ≤ 10000000000000) (ha : a ≤ s.size) : run XP i_encoding_Reader_Left [.ptr l 0] h = some (vi ((s.size : Int) - a), h) := by
  have w : IntKind.i64.wrap ((s.size : Int) - (a : Int)) = (s.size : Int) - (a : Int) := wrap_i64 (by omega) (by omega)
  rw [run_eq, xp_encoding_Reader_Left]
  simp -implicitDefEqProofs [x_encoding_Reader_Left, hl, w]
/-- The error of a text that should end here. -/
def rEnd (s : ByteArray) (a : Nat) (e : Int) : Int := if e ≠ 0 then e else if a < s.size then 3 else 0
theorem R_End (hl : h[l]? = some (.box false [vs s, vi a, vi e])) : run XP i_encoding_Reader_End [.ptr l 0] h = some (vi (rEnd s a e), h) := by
  rw [run_eq, xp_encoding_Reader_End]
  by_cases he : e = 0
  · subst he
    by_cases hlt : a < s.size
    · have hlt' : (a : Int) < (s.size : Int) := by omega
      simp -implicitDefEqProofs [x_encoding_Reader_End, hl, hlt, rEnd]
    · simp -implicitDefEqProofs [x_encoding_Reader_End, hl, hlt, rEnd]
  · have he' : (e != 0) = true := by simpa using he
    simp -implicitDefEqProofs [x_encoding_Reader_End, hl, he, he', rEnd]
theorem R_New : run XP i_encoding_NewReader [vs s] h = some (.ptr h.length 0, h ++ [.box false [vs s, vi 0, vi 0]]) := by
  rw [run_eq, xp_encoding_NewReader]
  simp -implicitDefEqProofs [x_encoding_NewReader, noOwn, addParts]

/-- What is read, or zero after an error. -/
def rVal (e : Int) (v z : V) : V := if e = 0 then v else z
theorem R_readRef (hl : l < h.length) {x y p q : V} (hp : p.plain = true) (hq : q.plain = true) : run XP i_encoding_read_api_Ref [.ptr l 0, .agg [p, q]] (h.set l (.box false [x, y, vi e])) = some (rVal e (.agg [p, q]) (.agg [vi 0, vi 0]), h.set l (.box false [x, y, vi e])) := by
  rw [run_eq, xp_encoding_read_api_Ref]
  by_cases he : e = 0
  · subst he
    simp -implicitDefEqProofs [x_encoding_read_api_Ref, hl, R_ok_r, noOwn, hp, hq, putRow, rVal]
  · have he' : (e == 0) = false := by simpa using he
    simp -implicitDefEqProofs [x_encoding_read_api_Ref, hl, R_ok_r, noOwn, hp, hq, putRow, rVal, he, he']
end
end Go.Proofs.Sl

/- The examples of the document hold; the order of the forms. -/
namespace Go.Proofs.Sl
section
variable {h t : H} {l : Nat} {s : ByteArray} {a : Nat} {e : Int}
theorem R_readRef_r (hl : l < h.length) {x y p q : V} (hp : p.plain = true) (hq : q.plain = true) : run XP i_encoding_read_api_Ref [.ptr l 0, .agg [p, q]] (h.set l (.box false [x, y, vi e]) ++ t) = some (rVal e (.agg [p, q]) (.agg [vi 0, vi 0]), h.set l (.box false [x, y, vi e]) ++ t) := by
  have := R_readRef (h := h ++ t) (l := l) (e := e) (x := x) (y := y) (by simp; omega) hp hq
  simpa only [set_left hl] using this

/-- Reading a reference. -/
def rRef (s : ByteArray) (a : Nat) (e : Int) : RF × Nat × Int :=
  let x := rNum s a e
  let y := rNum s x.2.1 x.2.2
  (if y.2.2 = 0 then ⟨x.1, y.1⟩ else ⟨0, 0⟩, y.2.1, y.2.2)
theorem R_Ref (hl : l < h.length) (hs : s.size ≤ 10000000000000) (ha : a ≤ s.size) :
    run XP i_encoding_Reader_Ref [.ptr l 0] (h.set l (.box false [vs s, vi a, vi e])) = some ((rRef s a e).1.v, h.set l (.box false [vs s, vi (rRef s a e).2.1, vi (rRef s a e).2.2])) := by
  have hx := rNum_le ha e
  have h1 : ∀ t : H, _ := fun t => R_Number_r (t := t) (e := e) hl hs ha
  have h2 : ∀ t : H, _ := fun t => R_Number_r (t := t) (e := (rNum s a e).2.2) hl hs hx
  unfold rRef RF.v
  rw [run_eq, xp_encoding_Reader_Ref]
  generalize rNum s a e = q at hx h1 h2 ⊢
  obtain ⟨n1, a1, e1⟩ := q
  simp only at hx h1 h2 ⊢
  generalize rNum s a1 e1 = q at h2 ⊢
  obtain ⟨n2, a2, e2⟩ := q
  simp only at h2 ⊢
  by_cases he : e2 = 0
  · subst he
    simp -implicitDefEqProofs [x_encoding_Reader_Ref, hl, h1, h2, addParts, R_readRef_r, rVal, putRow]
  · simp -implicitDefEqProofs [x_encoding_Reader_Ref, hl, h1, h2, addParts, R_readRef_r, rVal, putRow, he]
theorem R_Ref_r (hl : l < h.length) (hs : s.size ≤ 10000000000000) (ha : a ≤ s.size) :
    run XP i_encoding_Reader_Ref [.ptr l 0] (h.set l (.box false [vs s, vi a, vi e]) ++ t) = some ((rRef s a e).1.v, h.set l (.box false [vs s, vi (rRef s a e).2.1, vi (rRef s a e).2.2]) ++ t) := by
  have := R_Ref (h := h ++ t) (l := l) (s := s) (a := a) (e := e) (by simp; omega) hs ha
  simpa only [set_left hl] using this

theorem cat1 {x d : O} : (h ++ [d]).set h.length x = h ++ [x] := by simp
theorem cat2 {w x d : O} : (h ++ [w, d]).set (h.length + 1) x = h ++ [w, x] := by simp

theorem b300 : fNum 300 = [130, 1, 44] := by
  have : blen (Int.natAbs 300) = 2 := by
    show blen 300 = 2
    rw [blen_pos (by decide), blen_pos (by decide), show 300 / 256 / 256 = 0 from rfl, blen_zero]
  unfold fNum
  rw [this]
  decide +kernel
theorem bm300 : fNum (-300) = [126, 254, 211] := by
  have : blen (Int.natAbs (-300)) = 2 := by
    show blen 300 = 2
    rw [blen_pos (by decide), blen_pos (by decide), show 300 / 256 / 256 = 0 from rfl, blen_zero]
  unfold fNum
  rw [this]
  decide +kernel
theorem bone {n : Int} (h1 : 0 < n) (h2 : n < 256) : blen n.natAbs = 1 := by
  have : n.natAbs / 256 = 0 := by omega
  rw [blen_pos (by omega), this, blen_zero]
theorem b3 : fNum 3 = [129, 3] := by
  unfold fNum
  rw [bone (by decide) (by decide)]
  decide +kernel
theorem b1 : fNum 1 = [129, 1] := by
  unfold fNum
  rw [bone (by decide) (by decide)]
  decide +kernel
theorem b0 : fNum 0 = [128] := by
  have : blen (Int.natAbs 0) = 0 := blen_zero
  unfold fNum
  rw [this]
  decide +kernel

def kText : ByteArray := ⟨#[129, 7, 128, 129, 0]⟩
def kAttr : AT := ⟨⟨#[97]⟩, ⟨3, ⟨#[]⟩, 1⟩⟩
theorem known_ok (h : H) : run XP i_sleuthlaw01_known [] h = some (vb true, h) := by
  have hw : wc [] = vnil := by simp [wc]
  have w1 := W_number (h := h ++ [.dead]) (l := h.length) (bs := []) (n := 300) (by simp) ⟨by decide, by decide⟩ (by simp)
  have w2 := W_number (h := h ++ [.dead]) (l := h.length) (bs := fNum 300) (n := -300) (by simp) ⟨by decide, by decide⟩ (by rw [b300]; simp)
  have w3 := W_attr (h := h ++ [.dead]) (l := h.length) (bs := fNum 300 ++ fNum (-300)) (a := kAttr) (by simp) ⟨by decide, ⟨⟨by decide, by decide⟩, by decide, ⟨by decide, by decide⟩⟩⟩ (by rw [b300, bm300]; simp)
  rw [hw] at w1
  simp only [cat1, List.nil_append] at w1 w2 w3
  have hb : fNum 300 ++ fNum (-300) ++ kAttr.f = [130, 1, 44, 126, 254, 211, 129, 1, 97, 129, 3, 128, 129, 1] := by
    have e1 : fText kAttr.key = [129, 1, 97] := by
      show fNum 1 ++ [97] = _
      rw [b1]
      rfl
    have e2 : kAttr.val.f = [129, 3, 128, 129, 1] := by
      show fNum 3 ++ (fNum 0 ++ [] ++ fNum 1) = _
      rw [b3, b0, b1]
      rfl
    rw [b300, bm300, AT.f, e1, e2]
    rfl
  rw [hb] at w3
  have r0 := R_New (s := kText) (h := h ++ [.box false [wc [130, 1, 44, 126, 254, 211, 129, 1, 97, 129, 3, 128, 129, 1]]])
  have hr : rRef kText 0 0 = (⟨7, 0⟩, 3, 0) := by
    have h1 : rNum kText 0 0 = (7, 2, 0) := by decide +kernel
    have h2 : rNum kText 2 0 = (0, 3, 0) := by decide +kernel
    unfold rRef
    rw [h1]
    simp only
    rw [h2]
    rfl
  have r1 := R_Ref (h := h ++ [.box false [wc [130, 1, 44, 126, 254, 211, 129, 1, 97, 129, 3, 128, 129, 1]], .dead]) (l := h.length + 1) (s := kText) (a := 0) (e := 0) (by simp) (by decide) (by decide)
  have hn : rNum kText 3 0 = (0, 3, 3) := by decide +kernel
  have r2 := R_Number_r (h := h ++ [.box false [wc [130, 1, 44, 126, 254, 211, 129, 1, 97, 129, 3, 128, 129, 1]], .dead]) (t := [.box false [vi 7, vi 0]]) (l := h.length + 1) (s := kText) (a := 3) (e := 0) (by simp) (by decide) (by decide)
  rw [hr] at r1
  rw [hn] at r2
  have e3 : ((3 : Nat) : Int) = 3 := rfl
  have e0 : ((0 : Nat) : Int) = 0 := rfl
  simp only [cat2, List.append_assoc, List.cons_append, List.nil_append, RF.v, e3, e0] at r0 r1 r2
  have r3 := R_Err (h := h ++ [.box false [wc [130, 1, 44, 126, 254, 211, 129, 1, 97, 129, 3, 128, 129, 1]], .box false [vs kText, vi 3, vi 3], .box false [vi 7, vi 0]]) (l := h.length + 1) (s := kText) (a := 3) (e := 3) (by simp)
  have r4 := R_Left (h := h ++ [.box false [wc [130, 1, 44, 126, 254, 211, 129, 1, 97, 129, 3, 128, 129, 1]], .box false [vs kText, vi 3, vi 3], .box false [vi 7, vi 0]]) (l := h.length + 1) (s := kText) (a := 3) (e := 3) (by simp) (by decide) (by decide)
  have r5 := W_bytes (h := h ++ [.box false [wc [130, 1, 44, 126, 254, 211, 129, 1, 97, 129, 3, 128, 129, 1]], .box false [vs kText, vi 3, vi 3], .box false [vi 7, vi 0]]) (l := h.length) (bs := [130, 1, 44, 126, 254, 211, 129, 1, 97, 129, 3, 128, 129, 1]) (by simp)
  have hs5 : ((kText.size : Nat) : Int) - ((3 : Nat) : Int) = 2 := by decide
  rw [hs5] at r4
  have hk : kText = ⟨#[129, 7, 128, 129, 0]⟩ := rfl
  have ha : kAttr.v = .agg [vs ⟨#[97]⟩, vi 3, vs ⟨#[]⟩, vi 1] := rfl
  rw [ha] at w3
  rw [hk] at r0 r1 r2 r3 r4 r5
  rw [run_eq, xp_sleuthlaw01_known]
  simp -implicitDefEqProofs [x_sleuthlaw01_known, w1, w2, w3, r0, r1, r2, r3, r4, r5, addParts, putRow]
end
end Go.Proofs.Sl

/- The order of the forms of numbers. -/
namespace Go.Proofs.Sl

/-- At the first place where they differ u has the lesser byte. -/
def Cut (u v : List UInt8) : Prop := ∃ p a b x y, u = p ++ a :: x ∧ v = p ++ b :: y ∧ a < b
theorem Cut.ne {u v : List UInt8} (h : Cut u v) : u ≠ v := by
  obtain ⟨p, a, b, x, y, rfl, rfl, hab⟩ := h
  intro e
  have := List.append_cancel_left e
  injection this with e1 _
  subst e1
  exact absurd hab (by simp)
theorem Cut.less {u v : List UInt8} (h : Cut u v) : Op.bytesLess u v = true := by
  obtain ⟨p, a, b, x, y, rfl, rfl, hab⟩ := h
  induction p with
  | nil => simp [Op.bytesLess, hab]
  | cons c p ih => simpa [Op.bytesLess] using ih
theorem Cut.notLess {u v : List UInt8} (h : Cut u v) : Op.bytesLess v u = false := by
  obtain ⟨p, a, b, x, y, rfl, rfl, hab⟩ := h
  induction p with
  | nil =>
    have h1 : ¬ b < a := by
      rw [UInt8.lt_iff_toNat_lt] at hab ⊢
      omega
    have h2 : ¬ b = a := by
      intro e
      subst e
      rw [UInt8.lt_iff_toNat_lt] at hab
      omega
    simp [Op.bytesLess, h1, h2]
  | cons c p ih => simpa [Op.bytesLess] using ih
theorem Cut.take {u v : List UInt8} (h : Cut u v) : u.take (min u.length v.length) ≠ v.take (min u.length v.length) := by
  obtain ⟨p, a, b, x, y, rfl, rfl, hab⟩ := h
  intro e
  have e1 := congrArg (·[p.length]?) e
  simp only [List.getElem?_take] at e1
  rw [if_pos (by simp), if_pos (by simp)] at e1
  simp at e1
  subst e1
  exact absurd hab (by simp)

theorem dig_cut : ∀ k m n, m % 256 ^ k < n % 256 ^ k → ∃ p a b x y, dig m k = p ++ a :: x ∧ dig n k = p ++ b :: y ∧ a < b ∧ b < 256
  | 0, m, n, h => by simp [Nat.mod_one] at h
  | k + 1, m, n, h => by
    have hp : 0 < 256 ^ k := Nat.pow_pos (by decide)
    have e1 : ∀ q : Nat, q % 256 ^ (k + 1) = q % 256 ^ k + 256 ^ k * (q / 256 ^ k % 256) := fun q => by rw [Nat.pow_succ, Nat.mod_mul]
    rw [e1, e1] at h
    have hm := Nat.mod_lt m hp
    have hn := Nat.mod_lt n hp
    have hb : n / 256 ^ k % 256 < 256 := Nat.mod_lt _ (by decide)
    by_cases hlt : m / 256 ^ k % 256 < n / 256 ^ k % 256
    · exact ⟨[], _, _, dig m k, dig n k, rfl, rfl, hlt, hb⟩
    · have heq : m / 256 ^ k % 256 = n / 256 ^ k % 256 := by
        apply Nat.le_antisymm _ (by omega)
        apply Nat.le_of_not_lt
        intro hgt
        have : 256 ^ k * (n / 256 ^ k % 256 + 1) ≤ 256 ^ k * (m / 256 ^ k % 256) := Nat.mul_le_mul_left _ hgt
        rw [Nat.mul_add, Nat.mul_one] at this
        omega
      rw [heq] at h
      obtain ⟨p, a, b, x, y, h1, h2, h3, h4⟩ := dig_cut k m n (by omega)
      exact ⟨n / 256 ^ k % 256 :: p, a, b, x, y, by simp [dig, h1, heq], by simp [dig, h2], h3, h4⟩

theorem lt_blen : ∀ m, m < 256 ^ blen m := by
  intro m
  induction m using Nat.strongRecOn with
  | ind m ih =>
    by_cases h0 : m = 0
    · subst h0; simp [blen_zero]
    · rw [blen_pos h0, Nat.pow_succ]
      have := ih (m / 256) (by omega)
      omega
theorem blen_mono {m n : Nat} (h : m ≤ n) : blen m ≤ blen n := blen_le _ _ (Nat.lt_of_le_of_lt h (lt_blen n))

theorem ofNat_lt {a b : Nat} (h : a < b) (hb : b < 256) : UInt8.ofNat a < UInt8.ofNat b := by
  rw [UInt8.lt_iff_toNat_lt]
  simp
  omega

theorem fNum_cut {m n : Int} (hm : Rng m) (hn : Rng n) (h : m < n) : Cut (fNum m) (fNum n) := by
  have b1 := hm.blen
  have b2 := hn.blen
  unfold fNum
  by_cases h1 : m < 0
  · by_cases h2 : n < 0
    · have hle : blen n.natAbs ≤ blen m.natAbs := blen_mono (by omega)
      by_cases hlt : blen n.natAbs < blen m.natAbs
      · refine ⟨[], _, _, _, _, rfl, rfl, ?_⟩
        rw [if_pos h1, if_pos h2]
        exact ofNat_lt (by omega) (by omega)
      · have heq : blen m.natAbs = blen n.natAbs := by omega
        have l1 := lt_blen m.natAbs
        have l2 := lt_blen n.natAbs
        rw [heq] at l1
        obtain ⟨p, a, b, x, y, e1, e2, hab, hb⟩ := dig_cut (blen n.natAbs) n.natAbs m.natAbs (by rw [Nat.mod_eq_of_lt l1, Nat.mod_eq_of_lt l2]; omega)
        rw [heq, e1, e2, if_pos h1, if_pos h2]
        refine ⟨UInt8.ofNat (128 - blen n.natAbs) :: p.map (flipB true), flipB true b, flipB true a, y.map (flipB true), x.map (flipB true), ?_, ?_, ?_⟩
        · simp [h1]
        · simp [h2]
        · exact ofNat_lt (by simp; omega) (by simp; omega)
    · refine ⟨[], _, _, _, _, rfl, rfl, ?_⟩
      rw [if_pos h1, if_neg h2]
      have : 0 < blen m.natAbs := by rw [blen_pos (by omega)]; omega
      exact ofNat_lt (by omega) (by omega)
  · have h2 : ¬ n < 0 := by omega
    have hle : blen m.natAbs ≤ blen n.natAbs := blen_mono (by omega)
    by_cases hlt : blen m.natAbs < blen n.natAbs
    · refine ⟨[], _, _, _, _, rfl, rfl, ?_⟩
      rw [if_neg h1, if_neg h2]
      exact ofNat_lt (by omega) (by omega)
    · have heq : blen m.natAbs = blen n.natAbs := by omega
      have l1 := lt_blen m.natAbs
      have l2 := lt_blen n.natAbs
      rw [heq] at l1
      obtain ⟨p, a, b, x, y, e1, e2, hab, hb⟩ := dig_cut (blen n.natAbs) m.natAbs n.natAbs (by rw [Nat.mod_eq_of_lt l1, Nat.mod_eq_of_lt l2]; omega)
      rw [heq, e1, e2, if_neg h1, if_neg h2]
      refine ⟨UInt8.ofNat (128 + blen n.natAbs) :: p.map (flipB false), flipB false a, flipB false b, x.map (flipB false), y.map (flipB false), ?_, ?_, ?_⟩
      · simp [h1]
      · simp [h2]
      · exact ofNat_lt (by simp; omega) (by simp; omega)

theorem toList_ofList (l : List UInt8) : (⟨l.toArray⟩ : ByteArray).toList = l := by
  rw [ByteArray.toList_eq]
theorem toList_bts (s : ByteArray) : s.toList = bts s := ByteArray.toList_eq s
theorem size_ofList (l : List UInt8) : (⟨l.toArray⟩ : ByteArray).size = l.length := by
  show l.toArray.size = _
  simp
theorem less_self : ∀ l : List UInt8, Op.bytesLess l l = false
  | [] => rfl
  | a :: l => by simp [Op.bytesLess, less_self l]
theorem extract_ofList (l : List UInt8) (a b : Nat) : (⟨l.toArray⟩ : ByteArray).extract a b = ⟨((l.take b).drop a).toArray⟩ := by
  have : ((⟨l.toArray⟩ : ByteArray).extract a b).data = ((l.take b).drop a).toArray := by
    rw [ByteArray.data_extract]
    apply Array.ext'
    simp [List.extract_eq_take_drop, List.drop_take]
  calc (⟨l.toArray⟩ : ByteArray).extract a b = ⟨((⟨l.toArray⟩ : ByteArray).extract a b).data⟩ := rfl
    _ = _ := by rw [this]
end Go.Proofs.Sl

/- The reference's forms of numbers. -/
namespace Go.Proofs.Sl

/-- k digits, the least first. -/
def lek : Nat → Nat → List Nat
  | _, 0 => []
  | m, k + 1 => m % 256 :: lek (m / 256) k
theorem lek_snoc : ∀ k m, lek m (k + 1) = lek m k ++ [m / 256 ^ k % 256]
  | 0, m => by simp [lek]
  | k + 1, m => by
    have := lek_snoc k (m / 256)
    rw [show lek m (k + 1 + 1) = m % 256 :: lek (m / 256) (k + 1) from rfl, this]
    simp [lek, Nat.div_div_eq_div_mul, Nat.pow_succ, Nat.mul_comm]
theorem dig_lek : ∀ k m, dig m k = (lek m k).reverse
  | 0, m => rfl
  | k + 1, m => by rw [lek_snoc, List.reverse_append, ← dig_lek k m]; rfl
theorem lek_length : ∀ k m, (lek m k).length = k
  | 0, m => rfl
  | k + 1, m => by simp [lek, lek_length k]
theorem lek_lt : ∀ k m d, d ∈ lek m k → d < 256
  | 0, m, d, h => by simp [lek] at h
  | k + 1, m, d, h => by
    simp only [lek, List.mem_cons] at h
    rcases h with rfl | h
    · exact Nat.mod_lt _ (by decide)
    · exact lek_lt k _ _ h

/-- Digits as bytes. -/
def nb (l : List Nat) : List V := l.map fun d : Nat => vk .u8 (d : Int)
theorem nb_length (l : List Nat) : (nb l).length = l.length := by simp [nb]
theorem wide_nb : ∀ l : List Nat, wide 1 (nb l) = true
  | [] => rfl
  | b :: l => by
    show ((_ : Bool) && wide 1 (nb l)) = true
    rw [wide_nb l]
    rfl
theorem closeds_nb : ∀ l : List Nat, V.closed.closeds (nb l) = true
  | [] => rfl
  | b :: l => by
    show ((_ : Bool) && V.closed.closeds (nb l)) = true
    rw [closeds_nb l]
    rfl
theorem bytesOf_nb : ∀ l : List Nat, bytesOf (nb l) = some (l.map UInt8.ofNat)
  | [] => rfl
  | b :: l => by
    show ob (bytesOf (nb l)) _ = _
    rw [bytesOf_nb l]
    simp

theorem ref_magnitude (h : H) {n : Int} (hn : Rng n) : run XP i_sleuthref01_magnitude [vi n] h = some (vk .u64 n.natAbs, h) := by
  obtain ⟨h1, h2⟩ := hn
  rw [run_eq, xp_sleuthref01_magnitude]
  by_cases hneg : n < 0
  · have w1 : IntKind.i64.wrap (n + 1) = n + 1 := wrap_i64 (by omega) (by omega)
    have w2 : IntKind.i64.wrap (-(n + 1)) = -(n + 1) := wrap_i64 (by omega) (by omega)
    simp -implicitDefEqProofs [x_sleuthref01_magnitude, hneg, w1, w2, wrap_u64]
    omega
  · simp -implicitDefEqProofs [x_sleuthref01_magnitude, hneg, wrap_u64]
    omega

/-- The reference's list of digits, and where it lies. -/
def lowV (h : H) (l : List Nat) : V := if l = [] then vnil else .ref h.length l.length
def lowT (l : List Nat) : H := if l = [] then [] else [.arr false 1 (nb l)]

theorem refn_l0 (base : Nat) (h : H) {β : Type} {f : Ex × St → Option β} {b : Option β} {B : Body} (hB : B = xcode (run XP) loopW base x_sleuthref01_Number_l0) :
    ∀ (m : Nat) (low : List Nat) (s : Sl), s 4 = vk .u64 m → s 3 = lowV h low → m < 18446744073709551616 → low.length + blen m ≤ 100 →
    (∀ s' : Sl, s' 3 = lowV h (low ++ lek m (blen m)) → (∀ t, t < 3 → s' t = s t) → f (.exit 0, ⟨s', h ++ lowT (low ++ lek m (blen m))⟩) = b) → ob (loopW B ⟨s, h ++ lowT low⟩) f = b := by
  have step : ∀ st, B st = xcode (run XP) loopW base x_sleuthref01_Number_l0 st := fun st => by rw [hB]
  intro m
  induction m using Nat.strongRecOn with
  | ind m ih =>
    intro low s h4 h3 hm hl kk
    rw [loopW_cps]
    by_cases h0 : m = 0
    · subst h0
      simp only [blen_zero, lek, List.append_nil] at kk
      simp -implicitDefEqProofs [step, x_sleuthref01_Number_l0, h4]
      exact kk _ (by simp [h3]) fun t ht => by simp (disch := omega) only [upd_ne]
    · have hp : 0 < m := by omega
      rw [blen_pos h0] at hl kk
      have w1 : IntKind.u8.wrap ((m : Int).tmod 256) = ((m % 256 : Nat) : Int) := by
        rw [wrap_u8, Int.tmod_eq_emod_of_nonneg (by omega)]
        omega
      have w2 : IntKind.u64.wrap ((m : Int).tdiv 256) = ((m / 256 : Nat) : Int) := by
        rw [wrap_u64, Int.tdiv_eq_ediv_of_nonneg (by omega)]
        omega
      have htm : (m : Int).tmod 256 = (m : Int) % 256 := Int.tmod_eq_emod_of_nonneg (by omega)
      have w1' : IntKind.u8.wrap ((m : Int) % 256) = (m : Int) % 256 := by rw [wrap_u8]; omega
      have w2' : IntKind.u64.wrap ((m : Int) / 256) = (m : Int) / 256 := by rw [wrap_u64]; omega
      have next : ∀ s2 : Sl, s2 4 = vk .u64 (m / 256 : Nat) → s2 3 = lowV h (low ++ [m % 256]) → (∀ t, t < 3 → s2 t = s t) → ob (loopW B ⟨s2, h ++ lowT (low ++ [m % 256])⟩) f = b := by
        intro s2 g4 g3 gf
        refine ih (m / 256) (by omega) (low ++ [m % 256]) s2 g4 g3 (by omega) (by simp; omega) fun s' e3 ef => ?_
        have := kk s' (by rw [e3]; simp [lek]) fun t ht => (ef t ht).trans (gf t ht)
        simpa [lek] using this
      by_cases hlow : low = []
      · subst hlow
        have e1 : lowV h [] = vnil := rfl
        have e2 : lowT [] = [] := rfl
        rw [e1] at h3
        rw [e2, List.append_nil]
        simp -implicitDefEqProofs [step, x_sleuthref01_Number_l0, h4, h3, hp, htm, w1', w2']
        have e3 : lowT ([] ++ [m % 256]) = [.arr false 1 [vk .u8 ((m % 256 : Nat) : Int)]] := rfl
        rw [e3] at next
        simp only [Int.natCast_emod, Int.natCast_ediv, Int.cast_ofNat_Int] at next ⊢
        apply next
        · simp
        · simp [lowV]
        · intro t ht
          simp (disch := omega) only [upd_ne]
      · have e1 : lowV h low = .ref h.length low.length := by simp [lowV, hlow]
        have e2 : lowT low = [.arr false 1 (nb low)] := by simp [lowT, hlow]
        have hlim : low.length ≤ 140737488355327 := by omega
        rw [e1] at h3
        rw [e2]
        simp -implicitDefEqProofs [step, x_sleuthref01_Number_l0, h4, h3, hp, htm, w1', w2', nb_length, hlim]
        have e3 : lowT (low ++ [m % 256]) = [.arr false 1 (nb low ++ [vk .u8 ((m % 256 : Nat) : Int)])] := by simp [lowT, nb]
        rw [e3] at next
        simp only [Int.natCast_emod, Int.natCast_ediv, Int.cast_ofNat_Int] at next ⊢
        apply next
        · simp
        · simp [lowV]
        · intro t ht
          simp (disch := omega) only [upd_ne]

theorem refn_l1 (base : Nat) (h : H) (low : List Nat) (neg : Bool) (n : Int) (hneg : neg = decide (n < 0)) (hlow : ∀ d ∈ low, d < 256) (hll : low.length ≤ 100) {β : Type} {f : Ex × St → Option β} {b : Option β} {B : Body}
    (hB : B = xcode (run XP) loopW base x_sleuthref01_Number_l1) : ∀ (k : Nat) (out : List UInt8) (s : Sl), k ≤ low.length → s 0 = vi n → s 3 = lowV h low → s 6 = .ref (h.length + (lowT low).length) out.length → s 7 = vi ((k : Int) - 1) → out.length + k ≤ 1000 →
    (∀ s' : Sl, s' 6 = .ref (h.length + (lowT low).length) (out.length + k) → f (.exit 2, ⟨s', h ++ (lowT low ++ [.arr false 1 (bl (out ++ ((low.take k).reverse.map (flipB neg))))])⟩) = b) → ob (loopW B ⟨s, h ++ (lowT low ++ [.arr false 1 (bl out)])⟩) f = b := by
  have step : ∀ st, B st = xcode (run XP) loopW base x_sleuthref01_Number_l1 st := fun st => by rw [hB]
  intro k
  induction k with
  | zero =>
    intro out s hk h0 h3 h6 h7 hl kk
    rw [loopW_cps]
    simp -implicitDefEqProofs [step, x_sleuthref01_Number_l1, h7]
    have := kk (upd (upd s 35 (vi (-1))) 36 (vb false)) (by simpa using h6)
    simpa using this
  | succ k ih =>
    intro out s hk h0 h3 h6 h7 hl kk
    have hne : low ≠ [] := by intro e; rw [e] at hk; simp at hk
    have hg : low[k]? = some (low[k]'(by omega)) := List.getElem?_eq_getElem (by omega)
    generalize hd : low[k]'(by omega) = d at hg
    have hd256 : d < 256 := hlow d (List.mem_of_getElem? hg)
    have h3' : s 3 = .ref h.length low.length := by rw [h3]; simp [lowV, hne]
    have hT : lowT low = [.arr false 1 (nb low)] := by simp [lowT, hne]
    have hnb : (nb low)[k]? = some (vk .u8 (d : Int)) := by simp [nb, hg]
    have hnb' : ∀ hh, (nb low)[k]'hh = vk .u8 (d : Int) := fun hh => by
      rw [List.getElem?_eq_getElem hh] at hnb
      exact Option.some.inj hnb
    have h7' : s 7 = vi k := by rw [h7]; congr 2; omega
    have hlt : k < low.length := by omega
    have hout : out.length ≤ 140737488355327 := by omega
    have htake : (low.take (k + 1)).reverse.map (flipB neg) = flipB neg d :: (low.take k).reverse.map (flipB neg) := by
      rw [List.take_add_one, hg]
      simp
    rw [loopW_cps]
    have next : ∀ s2 : Sl, s2 0 = vi n → s2 3 = lowV h low → s2 6 = .ref (h.length + (lowT low).length) (out.length + 1) → s2 7 = vi ((k : Int) - 1) → ob (loopW B ⟨s2, h ++ (lowT low ++ [.arr false 1 (bl out ++ [vk .u8 ((flipB neg d).toNat : Int)])])⟩) f = b := by
      intro s2 g0 g3 g6 g7
      have := ih (out ++ [flipB neg d]) s2 (by omega) g0 g3 (by simpa using g6) g7 (by simp; omega) fun s' e6 => by
        have := kk s' (by rw [e6]; congr 1; simp; omega)
        rw [htake] at this
        simpa using this
      simpa [bl] using this
    have w7 : IntKind.i64.wrap ((k : Int) - 1) = (k : Int) - 1 := wrap_i64 (by omega) (by omega)
    rw [hT] at h6 next ⊢
    simp only [List.length_cons, List.length_nil, Nat.zero_add, List.cons_append, List.nil_append] at h6 next ⊢
    cases neg with
    | true =>
      have hn : n < 0 := by simpa using hneg.symm
      have w8 : IntKind.u8.wrap (255 - (d : Int)) = ((flipB true d).toNat : Int) := by
        rw [wrap_u8]
        simp [flipB]
        omega
      simp -implicitDefEqProofs [step, x_sleuthref01_Number_l1, h0, h3', h6, h7', nb_length, hlt, hnb', hn, w8, bl_length, hout, w7]
      apply next <;> simp [h0, h3]
    | false =>
      have hn : ¬ n < 0 := by simpa using hneg.symm
      have w8 : ((flipB false d).toNat : Int) = (d : Int) := by
        simp [flipB]
        omega
      rw [w8] at next
      simp -implicitDefEqProofs [step, x_sleuthref01_Number_l1, h0, h3', h6, h7', nb_length, hlt, hnb', hn, bl_length, hout, w7]
      apply next <;> simp [h0, h3]

theorem ref_number (h : H) {n : Int} (hn : Rng n) : run XP i_sleuthref01_Number [vi n] h = some (vs ⟨(fNum n).toArray⟩, h) := by
  have hmag := ref_magnitude h hn
  have hb := hn.blen
  have hm64 : n.natAbs < 18446744073709551616 := by have := hn.1; have := hn.2; omega
  obtain ⟨low, hlow⟩ : ∃ low, low = lek n.natAbs (blen n.natAbs) := ⟨_, rfl⟩
  have hll : low.length = blen n.natAbs := by rw [hlow, lek_length]
  have hl256 : ∀ d ∈ low, d < 256 := by rw [hlow]; exact lek_lt _ _
  have htl : (lowV h low).toL (h ++ lowT low) = some (nb low) := by
    unfold lowV lowT
    by_cases hne : low = []
    · simp [hne, nb]
    · simp [hne, nb_length]
  have htl2 : ∀ t : H, (lowV h low).toL (h ++ (lowT low ++ t)) = some (nb low) := by
    intro t
    unfold lowV lowT
    by_cases hne : low = []
    · simp [hne, nb]
    · simp [hne, nb_length]
  rw [run_eq, xp_sleuthref01_Number]
  simp -implicitDefEqProofs [x_sleuthref01_Number, hmag]
  have key := fun (f : Ex × St → Option (V × H)) (b : Option (V × H)) => refn_l0 (β := V × H) (f := f) (b := b) (B := xcode (run XP) loopW h.length x_sleuthref01_Number_l0) h.length h rfl n.natAbs []
  have e2 : lowT [] = [] := rfl
  simp only [e2, List.append_nil, List.nil_append, ← hlow] at key
  refine key _ _ _ ?_ ?_ hm64 (by simp; omega) fun s' e3 ef => ?_
  · simp
  · simp [lowV]
  have g0 := ef 0 (by omega)
  simp at g0
  obtain ⟨c1, hc1⟩ : ∃ c : UInt8, c = UInt8.ofNat (128 - blen n.natAbs) := ⟨_, rfl⟩
  obtain ⟨c2, hc2⟩ : ∃ c : UInt8, c = UInt8.ofNat (128 + blen n.natAbs) := ⟨_, rfl⟩
  have w1 : IntKind.u8.wrap (IntKind.i64.wrap (128 - (blen n.natAbs : Int))) = (c1.toNat : Int) := by
    rw [wrap_i64 (by omega) (by omega), wrap_u8, hc1]
    simp
    omega
  have w2 : IntKind.u8.wrap (IntKind.i64.wrap (128 + (blen n.natAbs : Int))) = (c2.toNat : Int) := by
    rw [wrap_i64 (by omega) (by omega), wrap_u8, hc2]
    simp
  have w3 : IntKind.i64.wrap ((blen n.natAbs : Int) - 1) = (blen n.natAbs : Int) - 1 := wrap_i64 (by omega) (by omega)
  have hform : ∀ (neg : Bool) (c : UInt8), neg = decide (n < 0) → c = (if neg = true then c1 else c2) → [c] ++ (low.take low.length).reverse.map (flipB neg) = fNum n := by
    intro neg c h1 h2
    rw [List.take_length, hlow, ← dig_lek]
    unfold fNum
    subst h1
    rw [h2, hc1, hc2]
    by_cases hneg : n < 0 <;> simp [hneg]
  have fin : ∀ (neg : Bool) (c : UInt8) (s2 : Sl), neg = decide (n < 0) → c = (if neg = true then c1 else c2) → s2 0 = vi n → s2 3 = lowV h low → s2 6 = .ref (h.length + (lowT low).length) 1 → s2 7 = vi ((low.length : Int) - 1) → ∀ (f : Ex × St → Option (V × H)) (b : Option (V × H)),
      (∀ s' : Sl, s' 6 = .ref (h.length + (lowT low).length) (fNum n).length → f (.exit 2, ⟨s', h ++ (lowT low ++ [.arr false 1 (bl (fNum n))])⟩) = b) → ob (loopW (xcode (run XP) loopW h.length x_sleuthref01_Number_l1) ⟨s2, h ++ (lowT low ++ [.arr false 1 [vk .u8 (c.toNat : Int)]])⟩) f = b := by
    intro neg c s2 h1 h2 g0 g3 g6 g7 f b kk
    refine refn_l1 h.length h low neg n h1 hl256 (by omega) rfl low.length [c] s2 (Nat.le_refl _) g0 g3 g6 g7 (by simp; omega) fun s' e6 => ?_
    rw [hform neg c h1 h2]
    apply kk
    rw [e6, fNum_length, hll]
    rfl
  have hat : (h ++ (lowT low ++ [.arr false 1 (bl (fNum n))] : H))[h.length + (lowT low).length]? = some (.arr false 1 (bl (fNum n))) := by
    rw [at_app]
    simp
  by_cases hneg : n < 0
  · simp -implicitDefEqProofs [e3, g0, htl, htl2, nb_length, hll, hneg, w1, w3]
    refine fin true c1 _ (by simp [hneg]) rfl ?_ ?_ ?_ ?_ _ _ fun s3 e6 => ?_
    · simp [g0]
    · simp [e3]
    · simp
    · simp [hll]
    simp -implicitDefEqProofs [e6, hat, bl_length, bytesOf_bl]
  · simp -implicitDefEqProofs [e3, g0, htl, htl2, nb_length, hll, hneg, w2, w3]
    refine fin false c2 _ (by simp [hneg]) rfl ?_ ?_ ?_ ?_ _ _ fun s3 e6 => ?_
    · simp [g0]
    · simp [e3]
    · simp
    · simp [hll]
    simp -implicitDefEqProofs [e6, hat, bl_length, bytesOf_bl]
end Go.Proofs.Sl

/- What is read of a form is the number; what is read has its form. -/
namespace Go.Proofs.Sl

theorem blen_low {m : Nat} (h : m ≠ 0) : 256 ^ (blen m - 1) ≤ m := by
  induction m using Nat.strongRecOn with
  | ind m ih =>
    rw [blen_pos h, Nat.add_sub_cancel]
    by_cases h1 : m / 256 = 0
    · rw [h1, blen_zero]; simp; omega
    · have h2 := ih (m / 256) (by omega) h1
      have h3 : 0 < blen (m / 256) := by rw [blen_pos h1]; omega
      have h4 : 256 ^ blen (m / 256) = 256 ^ (blen (m / 256) - 1) * 256 := by rw [← Nat.pow_succ]; congr 1; omega
      rw [h4]
      omega
theorem dig_head {m : Nat} : (dig m (blen m)).head? ≠ some 0 := by
  by_cases h : m = 0
  · subst h; rw [blen_zero]; simp [dig]
  · have hp : 0 < blen m := by rw [blen_pos h]; omega
    obtain ⟨k, hk⟩ : ∃ k, blen m = k + 1 := ⟨blen m - 1, by omega⟩
    have h1 := blen_low h
    have h2 := lt_blen m
    rw [hk] at h1 h2 ⊢
    rw [Nat.add_sub_cancel] at h1
    simp only [dig, List.head?_cons, ne_eq, Option.some.injEq]
    have hq : 0 < 256 ^ k := Nat.pow_pos (by decide)
    have h3 : 1 ≤ m / 256 ^ k := (Nat.le_div_iff_mul_le hq).2 (by omega)
    have h4 : m / 256 ^ k < 256 := (Nat.div_lt_iff_lt_mul hq).2 (by rw [Nat.pow_succ] at h2; rw [Nat.mul_comm]; exact h2)
    rw [Nat.mod_eq_of_lt h4]
    omega
theorem foldl_dig : ∀ (k m x : Nat), (dig m k).foldl (fun m d => 256 * m + d) x = x * 256 ^ k + m % 256 ^ k
  | 0, m, x => by simp [dig, Nat.mod_one]
  | k + 1, m, x => by
    rw [dig, List.foldl_cons, foldl_dig k m, Nat.pow_succ, Nat.mod_mul]
    rw [Nat.add_mul, Nat.mul_comm 256 x, Nat.mul_assoc x 256, Nat.mul_comm 256 (256 ^ k), Nat.mul_comm (m / 256 ^ k % 256)]
    omega
theorem valD_dig (m : Nat) : valD (dig m (blen m)) = m := by
  unfold valD
  rw [foldl_dig, Nat.zero_mul, Nat.zero_add, Nat.mod_eq_of_lt (lt_blen m)]
theorem dig_lt : ∀ k m d, d ∈ dig m k → d < 256 := fun k m d h => by
  rw [dig_lek] at h
  exact lek_lt k m d (by simpa using h)

theorem rn_form {s : ByteArray} {a : Nat} {n : Int} {rest : List UInt8} (hn : Rng n) (h : (bts s).drop a = fNum n ++ rest) : rn s a = (n, a + (fNum n).length, 0) := by
  have hb := hn.blen
  obtain ⟨h1, h2⟩ := hn
  obtain ⟨ds, hds⟩ : ∃ ds, ds = dig n.natAbs (blen n.natAbs) := ⟨_, rfl⟩
  have hdl : ds.length = blen n.natAbs := by rw [hds, dig_length]
  have hval : valD ds = n.natAbs := by rw [hds, valD_dig]
  have hhead : ds.head? ≠ some 0 := by rw [hds]; exact dig_head
  have hlt : ∀ d ∈ ds, d < 256 := by rw [hds]; exact dig_lt _ _
  have hform : fNum n = (if n < 0 then UInt8.ofNat (128 - blen n.natAbs) else UInt8.ofNat (128 + blen n.natAbs)) :: ds.map (flipB (decide (n < 0))) := by rw [hds]; rfl
  unfold rn
  rw [h, fNum_length, hform]
  simp only [List.cons_append]
  by_cases hneg : n < 0
  · have hpos : 0 < blen n.natAbs := by rw [blen_pos (by omega)]; omega
    have hc : (UInt8.ofNat (128 - blen n.natAbs)).toNat = 128 - blen n.natAbs := by simp; omega
    simp only [hneg, if_true, decide_true, hc]
    have hlt2 : 128 - blen n.natAbs < 128 := by omega
    have hsz : 128 - (128 - blen n.natAbs) = blen n.natAbs := by omega
    simp only [hlt2, if_true, decide_true, hsz]
    rw [if_neg (by omega), if_neg (by simp; omega)]
    have htake : (List.map (fun b : UInt8 => 255 - b.toNat) (List.take (blen n.natAbs) (List.map (flipB true) ds ++ rest))) = ds := by
      rw [List.take_append_of_le_length (by simp; omega), List.take_of_length_le (by simp; omega), List.map_map]
      conv => rhs; rw [← List.map_id ds]
      apply List.map_congr_left
      intro d hd
      have := hlt d hd
      simp [flipB]
      omega
    rw [htake]
    unfold numE
    rw [if_neg hhead]
    simp only [hval]
    rw [if_neg (by simp; omega)]
    simp only [if_true, hdl]
    refine Prod.ext ?_ (Prod.ext ?_ rfl)
    · simp; omega
    · simp; omega
  · have hc : (UInt8.ofNat (128 + blen n.natAbs)).toNat = 128 + blen n.natAbs := by simp; omega
    simp only [hneg, if_false, decide_false, hc]
    have hlt2 : ¬ 128 + blen n.natAbs < 128 := by omega
    have hsz : 128 + blen n.natAbs - 128 = blen n.natAbs := by omega
    simp only [hlt2, if_false, decide_false, hsz]
    rw [if_neg (by omega), if_neg (by simp; omega)]
    have htake : (List.map (fun b : UInt8 => b.toNat) (List.take (blen n.natAbs) (List.map (flipB false) ds ++ rest))) = ds := by
      rw [List.take_append_of_le_length (by simp; omega), List.take_of_length_le (by simp; omega), List.map_map]
      conv => rhs; rw [← List.map_id ds]
      apply List.map_congr_left
      intro d hd
      have := hlt d hd
      simp [flipB]
      omega
    rw [htake]
    unfold numE
    rw [if_neg hhead]
    simp only [hval]
    rw [if_neg (by simp; omega)]
    simp only [Bool.false_eq_true, if_false, hdl]
    refine Prod.ext ?_ (Prod.ext ?_ rfl)
    · simp; omega
    · simp; omega

theorem valD_snoc (l : List Nat) (d : Nat) : valD (l ++ [d]) = 256 * valD l + d := by simp [valD]
theorem dig_valD : ∀ (k : Nat) (ds : List Nat), ds.length = k → (∀ d ∈ ds, d < 256) → ds.head? ≠ some 0 → blen (valD ds) = k ∧ dig (valD ds) k = ds := by
  intro k
  induction k with
  | zero =>
    intro ds hl _ _
    obtain rfl := List.eq_nil_of_length_eq_zero hl
    exact ⟨blen_zero, rfl⟩
  | succ k ih =>
    intro ds hl hlt hh
    obtain ⟨l, d, rfl⟩ : ∃ l d, ds = l ++ [d] := by
      have hne : ds ≠ [] := by intro e; rw [e] at hl; cases hl
      exact ⟨ds.dropLast, ds.getLast hne, (List.dropLast_concat_getLast hne).symm⟩
    have hl' : l.length = k := by simpa using hl
    have hd : d < 256 := hlt d (by simp)
    have hh' : l.head? ≠ some 0 := by
      cases l with
      | nil => simp
      | cons x l => simpa using hh
    obtain ⟨h1, h2⟩ := ih l hl' (fun x hx => hlt x (by simp [hx])) hh'
    rw [valD_snoc]
    have hne : 256 * valD l + d ≠ 0 := by
      intro e
      have hv : valD l = 0 := by omega
      rw [hv, blen_zero] at h1
      have : l = [] := List.eq_nil_of_length_eq_zero (by omega)
      subst this
      have : d = 0 := by omega
      subst this
      simp at hh
    have hdiv : (256 * valD l + d) / 256 = valD l := by omega
    refine ⟨by rw [blen_pos hne, hdiv, h1], ?_⟩
    have e : lek (256 * valD l + d) (k + 1) = d :: lek (valD l) k := by
      rw [lek, hdiv]
      congr 1
      omega
    rw [dig_lek, e, List.reverse_cons, ← dig_lek, h2]

theorem rn_inv {s : ByteArray} {a : Nat} (h : (rn s a).2.2 = 0) : (bts s).drop a = fNum (rn s a).1 ++ (bts s).drop (rn s a).2.1 := by
  unfold rn at h ⊢
  cases hd : (bts s).drop a with
  | nil => rw [hd] at h; simp at h
  | cons c r =>
    rw [hd] at h
    simp only at h ⊢
    obtain ⟨n, hn⟩ : ∃ n, n = if c.toNat < 128 then 128 - c.toNat else c.toNat - 128 := ⟨_, rfl⟩
    rw [← hn] at h ⊢
    have hc256 := UInt8.toNat_lt c
    by_cases h8 : n > 8
    · rw [if_pos h8] at h; simp at h
    · rw [if_neg h8] at h ⊢
      by_cases hs : r.length < n
      · rw [if_pos hs] at h; simp at h
      · rw [if_neg hs] at h ⊢
        obtain ⟨ds, hds⟩ : ∃ ds, ds = (r.take n).map fun b : UInt8 => if c.toNat < 128 then 255 - b.toNat else b.toNat := ⟨_, rfl⟩
        rw [← hds] at h ⊢
        have hdl : ds.length = n := by rw [hds]; simp; omega
        have hlt : ∀ d ∈ ds, d < 256 := by
          intro d hd
          rw [hds] at hd
          obtain ⟨b, _, rfl⟩ := List.mem_map.1 hd
          have := UInt8.toNat_lt b
          split <;> omega
        have hr : r = (r.take n) ++ (bts s).drop (a + 1 + n) := by
          have : (bts s).drop (a + 1 + n) = r.drop n := by
            have e : (bts s).drop (a + 1) = r := by
              rw [← List.drop_drop, hd]; rfl
            rw [← List.drop_drop, e]
          rw [this, List.take_append_drop]
        unfold numE at h ⊢
        by_cases hz : ds.head? = some 0
        · rw [if_pos hz] at h; simp at h
        · rw [if_neg hz] at h ⊢
          obtain ⟨hb1, hb2⟩ := dig_valD n ds hdl hlt hz
          simp only at h ⊢
          by_cases hb : decide (c.toNat < 128) = false ∧ valD ds > 9223372036854775807 ∨ valD ds > 9223372036854775808
          · rw [if_pos hb] at h; simp at h
          · rw [if_neg hb]
            simp only [hdl]
            conv => lhs; rw [hr]
            rw [← List.cons_append]
            congr 1
            by_cases hc : c.toNat < 128
            · simp only [hc, decide_true, if_true] at hb hn hds ⊢
              have hpos : valD ds ≠ 0 := by
                intro e
                rw [e, blen_zero] at hb1
                omega
              have habs : (-(valD ds : Int)).natAbs = valD ds := by omega
              have hneg : -(valD ds : Int) < 0 := by omega
              unfold fNum
              rw [habs, hb1, hb2, if_pos hneg]
              simp only [hneg, decide_true]
              congr 1
              · apply UInt8.toNat_inj.1
                simp
                omega
              · rw [hds, List.map_map]
                conv => lhs; rw [← List.map_id (r.take n)]
                apply List.map_congr_left
                intro b _
                apply UInt8.toNat_inj.1
                have := UInt8.toNat_lt b
                simp [flipB]
                omega
            · simp only [hc, decide_false, if_false, Bool.false_eq_true] at hb hn hds ⊢
              have habs : ((valD ds : Nat) : Int).natAbs = valD ds := by omega
              have hneg : ¬ ((valD ds : Nat) : Int) < 0 := by omega
              unfold fNum
              rw [habs, hb1, hb2, if_neg hneg]
              simp only [hneg, decide_false]
              congr 1
              · apply UInt8.toNat_inj.1
                simp
                omega
              · rw [hds, List.map_map]
                conv => lhs; rw [← List.map_id (r.take n)]
                apply List.map_congr_left
                intro b _
                apply UInt8.toNat_inj.1
                have := UInt8.toNat_lt b
                simp [flipB]
end Go.Proofs.Sl

/- EncodingOrder, of the evaluator. -/
namespace Go.Proofs.Sl
theorem order_law {m n : Int} (hm : Rng m) (hn : Rng n) : run XP i_sleuthlaw01_EncodingOrder [vi m, vi n] [] = some (vb true, []) := by
  have hw : wc [] = vnil := by simp [wc]
  have w1 := W_number (h := [.dead, .box false [vnil]]) (l := 0) (bs := []) (n := m) (by simp) hm (by simp)
  have w2 := W_number (h := [.box false [wc (fNum m)], .dead]) (l := 1) (bs := []) (n := n) (by simp) hn (by simp)
  rw [hw] at w1 w2
  simp only [List.set_cons_zero, List.set_cons_succ, List.nil_append] at w1 w2
  have r1 := W_bytes (h := [.box false [wc (fNum m)], .box false [wc (fNum n)]]) (l := 0) (bs := fNum m) rfl
  have r2 := W_bytes (h := [.box false [wc (fNum m)], .box false [wc (fNum n)]]) (l := 1) (bs := fNum n) rfl
  have hk := known_ok [.box false [wc (fNum m)], .box false [wc (fNum n)]]
  rw [run_eq, xp_sleuthlaw01_EncodingOrder]
  have key : ∀ {m n : Int}, Cut (fNum m) (fNum n) → ((fNum m == fNum n) = false ∧ (fNum n == fNum m) = false) ∧ (List.take (min (fNum m).length (fNum n).length) (fNum m) == List.take (min (fNum m).length (fNum n).length) (fNum n)) = false := fun hc =>
    ⟨⟨by simpa using hc.ne, by simpa using hc.ne.symm⟩, by simpa using hc.take⟩
  have last : ∀ u v : List UInt8, u.take (min u.length v.length) ≠ v.take (min u.length v.length) → ∀ K : Int, K = (if v.length < u.length then (v.length : Int) else (u.length : Int)) → 0 ≤ K ∧ K ≤ u.length ∧ K ≤ v.length ∧ ¬ u.take K.toNat = v.take K.toNat := by
    intro u v hne K hK
    have : K = ((min u.length v.length : Nat) : Int) := by
      rw [hK]
      split <;> omega
    rw [this]
    refine ⟨by omega, by omega, by omega, ?_⟩
    rw [Int.toNat_natCast]
    exact hne
  rcases Int.lt_trichotomy m n with h | h | h
  · have hc := fNum_cut hm hn h
    have h1 := hc.less
    obtain ⟨⟨h2, _⟩, h3⟩ := key hc
    have hmn : (m == n) = false := by simp; omega
    simp -implicitDefEqProofs [x_sleuthlaw01_EncodingOrder, w1, w2, r1, r2, hk, toList_ofList, h, h1, h2, hmn, size_ofList, extract_ofList]
    obtain ⟨a1, a2, a3, a4⟩ := last _ _ hc.take _ rfl
    exact ⟨a1, a2, a1, a3, a4⟩
  · subst h
    simp -implicitDefEqProofs [x_sleuthlaw01_EncodingOrder, w1, w2, r1, r2, hk, toList_ofList, less_self]
  · have hc := fNum_cut hn hm h
    have h1 := hc.notLess
    obtain ⟨⟨_, h2⟩, h3⟩ := key hc
    have hmn : (m == n) = false := by simp; omega
    have hlt : ¬ m < n := by omega
    have ht := hc.take
    rw [Nat.min_comm] at ht
    simp -implicitDefEqProofs [x_sleuthlaw01_EncodingOrder, w1, w2, r1, r2, hk, toList_ofList, hlt, h1, h2, hmn, size_ofList, extract_ofList]
    obtain ⟨a1, a2, a3, a4⟩ := last _ _ ht.symm _ rfl
    exact ⟨a1, a2, a1, a3, a4⟩
end Go.Proofs.Sl

/- EncodingNumbers, of the evaluator. -/
namespace Go.Proofs.Sl
theorem append_ofList (a b : List UInt8) : (⟨a.toArray⟩ : ByteArray) ++ ⟨b.toArray⟩ = ⟨(a ++ b).toArray⟩ := by
  have h : ((⟨a.toArray⟩ : ByteArray) ++ ⟨b.toArray⟩).data = (a ++ b).toArray := by
    rw [ByteArray.data_append]
    simp
  calc (⟨a.toArray⟩ : ByteArray) ++ ⟨b.toArray⟩ = ⟨((⟨a.toArray⟩ : ByteArray) ++ ⟨b.toArray⟩).data⟩ := rfl
    _ = _ := by rw [h]
theorem bts_ofList (l : List UInt8) : bts ⟨l.toArray⟩ = l := by simp [bts]
theorem rNum_form {s : ByteArray} {a : Nat} {n : Int} {rest : List UInt8} (hn : Rng n) (h : (bts s).drop a = fNum n ++ rest) : rNum s a 0 = (n, a + (fNum n).length, 0) := by
  unfold rNum
  rw [rn_form hn h]
  simp

theorem numbers_law {m n : Int} (hm : Rng m) (hn : Rng n) : run XP i_sleuthlaw01_EncodingNumbers [vi m, vi n] [] = some (vb true, []) := by
  have hw : wc [] = vnil := by simp [wc]
  have lm := fNum_le hm
  have ln := fNum_le hn
  have w1 := W_number (h := [.dead]) (l := 0) (bs := []) (n := m) (by simp) hm (by simp)
  have w2 := W_number (h := [.dead]) (l := 0) (bs := fNum m) (n := n) (by simp) hn (by omega)
  rw [hw] at w1
  simp only [List.set_cons_zero, List.nil_append] at w1 w2
  obtain ⟨t, ht⟩ : ∃ t, t = fNum m ++ fNum n := ⟨_, rfl⟩
  have htl : t.length = (fNum m).length + (fNum n).length := by rw [ht]; simp
  rw [← ht] at w2
  have r1 := W_bytes (h := [.box false [wc t]]) (l := 0) (bs := t) rfl
  obtain ⟨S, hS⟩ : ∃ S : ByteArray, S = ⟨t.toArray⟩ := ⟨_, rfl⟩
  have hSs : S.size = t.length := by rw [hS, size_ofList]
  have hSb : bts S = t := by rw [hS, bts_ofList]
  have hSl : S.toList = t := by rw [toList_bts, hSb]
  rw [← hS] at r1
  have r2 := R_New (s := S) (h := [.box false [wc t]])
  have hk := known_ok [.box false [wc t], .box false [vs S, vi 0, vi 0]]
  have f1 := ref_number [.box false [wc t], .box false [vs S, vi 0, vi 0]] hm
  have f2 := ref_number [.box false [wc t], .box false [vs S, vi 0, vi 0]] hn
  have r3 := W_len (h := [.box false [wc t], .box false [vs S, vi 0, vi 0]]) (l := 0) (bs := t) rfl
  have n1 : rNum S 0 0 = (m, (fNum m).length, 0) := by
    rw [rNum_form hm (rest := fNum n) (by rw [hSb, List.drop_zero, ht]), Nat.zero_add]
  have n2 : rNum S (fNum m).length 0 = (n, t.length, 0) := by
    rw [rNum_form hn (rest := []) (by rw [hSb, ht]; simp), htl]
  have r4 := R_Number (h := [.box false [wc t], .dead]) (l := 1) (s := S) (a := 0) (e := 0) (by simp) (by omega) (by omega)
  have r5 := R_Number (h := [.box false [wc t], .dead]) (l := 1) (s := S) (a := (fNum m).length) (e := 0) (by simp) (by omega) (by omega)
  rw [n1] at r4
  rw [n2] at r5
  simp only [List.set_cons_zero, List.set_cons_succ] at r4 r5
  have e0 : ((0 : Nat) : Int) = 0 := rfl
  rw [e0] at r4
  have r6 := R_End (h := [.box false [wc t], .box false [vs S, vi t.length, vi 0]]) (l := 1) (s := S) (a := t.length) (e := 0) rfl
  have r7 := R_Left (h := [.box false [wc t], .box false [vs S, vi t.length, vi 0]]) (l := 1) (s := S) (a := t.length) (e := 0) rfl (by omega) (by omega)
  have e1 : rEnd S t.length 0 = 0 := by simp [rEnd, hSs]
  have e2 : (S.size : Int) - (t.length : Int) = 0 := by omega
  rw [e1] at r6
  rw [e2] at r7
  have hadd : ¬ 9223372036854775807 < (((fNum m).length : Int) + ((fNum n).length : Int)) := by omega
  have hlen : S.size = t.length := hSs
  rw [run_eq, xp_sleuthlaw01_EncodingNumbers]
  simp -implicitDefEqProofs [x_sleuthlaw01_EncodingNumbers, w1, w2, r1, r2, r3, hk, f1, f2, r4, r5, r6, r7, size_ofList, append_ofList, toList_ofList, hSl, ← ht, hadd, hlen]
end Go.Proofs.Sl

/- The reference's forms. -/
namespace Go.Proofs.Sl
/-- A text of these bytes. -/
def tx (l : List UInt8) : V := vs ⟨l.toArray⟩
theorem append_bts (a : List UInt8) (s : ByteArray) : (⟨a.toArray⟩ : ByteArray) ++ s = ⟨(a ++ bts s).toArray⟩ := by
  have : s = ⟨(bts s).toArray⟩ := by simp [bts]
  conv => lhs; rw [this]
  exact append_ofList a (bts s)
/-- Two texts, one behind the other. -/
theorem add_tx {a b : List UInt8} (h : a.length + b.length ≤ 1000000000000000) : xbin .add (tx a) (tx b) = some (tx (a ++ b)) := by
  have hs : ¬ 9223372036854775807 < ((a.length : Int) + (b.length : Int)) := by omega
  simp [tx, strOp, size_ofList, append_ofList, hs]
theorem add_txs {a : List UInt8} {s : ByteArray} (h : a.length + s.size ≤ 1000000000000000) : xbin .add (tx a) (vs s) = some (tx (a ++ bts s)) := by
  have hs : ¬ 9223372036854775807 < ((a.length : Int) + (s.size : Int)) := by omega
  simp [tx, strOp, size_ofList, append_bts, hs]
theorem tx_plain (a : List UInt8) : (tx a).plain = true := Eq.trans rfl rfl
theorem lenT_tx (a : List UInt8) : lenT (tx a) = some (vi a.length) := by simp [tx, size_ofList]
theorem eql_tx (a b : List UInt8) : xbin .eql (tx a) (tx b) = some (vb (a == b)) := by simp [tx, strOp, toList_ofList]
theorem neq_tx (a b : List UInt8) : xbin .neq (tx a) (tx b) = some (vb (!(a == b))) := by simp [tx, strOp, toList_ofList]
attribute [simp] lenT_tx eql_tx neq_tx tx_plain
theorem ref_num (h : H) {n : Int} (hn : Rng n) : run XP i_sleuthref01_Number [vi n] h = some (tx (fNum n), h) := ref_number h hn

theorem ref_text (h : H) {s : ByteArray} (hs : s.size ≤ 10000000000000) : run XP i_sleuthref01_Text [vs s] h = some (tx (fText s), h) := by
  have hr := rng_nat (n := s.size) (by omega)
  have h1 := ref_num h hr
  have h2 := fNum_le hr
  have h3 := add_txs (a := fNum s.size) (s := s) (by omega)
  rw [run_eq, xp_sleuthref01_Text]
  simp -implicitDefEqProofs [x_sleuthref01_Text, h1, h3, tx_plain, fText]
theorem ref_bool (h : H) (b : Bool) : run XP i_sleuthref01_Bool [vb b] h = some (tx (fBool b), h) := by
  have h1 := ref_num h (n := 1) ⟨by decide, by decide⟩
  have h0 := ref_num h (n := 0) ⟨by decide, by decide⟩
  rw [run_eq, xp_sleuthref01_Bool]
  cases b <;> simp -implicitDefEqProofs [x_sleuthref01_Bool, h1, h0, tx_plain, fBool]
theorem ref_value (h : H) {a : AV} (ha : a.Ok) : run XP i_sleuthref01_Value [a.v] h = some (tx a.f, h) := by
  have e1 := fNum_le ha.k
  have e2 := fText_le ha.t (by omega)
  have e3 := fNum_le ha.n
  have h1 := fun h => ref_num h ha.k
  have h2 := fun h => ref_text h (s := a.t) (by have := ha.t; omega)
  have h3 := fun h => ref_num h ha.n
  have h4 := add_tx (a := fNum a.k) (b := fText a.t) (by omega)
  have h5 := add_tx (a := fNum a.k ++ fText a.t) (b := fNum a.n) (by simp; omega)
  rw [run_eq, xp_sleuthref01_Value]
  simp -implicitDefEqProofs [x_sleuthref01_Value, AV.v, h1, h2, h3, h4, h5, tx_plain, AV.f, noOwn]
theorem ref_attr (h : H) {a : AT} (ha : a.Ok) : run XP i_sleuthref01_Attr [a.v] h = some (tx a.f, h) := by
  have e1 := fText_le ha.key (by omega)
  have e2 := AV.le ha.val
  have h1 := fun h => ref_text h (s := a.key) (by have := ha.key; omega)
  have h2 := fun h => ref_value h ha.val
  have h4 := add_tx (a := fText a.key) (b := a.val.f) (by omega)
  simp only [AV.v] at h2
  rw [run_eq, xp_sleuthref01_Attr]
  simp -implicitDefEqProofs [x_sleuthref01_Attr, AT.v, h1, h2, h4, tx_plain, AT.f, noOwn]
theorem ref_ref (h : H) {a : RF} (ha : a.Ok) : run XP i_sleuthref01_Ref [a.v] h = some (tx a.f, h) := by
  have e1 := fNum_le ha.t
  have e2 := fNum_le ha.i
  have h1 := fun h => ref_num h ha.t
  have h2 := fun h => ref_num h ha.i
  have h4 := add_tx (a := fNum a.t) (b := fNum a.i) (by omega)
  rw [run_eq, xp_sleuthref01_Ref]
  simp -implicitDefEqProofs [x_sleuthref01_Ref, RF.v, h1, h2, h4, tx_plain, RF.f, fNums, noOwn]
theorem ref_exchange (h : H) {a : EX} (ha : a.Ok) : run XP i_sleuthref01_Exchange [a.v] h = some (tx a.f, h) := by
  have e0 := fNum_le ha.fr
  have h0 := fun h => ref_num h ha.fr
  have e1 := fNum_le ha.to
  have h1 := fun h => ref_num h ha.to
  have e2 := fNum_le ha.sent
  have h2 := fun h => ref_num h ha.sent
  have e3 := fNum_le ha.rcv
  have h3 := fun h => ref_num h ha.rcv
  have e4 := fNum_le ha.least
  have h4 := fun h => ref_num h ha.least
  have a0 := add_tx (a := fNum a.fr) (b := fNum a.to) (by first | omega | (simp; omega))
  have a1 := add_tx (a := fNum a.fr ++ fNum a.to) (b := fNum a.sent) (by first | omega | (simp; omega))
  have a2 := add_tx (a := fNum a.fr ++ (fNum a.to ++ fNum a.sent)) (b := fNum a.rcv) (by first | omega | (simp; omega))
  have a3 := add_tx (a := fNum a.fr ++ (fNum a.to ++ (fNum a.sent ++ fNum a.rcv))) (b := fNum a.least) (by first | omega | (simp; omega))
  rw [run_eq, xp_sleuthref01_Exchange]
  simp -implicitDefEqProofs [x_sleuthref01_Exchange, EX.v, h0, h1, h2, h3, h4, a0, a1, a2, a3, tx_plain, EX.f, fNums, noOwn]
theorem ref_message (h : H) {a : MS} (ha : a.Ok) : run XP i_sleuthref01_Message [a.v] h = some (tx a.f, h) := by
  have ek := fNum_le ha.k
  have ea := RF.le ha.a
  have eb := RF.le ha.b
  have hk := fun h => ref_num h ha.k
  have ha' := fun h => ref_ref h ha.a
  have hb' := fun h => ref_ref h ha.b
  simp only [RF.v] at ha' hb'
  have e0 := fNum_le ha.x.fr
  have h0 := fun h => ref_num h ha.x.fr
  have e1 := fNum_le ha.x.to
  have h1 := fun h => ref_num h ha.x.to
  have e2 := fNum_le ha.x.sent
  have h2 := fun h => ref_num h ha.x.sent
  have e3 := fNum_le ha.x.rcv
  have h3 := fun h => ref_num h ha.x.rcv
  have e4 := fNum_le ha.x.least
  have h4 := fun h => ref_num h ha.x.least
  have a0 := add_tx (a := fNum a.k) (b := a.a.f) (by first | omega | (simp; omega))
  have a1 := add_tx (a := fNum a.k ++ a.a.f) (b := a.b.f) (by first | omega | (simp; omega))
  have a2 := add_tx (a := fNum a.k ++ (a.a.f ++ a.b.f)) (b := fNum a.x.fr) (by first | omega | (simp; omega))
  have a3 := add_tx (a := fNum a.k ++ (a.a.f ++ (a.b.f ++ fNum a.x.fr))) (b := fNum a.x.to) (by first | omega | (simp; omega))
  have a4 := add_tx (a := fNum a.k ++ (a.a.f ++ (a.b.f ++ (fNum a.x.fr ++ fNum a.x.to)))) (b := fNum a.x.sent) (by first | omega | (simp; omega))
  have a5 := add_tx (a := fNum a.k ++ (a.a.f ++ (a.b.f ++ (fNum a.x.fr ++ (fNum a.x.to ++ fNum a.x.sent))))) (b := fNum a.x.rcv) (by first | omega | (simp; omega))
  have a6 := add_tx (a := fNum a.k ++ (a.a.f ++ (a.b.f ++ (fNum a.x.fr ++ (fNum a.x.to ++ (fNum a.x.sent ++ fNum a.x.rcv)))))) (b := fNum a.x.least) (by first | omega | (simp; omega))
  rw [run_eq, xp_sleuthref01_Message]
  simp -implicitDefEqProofs [x_sleuthref01_Message, MS.v, hk, ha', hb', h0, h1, h2, h3, h4, a0, a1, a2, a3, a4, a5, a6, tx_plain, MS.f, EX.f, fNums, noOwn]
end Go.Proofs.Sl

/- The reference's form of a span. -/
namespace Go.Proofs.Sl

theorem Span_l0 (base : Nat) (h : H) (cells : List V) (es : List AT) (hok : ∀ e ∈ es, e.Ok) (hlen : es.length ≤ 1000) (o : Option (List V)) (ho : o.getD [] = es.map AT.v) (hf : cells[12]? = some (lv 4 o)) {β : Type} {f : Ex × St → Option β} {b : Option β} {B : Body}
    (hB : B = xcode (run XP) loopW base x_sleuthref01_Span_l0) : ∀ (r : List AT) (k : Nat) (acc : List UInt8) (s : Sl), es.drop k = r → s 1 = .ptr h.length 0 → s 3 = tx acc → s 4 = vi k → acc.length + 12000 * r.length ≤ 100000000000000 →
    (∀ s' : Sl, s' 3 = tx (acc ++ r.flatMap AT.f) → s' 1 = .ptr h.length 0 → f (.exit 0, ⟨s', h ++ [.box false cells]⟩) = b) → ob (loopW B ⟨s, h ++ [.box false cells]⟩) f = b := by
  have step : ∀ st, B st = xcode (run XP) loopW base x_sleuthref01_Span_l0 st := fun st => by rw [hB]
  have hcl : 12 < cells.length := (List.getElem?_eq_some_iff.1 hf).1
  have hfe : ∀ hh, cells[12]'hh = lv 4 o := fun hh => by
    rw [List.getElem?_eq_getElem hh] at hf
    exact Option.some.inj hf
  have hol : (o.getD []).length = es.length := by rw [ho]; simp
  intro r
  induction r with
  | nil =>
    intro k acc s hd h1 h3 h4 hs kk
    have hk : es.length ≤ k := by simpa using hd
    have hlt : ¬ (k < es.length) := by omega
    rw [loopW_cps]
    simp -implicitDefEqProofs [step, x_sleuthref01_Span_l0, h1, h4, hfe, hcl, hol, hlt]
    exact kk _ (by simp [h3]) (by simp [h1])
  | cons e r ih =>
    intro k acc s hd h1 h3 h4 hs kk
    have hk : k < es.length := by
      by_cases hk : k < es.length
      · exact hk
      · rw [List.drop_of_length_le (by omega)] at hd; cases hd
    have hg : es[k]? = some e := by
      have := congrArg (·[0]?) hd
      simpa using this
    have hd' : es.drop (k + 1) = r := by
      have := congrArg List.tail hd
      simpa using this
    have hr := hok e (List.mem_of_getElem? hg)
    have hle := AT.le hr
    obtain ⟨vs', hlv, hat⟩ := lv_at (k := 4) (o := o) (i := k) (e := e.v) (by rw [ho]; simp [hg])
    have hvl : vs'.length = es.length := by
      rw [← hol]
      cases o with
      | none => simp [lv] at hlv
      | some x => simp [lv] at hlv; rw [hlv]; rfl
    rw [List.length_cons] at hs
    have hkv : k < vs'.length := by omega
    have hate : ∀ hh, vs'[k]'hh = e.v := fun hh => by
      rw [List.getElem?_eq_getElem hh] at hat
      exact Option.some.inj hat
    have hone := fun h => ref_attr h hr
    have hadd := add_tx (a := acc) (b := e.f) (by omega)
    simp only [AT.v] at hate hone
    rw [loopW_cps]
    simp -implicitDefEqProofs [step, x_sleuthref01_Span_l0, h1, h3, h4, hfe, hcl, hlv, hvl, hk, hate, hone, hadd, tx_plain]
    refine ih (k + 1) (acc ++ e.f) _ hd' ?_ ?_ ?_ ?_ fun s' e3 e1 => ?_
    · simp [h1]
    · simp
    · simp only [upd_same]
      rw [wrap_i64 (by omega) (by omega)]
      simp
    · simp
      omega
    · exact kk s' (by rw [e3]; simp) e1

theorem Span_l1 (base : Nat) (h : H) (cells : List V) (es : List RF) (hok : ∀ e ∈ es, e.Ok) (hlen : es.length ≤ 1000) (o : Option (List V)) (ho : o.getD [] = es.map RF.v) (hf : cells[13]? = some (lv 2 o)) {β : Type} {f : Ex × St → Option β} {b : Option β} {B : Body}
    (hB : B = xcode (run XP) loopW base x_sleuthref01_Span_l1) : ∀ (r : List RF) (k : Nat) (acc : List UInt8) (s : Sl), es.drop k = r → s 1 = .ptr h.length 0 → s 3 = tx acc → s 5 = vi k → acc.length + 18 * r.length ≤ 100000000000000 →
    (∀ s' : Sl, s' 3 = tx (acc ++ r.flatMap RF.f) → s' 1 = .ptr h.length 0 → f (.exit 2, ⟨s', h ++ [.box false cells]⟩) = b) → ob (loopW B ⟨s, h ++ [.box false cells]⟩) f = b := by
  have step : ∀ st, B st = xcode (run XP) loopW base x_sleuthref01_Span_l1 st := fun st => by rw [hB]
  have hcl : 13 < cells.length := (List.getElem?_eq_some_iff.1 hf).1
  have hfe : ∀ hh, cells[13]'hh = lv 2 o := fun hh => by
    rw [List.getElem?_eq_getElem hh] at hf
    exact Option.some.inj hf
  have hol : (o.getD []).length = es.length := by rw [ho]; simp
  intro r
  induction r with
  | nil =>
    intro k acc s hd h1 h3 h4 hs kk
    have hk : es.length ≤ k := by simpa using hd
    have hlt : ¬ (k < es.length) := by omega
    rw [loopW_cps]
    simp -implicitDefEqProofs [step, x_sleuthref01_Span_l1, h1, h4, hfe, hcl, hol, hlt]
    exact kk _ (by simp [h3]) (by simp [h1])
  | cons e r ih =>
    intro k acc s hd h1 h3 h4 hs kk
    have hk : k < es.length := by
      by_cases hk : k < es.length
      · exact hk
      · rw [List.drop_of_length_le (by omega)] at hd; cases hd
    have hg : es[k]? = some e := by
      have := congrArg (·[0]?) hd
      simpa using this
    have hd' : es.drop (k + 1) = r := by
      have := congrArg List.tail hd
      simpa using this
    have hr := hok e (List.mem_of_getElem? hg)
    have hle := RF.le hr
    obtain ⟨vs', hlv, hat⟩ := lv_at (k := 2) (o := o) (i := k) (e := e.v) (by rw [ho]; simp [hg])
    have hvl : vs'.length = es.length := by
      rw [← hol]
      cases o with
      | none => simp [lv] at hlv
      | some x => simp [lv] at hlv; rw [hlv]; rfl
    rw [List.length_cons] at hs
    have hkv : k < vs'.length := by omega
    have hate : ∀ hh, vs'[k]'hh = e.v := fun hh => by
      rw [List.getElem?_eq_getElem hh] at hat
      exact Option.some.inj hat
    have hone := fun h => ref_ref h hr
    have hadd := add_tx (a := acc) (b := e.f) (by omega)
    simp only [RF.v] at hate hone
    rw [loopW_cps]
    simp -implicitDefEqProofs [step, x_sleuthref01_Span_l1, h1, h3, h4, hfe, hcl, hlv, hvl, hk, hate, hone, hadd, tx_plain]
    refine ih (k + 1) (acc ++ e.f) _ hd' ?_ ?_ ?_ ?_ fun s' e3 e1 => ?_
    · simp [h1]
    · simp
    · simp only [upd_same]
      rw [wrap_i64 (by omega) (by omega)]
      simp
    · simp
      omega
    · exact kk s' (by rw [e3]; simp) e1

theorem ref_span (h : H) {a : SP} (ha : a.Ok) : run XP i_sleuthref01_Span [a.v] h = some (tx a.f, h) := by
  have hn := ha.n
  have r0 : Rng a.tr := hn _ (by simp)
  have e0 := fNum_le r0
  have h0 := fun h => ref_num h r0
  have r1 : Rng a.id := hn _ (by simp)
  have e1 := fNum_le r1
  have h1 := fun h => ref_num h r1
  have r2 : Rng a.par := hn _ (by simp)
  have e2 := fNum_le r2
  have h2 := fun h => ref_num h r2
  have r3 : Rng a.rev := hn _ (by simp)
  have e3 := fNum_le r3
  have h3 := fun h => ref_num h r3
  have r4 : Rng a.clk := hn _ (by simp)
  have e4 := fNum_le r4
  have h4 := fun h => ref_num h r4
  have r5 : Rng a.kind := hn _ (by simp)
  have e5 := fNum_le r5
  have h5 := fun h => ref_num h r5
  have r6 : Rng a.st := hn _ (by simp)
  have e6 := fNum_le r6
  have h6 := fun h => ref_num h r6
  have r7 : Rng a.en := hn _ (by simp)
  have e7 := fNum_le r7
  have h7 := fun h => ref_num h r7
  have t1 := fText_le ha.sv (by omega)
  have t2 := fText_le ha.vr (by omega)
  have t3 := fText_le ha.op (by omega)
  have g1 := fun h => ref_text h (s := a.sv) (by have := ha.sv; omega)
  have g2 := fun h => ref_text h (s := a.vr) (by have := ha.vr; omega)
  have g3 := fun h => ref_text h (s := a.op) (by have := ha.op; omega)
  have g4 := fun h => ref_bool h a.er
  have t4 := fBool_le a.er
  have l1 := ha.al
  have l2 := ha.ll
  have q1 := rng_nat (n := a.ats.length) (by omega)
  have q2 := rng_nat (n := a.lks.length) (by omega)
  have t5 := fNum_le q1
  have t6 := fNum_le q2
  have g5 := fun h => ref_num h q1
  have g6 := fun h => ref_num h q2
  have t7 := flatMap_le (f := AT.f) (l := a.ats) fun x hx => AT.le (ha.ats x hx)
  have t8 := flatMap_le (f := RF.f) (l := a.lks) fun x hx => RF.le (ha.lks x hx)
  have a0 := add_tx (a := fNum a.tr) (b := fNum a.id) (by first | omega | (simp; omega))
  have a1 := add_tx (a := fNum a.tr ++ fNum a.id) (b := fNum a.par) (by first | omega | (simp; omega))
  have a2 := add_tx (a := fNum a.tr ++ (fNum a.id ++ fNum a.par)) (b := fNum a.rev) (by first | omega | (simp; omega))
  have a3 := add_tx (a := fNum a.tr ++ (fNum a.id ++ (fNum a.par ++ fNum a.rev))) (b := fNum a.clk) (by first | omega | (simp; omega))
  have a4 := add_tx (a := fNum a.tr ++ (fNum a.id ++ (fNum a.par ++ (fNum a.rev ++ fNum a.clk)))) (b := fNum a.kind) (by first | omega | (simp; omega))
  obtain ⟨A, hA⟩ : ∃ A, A = (fNum a.tr ++ (fNum a.id ++ (fNum a.par ++ (fNum a.rev ++ (fNum a.clk ++ fNum a.kind))))) := ⟨_, rfl⟩
  have lA : A.length ≤ 54 := by rw [hA]; simp; omega
  have b0 := add_tx (a := A) (b := fText a.sv) (by first | omega | (simp; omega))
  have b1 := add_tx (a := A ++ fText a.sv) (b := fText a.vr) (by first | omega | (simp; omega))
  have b2 := add_tx (a := A ++ (fText a.sv ++ fText a.vr)) (b := fText a.op) (by first | omega | (simp; omega))
  have b3 := add_tx (a := A ++ (fText a.sv ++ (fText a.vr ++ fText a.op))) (b := fNum a.st) (by first | omega | (simp; omega))
  have b4 := add_tx (a := A ++ (fText a.sv ++ (fText a.vr ++ (fText a.op ++ fNum a.st)))) (b := fNum a.en) (by first | omega | (simp; omega))
  have b5 := add_tx (a := A ++ (fText a.sv ++ (fText a.vr ++ (fText a.op ++ (fNum a.st ++ fNum a.en))))) (b := fBool a.er) (by first | omega | (simp; omega))
  obtain ⟨C, hC⟩ : ∃ C, C = (A ++ (fText a.sv ++ (fText a.vr ++ (fText a.op ++ (fNum a.st ++ (fNum a.en ++ fBool a.er)))))) := ⟨_, rfl⟩
  have lC : C.length ≤ 20000 := by rw [hC]; simp; omega
  have b5' : xbin .add (tx (A ++ (fText a.sv ++ (fText a.vr ++ (fText a.op ++ (fNum a.st ++ fNum a.en)))))) (tx (fBool a.er)) = some (tx C) := by
    rw [b5, hC]
    simp
  have c0 := add_tx (a := C) (b := fNum a.ats.length) (by first | omega | (simp; omega))
  have o1 := slc_getD (v := AT.v) ha.an
  have o2 := slc_getD (v := RF.v) ha.ln
  have m1 : ((slc AT.v a.ats a.an).getD []).length = a.ats.length := by rw [o1]; simp
  have m2 : ((slc RF.v a.lks a.ln).getD []).length = a.lks.length := by rw [o2]; simp
  have a4' : xbin .add (tx (fNum a.tr ++ (fNum a.id ++ (fNum a.par ++ (fNum a.rev ++ fNum a.clk))))) (tx (fNum a.kind)) = some (tx A) := by
    rw [a4, hA] 
    try simp
  rw [run_eq, xp_sleuthref01_Span]
  simp -implicitDefEqProofs [x_sleuthref01_Span, SP.v, h0, h1, h2, h3, h4, h5, a0, a1, a2, a3, a4', tx_plain, g1, g2, g3, h6, h7, g4, b0, b1, b2, b3, b4, b5', g5, c0, m1, noOwn]
  refine Span_l0 _ h _ a.ats ha.ats l1 (slc AT.v a.ats a.an) o1 rfl rfl a.ats 0 (C ++ fNum a.ats.length) _ rfl ?_ ?_ ?_ ?_ fun s1 p3 p1 => ?_
  · simp
  · simp
  · simp
  · simp
    omega
  obtain ⟨D, hD⟩ : ∃ D, D = C ++ fNum a.ats.length ++ a.ats.flatMap AT.f := ⟨_, rfl⟩
  have lD : D.length ≤ 13000000 := by rw [hD, List.length_append, List.length_append]; omega
  rw [← hD] at p3
  have d0 := add_tx (a := D) (b := fNum a.lks.length) (by first | omega | (simp; omega))
  simp -implicitDefEqProofs [p3, p1, m2, g6, d0, tx_plain]
  refine Span_l1 _ h _ a.lks ha.lks l2 (slc RF.v a.lks a.ln) o2 rfl rfl a.lks 0 (D ++ fNum a.lks.length) _ rfl ?_ ?_ ?_ ?_ fun s1 p3 p1 => ?_
  · simp [p1]
  · simp
  · simp
  · simp
    omega
  simp -implicitDefEqProofs [p3, tx_plain]
  rw [hD, hC, hA]
  simp [SP.f, fNums, fList]
end Go.Proofs.Sl

/- EncodingWrites, of the evaluator. -/
namespace Go.Proofs.Sl
/-- A part: what is to be written. -/
structure PT where
  k : Int
  n0 : Int
  n1 : Int
  n2 : Int
  n3 : Int
  n4 : Int
  n5 : Int
  n6 : Int
  n7 : Int
  key : ByteArray
  s : ByteArray
def PT.v (p : PT) : V := .agg [vk .u8 p.k, vi p.n0, vi p.n1, vi p.n2, vi p.n3, vi p.n4, vi p.n5, vi p.n6, vi p.n7, vs p.key, vs p.s]
structure PT.Ok (p : PT) : Prop where
  k0 : 0 ≤ p.k
  k1 : p.k ≤ 255
  n0 : Rng p.n0
  n1 : Rng p.n1
  n2 : Rng p.n2
  n3 : Rng p.n3
  n4 : Rng p.n4
  n5 : Rng p.n5
  n6 : Rng p.n6
  n7 : Rng p.n7
  key : p.key.size ≤ 5000
  s : p.s.size ≤ 5000
def PT.av (p : PT) : AV := ⟨p.n0, p.s, p.n1⟩
def PT.at (p : PT) : AT := ⟨p.key, p.av⟩
def PT.rf (p : PT) : RF := ⟨p.n0, p.n1⟩
def PT.ex (p : PT) : EX := ⟨p.n0, p.n1, p.n2, p.n3, p.n4⟩
def PT.ms (p : PT) : MS := ⟨p.n0, p.rf, ⟨p.n2, p.n3⟩, ⟨p.n4, p.n5, p.n6, p.n7, p.n1⟩⟩
def PT.sp (p : PT) : SP := ⟨p.n0, p.n1, p.n2, p.n3, p.n4, p.n5, p.key, p.s, p.key, p.n6, p.n7, decide (p.n0 > 0), [p.at], [p.rf, p.rf], false, false⟩
theorem PT.Ok.av {p : PT} (h : p.Ok) : p.av.Ok := ⟨h.n0, h.s, h.n1⟩
theorem PT.Ok.at {p : PT} (h : p.Ok) : p.at.Ok := ⟨h.key, h.av⟩
theorem PT.Ok.rf {p : PT} (h : p.Ok) : p.rf.Ok := ⟨h.n0, h.n1⟩
theorem PT.Ok.ex {p : PT} (h : p.Ok) : p.ex.Ok := ⟨h.n0, h.n1, h.n2, h.n3, h.n4⟩
theorem PT.Ok.ms {p : PT} (h : p.Ok) : p.ms.Ok := ⟨h.n0, h.rf, ⟨h.n2, h.n3⟩, ⟨h.n4, h.n5, h.n6, h.n7, h.n1⟩⟩
theorem PT.Ok.sp {p : PT} (h : p.Ok) : p.sp.Ok where
  n := by
    intro n hn
    simp [PT.sp] at hn
    rcases hn with rfl | rfl | rfl | rfl | rfl | rfl | rfl | rfl
    · exact h.n0
    · exact h.n1
    · exact h.n2
    · exact h.n3
    · exact h.n4
    · exact h.n5
    · exact h.n6
    · exact h.n7
  sv := h.key
  vr := h.s
  op := h.key
  ats := by
    intro e he
    simp [PT.sp] at he
    rw [he]
    exact h.at
  lks := by
    intro e he
    simp [PT.sp] at he
    rw [he]
    exact h.rf
  al := by simp [PT.sp]
  ll := by simp [PT.sp]
  an := by simp [PT.sp]
  ln := by simp [PT.sp]
/-- The form of a part. -/
def PT.f (p : PT) : List UInt8 :=
  if p.k.tmod 9 = 0 then fNum p.n0 else
  if p.k.tmod 9 = 1 then fBool (decide (p.n0 > 0)) else
  if p.k.tmod 9 = 2 then fText p.s else
  if p.k.tmod 9 = 3 then p.av.f else
  if p.k.tmod 9 = 4 then p.at.f else
  if p.k.tmod 9 = 5 then p.rf.f else
  if p.k.tmod 9 = 6 then p.ex.f else
  if p.k.tmod 9 = 7 then p.ms.f else
  p.sp.f
theorem PT.le {p : PT} (h : p.Ok) : p.f.length ≤ 13000000 := by
  have e0 := fNum_le h.n0
  have e1 := fBool_le (decide (p.n0 > 0))
  have e2 := fText_le h.s (by omega)
  have e3 := AV.le h.av
  have e4 := AT.le h.at
  have e5 := RF.le h.rf
  have e6 := EX.le h.ex
  have e7 := MS.le h.ms
  have e8 := SP.le h.sp
  unfold PT.f
  repeat' split
  all_goals omega

theorem part_0 {h : H} {l : Nat} {bs : List UInt8} {p : PT} (hl : l < h.length) (hp : p.Ok) (hs : bs.length ≤ 40000000000000) (hk : p.k.tmod 9 = 0) :
    run XP i_sleuthlaw01_part [.ptr l 0, p.v] (h.set l (.box false [wc bs])) = some (tx p.f, h.set l (.box false [wc (bs ++ p.f)])) := by
  have hw : ∀ t : H, run XP i_encoding_Writer_Number [.ptr l 0, vi p.n0] (h.set l (.box false [wc bs]) ++ t) = some (.tup [], h.set l (.box false [wc (bs ++ fNum p.n0)]) ++ t) := fun t => W_number_r hl hp.n0 (by omega)
  have hr : ∀ h : H, run XP i_sleuthref01_Number [vi p.n0] h = some (tx (fNum p.n0), h) := fun h => ref_num h hp.n0
  have hf : p.f = fNum p.n0 := by simp [PT.f, hk]
  rw [hf]
  obtain ⟨F, hF⟩ : ∃ F, F = fNum p.n0 := ⟨_, rfl⟩
  rw [← hF] at hw hr ⊢
  try simp only [SP.v, AV.v, AT.v, RF.v, EX.v, MS.v, PT.av, PT.at, PT.rf, PT.ex, PT.ms, PT.sp, slc, lv, Bool.false_eq_true, if_false, List.map_cons, List.map_nil] at hw hr
  rw [run_eq, xp_sleuthlaw01_part]
  simp -implicitDefEqProofs [x_sleuthlaw01_part, PT.v, hk, hw, hr, tx_plain, noOwn, addParts, putRow]
theorem part_1 {h : H} {l : Nat} {bs : List UInt8} {p : PT} (hl : l < h.length) (hp : p.Ok) (hs : bs.length ≤ 40000000000000) (hk : p.k.tmod 9 = 1) :
    run XP i_sleuthlaw01_part [.ptr l 0, p.v] (h.set l (.box false [wc bs])) = some (tx p.f, h.set l (.box false [wc (bs ++ p.f)])) := by
  have hw : ∀ t : H, run XP i_encoding_Writer_Bool [.ptr l 0, vb (decide (p.n0 > 0))] (h.set l (.box false [wc bs]) ++ t) = some (.tup [], h.set l (.box false [wc (bs ++ fBool (decide (p.n0 > 0)))]) ++ t) := fun t => W_bool_r hl (by omega)
  have hr : ∀ h : H, run XP i_sleuthref01_Bool [vb (decide (p.n0 > 0))] h = some (tx (fBool (decide (p.n0 > 0))), h) := fun h => ref_bool h _
  have hf : p.f = fBool (decide (p.n0 > 0)) := by simp [PT.f, hk]
  rw [hf]
  obtain ⟨F, hF⟩ : ∃ F, F = fBool (decide (p.n0 > 0)) := ⟨_, rfl⟩
  rw [← hF] at hw hr ⊢
  try simp only [SP.v, AV.v, AT.v, RF.v, EX.v, MS.v, PT.av, PT.at, PT.rf, PT.ex, PT.ms, PT.sp, slc, lv, Bool.false_eq_true, if_false, List.map_cons, List.map_nil] at hw hr
  rw [run_eq, xp_sleuthlaw01_part]
  simp -implicitDefEqProofs [x_sleuthlaw01_part, PT.v, hk, hw, hr, tx_plain, noOwn, addParts, putRow]
theorem part_2 {h : H} {l : Nat} {bs : List UInt8} {p : PT} (hl : l < h.length) (hp : p.Ok) (hs : bs.length ≤ 40000000000000) (hk : p.k.tmod 9 = 2) :
    run XP i_sleuthlaw01_part [.ptr l 0, p.v] (h.set l (.box false [wc bs])) = some (tx p.f, h.set l (.box false [wc (bs ++ p.f)])) := by
  have hw : ∀ t : H, run XP i_encoding_Writer_Text [.ptr l 0, vs p.s] (h.set l (.box false [wc bs]) ++ t) = some (.tup [], h.set l (.box false [wc (bs ++ fText p.s)]) ++ t) := fun t => W_text_r hl (by have := hp.s; omega)
  have hr : ∀ h : H, run XP i_sleuthref01_Text [vs p.s] h = some (tx (fText p.s), h) := fun h => ref_text h (by have := hp.s; omega)
  have hf : p.f = fText p.s := by simp [PT.f, hk]
  rw [hf]
  obtain ⟨F, hF⟩ : ∃ F, F = fText p.s := ⟨_, rfl⟩
  rw [← hF] at hw hr ⊢
  try simp only [SP.v, AV.v, AT.v, RF.v, EX.v, MS.v, PT.av, PT.at, PT.rf, PT.ex, PT.ms, PT.sp, slc, lv, Bool.false_eq_true, if_false, List.map_cons, List.map_nil] at hw hr
  rw [run_eq, xp_sleuthlaw01_part]
  simp -implicitDefEqProofs [x_sleuthlaw01_part, PT.v, hk, hw, hr, tx_plain, noOwn, addParts, putRow]
theorem part_3 {h : H} {l : Nat} {bs : List UInt8} {p : PT} (hl : l < h.length) (hp : p.Ok) (hs : bs.length ≤ 40000000000000) (hk : p.k.tmod 9 = 3) :
    run XP i_sleuthlaw01_part [.ptr l 0, p.v] (h.set l (.box false [wc bs])) = some (tx p.f, h.set l (.box false [wc (bs ++ p.f)])) := by
  have hw : ∀ t : H, run XP i_encoding_Writer_Value [.ptr l 0, p.av.v] (h.set l (.box false [wc bs]) ++ t) = some (.tup [], h.set l (.box false [wc (bs ++ p.av.f)]) ++ t) := fun t => W_value_r hl hp.av (by omega)
  have hr : ∀ h : H, run XP i_sleuthref01_Value [p.av.v] h = some (tx (p.av.f), h) := fun h => ref_value h hp.av
  have hf : p.f = p.av.f := by simp [PT.f, hk]
  rw [hf]
  obtain ⟨F, hF⟩ : ∃ F, F = p.av.f := ⟨_, rfl⟩
  rw [← hF] at hw hr ⊢
  try simp only [SP.v, AV.v, AT.v, RF.v, EX.v, MS.v, PT.av, PT.at, PT.rf, PT.ex, PT.ms, PT.sp, slc, lv, Bool.false_eq_true, if_false, List.map_cons, List.map_nil] at hw hr
  rw [run_eq, xp_sleuthlaw01_part]
  simp -implicitDefEqProofs [x_sleuthlaw01_part, PT.v, hk, hw, hr, tx_plain, noOwn, addParts, putRow]
theorem part_4 {h : H} {l : Nat} {bs : List UInt8} {p : PT} (hl : l < h.length) (hp : p.Ok) (hs : bs.length ≤ 40000000000000) (hk : p.k.tmod 9 = 4) :
    run XP i_sleuthlaw01_part [.ptr l 0, p.v] (h.set l (.box false [wc bs])) = some (tx p.f, h.set l (.box false [wc (bs ++ p.f)])) := by
  have hw : ∀ t : H, run XP i_encoding_Writer_Attr [.ptr l 0, p.at.v] (h.set l (.box false [wc bs]) ++ t) = some (.tup [], h.set l (.box false [wc (bs ++ p.at.f)]) ++ t) := fun t => W_attr_r hl hp.at (by omega)
  have hr : ∀ h : H, run XP i_sleuthref01_Attr [p.at.v] h = some (tx (p.at.f), h) := fun h => ref_attr h hp.at
  have hf : p.f = p.at.f := by simp [PT.f, hk]
  rw [hf]
  obtain ⟨F, hF⟩ : ∃ F, F = p.at.f := ⟨_, rfl⟩
  rw [← hF] at hw hr ⊢
  try simp only [SP.v, AV.v, AT.v, RF.v, EX.v, MS.v, PT.av, PT.at, PT.rf, PT.ex, PT.ms, PT.sp, slc, lv, Bool.false_eq_true, if_false, List.map_cons, List.map_nil] at hw hr
  rw [run_eq, xp_sleuthlaw01_part]
  simp -implicitDefEqProofs [x_sleuthlaw01_part, PT.v, hk, hw, hr, tx_plain, noOwn, addParts, putRow]
theorem part_5 {h : H} {l : Nat} {bs : List UInt8} {p : PT} (hl : l < h.length) (hp : p.Ok) (hs : bs.length ≤ 40000000000000) (hk : p.k.tmod 9 = 5) :
    run XP i_sleuthlaw01_part [.ptr l 0, p.v] (h.set l (.box false [wc bs])) = some (tx p.f, h.set l (.box false [wc (bs ++ p.f)])) := by
  have hw : ∀ t : H, run XP i_encoding_Writer_Ref [.ptr l 0, p.rf.v] (h.set l (.box false [wc bs]) ++ t) = some (.tup [], h.set l (.box false [wc (bs ++ p.rf.f)]) ++ t) := fun t => W_ref_r hl hp.rf (by omega)
  have hr : ∀ h : H, run XP i_sleuthref01_Ref [p.rf.v] h = some (tx (p.rf.f), h) := fun h => ref_ref h hp.rf
  have hf : p.f = p.rf.f := by simp [PT.f, hk]
  rw [hf]
  obtain ⟨F, hF⟩ : ∃ F, F = p.rf.f := ⟨_, rfl⟩
  rw [← hF] at hw hr ⊢
  try simp only [SP.v, AV.v, AT.v, RF.v, EX.v, MS.v, PT.av, PT.at, PT.rf, PT.ex, PT.ms, PT.sp, slc, lv, Bool.false_eq_true, if_false, List.map_cons, List.map_nil] at hw hr
  rw [run_eq, xp_sleuthlaw01_part]
  simp -implicitDefEqProofs [x_sleuthlaw01_part, PT.v, hk, hw, hr, tx_plain, noOwn, addParts, putRow]
theorem part_6 {h : H} {l : Nat} {bs : List UInt8} {p : PT} (hl : l < h.length) (hp : p.Ok) (hs : bs.length ≤ 40000000000000) (hk : p.k.tmod 9 = 6) :
    run XP i_sleuthlaw01_part [.ptr l 0, p.v] (h.set l (.box false [wc bs])) = some (tx p.f, h.set l (.box false [wc (bs ++ p.f)])) := by
  have hw : ∀ t : H, run XP i_encoding_Writer_Exchange [.ptr l 0, p.ex.v] (h.set l (.box false [wc bs]) ++ t) = some (.tup [], h.set l (.box false [wc (bs ++ p.ex.f)]) ++ t) := fun t => W_exchange_r hl hp.ex (by omega)
  have hr : ∀ h : H, run XP i_sleuthref01_Exchange [p.ex.v] h = some (tx (p.ex.f), h) := fun h => ref_exchange h hp.ex
  have hf : p.f = p.ex.f := by simp [PT.f, hk]
  rw [hf]
  obtain ⟨F, hF⟩ : ∃ F, F = p.ex.f := ⟨_, rfl⟩
  rw [← hF] at hw hr ⊢
  try simp only [SP.v, AV.v, AT.v, RF.v, EX.v, MS.v, PT.av, PT.at, PT.rf, PT.ex, PT.ms, PT.sp, slc, lv, Bool.false_eq_true, if_false, List.map_cons, List.map_nil] at hw hr
  rw [run_eq, xp_sleuthlaw01_part]
  simp -implicitDefEqProofs [x_sleuthlaw01_part, PT.v, hk, hw, hr, tx_plain, noOwn, addParts, putRow]
theorem part_7 {h : H} {l : Nat} {bs : List UInt8} {p : PT} (hl : l < h.length) (hp : p.Ok) (hs : bs.length ≤ 40000000000000) (hk : p.k.tmod 9 = 7) :
    run XP i_sleuthlaw01_part [.ptr l 0, p.v] (h.set l (.box false [wc bs])) = some (tx p.f, h.set l (.box false [wc (bs ++ p.f)])) := by
  have hw : ∀ t : H, run XP i_encoding_Writer_Message [.ptr l 0, p.ms.v] (h.set l (.box false [wc bs]) ++ t) = some (.tup [], h.set l (.box false [wc (bs ++ p.ms.f)]) ++ t) := fun t => W_message_r hl hp.ms (by omega)
  have hr : ∀ h : H, run XP i_sleuthref01_Message [p.ms.v] h = some (tx (p.ms.f), h) := fun h => ref_message h hp.ms
  have hf : p.f = p.ms.f := by simp [PT.f, hk]
  rw [hf]
  obtain ⟨F, hF⟩ : ∃ F, F = p.ms.f := ⟨_, rfl⟩
  rw [← hF] at hw hr ⊢
  try simp only [SP.v, AV.v, AT.v, RF.v, EX.v, MS.v, PT.av, PT.at, PT.rf, PT.ex, PT.ms, PT.sp, slc, lv, Bool.false_eq_true, if_false, List.map_cons, List.map_nil] at hw hr
  rw [run_eq, xp_sleuthlaw01_part]
  simp -implicitDefEqProofs [x_sleuthlaw01_part, PT.v, hk, hw, hr, tx_plain, noOwn, addParts, putRow]
theorem part_8 {h : H} {l : Nat} {bs : List UInt8} {p : PT} (hl : l < h.length) (hp : p.Ok) (hs : bs.length ≤ 40000000000000) (hk : p.k.tmod 9 = 8) :
    run XP i_sleuthlaw01_part [.ptr l 0, p.v] (h.set l (.box false [wc bs])) = some (tx p.f, h.set l (.box false [wc (bs ++ p.f)])) := by
  have hw : ∀ t : H, run XP i_encoding_Writer_Span [.ptr l 0, p.sp.v] (h.set l (.box false [wc bs]) ++ t) = some (.tup [], h.set l (.box false [wc (bs ++ p.sp.f)]) ++ t) := fun t => W_span_r hl hp.sp (by omega)
  have hr : ∀ h : H, run XP i_sleuthref01_Span [p.sp.v] h = some (tx (p.sp.f), h) := fun h => ref_span h hp.sp
  have hf : p.f = p.sp.f := by simp [PT.f, hk]
  rw [hf]
  obtain ⟨F, hF⟩ : ∃ F, F = p.sp.f := ⟨_, rfl⟩
  rw [← hF] at hw hr ⊢
  try simp only [SP.v, AV.v, AT.v, RF.v, EX.v, MS.v, PT.av, PT.at, PT.rf, PT.ex, PT.ms, PT.sp, slc, lv, Bool.false_eq_true, if_false, List.map_cons, List.map_nil] at hw hr
  rw [run_eq, xp_sleuthlaw01_part]
  simp -implicitDefEqProofs [x_sleuthlaw01_part, PT.v, hk, hw, hr, tx_plain, noOwn, addParts, putRow]

theorem law_part {h : H} {l : Nat} {bs : List UInt8} {p : PT} (hl : l < h.length) (hp : p.Ok) (hs : bs.length ≤ 40000000000000) :
    run XP i_sleuthlaw01_part [.ptr l 0, p.v] (h.set l (.box false [wc bs])) = some (tx p.f, h.set l (.box false [wc (bs ++ p.f)])) := by
  have h1 := hp.k0
  have h2 := Int.tmod_lt_of_pos p.k (show (0 : Int) < 9 by decide)
  have h3 := Int.tmod_nonneg 9 h1
  have : p.k.tmod 9 = 0 ∨ p.k.tmod 9 = 1 ∨ p.k.tmod 9 = 2 ∨ p.k.tmod 9 = 3 ∨ p.k.tmod 9 = 4 ∨ p.k.tmod 9 = 5 ∨ p.k.tmod 9 = 6 ∨ p.k.tmod 9 = 7 ∨ p.k.tmod 9 = 8 := by omega
  rcases this with h | h | h | h | h | h | h | h | h
  · exact part_0 hl hp hs h
  · exact part_1 hl hp hs h
  · exact part_2 hl hp hs h
  · exact part_3 hl hp hs h
  · exact part_4 hl hp hs h
  · exact part_5 hl hp hs h
  · exact part_6 hl hp hs h
  · exact part_7 hl hp hs h
  · exact part_8 hl hp hs h

/-- A part whose texts are of any length. -/
structure PT.Pre (p : PT) : Prop where
  k0 : 0 ≤ p.k
  k1 : p.k ≤ 255
  n0 : Rng p.n0
  n1 : Rng p.n1
  n2 : Rng p.n2
  n3 : Rng p.n3
  n4 : Rng p.n4
  n5 : Rng p.n5
  n6 : Rng p.n6
  n7 : Rng p.n7
  key : p.key.size ≤ 9223372036854775807
  s : p.s.size ≤ 9223372036854775807
theorem PT.Pre.ok {p : PT} (h : p.Pre) (h1 : p.key.size ≤ 50) (h2 : p.s.size ≤ 50) : p.Ok := ⟨h.k0, h.k1, h.n0, h.n1, h.n2, h.n3, h.n4, h.n5, h.n6, h.n7, by omega, by omega⟩

theorem writes_l0 (ps : List PT) (hok : ∀ p ∈ ps, p.Pre) (hlen : ps.length ≤ 8) (o : Option (List V)) (ho : o.getD [] = ps.map PT.v) {β : Type} {f : Ex × St → Option β} {b : Option β} {B : Body}
    (hB : B = xcode (run XP) loopW 0 x_sleuthlaw01_EncodingWrites_l0) : ∀ (r : List PT) (k : Nat) (acc : List UInt8) (s : Sl), ps.drop k = r → s 0 = lv 11 o → s 3 = .ptr 0 0 → s 4 = tx acc → s 5 = vi k → acc.length + 13000000 * r.length ≤ 1000000000 →
    (∀ (s' : Sl) (acc' : List UInt8), f (.exit 0, ⟨s', [.box false [wc acc']]⟩) = b) → (∀ (s' : Sl) (acc' : List UInt8), s' 2 = vb true → f (.ret, ⟨s', [.box false [wc acc']]⟩) = b) → ob (loopW B ⟨s, [.box false [wc acc]]⟩) f = b := by
  have step : ∀ st, B st = xcode (run XP) loopW 0 x_sleuthlaw01_EncodingWrites_l0 st := fun st => by rw [hB]
  have hol : (o.getD []).length = ps.length := by rw [ho]; simp
  intro r
  induction r with
  | nil =>
    intro k acc s hd h0 h3 h4 h5 hs kk kr
    have hk : ps.length ≤ k := by simpa using hd
    have hlt : ¬ (k < ps.length) := by omega
    rw [loopW_cps]
    simp -implicitDefEqProofs [step, x_sleuthlaw01_EncodingWrites_l0, h0, h5, hol, hlt]
    exact kk _ _
  | cons p r ih =>
    intro k acc s hd h0 h3 h4 h5 hs kk kr
    have hk : k < ps.length := by
      by_cases hk : k < ps.length
      · exact hk
      · rw [List.drop_of_length_le (by omega)] at hd; cases hd
    have hg : ps[k]? = some p := by
      have := congrArg (·[0]?) hd
      simpa using this
    have hd' : ps.drop (k + 1) = r := by
      have := congrArg List.tail hd
      simpa using this
    have hr := hok p (List.mem_of_getElem? hg)
    obtain ⟨vs', hlv, hat⟩ := lv_at (k := 11) (o := o) (i := k) (e := p.v) (by rw [ho]; simp [hg])
    have hvl : vs'.length = ps.length := by
      rw [← hol]
      cases o with
      | none => simp [lv] at hlv
      | some x => simp [lv] at hlv; rw [hlv]; rfl
    rw [List.length_cons] at hs
    have hkv : k < vs'.length := by omega
    have hate : ∀ hh, vs'[k]'hh = p.v := fun hh => by
      rw [List.getElem?_eq_getElem hh] at hat
      exact Option.some.inj hat
    rw [loopW_cps]
    by_cases hb1 : (50 : Int) < (p.key.size : Int)
    · simp only [PT.v] at hate
      simp -implicitDefEqProofs [step, x_sleuthlaw01_EncodingWrites_l0, h0, h5, hlv, hvl, hk, hate, hb1]
      exact kr _ _ (by simp)
    · by_cases hb2 : (50 : Int) < (p.s.size : Int)
      · simp only [PT.v] at hate
        simp -implicitDefEqProofs [step, x_sleuthlaw01_EncodingWrites_l0, h0, h5, hlv, hvl, hk, hate, hb1, hb2]
        exact kr _ _ (by simp)
      · have hpo := hr.ok (by omega) (by omega)
        have hle := PT.le hpo
        have hpart := law_part (h := [.dead]) (l := 0) (bs := acc) (by simp) hpo (by omega)
        simp only [List.set_cons_zero] at hpart
        have hadd := add_tx (a := acc) (b := p.f) (by omega)
        have hby := W_bytes (h := [.box false [wc (acc ++ p.f)]]) (l := 0) (bs := acc ++ p.f) rfl
        have hln := W_len (h := [.box false [wc (acc ++ p.f)]]) (l := 0) (bs := acc ++ p.f) rfl
        have htx : vs ⟨(acc ++ p.f).toArray⟩ = tx (acc ++ p.f) := rfl
        have hnext : ∀ s2 : Sl, s2 0 = lv 11 o → s2 3 = .ptr 0 0 → s2 4 = tx (acc ++ p.f) → s2 5 = vi (IntKind.i64.wrap ((k : Int) + 1)) → ob (loopW B ⟨s2, [.box false [wc (acc ++ p.f)]]⟩) f = b := by
          intro s2 g0 g3 g4 g5
          refine ih (k + 1) (acc ++ p.f) s2 hd' g0 g3 g4 ?_ (by simp; omega) kk kr
          rw [g5, wrap_i64 (by omega) (by omega)]
          rfl
        simp only [PT.v] at hate hpart
        rw [htx] at hby
        obtain ⟨w, hw⟩ : ∃ w, w = acc ++ p.f := ⟨_, rfl⟩
        rw [← hw] at hpart hadd hby hln hnext
        simp -implicitDefEqProofs [step, x_sleuthlaw01_EncodingWrites_l0, h0, h3, h4, h5, hlv, hvl, hk, hate, hb1, hb2, hpart, hadd, hby, hln]
        apply hnext <;> simp [h0, h3, hlv]
end Go.Proofs.Sl

/- EncodingWrites, of the evaluator. -/
namespace Go.Proofs.Sl
theorem writes_law {ps : List PT} (hok : ∀ p ∈ ps, p.Pre) {o : Option (List V)} (ho : o.getD [] = ps.map PT.v) : run XP i_sleuthlaw01_EncodingWrites [lv 11 o] [] = some (vb true, []) := by
  have hk := known_ok []
  have hol : (o.getD []).length = ps.length := by rw [ho]; simp
  have hw : wc [] = vnil := by simp [wc]
  have ht : tx [] = vs ⟨#[]⟩ := rfl
  rw [run_eq, xp_sleuthlaw01_EncodingWrites]
  by_cases h8 : (8 : Int) < (ps.length : Int)
  · simp -implicitDefEqProofs [x_sleuthlaw01_EncodingWrites, hk, hol, h8]
  · simp -implicitDefEqProofs [x_sleuthlaw01_EncodingWrites, hk, hol, h8]
    have key := fun (f : Ex × St → Option (V × H)) (b : Option (V × H)) => writes_l0 (β := V × H) (f := f) (b := b) (B := xcode (run XP) loopW 0 x_sleuthlaw01_EncodingWrites_l0) ps hok (by omega) o ho rfl ps 0 []
    rw [hw] at key
    refine key _ _ _ rfl ?_ ?_ ?_ ?_ (by simp; omega) (fun s' acc' => ?_) fun s' acc' h2 => ?_
    · simp
    · simp
    · simp [ht]
    · simp
    · simp -implicitDefEqProofs
    · simp -implicitDefEqProofs [h2]
end Go.Proofs.Sl
