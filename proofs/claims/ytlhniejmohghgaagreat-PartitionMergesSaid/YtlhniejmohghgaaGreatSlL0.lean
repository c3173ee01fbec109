/- A part of the proof. -/
import Derived.Laws.Strings
import Derived.Sort.AssemblyPlain
import Derived.Test.YtlhniejmohghgaaGreatSlS
import Derived.Test.YtlhniejmohghgaaGreatSlP
set_option linter.unusedVariables false
set_option linter.unusedSimpArgs false
set_option linter.unnecessarySimpa false
namespace Go.Proofs.Sl
theorem zqd_ (n : Int) : IntKind.u8.wrap n = n % 256 := rfl
theorem zqe_ (n : Int) : IntKind.u64.wrap n = n % 18446744073709551616 := rfl
theorem zae_ {n : Int} (h1 : -9223372036854775808 ≤ n) (h2 : n ≤ 9223372036854775807) : IntKind.i64.wrap n = n := by
  have e : IntKind.i64.wrap n = if n % 18446744073709551616 ≥ 9223372036854775808 then n % 18446744073709551616 - 18446744073709551616 else n % 18446744073709551616 := by
    simp [IntKind.wrap, IntKind.bits, IntKind.signed]
  rw [e]
  split <;> omega
theorem zcna_ (m k : Nat) {kk : IntKind} (hk : k ≤ kk.bits) : (m : Int).fdiv (2 ^ min k kk.bits) = ((m / 2 ^ k : Nat) : Int) := by
  rw [Nat.min_eq_left hk, Int.fdiv_eq_ediv_of_nonneg _ (Int.le_of_lt (Int.pow_pos (by decide)))]
  simp
def bl (l : List UInt8) : List V := l.map fun b => .s (.int .u8 b.toNat)
theorem zbbv_ : ∀ l : List UInt8, zcc_ (bl l) = some l
  | [] => rfl
  | b :: l => by
    show ob (zcc_ (bl l)) _ = _
    rw [zbbv_ l]
    simp
theorem zmt_ (a : List UInt8) : (bl a).length = a.length := by simp [bl]
theorem zvg_ : ∀ l : List UInt8, wide 1 (bl l) = true
  | [] => rfl
  | b :: l => by
    show ((_ : Bool) && wide 1 (bl l)) = true
    rw [zvg_ l]
    rfl
theorem zvh_ : ∀ l : List UInt8, V.closed.closeds (bl l) = true
  | [] => rfl
  | b :: l => by
    show ((_ : Bool) && V.closed.closeds (bl l)) = true
    rw [zvh_ l]
    rfl
def wc (l : List UInt8) : V := if l = [] then vnil else .own 1 (bl l)
def dig (m : Nat) : Nat → List Nat
  | 0 => []
  | k + 1 => m / 256 ^ k % 256 :: dig m k
def blen (m : Nat) : Nat := if h : m = 0 then 0 else blen (m / 256) + 1
termination_by m
decreasing_by omega
theorem zcnb_ (h : H) {n : Int} (h1 : -9223372036854775808 ≤ n) (h2 : n ≤ 9223372036854775807) : run XP zsw_ [vi n] h = some (vk .u64 n.natAbs, h) := by
  rw [run_eq, zbxl_]
  by_cases hn : n < 0
  · simp -implicitDefEqProofs [zhe_, hn, zqe_]
    omega
  · simp -implicitDefEqProofs [zhe_, hn, zqe_]
    omega
theorem zmu_ : blen 0 = 0 := by unfold blen; simp
theorem zvi_ {m : Nat} (h : m ≠ 0) : blen m = blen (m / 256) + 1 := by conv => lhs; unfold blen; simp [h]
theorem num_l0 (base : Nat) (h : H) {β : Type} {f : Ex × St → Option β} {b : Option β} {B : Body} (hB : B = xcode (run XP) loopW base zjt_) : ∀ (m k : Nat) (s : Sl), s 6 = vk .u64 m → s 5 = vi k → m < 18446744073709551616 → k + blen m ≤ 100 →
    (∀ s' : Sl, s' 5 = vi (k + blen m : Nat) → (∀ t, t < 5 → s' t = s t) → f (.exit 0, ⟨s', h⟩) = b) → ob (loopW B ⟨s, h⟩) f = b := by
  have step : ∀ st, B st = xcode (run XP) loopW base zjt_ st := fun st => by rw [hB]
  intro m
  induction m using Nat.strongRecOn with
  | ind m ih =>
    intro k s h6 h5 hm hk kk
    rw [zbv_]
    by_cases h0 : m = 0
    · subst h0
      simp -implicitDefEqProofs [step, zjt_, h6]
      refine kk _ ?_ fun t ht => ?_
      · simp [h5, zmu_]
      · simp (disch := omega) only [upd_ne]
    · have hp : 0 < m := by omega
      rw [zvi_ h0] at hk kk
      simp -implicitDefEqProofs [step, zjt_, h6, h5, hp]
      rw [zae_ (by omega) (by omega)]
      refine ih (m / 256) (by omega) (k + 1) _ ?_ ?_ (by omega) (by omega) fun s2 h2 h3 => kk s2 ?_ fun t ht => (h3 t ht).trans ?_
      · simp only [zgs_]
        rw [zcna_ m 8 (by decide)]
      · simp
      · rw [h2]
        have e : k + 1 + blen (m / 256) = k + (blen (m / 256) + 1) := by omega
        rw [e]
      · simp (disch := omega) only [upd_ne]
def flipB (neg : Bool) (d : Nat) : UInt8 := UInt8.ofNat (if neg = true then 255 - d else d)
theorem zcnc_ (neg : Bool) (d : Nat) (hd : d < 256) : xorI .u8 (d : Int) (if neg = true then 255 else 0) = ((flipB neg d).toNat : Int) := by
  have : ∀ neg : Bool, ∀ d : Fin 256, xorI .u8 (d.1 : Int) (if neg = true then 255 else 0) = ((flipB neg d.1).toNat : Int) := by decide +kernel
  exact this neg ⟨d, hd⟩
theorem num_l1 (base : Nat) (h : H) (l : Nat) (hl : l < h.length) (neg : Bool) (m : Nat) {β : Type} {f : Ex × St → Option β} {b : Option β} {B : Body} (hB : B = xcode (run XP) loopW base zhb_) : ∀ (k : Nat) (bs : List UInt8) (s : Sl), s 0 = .ptr l 0 → s 4 = vk .u64 m → s 7 = vk .u8 (if neg = true then 255 else 0) → s 8 = vi ((k : Int) - 1) → k ≤ 8 → bs ≠ [] →
    bs.length + k ≤ 100000000001000 → (∀ s' : Sl, (∀ t, t < 4 → s' t = s t) → f (.exit 2, ⟨s', h.set l (.box false [wc (bs ++ (dig m k).map (flipB neg))])⟩) = b) →
    ob (loopW B ⟨s, h.set l (.box false [wc bs])⟩) f = b := by
  have step : ∀ st, B st = xcode (run XP) loopW base zhb_ st := fun st => by rw [hB]
  intro k
  induction k with
  | zero =>
    intro bs s h0 h4 h7 h8 hk hb hs kk
    rw [zbv_]
    simp -implicitDefEqProofs [step, zhb_, h8]
    simp only [dig, List.map_nil, List.append_nil] at kk
    exact kk _ fun t ht => by simp (disch := omega) only [upd_ne]
  | succ k ih =>
    intro bs s h0 h4 h7 h8 hk hb hs kk
    have hb' : wc bs = .own 1 (bl bs) := by simp [wc, hb]
    rw [zbv_]
    have h8' : s 8 = vi k := by rw [h8]; congr 2; omega
    have w8 : IntKind.i64.wrap (8 * (k : Int)) = 8 * (k : Int) := zae_ (by omega) (by omega)
    have p8 : (0 : Int) ≤ 8 * (k : Int) := by omega
    have hs' : bs.length ≤ 140737488355327 := by omega
    have hd : m / 256 ^ k % 256 < 256 := Nat.mod_lt _ (by decide)
    have hmin : min (8 * (k : Int)).toNat IntKind.u64.bits = 8 * k := by
      have : IntKind.u64.bits = 64 := rfl
      rw [this]
      omega
    have hpow : (2 : Nat) ^ (8 * k) = 256 ^ k := by rw [Nat.pow_mul]
    have hv : IntKind.u8.wrap ((m : Int).fdiv (2 ^ (8 * k))) = ((m / 256 ^ k % 256 : Nat) : Int) := by
      rw [zqd_, Int.fdiv_eq_ediv_of_nonneg _ (Int.le_of_lt (Int.pow_pos (by decide)))]
      have : ((2 : Int) ^ (8 * k)) = ((256 ^ k : Nat) : Int) := by rw [← hpow]; simp
      rw [this]
      rfl
    have hf := zcnc_ neg _ hd
    generalize hq : m / 256 ^ k % 256 = q at hv hf hd
    simp -implicitDefEqProofs [step, zhb_, h0, h4, h7, h8', hb', hl, zmt_, w8, p8, hs', hmin, hv, hf]
    have hcell : V.own 1 (bl bs ++ [vk .u8 ((flipB neg q).toNat : Int)]) = wc (bs ++ [flipB neg q]) := by simp [wc, bl]
    rw [hcell]
    refine ih (bs ++ [flipB neg q]) _ ?_ ?_ ?_ ?_ (by omega) (by simp) (by simp; omega) fun s' hs' => ?_
    · simp [h0]
    · simp [h4]
    · simp [h7]
    · simp only [zgs_]
      rw [zae_ (by omega) (by omega)]
    · have := kk s' fun t ht => (hs' t ht).trans (by simp (disch := omega) only [upd_ne])
      simpa [dig, hq] using this
theorem zbbw_ : ∀ (k m : Nat), m < 256 ^ k → blen m ≤ k
  | 0, m, h => by
    obtain rfl : m = 0 := by simpa using h
    rw [zmu_]
    exact Nat.le_refl _
  | k + 1, m, h => by
    by_cases h0 : m = 0
    · subst h0
      rw [zmu_]
      omega
    · rw [zvi_ h0]
      have := zbbw_ k (m / 256) (by rw [Nat.pow_succ] at h; omega)
      omega
def fNum (n : Int) : List UInt8 := (if n < 0 then UInt8.ofNat (128 - blen n.natAbs) else UInt8.ofNat (128 + blen n.natAbs)) :: (dig n.natAbs (blen n.natAbs)).map (flipB (decide (n < 0)))
theorem zbbx_ (m : Nat) : ∀ k, (dig m k).length = k
  | 0 => rfl
  | k + 1 => by simp [dig, zbbx_ m k]
theorem zcnd_ (n : Int) : (fNum n).length = 1 + blen n.natAbs := by simp [fNum, zbbx_, Nat.add_comm]
def Rng (n : Int) : Prop := -9223372036854775808 ≤ n ∧ n ≤ 9223372036854775807
theorem Rng.blen {n : Int} (h : Rng n) : Sl.blen n.natAbs ≤ 8 := zbbw_ 8 _ (by have := h.1; have := h.2; omega)
theorem zbs_ {n : Int} (h : Rng n) : (fNum n).length ≤ 9 := by rw [zcnd_]; have := h.blen; omega
theorem wc_own {bs : List UInt8} (h : bs ≠ []) : wc bs = .own 1 (bl bs) := by simp [wc, h]
theorem zfv_ {h : H} {l : Nat} {bs : List UInt8} {n : Int} (hl : l < h.length) (hn : Rng n) (hs : bs.length ≤ 100000000000000) :
    run XP zdf_ [.ptr l 0, vi n] (h.set l (.box false [wc bs])) = some (.tup [], h.set l (.box false [wc (bs ++ fNum n)])) := by
  have hb := hn.blen
  rw [run_eq, zbxf_]
  have hmag := zcnb_ (h.set l (.box false [wc bs])) hn.1 hn.2
  simp -implicitDefEqProofs [zju_, hmag]
  refine num_l0 _ _ rfl n.natAbs 0 _ ?_ ?_ ?_ ?_ fun s' h5 hf => ?_
  · simp
  · simp
  · have := hn.1; have := hn.2; omega
  · omega
  have g0 := hf 0 (by omega)
  have g1 := hf 1 (by omega)
  have g4 := hf 4 (by omega)
  simp at g0 g1 g4
  have hlim : bs.length ≤ 140737488355327 := by omega
  obtain ⟨c1, hc1⟩ : ∃ c : UInt8, c = UInt8.ofNat (128 - blen n.natAbs) := ⟨_, rfl⟩
  obtain ⟨c2, hc2⟩ : ∃ c : UInt8, c = UInt8.ofNat (128 + blen n.natAbs) := ⟨_, rfl⟩
  have w1 : IntKind.u8.wrap (IntKind.i64.wrap (128 - (blen n.natAbs : Int))) = (c1.toNat : Int) := by
    rw [zae_ (by omega) (by omega), zqd_, hc1]
    simp
    omega
  have w2 : IntKind.u8.wrap (IntKind.i64.wrap (128 + (blen n.natAbs : Int))) = (c2.toNat : Int) := by
    rw [zae_ (by omega) (by omega), zqd_, hc2]
    simp
  have w3 : IntKind.i64.wrap ((blen n.natAbs : Int) - 1) = (blen n.natAbs : Int) - 1 := zae_ (by omega) (by omega)
  have hcell : ∀ b : UInt8, V.own 1 (bl bs ++ [vk .u8 (b.toNat : Int)]) = wc (bs ++ [b]) := fun b => by simp [wc, bl]
  have hcell0 : ∀ b : UInt8, V.own 1 ([vk .u8 (b.toNat : Int)]) = wc ([b]) := fun b => by simp [wc, bl]
  have fin : ∀ (neg : Bool) (c : UInt8) (s' : Sl) (t : H), neg = decide (n < 0) → c = (if neg = true then c1 else c2) → s' 0 = .ptr l 0 → s' 4 = vk .u64 n.natAbs → s' 7 = vk .u8 (if neg = true then 255 else 0) → s' 8 = vi ((blen n.natAbs : Int) - 1) →
      (ob (loopW (xcode (run XP) loopW h.length zhb_) ⟨s', (h ++ t).set l (.box false [wc (bs ++ [c])])⟩) fun a => backR [] (List.set h l (O.box false [wc bs])) (outOf 2 a)) = some (.tup [], h.set l (.box false [wc (bs ++ fNum n)])) := by
    intro neg c s' t hneg hc e0 e4 e7 e8
    refine num_l1 _ (h ++ t) l (by simp; omega) neg n.natAbs rfl (blen n.natAbs) (bs ++ [c]) _ e0 e4 e7 e8 hb (by simp) (by simp; omega) fun s2 h2 => ?_
    rw [zby_ hl]
    simp -implicitDefEqProofs [fNum, hneg, hc, hc1, hc2]
  by_cases hb0 : bs = []
  · subst hb0
    have hw : wc [] = vnil := by simp [wc]
    rw [hw] at fin
    simp only [zby_ hl, List.nil_append] at fin
    by_cases hneg : n < 0
    · simp -implicitDefEqProofs [h5, g0, g1, g4, hneg, hl, hw, w1, w3, hcell0, zbah_, zby_]
      apply fin true c1 _ [.dead] <;> simp [g0, g4, hneg]
    · simp -implicitDefEqProofs [h5, g0, g1, g4, hneg, hl, hw, w2, w3, hcell0, zbah_, zby_]
      apply fin false c2 _ [.dead] <;> simp [g0, g4, hneg]
  · have hw := wc_own hb0
    have fin' := fun neg c s' => fin neg c s' []
    rw [List.append_nil, hw] at fin'
    by_cases hneg : n < 0
    · simp -implicitDefEqProofs [h5, g0, g1, g4, hneg, hl, hw, w1, w3, hlim, zmt_, hcell]
      apply fin' true c1 <;> simp [g0, g4, hneg]
    · simp -implicitDefEqProofs [h5, g0, g1, g4, hneg, hl, hw, w2, w3, hlim, zmt_, hcell]
      apply fin' false c2 <;> simp [g0, g4, hneg]
end Go.Proofs.Sl
namespace Go.Proofs.Sl
def bts (s : ByteArray) : List UInt8 := s.data.toList
theorem zih_ (s : ByteArray) : (bts s).length = s.size := by rw [bts, Array.length_toList]; rfl
theorem zbby_ (s : ByteArray) : zdv_ s = bl (bts s) := rfl
theorem bl_nil {l : List UInt8} : bl l = [] ↔ l = [] := by simp [bl]
def fText (s : ByteArray) : List UInt8 := fNum s.size ++ bts s
theorem zcne_ (s : ByteArray) : (fText s).length = (fNum s.size).length + s.size := by
  rw [fText, List.length_append, zih_]
theorem zfw_ {n : Nat} (h : n ≤ 1000000000000000) : Rng n := ⟨by omega, by omega⟩
theorem W_text {h : H} {l : Nat} {bs : List UInt8} {s : ByteArray} (hl : l < h.length) (hs : bs.length + s.size ≤ 90000000000000) :
    run XP zej_ [.ptr l 0, vs s] (h.set l (.box false [wc bs])) = some (.tup [], h.set l (.box false [wc (bs ++ fText s)])) := by
  have hr : Rng s.size := zfw_ (by omega)
  have hn := zfv_ (h := h) (l := l) (bs := bs) hl hr (by omega)
  have hle := zbs_ hr
  have hne : bs ++ fNum s.size ≠ [] := by simp [fNum]
  have hw := wc_own hne
  have hlim : bs.length + (fNum s.size).length + s.size ≤ 140737488355328 := by omega
  have hlim' : bs.length + (fNum s.size).length ≤ 140737488355328 := by omega
  rw [run_eq, zbxj_]
  by_cases h0 : bts s = []
  · simp -implicitDefEqProofs [zhd_, hn, hl, hw, zbby_, zvg_, zvh_, zmt_, zih_, hlim, hlim', fText, bl_nil, h0]
  · have hne2 : bs ++ (fNum s.size ++ bts s) ≠ [] := by simp [fNum]
    have hz : ¬ s = ByteArray.empty := fun e => h0 (by rw [e]; rfl)
    simp -implicitDefEqProofs [zhd_, hn, hl, hw, zbby_, zvg_, zvh_, zmt_, zih_, hlim, hlim', fText, bl_nil, h0, hz, wc_own hne2]
    simp only [bl, List.map_append, List.append_assoc]
theorem zcnf_ {h t : H} {l : Nat} {bs : List UInt8} {n : Int} (hl : l < h.length) (hn : Rng n) (hs : bs.length ≤ 100000000000000) :
    run XP zdf_ [.ptr l 0, vi n] (h.set l (.box false [wc bs]) ++ t) = some (.tup [], h.set l (.box false [wc (bs ++ fNum n)]) ++ t) := by
  have := zfv_ (h := h ++ t) (l := l) (bs := bs) (by simp; omega) hn hs
  simpa only [zby_ hl] using this
theorem zvj_ {h t : H} {l : Nat} {bs : List UInt8} {s : ByteArray} (hl : l < h.length) (hs : bs.length + s.size ≤ 90000000000000) :
    run XP zej_ [.ptr l 0, vs s] (h.set l (.box false [wc bs]) ++ t) = some (.tup [], h.set l (.box false [wc (bs ++ fText s)]) ++ t) := by
  have := W_text (h := h ++ t) (l := l) (bs := bs) (s := s) (by simp; omega) hs
  simpa only [zby_ hl] using this
def fNums : List Int → List UInt8
  | [] => []
  | n :: r => fNum n ++ fNums r
def il (l : List Int) : List V := l.map vi
theorem zfx_ : ∀ {ns : List Int}, (∀ n ∈ ns, Rng n) → (fNums ns).length ≤ 9 * ns.length
  | [], _ => by simp [fNums]
  | n :: r, h => by
    have h1 := zbs_ (h n (by simp))
    have h2 := zfx_ (ns := r) fun m hm => h m (List.mem_cons_of_mem _ hm)
    simp [fNums]
    omega
theorem zcng_ (base : Nat) (h : H) (l : Nat) (hl : l < h.length) (ns : List Int) (hn : ∀ n ∈ ns, Rng n) (hlen : ns.length ≤ 1000) {β : Type} {f : Ex × St → Option β} {b : Option β} {B : Body} (hB : B = xcode (run XP) loopW base zkb_) :
    ∀ (r : List Int) (k : Nat) (bs : List UInt8) (s : Sl), ns.drop k = r → s 0 = .ptr l 0 → s 6 = .lst 1 (il ns) → s 7 = vi ns.length → s 8 = vi k → bs.length + 9 * r.length ≤ 80000000000000 →
    (∀ s' : Sl, f (.exit 0, ⟨s', h.set l (.box false [wc (bs ++ fNums r)])⟩) = b) → ob (loopW B ⟨s, h.set l (.box false [wc bs])⟩) f = b := by
  have step : ∀ st, B st = xcode (run XP) loopW base zkb_ st := fun st => by rw [hB]
  intro r
  induction r with
  | nil =>
    intro k bs s hd h0 h6 h7 h8 hs kk
    have hk : ns.length ≤ k := by simpa using hd
    rw [zbv_]
    have hlt : ¬ ((k : Int) < (ns.length : Int)) := by omega
    simp -implicitDefEqProofs [step, zkb_, h7, h8, hlt]
    simpa [fNums] using kk _
  | cons n r ih =>
    intro k bs s hd h0 h6 h7 h8 hs kk
    have hk : k < ns.length := by
      by_cases hk : k < ns.length
      · exact hk
      · rw [List.drop_of_length_le (by omega)] at hd; cases hd
    have hg : ns[k]? = some n := by
      have := congrArg (·[0]?) hd
      simpa using this
    have hd' : ns.drop (k + 1) = r := by
      have := congrArg List.tail hd
      simpa using this
    have hr := hn n (List.mem_of_getElem? hg)
    have hle := zbs_ hr
    rw [zbv_]
    have hlt : ((k : Int) < (ns.length : Int)) := by omega
    simp at hs
    have hnum := zfv_ (h := h) (l := l) (bs := bs) hl hr (by omega)
    have hel : (il ns)[k]? = some (vi n) := by simp [il, hg]
    simp -implicitDefEqProofs [step, zkb_, h0, h6, h7, h8, hlt, hk, hel, hnum]
    refine ih (k + 1) _ _ hd' ?_ ?_ ?_ ?_ ?_ ?_
    · simp [h0]
    · simp [h6]
    · simp [h7]
    · simp only [zgs_]
      rw [zae_ (by omega) (by omega)]
      simp
    · simp
      omega
    · intro s'
      simpa [fNums] using kk s'
theorem zcnh_ {h : H} {l : Nat} {bs : List UInt8} {ns : List Int} (hl : l < h.length) (hn : ∀ n ∈ ns, Rng n) (hlen : ns.length ≤ 1000) (hs : bs.length ≤ 70000000000000) :
    run XP zdl_ [.ptr l 0, .lst 1 (il ns)] (h.set l (.box false [wc bs])) = some (.tup [], h.set l (.box false [wc (bs ++ fNums ns)])) := by
  rw [run_eq, zbxp_]
  simp -implicitDefEqProofs [zkc_]
  refine zcng_ _ h l hl ns hn hlen rfl ns 0 bs _ rfl ?_ ?_ ?_ ?_ (by omega) fun s' => ?_
  · simp
  · simp
  · simp [il]
  · simp
  · simp -implicitDefEqProofs
theorem zvk_ {h t : H} {l : Nat} {bs : List UInt8} {ns : List Int} (hl : l < h.length) (hn : ∀ n ∈ ns, Rng n) (hlen : ns.length ≤ 1000) (hs : bs.length ≤ 70000000000000) :
    run XP zdl_ [.ptr l 0, .lst 1 (il ns)] (h.set l (.box false [wc bs]) ++ t) = some (.tup [], h.set l (.box false [wc (bs ++ fNums ns)]) ++ t) := by
  have := zcnh_ (h := h ++ t) (l := l) (bs := bs) (ns := ns) (by simp; omega) hn hlen hs
  simpa only [zby_ hl] using this
def fBool (b : Bool) : List UInt8 := fNum (if b = true then 1 else 0)
theorem W_bool {h : H} {l : Nat} {bs : List UInt8} {b : Bool} (hl : l < h.length) (hs : bs.length ≤ 70000000000000) :
    run XP zom_ [.ptr l 0, vb b] (h.set l (.box false [wc bs])) = some (.tup [], h.set l (.box false [wc (bs ++ fBool b)])) := by
  have h0 := zfv_ (h := h) (l := l) (bs := bs) (n := 0) hl ⟨by decide, by decide⟩ (by omega)
  have h1 := zfv_ (h := h) (l := l) (bs := bs) (n := 1) hl ⟨by decide, by decide⟩ (by omega)
  rw [run_eq, zbxi_]
  cases b <;> simp -implicitDefEqProofs [zjw_, h0, h1, fBool]
theorem zcni_ {h t : H} {l : Nat} {bs : List UInt8} {b : Bool} (hl : l < h.length) (hs : bs.length ≤ 70000000000000) :
    run XP zom_ [.ptr l 0, vb b] (h.set l (.box false [wc bs]) ++ t) = some (.tup [], h.set l (.box false [wc (bs ++ fBool b)]) ++ t) := by
  have := W_bool (h := h ++ t) (l := l) (bs := bs) (b := b) (by simp; omega) hs
  simpa only [zby_ hl] using this
theorem zvl_ (b : Bool) : (fBool b).length ≤ 9 := by cases b <;> exact zbs_ ⟨by decide, by decide⟩
theorem zcu_ {s : ByteArray} {m : Nat} (h : s.size ≤ m) (hm : m ≤ 1000000000000) : (fText s).length ≤ m + 9 := by
  rw [zcne_]
  have := zbs_ (n := s.size) (zfw_ (by omega))
  omega
structure AV where
  k : Int
  t : ByteArray
  n : Int
def AV.v (a : AV) : V := .agg [vi a.k, vs a.t, vi a.n]
structure AV.Ok (a : AV) : Prop where
  k : Rng a.k
  t : a.t.size ≤ 5000
  n : Rng a.n
def AV.f (a : AV) : List UInt8 := fNum a.k ++ (fText a.t ++ fNum a.n)
theorem AV.le {a : AV} (h : a.Ok) : a.f.length ≤ 6000 := by
  have e1 := zbs_ h.k
  have e2 := zcu_ h.t (by omega)
  have e3 := zbs_ h.n
  simp [AV.f]
  omega
theorem zcnj_ {h : H} {l : Nat} {bs : List UInt8} {a : AV} (hl : l < h.length) (ha : a.Ok) (hs : bs.length ≤ 80000000000000) :
    run XP zjg_ [.ptr l 0, a.v] (h.set l (.box false [wc bs])) = some (.tup [], h.set l (.box false [wc (bs ++ a.f)])) := by
  have e1 := zbs_ ha.k
  have e2 := zcu_ ha.t (by omega)
  have e3 := ha.t
  have e4 := ha.k
  have e5 := ha.n
  rw [run_eq, zbxn_]
  simp -implicitDefEqProofs (disch := first | assumption | omega | (simp; done) | (simp; omega)) [zjz_, AV.v, zcnf_, zvj_, AV.f, noOwn]
theorem zcnk_ {h t : H} {l : Nat} {bs : List UInt8} {a : AV} (hl : l < h.length) (ha : a.Ok) (hs : bs.length ≤ 80000000000000) :
    run XP zjg_ [.ptr l 0, a.v] (h.set l (.box false [wc bs]) ++ t) = some (.tup [], h.set l (.box false [wc (bs ++ a.f)]) ++ t) := by
  have := zcnj_ (h := h ++ t) (l := l) (bs := bs) (a := a) (by simp; omega) ha hs
  simpa only [zby_ hl] using this
structure AT where
  key : ByteArray
  val : AV
def AT.v (a : AT) : V := .agg [vs a.key, vi a.val.k, vs a.val.t, vi a.val.n]
structure AT.Ok (a : AT) : Prop where
  key : a.key.size ≤ 5000
  val : a.val.Ok
def AT.f (a : AT) : List UInt8 := fText a.key ++ a.val.f
theorem AT.le {a : AT} (h : a.Ok) : a.f.length ≤ 12000 := by
  have e1 := zcu_ h.key (by omega)
  have e2 := AV.le h.val
  simp [AT.f]
  omega
theorem W_attr {h : H} {l : Nat} {bs : List UInt8} {a : AT} (hl : l < h.length) (ha : a.Ok) (hs : bs.length ≤ 70000000000000) :
    run XP zdj_ [.ptr l 0, a.v] (h.set l (.box false [wc bs])) = some (.tup [], h.set l (.box false [wc (bs ++ a.f)])) := by
  have e2 := zcu_ ha.key (by omega)
  have e3 := ha.key
  have hv : ∀ t : H, run XP zjg_ [.ptr l 0, .agg [vi a.val.k, vs a.val.t, vi a.val.n]] (h.set l (.box false [wc (bs ++ fText a.key)]) ++ t) = some (.tup [], h.set l (.box false [wc (bs ++ fText a.key ++ a.val.f)]) ++ t) := fun t =>
    zcnk_ hl ha.val (by simp; omega)
  rw [run_eq, zbxm_]
  simp -implicitDefEqProofs (disch := first | assumption | omega | (simp; done) | (simp; omega)) [zjy_, AT.v, hv, zvj_, AT.f, noOwn]
theorem zcnl_ {h t : H} {l : Nat} {bs : List UInt8} {a : AT} (hl : l < h.length) (ha : a.Ok) (hs : bs.length ≤ 70000000000000) :
    run XP zdj_ [.ptr l 0, a.v] (h.set l (.box false [wc bs]) ++ t) = some (.tup [], h.set l (.box false [wc (bs ++ a.f)]) ++ t) := by
  have := W_attr (h := h ++ t) (l := l) (bs := bs) (a := a) (by simp; omega) ha hs
  simpa only [zby_ hl] using this
structure RF where
  t : Int
  i : Int
def RF.v (a : RF) : V := .agg [vi a.t, vi a.i]
structure RF.Ok (a : RF) : Prop where
  t : Rng a.t
  i : Rng a.i
def RF.f (a : RF) : List UInt8 := fNums [a.t, a.i]
theorem RF.le {a : RF} (h : a.Ok) : a.f.length ≤ 18 := zfx_ (ns := [a.t, a.i]) (by simp [h.t, h.i])
theorem W_ref {h : H} {l : Nat} {bs : List UInt8} {a : RF} (hl : l < h.length) (ha : a.Ok) (hs : bs.length ≤ 70000000000000) :
    run XP zdk_ [.ptr l 0, a.v] (h.set l (.box false [wc bs])) = some (.tup [], h.set l (.box false [wc (bs ++ a.f)])) := by
  have hv : ∀ t : H, run XP zdl_ [.ptr l 0, .lst 1 [vi a.t, vi a.i]] (h.set l (.box false [wc bs]) ++ t) = some (.tup [], h.set l (.box false [wc (bs ++ a.f)]) ++ t) := fun t =>
    zvk_ (ns := [a.t, a.i]) hl (by simp [ha.t, ha.i]) (by simp) (by omega)
  rw [run_eq, zbxo_]
  simp -implicitDefEqProofs (disch := first | assumption | omega | (simp; done) | (simp; omega)) [zka_, RF.v, hv, noOwn]
theorem zcnm_ {h t : H} {l : Nat} {bs : List UInt8} {a : RF} (hl : l < h.length) (ha : a.Ok) (hs : bs.length ≤ 70000000000000) :
    run XP zdk_ [.ptr l 0, a.v] (h.set l (.box false [wc bs]) ++ t) = some (.tup [], h.set l (.box false [wc (bs ++ a.f)]) ++ t) := by
  have := W_ref (h := h ++ t) (l := l) (bs := bs) (a := a) (by simp; omega) ha hs
  simpa only [zby_ hl] using this
structure EX where
  fr : Int
  to : Int
  sent : Int
  rcv : Int
  least : Int
def EX.v (a : EX) : V := .agg [vi a.fr, vi a.to, vi a.sent, vi a.rcv, vi a.least]
structure EX.Ok (a : EX) : Prop where
  fr : Rng a.fr
  to : Rng a.to
  sent : Rng a.sent
  rcv : Rng a.rcv
  least : Rng a.least
def EX.f (a : EX) : List UInt8 := fNums [a.fr, a.to, a.sent, a.rcv, a.least]
theorem EX.le {a : EX} (h : a.Ok) : a.f.length ≤ 45 := zfx_ (ns := [a.fr, a.to, a.sent, a.rcv, a.least]) (by simp [h.fr, h.to, h.sent, h.rcv, h.least])
structure MS where
  k : Int
  a : RF
  b : RF
  x : EX
def MS.v (a : MS) : V := .agg [vi a.k, vi a.a.t, vi a.a.i, vi a.b.t, vi a.b.i, vi a.x.fr, vi a.x.to, vi a.x.sent, vi a.x.rcv, vi a.x.least]
structure MS.Ok (m : MS) : Prop where
  k : Rng m.k
  a : m.a.Ok
  b : m.b.Ok
  x : m.x.Ok
def MS.f (a : MS) : List UInt8 := fNum a.k ++ (a.a.f ++ (a.b.f ++ a.x.f))
theorem MS.le {a : MS} (h : a.Ok) : a.f.length ≤ 90 := by
  have e1 := zbs_ h.k
  have e2 := RF.le h.a
  have e3 := RF.le h.b
  have e4 := EX.le h.x
  simp [MS.f]
  omega
end Go.Proofs.Sl
namespace Go.Proofs.Sl
def fList {α : Type} (f : α → List UInt8) (l : List α) : List UInt8 := fNum l.length ++ l.flatMap f
theorem zqf_ {α : Type} {f : α → List UInt8} {n : Nat} : ∀ {l : List α}, (∀ x ∈ l, (f x).length ≤ n) → (l.flatMap f).length ≤ n * l.length
  | [], _ => by simp
  | x :: l, h => by
    have h1 := h x (by simp)
    have h2 := zqf_ (l := l) fun y hy => h y (List.mem_cons_of_mem _ hy)
    simp only [List.flatMap_cons, List.length_append, List.length_cons, Nat.mul_add, Nat.mul_one]
    omega
theorem zcnn_ (base : Nat) (h : H) (l : Nat) (hl : l < h.length) (es : List AT) (hok : ∀ e ∈ es, e.Ok) (hlen : es.length ≤ 1000) (o : Option (List V)) (ho : o.getD [] = es.map AT.v) {β : Type} {f : Ex × St → Option β} {b : Option β} {B : Body}
    (hB : B = xcode (run XP) loopW base zkd_) : ∀ (r : List AT) (k : Nat) (bs : List UInt8) (t : H) (s : Sl), es.drop k = r → base ≤ h.length + t.length → s 2 = .fn zdj_ [.ptr l 0] [] → s 12 = lv 4 o → s 13 = vi es.length → s 14 = vi k →
    bs.length + 12000 * r.length ≤ 60000000000000 → (∀ (s' : Sl) (t' : H), f (.exit 0, ⟨s', h.set l (.box false [wc (bs ++ r.flatMap AT.f)]) ++ t'⟩) = b) → ob (loopW B ⟨s, h.set l (.box false [wc bs]) ++ t⟩) f = b := by
  have step : ∀ st, B st = xcode (run XP) loopW base zkd_ st := fun st => by rw [hB]
  intro r
  induction r with
  | nil =>
    intro k bs t s hd hbase h2 h12 h13 h14 hs kk
    have hk : es.length ≤ k := by simpa using hd
    have hlt : ¬ ((k : Int) < (es.length : Int)) := by omega
    rw [zbv_]
    simp -implicitDefEqProofs [step, zkd_, h13, h14, hlt]
    simpa using kk _ t
  | cons e r ih =>
    intro k bs t s hd hbase h2 h12 h13 h14 hs kk
    have hk : k < es.length := by
      by_cases hk : k < es.length
      · exact hk
      · rw [List.drop_of_length_le (by omega)] at hd; cases hd
    have hg : es[k]? = some e := by
      have := congrArg (·[0]?) hd
      simpa using this
    have hd' : es.drop (k + 1) = r := by
      have := congrArg List.tail hd
      simpa using this
    have hr := hok e (List.mem_of_getElem? hg)
    have hle := AT.le hr
    have hlt : ((k : Int) < (es.length : Int)) := by omega
    have hge : (0 : Int) ≤ (k : Int) := by omega
    obtain ⟨vs', hlv, hat⟩ := lv_at (k := 4) (o := o) (i := k) (e := e.v) (by rw [ho]; simp [hg])
    rw [List.length_cons] at hs
    have hone : ∀ t : H, run XP zdj_ [.ptr l 0, e.v] (h.set l (.box false [wc bs]) ++ t) = some (.tup [], h.set l (.box false [wc (bs ++ e.f)]) ++ t) := fun t => zcnl_ hl hr (by omega)
    simp only [AT.v] at hat hone
    rw [zbv_]
    simp -implicitDefEqProofs [step, zkd_, h2, h12, h13, h14, hlt, hlv, hat, hone, putRow]
    refine ih (k + 1) _ _ _ hd' ?_ ?_ ?_ ?_ ?_ ?_ fun s' t' => ?_
    · simp; omega
    · simp [h2]
    · simp [h12, hlv]
    · simp [h13]
    · simp only [zgs_]
      rw [zae_ (by omega) (by omega)]
      simp
    · simp
      omega
    · simpa using kk s' t'
theorem zcno_ {h : H} {l : Nat} {bs : List UInt8} {es : List AT} {o : Option (List V)} (hl : l < h.length) (hok : ∀ e ∈ es, e.Ok) (hlen : es.length ≤ 1000) (ho : o.getD [] = es.map AT.v) (hs : bs.length + 9 + 12000 * es.length ≤ 60000000000000) :
    run XP zjh_ [.ptr l 0, lv 4 o, .fn zdj_ [.ptr l 0] []] (h.set l (.box false [wc bs])) = some (.tup [], h.set l (.box false [wc (bs ++ fList AT.f es)])) := by
  have hr : Rng es.length := zfw_ (by omega)
  have hle := zbs_ hr
  have hn := zfv_ (h := h) (l := l) (bs := bs) hl hr (by omega)
  have hle' : (o.getD []).length = es.length := by rw [ho]; simp
  rw [run_eq, zbxq_]
  simp -implicitDefEqProofs [zke_, hn, hle']
  have key := zcnn_ h.length h l hl es hok hlen o ho (β := V × H) (f := fun a => backR [] (h.set l (.box false [wc bs])) (outOf 0 a)) (b := some (.tup [], h.set l (.box false [wc (bs ++ fList AT.f es)]))) rfl es 0 (bs ++ fNum es.length) []
  rw [List.append_nil] at key
  refine key _ rfl (by simp) ?_ ?_ ?_ ?_ (by simp; omega) fun s' t' => ?_
  · simp
  · simp
  · simp
  · simp
  · simp -implicitDefEqProofs [fList]
theorem zcnp_ {h t : H} {l : Nat} {bs : List UInt8} {es : List AT} {o : Option (List V)} (hl : l < h.length) (hok : ∀ e ∈ es, e.Ok) (hlen : es.length ≤ 1000) (ho : o.getD [] = es.map AT.v) (hs : bs.length + 9 + 12000 * es.length ≤ 60000000000000) :
    run XP zjh_ [.ptr l 0, lv 4 o, .fn zdj_ [.ptr l 0] []] (h.set l (.box false [wc bs]) ++ t) = some (.tup [], h.set l (.box false [wc (bs ++ fList AT.f es)]) ++ t) := by
  have := zcno_ (h := h ++ t) (l := l) (bs := bs) (es := es) (o := o) (by simp; omega) hok hlen ho hs
  simpa only [zby_ hl] using this
theorem zcnq_ (base : Nat) (h : H) (l : Nat) (hl : l < h.length) (es : List RF) (hok : ∀ e ∈ es, e.Ok) (hlen : es.length ≤ 1000) (o : Option (List V)) (ho : o.getD [] = es.map RF.v) {β : Type} {f : Ex × St → Option β} {b : Option β} {B : Body}
    (hB : B = xcode (run XP) loopW base zkf_) : ∀ (r : List RF) (k : Nat) (bs : List UInt8) (t : H) (s : Sl), es.drop k = r → base ≤ h.length + t.length → s 2 = .fn zdk_ [.ptr l 0] [] → s 12 = lv 2 o → s 13 = vi es.length → s 14 = vi k →
    bs.length + 18 * r.length ≤ 60000000000000 → (∀ (s' : Sl) (t' : H), f (.exit 0, ⟨s', h.set l (.box false [wc (bs ++ r.flatMap RF.f)]) ++ t'⟩) = b) → ob (loopW B ⟨s, h.set l (.box false [wc bs]) ++ t⟩) f = b := by
  have step : ∀ st, B st = xcode (run XP) loopW base zkf_ st := fun st => by rw [hB]
  intro r
  induction r with
  | nil =>
    intro k bs t s hd hbase h2 h12 h13 h14 hs kk
    have hk : es.length ≤ k := by simpa using hd
    have hlt : ¬ ((k : Int) < (es.length : Int)) := by omega
    rw [zbv_]
    simp -implicitDefEqProofs [step, zkf_, h13, h14, hlt]
    simpa using kk _ t
  | cons e r ih =>
    intro k bs t s hd hbase h2 h12 h13 h14 hs kk
    have hk : k < es.length := by
      by_cases hk : k < es.length
      · exact hk
      · rw [List.drop_of_length_le (by omega)] at hd; cases hd
    have hg : es[k]? = some e := by
      have := congrArg (·[0]?) hd
      simpa using this
    have hd' : es.drop (k + 1) = r := by
      have := congrArg List.tail hd
      simpa using this
    have hr := hok e (List.mem_of_getElem? hg)
    have hle := RF.le hr
    have hlt : ((k : Int) < (es.length : Int)) := by omega
    have hge : (0 : Int) ≤ (k : Int) := by omega
    obtain ⟨vs', hlv, hat⟩ := lv_at (k := 2) (o := o) (i := k) (e := e.v) (by rw [ho]; simp [hg])
    rw [List.length_cons] at hs
    have hone : ∀ t : H, run XP zdk_ [.ptr l 0, e.v] (h.set l (.box false [wc bs]) ++ t) = some (.tup [], h.set l (.box false [wc (bs ++ e.f)]) ++ t) := fun t => zcnm_ hl hr (by omega)
    simp only [RF.v] at hat hone
    rw [zbv_]
    simp -implicitDefEqProofs [step, zkf_, h2, h12, h13, h14, hlt, hlv, hat, hone, putRow]
    refine ih (k + 1) _ _ _ hd' ?_ ?_ ?_ ?_ ?_ ?_ fun s' t' => ?_
    · simp; omega
    · simp [h2]
    · simp [h12, hlv]
    · simp [h13]
    · simp only [zgs_]
      rw [zae_ (by omega) (by omega)]
      simp
    · simp
      omega
    · simpa using kk s' t'
theorem zcnr_ {h : H} {l : Nat} {bs : List UInt8} {es : List RF} {o : Option (List V)} (hl : l < h.length) (hok : ∀ e ∈ es, e.Ok) (hlen : es.length ≤ 1000) (ho : o.getD [] = es.map RF.v) (hs : bs.length + 9 + 18 * es.length ≤ 60000000000000) :
    run XP zji_ [.ptr l 0, lv 2 o, .fn zdk_ [.ptr l 0] []] (h.set l (.box false [wc bs])) = some (.tup [], h.set l (.box false [wc (bs ++ fList RF.f es)])) := by
  have hr : Rng es.length := zfw_ (by omega)
  have hle := zbs_ hr
  have hn := zfv_ (h := h) (l := l) (bs := bs) hl hr (by omega)
  have hle' : (o.getD []).length = es.length := by rw [ho]; simp
  rw [run_eq, zbxr_]
  simp -implicitDefEqProofs [zkg_, hn, hle']
  have key := zcnq_ h.length h l hl es hok hlen o ho (β := V × H) (f := fun a => backR [] (h.set l (.box false [wc bs])) (outOf 0 a)) (b := some (.tup [], h.set l (.box false [wc (bs ++ fList RF.f es)]))) rfl es 0 (bs ++ fNum es.length) []
  rw [List.append_nil] at key
  refine key _ rfl (by simp) ?_ ?_ ?_ ?_ (by simp; omega) fun s' t' => ?_
  · simp
  · simp
  · simp
  · simp
  · simp -implicitDefEqProofs [fList]
theorem zcns_ {h t : H} {l : Nat} {bs : List UInt8} {es : List RF} {o : Option (List V)} (hl : l < h.length) (hok : ∀ e ∈ es, e.Ok) (hlen : es.length ≤ 1000) (ho : o.getD [] = es.map RF.v) (hs : bs.length + 9 + 18 * es.length ≤ 60000000000000) :
    run XP zji_ [.ptr l 0, lv 2 o, .fn zdk_ [.ptr l 0] []] (h.set l (.box false [wc bs]) ++ t) = some (.tup [], h.set l (.box false [wc (bs ++ fList RF.f es)]) ++ t) := by
  have := zcnr_ (h := h ++ t) (l := l) (bs := bs) (es := es) (o := o) (by simp; omega) hok hlen ho hs
  simpa only [zby_ hl] using this
theorem zcnt_ {h : H} {l : Nat} {bs : List UInt8} (hl : h[l]? = some (.box false [wc bs])) : run XP zst_ [.ptr l 0] h = some (vs ⟨bs.toArray⟩, h) := by
  rw [run_eq, zbxg_]
  by_cases hb : bs = []
  · subst hb
    have hw : wc [] = vnil := by simp [wc]
    simp -implicitDefEqProofs [zhc_, hl, hw, zcc_]
  · simp -implicitDefEqProofs [zhc_, hl, wc_own hb, zbbv_]
end Go.Proofs.Sl
namespace Go.Proofs.Sl
structure SP where
  tr : Int
  id : Int
  par : Int
  rev : Int
  clk : Int
  kind : Int
  sv : ByteArray
  vr : ByteArray
  op : ByteArray
  st : Int
  en : Int
  er : Bool
  ats : List AT
  lks : List RF
  an : Bool
  ln : Bool
def slc {α : Type} (v : α → V) (l : List α) (n : Bool) : Option (List V) := if n = true then none else some (l.map v)
def SP.v (a : SP) : V := .agg [vi a.tr, vi a.id, vi a.par, vi a.rev, vi a.clk, vi a.kind, vs a.sv, vs a.vr, vs a.op, vi a.st, vi a.en, vb a.er, lv 4 (slc AT.v a.ats a.an), lv 2 (slc RF.v a.lks a.ln)]
structure SP.Ok (a : SP) : Prop where
  n : ∀ n ∈ [a.tr, a.id, a.par, a.rev, a.clk, a.kind, a.st, a.en], Rng n
  sv : a.sv.size ≤ 5000
  vr : a.vr.size ≤ 5000
  op : a.op.size ≤ 5000
  ats : ∀ e ∈ a.ats, e.Ok
  lks : ∀ e ∈ a.lks, e.Ok
  al : a.ats.length ≤ 1000
  ll : a.lks.length ≤ 1000
  an : a.an = true → a.ats = []
  ln : a.ln = true → a.lks = []
theorem zmv_ {α : Type} {v : α → V} {l : List α} {n : Bool} (h : n = true → l = []) : (slc v l n).getD [] = l.map v := by
  cases n with
  | true => rw [h rfl]; rfl
  | false => rfl
def SP.f (a : SP) : List UInt8 := fNums [a.tr, a.id, a.par, a.rev, a.clk, a.kind] ++ (fText a.sv ++ (fText a.vr ++ (fText a.op ++ (fNums [a.st, a.en] ++ (fBool a.er ++ (fList AT.f a.ats ++ fList RF.f a.lks))))))
theorem SP.le {a : SP} (h : a.Ok) : a.f.length ≤ 13000000 := by
  have hn := h.n
  have e1 := zfx_ (ns := [a.tr, a.id, a.par, a.rev, a.clk, a.kind]) fun n hm => hn n (by simp at hm ⊢; omega)
  have e2 := zcu_ h.sv (by omega)
  have e3 := zcu_ h.vr (by omega)
  have e4 := zcu_ h.op (by omega)
  have e5 := zfx_ (ns := [a.st, a.en]) fun n hm => hn n (by simp at hm ⊢; omega)
  have e6 := zvl_ a.er
  have e7 := zbs_ (zfw_ (n := a.ats.length) (by have := h.al; omega))
  have e8 := zbs_ (zfw_ (n := a.lks.length) (by have := h.ll; omega))
  have e9 := zqf_ (f := AT.f) (l := a.ats) fun x hx => AT.le (h.ats x hx)
  have e10 := zqf_ (f := RF.f) (l := a.lks) fun x hx => RF.le (h.lks x hx)
  have e11 := h.al
  have e12 := h.ll
  simp only [List.length_cons, List.length_nil] at e1 e5
  simp only [SP.f, fList, List.length_append]
  omega
theorem W_span {h : H} {l : Nat} {bs : List UInt8} {a : SP} (hl : l < h.length) (ha : a.Ok) (hs : bs.length ≤ 50000000000000) :
    run XP zsv_ [.ptr l 0, a.v] (h.set l (.box false [wc bs])) = some (.tup [], h.set l (.box false [wc (bs ++ a.f)])) := by
  have hn := ha.n
  have r1 : ∀ n ∈ [a.tr, a.id, a.par, a.rev, a.clk, a.kind], Rng n := fun n hm => hn n (by simp at hm ⊢; omega)
  have r2 : ∀ n ∈ [a.st, a.en], Rng n := fun n hm => hn n (by simp at hm ⊢; omega)
  have e1 := zfx_ r1
  have e2 := zcu_ ha.sv (by omega)
  have e3 := zcu_ ha.vr (by omega)
  have e4 := zcu_ ha.op (by omega)
  have e5 := zfx_ r2
  have e6 := zvl_ a.er
  have e7 := zbs_ (zfw_ (n := a.ats.length) (by have := ha.al; omega))
  have e9 := zqf_ (f := AT.f) (l := a.ats) fun x hx => AT.le (ha.ats x hx)
  have e11 := ha.al
  have e12 := ha.ll
  have z1 := ha.sv
  have z2 := ha.vr
  have z3 := ha.op
  simp only [List.length_cons, List.length_nil] at e1 e5
  obtain ⟨A, hA⟩ : ∃ A, A = fNums [a.tr, a.id, a.par, a.rev, a.clk, a.kind] := ⟨_, rfl⟩
  obtain ⟨D, hD⟩ : ∃ D, D = fNums [a.st, a.en] := ⟨_, rfl⟩
  have h1 : ∀ t : H, run XP zdl_ [.ptr l 0, .lst 1 [vi a.tr, vi a.id, vi a.par, vi a.rev, vi a.clk, vi a.kind]] (h.set l (.box false [wc bs]) ++ t) = some (.tup [], h.set l (.box false [wc (bs ++ A)]) ++ t) := fun t => by
    rw [hA]
    exact zvk_ (ns := [a.tr, a.id, a.par, a.rev, a.clk, a.kind]) hl r1 (by simp) (by omega)
  have h2 : ∀ (t : H) (cs : List UInt8), cs.length ≤ 60000000000000 → run XP zdl_ [.ptr l 0, .lst 1 [vi a.st, vi a.en]] (h.set l (.box false [wc cs]) ++ t) = some (.tup [], h.set l (.box false [wc (cs ++ D)]) ++ t) := fun t cs hc => by
    rw [hD]
    exact zvk_ (ns := [a.st, a.en]) hl r2 (by simp) (by omega)
  have h3 : ∀ (t : H) (cs : List UInt8), cs.length ≤ 50000001000000 → run XP zjh_ [.ptr l 0, lv 4 (slc AT.v a.ats a.an), .fn zdj_ [.ptr l 0] []] (h.set l (.box false [wc cs]) ++ t) = some (.tup [], h.set l (.box false [wc (cs ++ fList AT.f a.ats)]) ++ t) := fun t cs hc =>
    zcnp_ hl ha.ats ha.al (zmv_ ha.an) (by omega)
  have h4 : ∀ (t : H) (cs : List UInt8), cs.length ≤ 50001000000000 → run XP zji_ [.ptr l 0, lv 2 (slc RF.v a.lks a.ln), .fn zdk_ [.ptr l 0] []] (h.set l (.box false [wc cs]) ++ t) = some (.tup [], h.set l (.box false [wc (cs ++ fList RF.f a.lks)]) ++ t) := fun t cs hc =>
    zcns_ hl ha.lks ha.ll (zmv_ ha.ln) (by omega)
  rw [← hA] at e1
  rw [← hD] at e5
  have e13 : (fList AT.f a.ats).length ≤ 9 + 12000 * 1000 := by
    simp only [fList, List.length_append]
    omega
  rw [run_eq, zbxk_]
  simp -implicitDefEqProofs (disch := first | assumption | (simp; done) | omega | (simp; omega)) [zjx_, SP.v, h1, h2, h3, h4, zvj_, zcni_, noOwn, SP.f, ← hA, ← hD]
end Go.Proofs.Sl
namespace Go.Proofs.Sl
end Go.Proofs.Sl
namespace Go.Proofs.Sl
end Go.Proofs.Sl
namespace Go.Proofs.Sl
def rd (s : ByteArray) (a : Nat) (e : Int) : O := .box false [vs s, vi a, vi e]
end Go.Proofs.Sl
namespace Go.Proofs.Sl
theorem Rng.zero : Rng 0 := ⟨by decide, by decide⟩
section
variable {h t : H} {l : Nat} {s : ByteArray} {a : Nat} {e : Int}
end
end Go.Proofs.Sl
namespace Go.Proofs.Sl
section
variable {h t : H} {l : Nat} {s : ByteArray} {a : Nat} {e : Int}
theorem bone {n : Int} (h1 : 0 < n) (h2 : n < 256) : blen n.natAbs = 1 := by
  have : n.natAbs / 256 = 0 := by omega
  rw [zvi_ (by omega), this, zmu_]
theorem b3 : fNum 3 = [129, 3] := by
  unfold fNum
  rw [bone (by decide) (by decide)]
  decide +kernel
theorem b1 : fNum 1 = [129, 1] := by
  unfold fNum
  rw [bone (by decide) (by decide)]
  decide +kernel
theorem b0 : fNum 0 = [128] := by
  have : blen (Int.natAbs 0) = 0 := zmu_
  unfold fNum
  rw [this]
  decide +kernel
end
end Go.Proofs.Sl
namespace Go.Proofs.Sl
def Cut (u v : List UInt8) : Prop := ∃ p a b x y, u = p ++ a :: x ∧ v = p ++ b :: y ∧ a < b
theorem Cut.take {u v : List UInt8} (h : Cut u v) : u.take (min u.length v.length) ≠ v.take (min u.length v.length) := by
  obtain ⟨p, a, b, x, y, rfl, rfl, hab⟩ := h
  intro e
  have e1 := congrArg (·[p.length]?) e
  simp only [List.getElem?_take] at e1
  rw [if_pos (by simp), if_pos (by simp)] at e1
  simp at e1
  subst e1
  exact absurd hab (by simp)
theorem zbbz_ (l : List UInt8) : (⟨l.toArray⟩ : ByteArray).toList = l := by
  rw [ByteArray.toList_eq]
theorem zcnu_ (l : List UInt8) : (⟨l.toArray⟩ : ByteArray).size = l.length := by
  show l.toArray.size = _
  simp
theorem zvm_ : ∀ l : List UInt8, Op.bytesLess l l = false
  | [] => rfl
  | a :: l => by simp [Op.bytesLess, zvm_ l]
end Go.Proofs.Sl
namespace Go.Proofs.Sl
open Go
theorem zbca_ (x : List UInt8) : Op.bytesLess x [] = false := by cases x <;> rfl
theorem zvn_ : ∀ {x y z : List UInt8}, Op.bytesLess x y = true → Op.bytesLess y z = true → Op.bytesLess x z = true
  | _, [], _, h, _ => by rw [zbca_] at h; cases h
  | _, _ :: _, [], _, h => by rw [zbca_] at h; cases h
  | [], _ :: _, _ :: _, _, _ => rfl
  | a :: x, b :: y, c :: z, h, k => by
    simp only [Op.bytesLess, Bool.or_eq_true, Bool.and_eq_true, decide_eq_true_eq, beq_iff_eq] at h k ⊢
    rcases h with h | ⟨rfl, h⟩ <;> rcases k with k | ⟨rfl, k⟩
    · exact .inl (UInt8.lt_trans h k)
    · exact .inl h
    · exact .inl k
    · exact .inr ⟨rfl, zvn_ h k⟩
theorem zvo_ : ∀ (x y : List UInt8), Op.bytesLess x y = false → Op.bytesLess y x = false → x = y
  | [], [], _, _ => rfl
  | [], _ :: _, h, _ => by cases h
  | _ :: _, [], _, h => by cases h
  | a :: x, b :: y, h, k => by
    simp only [Op.bytesLess, Bool.or_eq_false_iff, decide_eq_false_iff_not, Bool.and_eq_false_iff, beq_eq_false_iff_ne] at h k
    have hab : a = b := UInt8.le_antisymm (UInt8.not_lt.1 k.1) (UInt8.not_lt.1 h.1)
    subst hab
    rw [zvo_ x y (by rcases h.2 with h | h; exact absurd rfl h; exact h) (by rcases k.2 with h | h; exact absurd rfl h; exact h)]
theorem zvp_ {x y : List UInt8} (h : Op.bytesLess x y = true) : Op.bytesLess y x = false := by
  cases k : Op.bytesLess y x with
  | false => rfl
  | true => have := zvn_ h k; rw [zvm_] at this; cases this
def sgn (a b : Int) : Int := if a < b then -1 else if b < a then 1 else 0
def wrd (a b : ByteArray) : Int := if Op.bytesLess a.toList b.toList = true then -1 else if Op.bytesLess b.toList a.toList = true then 1 else 0
def orl : List Int → Int
  | [] => 0
  | n :: l => if n ≠ 0 then n else orl l
theorem zcnv_ (a b : List Int) : orl (a ++ b) = if orl a ≠ 0 then orl a else orl b := by
  induction a with
  | nil => simp [orl]
  | cons n a ih =>
    simp only [List.cons_append, orl, ih]
    by_cases h : n = 0 <;> simp [h]
structure Cm {α : Type} (f : α → α → Int) : Prop where
  anti : ∀ x y, f y x = -f x y
  trans : ∀ x y z, f x y ≤ 0 → f y z ≤ 0 → f x z ≤ 0
section
variable {α β : Type} {f g : α → α → Int}
theorem Cm.self (c : Cm f) (x : α) : f x x = 0 := by have := c.anti x x; omega
theorem Cm.lt_of_lt_le (c : Cm f) {x y z : α} (h : f x y < 0) (k : f y z ≤ 0) : f x z < 0 := by
  have h1 := c.trans x y z (by omega) k
  rcases Int.lt_or_eq_of_le h1 with h2 | h2
  · exact h2
  · have h3 := c.trans y z x k (by rw [c.anti x z]; omega)
    rw [c.anti x y] at h3
    omega
theorem Cm.lt_of_le_lt (c : Cm f) {x y z : α} (h : f x y ≤ 0) (k : f y z < 0) : f x z < 0 := by
  have h1 := c.trans x y z h (by omega)
  rcases Int.lt_or_eq_of_le h1 with h2 | h2
  · exact h2
  · have h3 := c.trans z x y (by rw [c.anti x z]; omega) h
    rw [c.anti y z] at h3
    omega
theorem Cm.eq_trans (c : Cm f) {x y z : α} (h : f x y = 0) (k : f y z = 0) : f x z = 0 := by
  have h1 := c.trans x y z (by omega) (by omega)
  have h2 := c.trans z y x (by rw [c.anti y z]; omega) (by rw [c.anti x y]; omega)
  rw [c.anti x z] at h2
  omega
theorem Cm.key {f : β → β → Int} (c : Cm f) (k : α → β) : Cm fun x y => f (k x) (k y) := ⟨fun x y => c.anti _ _, fun x y z => c.trans _ _ _⟩
theorem Cm.zero : Cm fun (_ _ : α) => (0 : Int) := ⟨fun _ _ => rfl, fun _ _ _ _ _ => Int.le_refl _⟩
theorem Cm.lex (c : Cm f) (d : Cm g) : Cm fun x y => if f x y ≠ 0 then f x y else g x y where
  anti := fun x y => by
    rw [c.anti x y, d.anti x y]
    by_cases h : f x y = 0 <;> simp [h]
  trans := fun x y z h k => by
    by_cases h1 : f x y = 0 <;> by_cases h2 : f y z = 0
    · rw [if_neg (by simpa using h1)] at h
      rw [if_neg (by simpa using h2)] at k
      rw [if_neg (by simpa using c.eq_trans h1 h2)]
      exact d.trans _ _ _ h k
    · rw [if_pos h2] at k
      have := c.lt_of_le_lt (x := x) (y := y) (z := z) (by omega) (by omega)
      rw [if_pos (by omega)]
      omega
    · rw [if_pos h1] at h
      have := c.lt_of_lt_le (x := x) (y := y) (z := z) (by omega) (by omega)
      rw [if_pos (by omega)]
      omega
    · rw [if_pos h1] at h
      rw [if_pos h2] at k
      have := c.lt_of_lt_le (x := x) (y := y) (z := z) (by omega) (by omega)
      rw [if_pos (by omega)]
      omega
theorem Cm.orl_nil : Cm fun (_ _ : α) => orl [] := Cm.zero
theorem Cm.orl_cons {fs : List (α → α → Int)} (c : Cm f) (d : Cm fun x y => orl (fs.map fun g => g x y)) : Cm fun x y => orl ((f :: fs).map fun g => g x y) := by
  have := c.lex d
  simpa only [List.map_cons, orl] using this
end
theorem sgn_cm : Cm sgn where
  anti := fun x y => by unfold sgn; split <;> split <;> omega
  trans := fun x y z h k => by unfold sgn at *; split at h <;> split at k <;> (try split at h) <;> (try split at k) <;> split <;> (try split) <;> omega
theorem wrd_cm : Cm wrd where
  anti := fun x y => by
    unfold wrd
    cases h : Op.bytesLess x.toList y.toList <;> cases k : Op.bytesLess y.toList x.toList <;> simp
    have := zvp_ h
    rw [k] at this
    cases this
  trans := fun x y z h k => by
    have key : ∀ a b : ByteArray, wrd a b ≤ 0 ↔ Op.bytesLess b.toList a.toList = false := fun a b => by
      unfold wrd
      cases h : Op.bytesLess a.toList b.toList <;> cases k : Op.bytesLess b.toList a.toList <;> simp
      have := zvp_ h
      rw [k] at this
      cases this
    rw [key] at h k ⊢
    cases e : Op.bytesLess z.toList x.toList with
    | false => rfl
    | true =>
      cases e1 : Op.bytesLess x.toList y.toList with
      | true => rw [zvn_ e e1] at k; cases k
      | false =>
        have := zvo_ _ _ e1 h
        rw [this] at e
        rw [e] at k
        cases k
theorem zbcb_ {a b : Int} : sgn a b = 0 ↔ a = b := by unfold sgn; split <;> (try split) <;> omega
def lexc {α : Type} (f : α → α → Int) : List α → List α → Int
  | [], [] => 0
  | [], _ :: _ => -1
  | _ :: _, [] => 1
  | a :: r, b :: s => if f a b ≠ 0 then f a b else lexc f r s
theorem zbcc_ {α : Type} {f : α → α → Int} (c : Cm f) : ∀ x y : List α, lexc f y x = -lexc f x y
  | [], [] => rfl
  | [], _ :: _ => rfl
  | _ :: _, [] => rfl
  | a :: x, b :: y => by
    simp only [lexc]
    rw [c.anti a b, zbcc_ c x y]
    by_cases h : f a b = 0 <;> simp [h]
theorem zbcd_ {α : Type} {f : α → α → Int} (c : Cm f) : ∀ x y z : List α, lexc f x y ≤ 0 → lexc f y z ≤ 0 → lexc f x z ≤ 0
  | [], _, [], _, _ => by simp [lexc]
  | [], _, _ :: _, _, _ => by simp [lexc]
  | _ :: _, [], _, h, _ => by simp [lexc] at h
  | _, _ :: _, [], _, h => by simp [lexc] at h
  | a :: x, b :: y, d :: z, h, k => by
    simp only [lexc] at h k ⊢
    by_cases h1 : f a b = 0 <;> by_cases h2 : f b d = 0
    · rw [if_neg (by simpa using h1)] at h
      rw [if_neg (by simpa using h2)] at k
      rw [if_neg (by simpa using c.eq_trans h1 h2)]
      exact zbcd_ c _ _ _ h k
    · rw [if_pos h2] at k
      have := c.lt_of_le_lt (x := a) (y := b) (z := d) (by omega) (by omega)
      rw [if_pos (by omega)]
      omega
    · rw [if_pos h1] at h
      have := c.lt_of_lt_le (x := a) (y := b) (z := d) (by omega) (by omega)
      rw [if_pos (by omega)]
      omega
    · rw [if_pos h1] at h
      rw [if_pos h2] at k
      have := c.lt_of_lt_le (x := a) (y := b) (z := d) (by omega) (by omega)
      rw [if_pos (by omega)]
      omega
theorem zbce_ {α : Type} {f : α → α → Int} (c : Cm f) : Cm (lexc f) := ⟨zbcc_ c, zbcd_ c⟩
def flg (b : Bool) : Int := if b = true then 1 else 0
def cmpV (a b : AV) : Int := orl [sgn a.k b.k, wrd a.t b.t, sgn a.n b.n]
def cmpA (a b : AT) : Int := orl [wrd a.key b.key, cmpV a.val b.val]
def cmpR (a b : RF) : Int := orl [sgn a.t b.t, sgn a.i b.i]
def cmpS (a b : SP) : Int := orl [sgn a.tr b.tr, sgn a.id b.id, sgn a.rev b.rev, sgn a.par b.par, sgn a.clk b.clk, sgn a.kind b.kind, wrd a.sv b.sv, wrd a.vr b.vr, wrd a.op b.op, sgn a.st b.st, sgn a.en b.en, sgn (flg a.er) (flg b.er),
  lexc cmpA a.ats b.ats, lexc cmpR a.lks b.lks]
theorem zcnw_ : Cm cmpV := Cm.orl_cons (f := fun a b : AV => sgn a.k b.k) (fs := [fun a b : AV => wrd a.t b.t, fun a b : AV => sgn a.n b.n]) (sgn_cm.key _) (Cm.orl_cons (wrd_cm.key _) (Cm.orl_cons (fs := []) (sgn_cm.key _) Cm.orl_nil))
theorem zcnx_ : Cm cmpA := Cm.orl_cons (f := fun a b : AT => wrd a.key b.key) (fs := [fun a b : AT => cmpV a.val b.val]) (wrd_cm.key _) (Cm.orl_cons (fs := []) (zcnw_.key _) Cm.orl_nil)
theorem zcny_ : Cm cmpR := Cm.orl_cons (f := fun a b : RF => sgn a.t b.t) (fs := [fun a b : RF => sgn a.i b.i]) (sgn_cm.key _) (Cm.orl_cons (fs := []) (sgn_cm.key _) Cm.orl_nil)
theorem zbg_ : Cm cmpS :=
  Cm.orl_cons (f := fun a b : SP => sgn a.tr b.tr) (fs := [fun a b : SP => sgn a.id b.id, fun a b : SP => sgn a.rev b.rev, fun a b : SP => sgn a.par b.par, fun a b : SP => sgn a.clk b.clk, fun a b : SP => sgn a.kind b.kind, fun a b : SP => wrd a.sv b.sv, fun a b : SP => wrd a.vr b.vr, fun a b : SP => wrd a.op b.op,
    fun a b : SP => sgn a.st b.st, fun a b : SP => sgn a.en b.en, fun a b : SP => sgn (flg a.er) (flg b.er), fun a b : SP => lexc cmpA a.ats b.ats, fun a b : SP => lexc cmpR a.lks b.lks]) (sgn_cm.key _)
  (Cm.orl_cons (sgn_cm.key _) (Cm.orl_cons (sgn_cm.key _) (Cm.orl_cons (sgn_cm.key _) (Cm.orl_cons (sgn_cm.key _) (Cm.orl_cons (sgn_cm.key _) (Cm.orl_cons (wrd_cm.key _) (Cm.orl_cons (wrd_cm.key _) (Cm.orl_cons (wrd_cm.key _)
  (Cm.orl_cons (sgn_cm.key _) (Cm.orl_cons (sgn_cm.key _) (Cm.orl_cons (sgn_cm.key fun a : SP => flg a.er) (Cm.orl_cons ((zbce_ zcnx_).key _) (Cm.orl_cons (fs := []) ((zbce_ zcny_).key _) Cm.orl_nil)))))))))))))
theorem zbcf_ : ∀ {l : List Int}, orl l = 0 ↔ ∀ n ∈ l, n = 0
  | [] => by simp [orl]
  | n :: l => by
    simp only [orl, List.mem_cons, forall_eq_or_imp]
    by_cases h : n = 0
    · simp [h, zbcf_]
    · simp [h]
end Go.Proofs.Sl
namespace Go.Proofs.Sl
end Go.Proofs.Sl
namespace Go.Proofs.Sl
end Go.Proofs.Sl
namespace Go.Proofs.Sl
end Go.Proofs.Sl
namespace Go.Proofs.Sl
def tx (l : List UInt8) : V := vs ⟨l.toArray⟩
theorem zcnz_ (a : List UInt8) : (tx a).plain = true := Eq.trans rfl rfl
theorem zcoa_ (a : List UInt8) : lenT (tx a) = some (vi a.length) := by simp [tx, zcnu_]
theorem eql_tx (a b : List UInt8) : xbin .eql (tx a) (tx b) = some (vb (a == b)) := by simp [tx, strOp, zbbz_]
theorem neq_tx (a b : List UInt8) : xbin .neq (tx a) (tx b) = some (vb (!(a == b))) := by simp [tx, strOp, zbbz_]
attribute [simp] zcoa_ eql_tx neq_tx zcnz_
end Go.Proofs.Sl
namespace Go.Proofs.Sl
end Go.Proofs.Sl
namespace Go.Proofs.Sl
structure PT where
  k : Int
  n0 : Int
  n1 : Int
  n2 : Int
  n3 : Int
  n4 : Int
  n5 : Int
  n6 : Int
  n7 : Int
  key : ByteArray
  s : ByteArray
def PT.v (p : PT) : V := .agg [vk .u8 p.k, vi p.n0, vi p.n1, vi p.n2, vi p.n3, vi p.n4, vi p.n5, vi p.n6, vi p.n7, vs p.key, vs p.s]
structure PT.Ok (p : PT) : Prop where
  k0 : 0 ≤ p.k
  k1 : p.k ≤ 255
  n0 : Rng p.n0
  n1 : Rng p.n1
  n2 : Rng p.n2
  n3 : Rng p.n3
  n4 : Rng p.n4
  n5 : Rng p.n5
  n6 : Rng p.n6
  n7 : Rng p.n7
  key : p.key.size ≤ 5000
  s : p.s.size ≤ 5000
def PT.av (p : PT) : AV := ⟨p.n0, p.s, p.n1⟩
def PT.at (p : PT) : AT := ⟨p.key, p.av⟩
def PT.rf (p : PT) : RF := ⟨p.n0, p.n1⟩
def PT.ex (p : PT) : EX := ⟨p.n0, p.n1, p.n2, p.n3, p.n4⟩
def PT.ms (p : PT) : MS := ⟨p.n0, p.rf, ⟨p.n2, p.n3⟩, ⟨p.n4, p.n5, p.n6, p.n7, p.n1⟩⟩
def PT.sp (p : PT) : SP := ⟨p.n0, p.n1, p.n2, p.n3, p.n4, p.n5, p.key, p.s, p.key, p.n6, p.n7, decide (p.n0 > 0), [p.at], [p.rf, p.rf], false, false⟩
theorem PT.Ok.av {p : PT} (h : p.Ok) : p.av.Ok := ⟨h.n0, h.s, h.n1⟩
theorem PT.Ok.at {p : PT} (h : p.Ok) : p.at.Ok := ⟨h.key, h.av⟩
theorem PT.Ok.rf {p : PT} (h : p.Ok) : p.rf.Ok := ⟨h.n0, h.n1⟩
theorem PT.Ok.ex {p : PT} (h : p.Ok) : p.ex.Ok := ⟨h.n0, h.n1, h.n2, h.n3, h.n4⟩
theorem PT.Ok.ms {p : PT} (h : p.Ok) : p.ms.Ok := ⟨h.n0, h.rf, ⟨h.n2, h.n3⟩, ⟨h.n4, h.n5, h.n6, h.n7, h.n1⟩⟩
theorem PT.Ok.sp {p : PT} (h : p.Ok) : p.sp.Ok where
  n := by
    intro n hn
    simp [PT.sp] at hn
    rcases hn with rfl | rfl | rfl | rfl | rfl | rfl | rfl | rfl
    · exact h.n0
    · exact h.n1
    · exact h.n2
    · exact h.n3
    · exact h.n4
    · exact h.n5
    · exact h.n6
    · exact h.n7
  sv := h.key
  vr := h.s
  op := h.key
  ats := by
    intro e he
    simp [PT.sp] at he
    rw [he]
    exact h.at
  lks := by
    intro e he
    simp [PT.sp] at he
    rw [he]
    exact h.rf
  al := by simp [PT.sp]
  ll := by simp [PT.sp]
  an := by simp [PT.sp]
  ln := by simp [PT.sp]
def PT.f (p : PT) : List UInt8 :=
  if p.k.tmod 9 = 0 then fNum p.n0 else
  if p.k.tmod 9 = 1 then fBool (decide (p.n0 > 0)) else
  if p.k.tmod 9 = 2 then fText p.s else
  if p.k.tmod 9 = 3 then p.av.f else
  if p.k.tmod 9 = 4 then p.at.f else
  if p.k.tmod 9 = 5 then p.rf.f else
  if p.k.tmod 9 = 6 then p.ex.f else
  if p.k.tmod 9 = 7 then p.ms.f else
  p.sp.f
theorem PT.le {p : PT} (h : p.Ok) : p.f.length ≤ 13000000 := by
  have e0 := zbs_ h.n0
  have e1 := zvl_ (decide (p.n0 > 0))
  have e2 := zcu_ h.s (by omega)
  have e3 := AV.le h.av
  have e4 := AT.le h.at
  have e5 := RF.le h.rf
  have e6 := EX.le h.ex
  have e7 := MS.le h.ms
  have e8 := SP.le h.sp
  unfold PT.f
  repeat' split
  all_goals omega
structure PT.Pre (p : PT) : Prop where
  k0 : 0 ≤ p.k
  k1 : p.k ≤ 255
  n0 : Rng p.n0
  n1 : Rng p.n1
  n2 : Rng p.n2
  n3 : Rng p.n3
  n4 : Rng p.n4
  n5 : Rng p.n5
  n6 : Rng p.n6
  n7 : Rng p.n7
  key : p.key.size ≤ 9223372036854775807
  s : p.s.size ≤ 9223372036854775807
theorem PT.Pre.ok {p : PT} (h : p.Pre) (h1 : p.key.size ≤ 50) (h2 : p.s.size ≤ 50) : p.Ok := ⟨h.k0, h.k1, h.n0, h.n1, h.n2, h.n3, h.n4, h.n5, h.n6, h.n7, by omega, by omega⟩
end Go.Proofs.Sl
namespace Go.Proofs.Sl
section
variable {h t : H} {l : Nat} {s : ByteArray} {a : Nat} {e : Int}
end
end Go.Proofs.Sl
namespace Go.Proofs.Sl
def plains (cs : List V) : Prop := ∀ c ∈ cs, c.plain = true
theorem plains.set {cs : List V} (h : plains cs) (j : Nat) {v : V} (hv : v.plain = true) : plains (cs.set j v) := by
  intro c hc
  rcases List.mem_or_eq_of_mem_set hc with hc | rfl
  · exact h c hc
  · exact hv
section
variable {s : ByteArray}
end
end Go.Proofs.Sl
namespace Go.Proofs.Sl
def AV.z : AV := ⟨0, ⟨#[]⟩, 0⟩
def AT.z : AT := ⟨⟨#[]⟩, AV.z⟩
def RF.z : RF := ⟨0, 0⟩
def EX.z : EX := ⟨0, 0, 0, 0, 0⟩
def MS.z : MS := ⟨0, RF.z, RF.z, EX.z⟩
section
variable {h t : H} {l : Nat} {s : ByteArray} {a : Nat} {e : Int}
end
end Go.Proofs.Sl
namespace Go.Proofs.Sl
section
variable {h t : H} {l : Nat} {s : ByteArray} {a : Nat} {e : Int}
end
theorem zbcg_ : ∀ l : List AT, V.closed.closeds (l.map AT.v) = true
  | [] => rfl
  | x :: l => by simp [AT.v, zbcg_ l]
theorem zbch_ : ∀ l : List RF, V.closed.closeds (l.map RF.v) = true
  | [] => rfl
  | x :: l => by simp [RF.v, zbch_ l]
theorem zmw_ : ∀ l : List EX, V.closed.closeds (l.map EX.v) = true
  | [] => rfl
  | x :: l => by simp [EX.v, zmw_ l]
end Go.Proofs.Sl
namespace Go.Proofs.Sl
def SP.z : SP := ⟨0, 0, 0, 0, 0, 0, ⟨#[]⟩, ⟨#[]⟩, ⟨#[]⟩, 0, 0, false, [], [], true, true⟩
section
variable {h t : H} {l : Nat} {s : ByteArray} {a : Nat} {e : Int}
end
end Go.Proofs.Sl
namespace Go.Proofs.Sl
structure AT.Pre (a : AT) : Prop where
  key : a.key.size ≤ 9223372036854775807
  k : Rng a.val.k
  t : a.val.t.size ≤ 9223372036854775807
  n : Rng a.val.n
structure SP.Pre (a : SP) : Prop where
  n : ∀ n ∈ [a.tr, a.id, a.par, a.rev, a.clk, a.kind, a.st, a.en], Rng n
  sv : a.sv.size ≤ 9223372036854775807
  vr : a.vr.size ≤ 9223372036854775807
  op : a.op.size ≤ 9223372036854775807
  ats : ∀ e ∈ a.ats, e.Pre
  lks : ∀ e ∈ a.lks, e.Ok
  al : a.ats.length ≤ 9223372036854775807
  ll : a.lks.length ≤ 9223372036854775807
  an : a.an = true → a.ats = []
  ln : a.ln = true → a.lks = []
def AT.isShort (a : AT) : Bool := !(decide (100 < (a.key.size : Int)) || decide (100 < (a.val.t.size : Int)))
def SP.isShort (a : SP) : Bool := !(decide (8 < (a.ats.length : Int)) || (decide (8 < (a.lks.length : Int)) || (decide (100 < (a.sv.size : Int)) || (decide (100 < (a.vr.size : Int)) || decide (100 < (a.op.size : Int)))))) && a.ats.all AT.isShort
theorem SP.Pre.ok {a : SP} (h : a.Pre) (hs : a.isShort = true) : a.Ok := by
  simp [SP.isShort] at hs
  obtain ⟨⟨h1, h2, h3, h4, h5⟩, h6⟩ := hs
  refine ⟨h.n, by omega, by omega, by omega, fun e he => ?_, h.lks, by omega, by omega, h.an, h.ln⟩
  have h7 := h6 e he
  have h8 := h.ats e he
  simp [AT.isShort] at h7
  exact ⟨by omega, ⟨h8.k, by omega, h8.n⟩⟩
end Go.Proofs.Sl
namespace Go.Proofs.Sl
theorem zaq_ : ∀ l : List SP, V.closed.closeds (l.map SP.v) = true
  | [] => rfl
  | x :: l => by simp [SP.v, zaq_ l]
structure FR where
  ag : Int
  sq : Int
  sps : List SP
  exs : List EX
  sn : Bool
  xn : Bool
def FR.v (a : FR) : V := .agg [vi a.ag, vi a.sq, lv 14 (slc SP.v a.sps a.sn), lv 5 (slc EX.v a.exs a.xn)]
structure FR.Ok (a : FR) : Prop where
  ag : Rng a.ag
  sq : Rng a.sq
  sps : ∀ e ∈ a.sps, e.Ok
  exs : ∀ e ∈ a.exs, e.Ok
  sl : a.sps.length ≤ 1000
  xl : a.exs.length ≤ 1000
  sn : a.sn = true → a.sps = []
  xn : a.xn = true → a.exs = []
def FR.f (a : FR) : List UInt8 := fNums [a.ag, a.sq] ++ (fList SP.f a.sps ++ fList EX.f a.exs)
structure TC where
  id : Int
  wt : Int
  sps : List SP
  sn : Bool
def TC.v (a : TC) : V := .agg [vi a.id, vi a.wt, lv 14 (slc SP.v a.sps a.sn)]
structure TC.Ok (a : TC) : Prop where
  id : Rng a.id
  wt : Rng a.wt
  sps : ∀ e ∈ a.sps, e.Ok
  sl : a.sps.length ≤ 1000
  sn : a.sn = true → a.sps = []
def TC.f (a : TC) : List UInt8 := fNums [a.id, a.wt] ++ fList SP.f a.sps
def FR.z : FR := ⟨0, 0, [], [], true, true⟩
def TC.z : TC := ⟨0, 0, [], true⟩
theorem catn {h : H} {x d z : O} {t : H} : (h ++ (z :: d :: t)).set (h.length + 1) x = h ++ (z :: x :: t) := by
  rw [zsn_]
  rfl
theorem E_Span (h : H) {a : SP} (ha : a.Ok) : run XP zsu_ [a.v] h = some (tx a.f, h) := by
  have hw : wc [] = vnil := by simp [wc]
  have w1 := W_span (h := h ++ [.box false [vi a.tr, vi a.id, vi a.par, vi a.rev, vi a.clk, vi a.kind, vs a.sv, vs a.vr, vs a.op, vi a.st, vi a.en, vb a.er, lv 4 (slc AT.v a.ats a.an), lv 2 (slc RF.v a.lks a.ln)], .dead]) (l := h.length + 1) (bs := []) (by simp) ha (by simp)
  rw [hw] at w1
  simp only [catn, List.nil_append] at w1
  have w2 := zcnt_ (h := h ++ [.box false [vi a.tr, vi a.id, vi a.par, vi a.rev, vi a.clk, vi a.kind, vs a.sv, vs a.vr, vs a.op, vi a.st, vi a.en, vb a.er, lv 4 (slc AT.v a.ats a.an), lv 2 (slc RF.v a.lks a.ln)], .box false [wc a.f]]) (l := h.length + 1) (bs := a.f) (by simp)
  have ht : vs ⟨a.f.toArray⟩ = tx a.f := rfl
  rw [ht] at w2
  simp only [SP.v] at w1
  rw [run_eq, zbxh_]
  simp -implicitDefEqProofs [zjv_, SP.v, w1, w2, noOwn]
end Go.Proofs.Sl
namespace Go.Proofs.Sl
theorem zau_ {α : Type} {l : List α} {k : Nat} {e : α} (h : l[k]? = some e) : l.drop k = e :: l.drop (k + 1) := by
  obtain ⟨hk, he⟩ := List.getElem?_eq_some_iff.1 h
  rw [List.drop_eq_getElem_cons hk, he]
theorem zfy_ {α : Type} {l : List α} {k : Nat} {e : α} (h : l[k]? = some e) : l.take (k + 1) = l.take k ++ [e] := by
  rw [List.take_add_one, h]; rfl
theorem zvq_ {k : Nat} (h : k < 100000000000) : IntKind.i64.wrap ((k : Int) + 1) = (k : Int) + 1 := zae_ (by omega) (by omega)
theorem il_at {vs : List Int} {k : Nat} {e : Int} (h : vs[k]? = some e) : (il vs)[k]? = some (vi e) := by simp [il, h]
theorem zdq_ (vs : List Int) : (il vs).length = vs.length := by simp [il]
end Go.Proofs.Sl
namespace Go.Proofs.Sl
open Go
theorem zcob_ : noOwn [] = true := Eq.trans rfl rfl
attribute [simp] zcob_
theorem bl_eq {a b : ByteArray} : (a.toList == b.toList) = decide (a = b) := by
  by_cases h : a = b
  · subst h; simp
  · have : a.toList ≠ b.toList := fun e => h (by rw [ByteArray.toList_eq, ByteArray.toList_eq] at e; exact ByteArray.ext (Array.ext' e))
    simp [h, this]
theorem bl_ne {a b : ByteArray} (h : Op.bytesLess a.toList b.toList = true) : ¬ a = b := by
  rintro rfl
  rw [zvm_] at h
  cases h
theorem bl_gt (a b : ByteArray) : (!(Op.bytesLess a.toList b.toList || a.toList == b.toList)) = Op.bytesLess b.toList a.toList := by
  cases h : Op.bytesLess a.toList b.toList with
  | true => simp [zvp_ h]
  | false =>
    cases k : Op.bytesLess b.toList a.toList with
    | true => have := bl_ne k; rw [bl_eq]; simp; exact fun e => this e.symm
    | false => rw [zvo_ _ _ h k]; simp
theorem zcoc_ {a b : ByteArray} (h : Op.bytesLess a.toList b.toList = false) : (a.toList == b.toList) = !Op.bytesLess b.toList a.toList := by
  have := bl_gt a b
  rw [h, Bool.false_or] at this
  rw [← this, Bool.not_not]
theorem zbci_ (h : H) (a : Int) : run XP zot_ [vi a] h = some (vb false, h) := by
  rw [run_eq, zbyr_]
  simp -implicitDefEqProofs [zla_]
theorem zbcj_ (h : H) (a : ByteArray) : run XP zos_ [vs a] h = some (vb false, h) := by
  rw [run_eq, zbyq_]
  simp -implicitDefEqProofs [zkz_]
theorem zfz_ (h : H) (a b : Int) : run XP zdm_ [vi a, vi b] h = some (vi (sgn a b), h) := by
  rw [run_eq, zbyi_]
  have h1 := zbci_ h a
  have h2 := zbci_ h b
  unfold sgn
  by_cases h3 : a < b
  · simp -implicitDefEqProofs [zhi_, h1, h2, h3]
  · by_cases h4 : b < a <;> simp -implicitDefEqProofs [zhi_, h1, h2, h3, h4]
theorem zmx_ (h : H) (a b : ByteArray) : run XP zfk_ [vs a, vs b] h = some (vi (wrd a b), h) := by
  rw [run_eq, zbyh_]
  have h1 := zbcj_ h a
  have h2 := zbcj_ h b
  unfold wrd
  cases h3 : Op.bytesLess a.toList b.toList
  · have h5 := zcoc_ h3
    cases h4 : Op.bytesLess b.toList a.toList
    · rw [h4, Bool.not_false] at h5
      simp -implicitDefEqProofs [zfp_, h1, h2, h3, h4, h5]
    · rw [h4, Bool.not_true] at h5
      simp -implicitDefEqProofs [zfp_, h1, h2, h3, h4, h5]
  · simp -implicitDefEqProofs [zfp_, h1, h2, h3]
theorem zbck_ (h : H) (b : Bool) : run XP zop_ [vb b] h = some (vi (flg b), h) := by
  rw [run_eq, zbyj_]
  cases b <;> simp -implicitDefEqProofs [zkq_, flg]
theorem run_Or (h : H) (ns : List Int) (hl : ns.length ≤ 10000) : run XP zgx_ [.lst 1 (il ns)] h = some (vi (orl ns), h) := by
  have hv : Rd h 1 (.lst 1 (il ns)) (il ns) := .lst _
  rw [run_eq, zbyf_]
  simp -implicitDefEqProofs [zko_, zdq_]
  refine zak_ ns (fun k s h' => Sees s [(3, vi 0), (6, .lst 1 (il ns)), (7, vi ns.length), (8, vi k)] ∧ h' = h ∧ orl ns = orl (ns.drop k)) ?_ ?_ _ _ ⟨by simp, rfl, rfl⟩
  · rintro B f hB hf k e s h' he hk ⟨⟨h3, h6, h7, h8, -⟩, rfl, hx⟩ K
    obtain ⟨p, hp, hld⟩ := hv.at1 (il_at he) rfl
    have hlt : (k : Int) < ns.length := by omega
    rw [zau_ he, orl] at hx
    by_cases h0 : e = 0
    · rw [if_neg (by simpa using h0)] at hx
      simp -implicitDefEqProofs [hB, zpj_, h3, h6, h7, h8, hlt, hp, hld, h0]
      refine K _ _ ⟨?_, rfl, hx⟩
      simp [h3, h6, h7, zvq_ (by omega : k < 100000000000)]
    · rw [if_pos h0] at hx
      have h0' : (e != 0) = true := by simpa using h0
      simp -implicitDefEqProofs [hB, hf, zpj_, h3, h6, h7, h8, hlt, hp, hld, h0', hx]
  · rintro B hB s h' ⟨⟨h3, h6, h7, h8, -⟩, rfl, hx⟩
    simp -implicitDefEqProofs [hB, zpj_, h3, h7, h8, hx, orl]
theorem il_get {l : List Int} {k : Nat} {e : Int} (h : l[k]? = some e) : ∀ hh, (il l)[k]'hh = vi e := fun hh => by
  have := il_at h
  rw [List.getElem?_eq_getElem hh] at this
  injection this
theorem zvr_ {α : Type} {f : α → α → Int} {x y : List α} {k : Nat} {a b : α} (ha : x[k]? = some a) (hb : y[k]? = some b) : lexc f (x.drop k) (y.drop k) = if f a b ≠ 0 then f a b else lexc f (x.drop (k + 1)) (y.drop (k + 1)) := by
  rw [zau_ ha, zau_ hb, lexc]
theorem zbcl_ {α : Type} {f : α → α → Int} {x y : List α} {k : Nat} {a : α} (ha : x[k]? = some a) (hb : y.length ≤ k) : lexc f (x.drop k) (y.drop k) = 1 := by
  rw [zau_ ha, List.drop_of_length_le hb, lexc]
theorem zvs_ {α : Type} {f : α → α → Int} {x y : List α} : lexc f (x.drop x.length) (y.drop x.length) = if x.length < y.length then -1 else 0 := by
  rw [List.drop_of_length_le (Nat.le_refl _)]
  split
  · rename_i h
    rw [List.drop_eq_getElem_cons h, lexc]
  · rename_i h
    rw [List.drop_of_length_le (by omega), lexc]
theorem zcod_ {h : H} {l m : Nat} {z z' : Bool} {xs ys : List Int} (hx : h[l]? = some (.box z (il xs))) (hy : h[m]? = some (.box z' (il ys))) (hn : xs.length = ys.length) (hl : xs.length ≤ 1000) :
    run XP zoo_ [.bref l xs.length, .bref m ys.length] h = some (vi (lexc sgn xs ys), h) := by
  rw [run_eq, zbyg_]
  have hb1 : ∀ l : List Int, (il l).map zap_ = il l := fun l => by simp [il]
  simp -implicitDefEqProofs [zkp_, zdq_, hx, hy, hb1]
  refine zak_ xs (fun k s h' => Sees s [(0, .bref l xs.length), (1, .bref m ys.length), (9, .bref l xs.length), (10, vi xs.length), (11, vi k)] ∧ h' = h ∧ lexc sgn xs ys = lexc sgn (xs.drop k) (ys.drop k)) ?_ ?_ _ _ ⟨by simp, rfl, rfl⟩
  · rintro B f hB hf k e s h' he hk ⟨⟨h0', h1, h9, h10, h11, -⟩, rfl, hq⟩ K
    have hlt : (k : Int) < xs.length := by omega
    have hky : k < ys.length := by omega
    have hlt2 : ¬ ((ys.length : Int) ≤ k) := by omega
    obtain ⟨e', he'⟩ : ∃ e', ys[k]? = some e' := ⟨_, List.getElem?_eq_getElem hky⟩
    have hc := zfz_ h' e e'
    have g1 := il_get he
    have g2 := il_get he'
    rw [zvr_ he he'] at hq
    by_cases h0 : sgn e e' = 0
    · rw [if_neg (by simpa using h0)] at hq
      simp -implicitDefEqProofs [hB, zpk_, h1, h9, h10, h11, hlt, hlt2, hk, hky, hx, hy, g1, g2, hc, h0, zdq_, hb1]
      refine K _ _ ⟨?_, rfl, hq⟩
      simp [h0', h1, h9, h10, zvq_ (by omega : k < 100000000000)]
    · rw [if_pos h0] at hq
      have h0n : (sgn e e' != 0) = true := by simpa using h0
      simp -implicitDefEqProofs [hB, hf, zpk_, h1, h9, h10, h11, hlt, hlt2, hk, hky, hx, hy, g1, g2, hc, h0n, hq, zdq_, hb1]
  · rintro B hB s h' ⟨⟨h0', h1, h9, h10, h11, -⟩, rfl, hq⟩
    rw [zvs_, if_neg (by omega)] at hq
    simp -implicitDefEqProofs [hB, zpk_, h0', h1, h9, h10, h11, hq, hx, hy, zdq_, hn, hb1]
end Go.Proofs.Sl
namespace Go.Proofs.Sl
theorem zcoe_ (h : H) (a b : AV) : run XP ztj_ [a.v, b.v] h = some (vi (cmpV a b), h) := by
  obtain ⟨k, t, n⟩ := a
  obtain ⟨k', t', n'⟩ := b
  rw [run_eq, zbyu_]
  have h1 := fun h => zfz_ h k k'
  have h2 := fun h => zmx_ h t t'
  have h3 := fun h => zfz_ h n n'
  have h4 := fun h => run_Or h [sgn k k', wrd t t', sgn n n'] (by simp)
  simp only [il, List.map_cons, List.map_nil] at h4
  simp -implicitDefEqProofs [zld_, AV.v, h1, h2, h3, h4, zav_, optEq, cmpV]
theorem zcof_ (h : H) (a b : AT) : run XP zjk_ [a.v, b.v] h = some (vi (cmpA a b), h) := by
  obtain ⟨k, v⟩ := a
  obtain ⟨k', v'⟩ := b
  rw [run_eq, zbyt_]
  have h1 := fun h => zmx_ h k k'
  have h2 := fun h => zcoe_ h v v'
  have h4 := fun h => run_Or h [wrd k k', cmpV v v'] (by simp)
  simp only [il, List.map_cons, List.map_nil, AV.v] at h4 h2
  simp -implicitDefEqProofs [zlc_, AT.v, h1, h2, h4, zav_, optEq, cmpA]
theorem zbcm_ (h : H) (a b : RF) : run XP zgu_ [a.v, b.v] h = some (vi (cmpR a b), h) := by
  obtain ⟨k, v⟩ := a
  obtain ⟨k', v'⟩ := b
  rw [run_eq, zbxu_]
  have h1 := fun h => zfz_ h k k'
  have h2 := fun h => zfz_ h v v'
  have h4 := fun h => run_Or h [sgn k k', sgn v v'] (by simp)
  simp only [il, List.map_cons, List.map_nil] at h4
  simp -implicitDefEqProofs [zkj_, RF.v, h1, h2, h4, zav_, optEq, cmpR]
end Go.Proofs.Sl
namespace Go.Proofs.Sl
theorem zcog_ {h : H} {v w : V} {xs ys : List AT} (hx : ∀ h, Rd h 4 v (xs.map AT.v)) (hy : ∀ h, Rd h 4 w (ys.map AT.v)) (hl : xs.length ≤ 9223372036854775807) :
    run XP zti_ [v, w, .fn zjk_ [] []] h = some (vi (lexc cmpA xs ys), h) := by
  rw [run_eq, zbys_]
  simp -implicitDefEqProofs [zlb_, (hx _).toL]
  refine zak_ xs (fun k s h' => Sees s [(0, v), (1, w), (2, .fn zjk_ [] []), (11, v), (12, vi xs.length), (13, vi k)] ∧ (∃ t, h' = h ++ t) ∧ lexc cmpA xs ys = lexc cmpA (xs.drop k) (ys.drop k)) ?_ ?_ _ _ ⟨by simp, ⟨[], by simp⟩, rfl⟩
  · rintro B f hB hf k e s h' he hk ⟨⟨h0, h1, h2, h11, h12, h13, -⟩, ⟨t, rfl⟩, hq⟩ K
    have hlt : (k : Int) < xs.length := by omega
    obtain ⟨p, hp, hld⟩ := (hx (h ++ t)).at (i := k) (e := e.v) (by simp [he])
    have hw : IntKind.i64.wrap ((k : Int) + 1) = (k : Int) + 1 := zae_ (by omega) (by omega)
    by_cases hky : k < ys.length
    · have hlt2 : ¬ ((ys.length : Int) ≤ k) := by omega
      obtain ⟨e', he'⟩ : ∃ e', ys[k]? = some e' := ⟨_, List.getElem?_eq_getElem hky⟩
      obtain ⟨p', hp', hld'⟩ := (hy (h ++ (t ++ [.box false e.v.cells]))).at (i := k) (e := e'.v) (by simp [he'])
      have hc := fun h => zcof_ h e e'
      rw [zvr_ he he'] at hq
      simp only [AT.v, V.cells] at hld hld' hc hp'
      by_cases hz : cmpA e e' = 0
      · rw [if_neg (by simpa using hz)] at hq
        simp -implicitDefEqProofs [hB, zhk_, h0, h1, h2, h11, h12, h13, hlt, hlt2, hk, (hy _).toL, hp, hld, hp', hld', hc, hz]
        refine K _ _ ⟨?_, ⟨_, rfl⟩, hq⟩
        simp [h0, h1, h2, h11, h12, hw]
      · rw [if_pos hz] at hq
        have hz' : (cmpA e e' != 0) = true := by simpa using hz
        simp -implicitDefEqProofs [hB, hf, zhk_, h0, h1, h2, h11, h12, h13, hlt, hlt2, hk, (hy _).toL, hp, hld, hp', hld', hc, hz', hq]
    · have hlt2 : ((ys.length : Int) ≤ k) := by omega
      rw [zbcl_ he (by omega)] at hq
      simp only [AT.v, V.cells] at hld
      simp -implicitDefEqProofs [hB, hf, zhk_, h0, h1, h2, h11, h12, h13, hlt, hlt2, hk, (hy _).toL, hp, hld, hq]
  · rintro B hB s h' ⟨⟨h0, h1, h2, h11, h12, h13, -⟩, ⟨t, rfl⟩, hq⟩
    rw [zvs_] at hq
    by_cases hlt : xs.length < ys.length
    · rw [if_pos hlt] at hq
      simp -implicitDefEqProofs [hB, zhk_, h0, h1, h11, h12, h13, hq, (hx _).toL, (hy _).toL, hlt]
    · rw [if_neg hlt] at hq
      simp -implicitDefEqProofs [hB, zhk_, h0, h1, h11, h12, h13, hq, (hx _).toL, (hy _).toL, hlt]
theorem zcoh_ {h : H} {v w : V} {xs ys : List RF} (hx : ∀ h, Rd h 2 v (xs.map RF.v)) (hy : ∀ h, Rd h 2 w (ys.map RF.v)) (hl : xs.length ≤ 9223372036854775807) :
    run XP zte_ [v, w, .fn zgu_ [] []] h = some (vi (lexc cmpR xs ys), h) := by
  rw [run_eq, zbyl_]
  simp -implicitDefEqProofs [zks_, (hx _).toL]
  refine zak_ xs (fun k s h' => Sees s [(0, v), (1, w), (2, .fn zgu_ [] []), (11, v), (12, vi xs.length), (13, vi k)] ∧ (∃ t, h' = h ++ t) ∧ lexc cmpR xs ys = lexc cmpR (xs.drop k) (ys.drop k)) ?_ ?_ _ _ ⟨by simp, ⟨[], by simp⟩, rfl⟩
  · rintro B f hB hf k e s h' he hk ⟨⟨h0, h1, h2, h11, h12, h13, -⟩, ⟨t, rfl⟩, hq⟩ K
    have hlt : (k : Int) < xs.length := by omega
    obtain ⟨p, hp, hld⟩ := (hx (h ++ t)).at (i := k) (e := e.v) (by simp [he])
    have hw : IntKind.i64.wrap ((k : Int) + 1) = (k : Int) + 1 := zae_ (by omega) (by omega)
    by_cases hky : k < ys.length
    · have hlt2 : ¬ ((ys.length : Int) ≤ k) := by omega
      obtain ⟨e', he'⟩ : ∃ e', ys[k]? = some e' := ⟨_, List.getElem?_eq_getElem hky⟩
      obtain ⟨p', hp', hld'⟩ := (hy (h ++ (t ++ [.box false e.v.cells]))).at (i := k) (e := e'.v) (by simp [he'])
      have hc := fun h => zbcm_ h e e'
      rw [zvr_ he he'] at hq
      simp only [RF.v, V.cells] at hld hld' hc hp'
      by_cases hz : cmpR e e' = 0
      · rw [if_neg (by simpa using hz)] at hq
        simp -implicitDefEqProofs [hB, zhj_, h0, h1, h2, h11, h12, h13, hlt, hlt2, hk, (hy _).toL, hp, hld, hp', hld', hc, hz]
        refine K _ _ ⟨?_, ⟨_, rfl⟩, hq⟩
        simp [h0, h1, h2, h11, h12, hw]
      · rw [if_pos hz] at hq
        have hz' : (cmpR e e' != 0) = true := by simpa using hz
        simp -implicitDefEqProofs [hB, hf, zhj_, h0, h1, h2, h11, h12, h13, hlt, hlt2, hk, (hy _).toL, hp, hld, hp', hld', hc, hz', hq]
    · have hlt2 : ((ys.length : Int) ≤ k) := by omega
      rw [zbcl_ he (by omega)] at hq
      simp only [RF.v, V.cells] at hld
      simp -implicitDefEqProofs [hB, hf, zhj_, h0, h1, h2, h11, h12, h13, hlt, hlt2, hk, (hy _).toL, hp, hld, hq]
  · rintro B hB s h' ⟨⟨h0, h1, h2, h11, h12, h13, -⟩, ⟨t, rfl⟩, hq⟩
    rw [zvs_] at hq
    by_cases hlt : xs.length < ys.length
    · rw [if_pos hlt] at hq
      simp -implicitDefEqProofs [hB, zhj_, h0, h1, h11, h12, h13, hq, (hx _).toL, (hy _).toL, hlt]
    · rw [if_neg hlt] at hq
      simp -implicitDefEqProofs [hB, zhj_, h0, h1, h11, h12, h13, hq, (hx _).toL, (hy _).toL, hlt]
end Go.Proofs.Sl
namespace Go.Proofs.Sl
structure SP.Len (a : SP) : Prop where
  al : a.ats.length ≤ 9223372036854775807
  ll : a.lks.length ≤ 9223372036854775807
  an : a.an = true → a.ats = []
  ln : a.ln = true → a.lks = []
theorem rd_slc {α : Type} (h : H) (k : Nat) (v : α → V) {l : List α} {n : Bool} (hn : n = true → l = []) : Rd h k (lv k (slc v l n)) (l.map v) := by
  have := Rd.lv h k (slc v l n)
  rwa [zmv_ hn] at this
theorem orl6 (a b c d e f : Int) (l : List Int) : orl (orl [a, b, c, d, e, f] :: l) = orl (a :: b :: c :: d :: e :: f :: l) := by
  have := zcnv_ [a, b, c, d, e, f] l
  simp only [List.cons_append, List.nil_append] at this
  rw [this]
  simp only [orl]
theorem lexc6 (a b c d e f a' b' c' d' e' f' : Int) : lexc sgn [a, b, c, d, e, f] [a', b', c', d', e', f'] = orl [sgn a a', sgn b b', sgn c c', sgn d d', sgn e e', sgn f f'] := by
  simp only [lexc, orl]
theorem zcoi_ (a b : Bool) : IntKind.i64.wrap (flg a - flg b) = sgn (flg a) (flg b) := by cases a <;> cases b <;> rfl
theorem zqg_ (h : H) {a b : SP} (ha : a.Len) (hb : b.Len) : run XP zdg_ [a.v, b.v] h = some (vi (cmpS a b), h) := by
  obtain ⟨q1, q2, q3, q4⟩ := ha
  obtain ⟨r1, r2, r3, r4⟩ := hb
  obtain ⟨tr, id, par, rev, clk, kind, sv, vr, op, st, en, er, ats, lks, an, ln⟩ := a
  obtain ⟨tr', id', par', rev', clk', kind', sv', vr', op', st', en', er', ats', lks', an', ln'⟩ := b
  simp only at q1 q2 q3 q4 r1 r2 r3 r4
  have cA := fun h => zcog_ (h := h) (fun h => rd_slc h 4 AT.v q3) (fun h => rd_slc h 4 AT.v r3) q1
  have cR := fun h => zcoh_ (h := h) (fun h => rd_slc h 2 RF.v q4) (fun h => rd_slc h 2 RF.v r4) q2
  have h1 := fun h => zmx_ h sv sv'
  have h2 := fun h => zmx_ h vr vr'
  have h3 := fun h => zmx_ h op op'
  have h4 := fun h => zfz_ h st st'
  have h5 := fun h => zfz_ h en en'
  have h6 := fun h => zbck_ h er
  have h7 := fun h => zbck_ h er'
  have h8 := fun h => run_Or h [orl [sgn tr tr', sgn id id', sgn rev rev', sgn par par', sgn clk clk', sgn kind kind'], wrd sv sv', wrd vr vr', wrd op op', sgn st st', sgn en en', sgn (flg er) (flg er'), lexc cmpA ats ats', lexc cmpR lks lks'] (by simp)
  have h9 : ∀ (h : H) (t1 t2 : H) (z z' : Bool), run XP zoo_ [.bref (h.length + 2) 6, .bref (h.length + 3) 6] (h ++ [t1.headD .dead, t2.headD .dead, .box z [vi tr, vi id, vi rev, vi par, vi clk, vi kind], .box z' [vi tr', vi id', vi rev', vi par', vi clk', vi kind']]) =
      some (vi (orl [sgn tr tr', sgn id id', sgn rev rev', sgn par par', sgn clk clk', sgn kind kind']), h ++ [t1.headD .dead, t2.headD .dead, .box z [vi tr, vi id, vi rev, vi par, vi clk, vi kind], .box z' [vi tr', vi id', vi rev', vi par', vi clk', vi kind']]) := by
    intro h t1 t2 z z'
    have := zcod_ (h := h ++ [t1.headD .dead, t2.headD .dead, .box z [vi tr, vi id, vi rev, vi par, vi clk, vi kind], .box z' [vi tr', vi id', vi rev', vi par', vi clk', vi kind']]) (l := h.length + 2) (m := h.length + 3) (z := z) (z' := z') (xs := [tr, id, rev, par, clk, kind]) (ys := [tr', id', rev', par', clk', kind']) (by simp [il]) (by simp [il]) rfl (by simp)
    rw [lexc6] at this
    exact this
  have h9' := fun a b => h9 h [a] [b] false false
  simp only [List.headD] at h9'
  simp only [il, List.map_cons, List.map_nil] at h8
  have hcA : ∀ h, run XP ztd_ [lv 4 (slc AT.v ats an), lv 4 (slc AT.v ats' an')] h = some (vi (lexc cmpA ats ats'), h) := by
    intro h
    rw [run_eq, zbyk_]
    simp -implicitDefEqProofs [zkr_, cA, (rd_slc h 4 AT.v q3).arg0, (rd_slc h 4 AT.v r3).arg0]
  rw [run_eq, zbxs_]
  simp -implicitDefEqProofs [zkh_, SP.v, h1, h2, h3, h4, h5, h6, h7, h8, h9', cR, hcA, zcoi_, (fun h => (rd_slc h 4 AT.v q3).arg0), (fun h => (rd_slc h 4 AT.v r3).arg0), (fun h => (rd_slc h 2 RF.v q4).arg0), (fun h => (rd_slc h 2 RF.v r4).arg0), zav_, optEq, cmpS, orl6]
end Go.Proofs.Sl
namespace Go.Proofs.Sl
theorem zqh_ (h : H) {a b : SP} (ha : a.Len) (hb : b.Len) : run XP zck_ [a.v, b.v] h = some (vb (cmpS a b == 0), h) := by
  have hc := fun h => zqg_ h ha hb
  simp only [SP.v] at hc
  rw [run_eq, zbxt_]
  simp -implicitDefEqProofs [zki_, SP.v, hc]
theorem zbcn_ : ∀ l : List AT, wide 4 (l.map AT.v) = true
  | [] => rfl
  | a :: l => by simp only [List.map_cons, wide, zbcn_ l, Bool.and_true]; rfl
theorem zbco_ : ∀ l : List RF, wide 2 (l.map RF.v) = true
  | [] => rfl
  | a :: l => by simp only [List.map_cons, wide, zbco_ l, Bool.and_true]; rfl
theorem zdr_ (a : SP) : wide 14 [a.v] = true := by
  have h : ∀ (k : Nat) (o : Option (List V)), (lv k o).cell = true := fun k o => by cases o <;> rfl
  simp only [wide, SP.v, V.cells, List.length_cons, List.length_nil, zai_, h, Bool.and_true]
  rfl
theorem zeo_ : ∀ l : List SP, wide 14 (l.map SP.v) = true
  | [] => rfl
  | a :: l => by
    have h := zdr_ a
    simp only [wide, Bool.and_true] at h
    simp only [List.map_cons, wide, h, zeo_ l, Bool.and_self]
def ov (k : Nat) : Option (List V) → V
  | none => vnil
  | some es => .own k es
theorem zbcp_ (k : Nat) (o : Option (List V)) : res0 (ov k o) = lv k o := by cases o <;> rfl
theorem zbcq_ (h : H) {l : List AT} {n : Bool} (hn : n = true → l = []) (hl : l.length ≤ 2932031007402) : run XP zov_ [lv 4 (slc AT.v l n)] h = some (ov 4 (slc AT.v l n), h) := by
  rw [run_eq, zbyx_]
  have h1 := zbcn_ l
  have h2 := zbcg_ l
  cases n with
  | true =>
    rw [hn rfl]
    simp -implicitDefEqProofs [zhn_, slc, lv, ov]
  | false => simp -implicitDefEqProofs [zhn_, slc, lv, ov, h1, h2, hl]
theorem zbcr_ (h : H) {l : List RF} {n : Bool} (hn : n = true → l = []) (hl : l.length ≤ 8796093022208) : run XP zow_ [lv 2 (slc RF.v l n)] h = some (ov 2 (slc RF.v l n), h) := by
  rw [run_eq, zbyy_]
  have h1 := zbco_ l
  have h2 := zbch_ l
  cases n with
  | true =>
    rw [hn rfl]
    simp -implicitDefEqProofs [zho_, slc, lv, ov]
  | false => simp -implicitDefEqProofs [zho_, slc, lv, ov, h1, h2, hl]
structure SP.Sm (a : SP) : Prop where
  al : a.ats.length ≤ 2000000000000
  ll : a.lks.length ≤ 2000000000000
  an : a.an = true → a.ats = []
  ln : a.ln = true → a.lks = []
theorem SP.Sm.len {a : SP} (h : a.Sm) : a.Len := ⟨by have := h.al; omega, by have := h.ll; omega, h.an, h.ln⟩
theorem zcoj_ (h : H) {a : SP} (ha : a.Sm) : run XP ztk_ [a.v] h = some (a.v, h) := by
  have h1 := fun h => zbcq_ h ha.an (by have := ha.al; omega)
  have h2 := fun h => zbcr_ h ha.ln (by have := ha.ll; omega)
  rw [run_eq, zbyv_]
  simp -implicitDefEqProofs [zle_, SP.v, h1, h2, zbcp_, zav_, optEq]
end Go.Proofs.Sl
namespace Go.Proofs.Sl
def selA (p : Nat → Bool) : Nat → List SP → List SP
  | _, [] => []
  | k, e :: r => if p k = true then e :: selA p (k + 1) r else selA p (k + 1) r
def OutV (x : V) (h : H) (b k : Nat) (es : List V) : Prop := (es = [] ∧ x = vnil) ∨ ∃ q, es ≠ [] ∧ b ≤ q ∧ x = .ref q es.length ∧ h[q]? = some (.arr false k es)
theorem OutV.app {x : V} {h : H} {b k : Nat} {es : List V} (o : OutV x h b k es) (t : H) : OutV x (h ++ t) b k es := by
  rcases o with o | ⟨q, h0, h1, h2, h3⟩
  · exact .inl o
  · exact .inr ⟨q, h0, h1, h2, by rw [List.getElem?_append_left (List.getElem?_eq_some_iff.1 h3).1]; exact h3⟩
theorem OutV.grow {x : V} {h : H} {b k lim : Nat} {es : List V} (o : OutV x h b k es) {e : V} (hb : b ≤ h.length) (hw : wide k [e] = true) (hc : V.closed.closeds [e] = true) (hl : es.length + 1 ≤ lim) :
    ∃ x' h', zay_ h k lim x (.lst k [e]) = some (x', h') ∧ OutV x' h' b k (es ++ [e]) ∧ h'.take b = h.take b ∧ b ≤ h'.length := by
  have ea : appEls h (.lst k [e]) = some [e] := rfl
  rcases o with ⟨rfl, rfl⟩ | ⟨q, h0, h1, rfl, h3⟩
  · have hl' : 1 ≤ lim := by simpa using hl
    refine ⟨.ref h.length 1, h ++ [.arr false k [e]], ?_, .inr ⟨h.length, by simp, hb, rfl, by simp⟩, by rw [List.take_append_of_le_length hb], by simp; omega⟩
    simp only [zay_, ea, zac_, hw, hc, and_self, if_true, List.length_cons, List.length_nil, Nat.zero_add, Nat.one_ne_zero, if_false, hl']
  · have hq := (List.getElem?_eq_some_iff.1 h3).1
    refine ⟨.ref q (es.length + 1), h.set q (.arr false k (es ++ [e])), ?_, .inr ⟨q, by simp, h1, by simp, by rw [List.getElem?_set_self hq]⟩, ?_, by simpa using hb⟩
    · have : arrN h q es.length = some (false, k, es) := by simp [arrN, arrAt, h3, zac_]
      simp only [zay_, ea, zac_, hw, hc, and_self, if_true, this, List.length_cons, List.length_nil, Nat.zero_add, true_and, hl]
    · rw [List.take_set, List.set_eq_of_length_le (by simp; omega)]
theorem OutV.ret {x : V} {h : H} {b k : Nat} {es : List V} (o : OutV x h b k es) (hc : V.closed.closeds es = true) : retV b h .v x [] = some (if es = [] then vnil else .own k es, []) := by
  rcases o with ⟨rfl, rfl⟩ | ⟨q, h0, h1, rfl, h3⟩
  · simp
  · have : arrN h q es.length = some (false, k, es) := by simp [arrN, arrAt, h3, zac_]
    rw [if_neg h0]
    show (if q < b then _ else ob (arrN h q es.length) _) = _
    rw [if_neg (by omega), this, zac_, if_pos hc]
    rfl
theorem zcok_ {h : H} {v : V} {es : List SP} (hv : ∀ t, Rd (h ++ t) 14 v (es.map SP.v)) (hs : ∀ e ∈ es, e.Sm) (hl : es.length ≤ 100000) {f : Nat} {b : List V} (hb0 : arg0s b = some b) {p : Nat → Bool} (hp : ∀ k t, k < es.length → run XP f (vi k :: b) (h ++ t) = some (vb (p k), h ++ t)) :
    run XP ztf_ [v, .fn f [] b] h = some (if selA p 0 es = [] then vnil else .own 14 ((selA p 0 es).map SP.v), h) := by
  have hv0 := hv []
  rw [List.append_nil] at hv0
  rw [run_eq, zbyn_]
  simp -implicitDefEqProofs [zkv_, hv0.toL]
  refine zak_ es (fun k s h' => ∃ t pre, Sees s [(1, .fn f [] b), (8, v), (9, vi es.length), (10, vi k)] ∧ h' = h ++ t ∧ OutV (s 5) h' h.length 14 (pre.map SP.v) ∧ pre ++ selA p k (es.drop k) = selA p 0 es ∧ pre.length ≤ k) ?_ ?_ _ _
    ⟨[], [], by simp, by simp, .inl ⟨rfl, by simp⟩, rfl, by simp⟩
  · rintro B f' hB hf k e s h' he hk ⟨t, pre, ⟨h1, h8, h9, h10, -⟩, rfl, ho, hx, hpl⟩ K
    have hlt : (k : Int) < es.length := by omega
    obtain ⟨q, hq, hld⟩ := (hv t).at (i := k) (e := e.v) (by simp [he])
    have hw : IntKind.i64.wrap ((k : Int) + 1) = (k : Int) + 1 := zae_ (by omega) (by omega)
    have hsm := hs e (List.mem_of_getElem? he)
    have hcp := fun h => zcoj_ h hsm
    have hpk := fun t => hp k t hk
    have hw1 := zdr_ e
    have hc1 : V.closed.closeds [e.v] = true := zaq_ [e]
    rw [zau_ he, selA] at hx
    obtain ⟨x', h'', hap, ho', htk, hbl⟩ := (ho.app [.box false e.v.cells]).grow (lim := 837723144972) (by simp) hw1 hc1 (by simp; omega)
    simp only [SP.v, V.cells] at hld hcp hap hw1 hc1
    rw [List.append_assoc] at hap
    cases hb : p k with
    | false =>
      rw [hb, if_neg (by simp)] at hx
      simp -implicitDefEqProofs [hB, zpl_, h1, h8, h9, h10, hlt, hq, hld, hb0, hpk, hb]
      refine K _ _ ⟨t ++ [.box false e.v.cells], pre, ?_, ?_, ?_, hx, by omega⟩
      · simp [h1, h8, h9, hw]
      · simp [SP.v]
      · have := ho.app [.box false e.v.cells]
        simpa [SP.v] using this
    | true =>
      rw [hb, if_pos rfl] at hx
      have htk' : ∃ t', h'' = h ++ t' := ⟨h''.drop h.length, by
        have := List.take_append_drop h.length h''
        rw [htk] at this
        rw [List.append_assoc, List.take_left] at this
        exact this.symm⟩
      obtain ⟨t', rfl⟩ := htk'
      simp -implicitDefEqProofs [hB, zpl_, h1, h8, h9, h10, hlt, hq, hld, hb0, hpk, hb, hcp, hap]
      refine K _ _ ⟨t', pre ++ [e], ?_, rfl, ?_, by simpa using hx, by simp; omega⟩
      · simp [h1, h8, h9, hw]
      · simpa using ho'
  · rintro B hB s h' ⟨t, pre, ⟨h1, h8, h9, h10, -⟩, rfl, ho, hx, -⟩
    rw [List.drop_of_length_le (Nat.le_refl _), selA, List.append_nil] at hx
    subst hx
    have hr := ho.ret (zaq_ _)
    simp -implicitDefEqProofs [hB, zpl_, h1, h8, h9, h10]
    simp only [hr]
    simp
end Go.Proofs.Sl
namespace Go.Proofs.Sl
def cptA : SP → List SP → List SP
  | _, [] => []
  | a, b :: r => if cmpS b a = 0 then cptA b r else b :: cptA b r
def cpt : List SP → List SP
  | [] => []
  | a :: r => a :: cptA a r
def zSP : V := .agg [.s (.int .i64 0), .s (.int .i64 0), .s (.int .i64 0), .s (.int .i64 0), .s (.int .i64 0), .s (.int .i64 0), .s (.string ⟨#[]⟩), .s (.string ⟨#[]⟩), .s (.string ⟨#[]⟩), .s (.int .i64 0), .s (.int .i64 0), .s (.bool false), .s (.slice none 0 0), .s (.slice none 0 0)]
theorem zbcs_ (a b : List V) : V.closed.closeds (a ++ b) = (V.closed.closeds a && V.closed.closeds b) := by
  induction a with
  | nil => rfl
  | cons x a ih => simp only [List.cons_append, V.closed.closeds, ih, Bool.and_assoc]
theorem zbct_ (n : Nat) : V.closed.closeds (List.replicate n zSP) = true := by
  induction n with
  | zero => rfl
  | succ n ih => simp only [List.replicate_succ, V.closed.closeds, ih, Bool.and_true]; rfl
theorem zmy_ (a : SP) : a.v.cells.length = 14 ∧ zai_ a.v.cells = true := by
  have := zdr_ a
  simp only [wide, Bool.and_true, Bool.and_eq_true, beq_iff_eq] at this
  exact this
theorem zcol_ (a b : SP) : putEl 0 a.v.cells b.v = a.v := rfl
theorem zcom_ (a : SP) : keep0s a.v.cells = some a.v.cells := by
  have h1 : ∀ (k : Nat) (o : Option (List V)), frz0 (lv k o) = some (lv k o) := fun k o => by cases o <;> rfl
  simp [SP.v, V.cells, keep0s, h1]
theorem zbcu_ {base : Nat} {h : H} {l n i : Nat} {ws : List SP} (e : h[l]? = some (.arr false 14 (ws.map SP.v))) (hn : ws.length = n) (hi : i < n) (a : SP) :
    xstore base h 14 (.eptr l n i 0) a.v = some (h.set l (.arr false 14 ((ws.set i a).map SP.v))) := by
  have h1 : arrN h l n = some (false, 14, ws.map SP.v) := by simp [arrN, arrAt, e, zac_, hn]
  obtain ⟨w, hw⟩ : ∃ w, ws[i]? = some w := ⟨_, List.getElem?_eq_getElem (by omega)⟩
  have h2 : (ws.map SP.v)[i]? = some w.v := by rw [List.getElem?_map, hw]; rfl
  have h3 : V.closed.closeds a.v.cells = true := by
    have := zaq_ [a]
    simp only [List.map_cons, List.map_nil, V.closed.closeds, Bool.and_true] at this
    exact this
  have h4 : zai_ a.v.cells = true := (zmy_ a).2
  rw [zbap_, if_pos (zmy_ a).1, h1, zac_]
  simp only [Bool.false_eq_true, if_false, h2, zac_, zcom_, h3, h4, and_true]
  rw [if_pos (by rw [(zmy_ w).1]; exact Nat.le_refl _), zcol_, List.map_set]
theorem zmz_ {h : H} {l n i : Nat} {z : Bool} {ws : List SP} (e : h[l]? = some (.arr z 14 (ws.map SP.v))) (hn : ws.length = n) {a : SP} (hi : ws[i]? = some a) : xload h 14 true (.eptr l n i 0) = some a.v := by
  have h1 : arrN h l n = some (z, 14, ws.map SP.v) := by simp [arrN, arrAt, e, zac_, hn]
  have h2 : (ws.map SP.v)[i]? = some a.v := by rw [List.getElem?_map, hi]; rfl
  rw [zso_, h1, zac_]
  simp only [h2, zac_]
  rfl
theorem zcon_ {h : H} {l n a b : Nat} {z : Bool} {ws : List V} (e : h[l]? = some (.arr z 14 ws)) (hn : ws.length = n) (hb : b ≤ n) : V.toL h (.win l n a b) = some ((ws.take b).drop a) := by
  show (match h[l]? with
    | some (.arr _ _ es) => if es.length = n ∧ b ≤ n then some ((es.take b).drop a) else none
    | _ => none) = _
  rw [e]
  exact if_pos ⟨hn, hb⟩
theorem zbcv_ {h : H} {l n a b i : Nat} {z : Bool} {ws : List V} (e : h[l]? = some (.arr z 14 ws)) (hn : ws.length = n) (hi : a + i < b) (hb : b ≤ n) : iaddrV h 14 (.win l n a b) i = some (.eptr l n (a + i) 0) := by
  rw [zbaa_]
  have h1 : arrN h l n = some (z, 14, ws) := by simp [arrN, arrAt, e, zac_, hn]
  rw [h1, zac_, if_pos ⟨hi, hb, rfl⟩]
theorem zna_ {h : H} {l n i : Nat} {z : Bool} {ws : List V} (e : h[l]? = some (.arr z 14 ws)) (hn : ws.length = n) (hi : i < n) : iaddrV h 14 (.ref l n) i = some (.eptr l n i 0) := by
  have h1 : arrN h l n = some (z, 14, ws) := by simp [arrN, arrAt, e, zac_, hn]
  rw [zbab_, h1, zac_, if_pos ⟨hi, rfl⟩]
theorem zbcw_ {h : H} {l : Nat} {o : O} (e : h[l]? = some o) : h.set l o = h := by
  apply List.ext_getElem?
  intro i
  rw [List.getElem?_set]
  split
  · rename_i hi
    subst hi
    have := (List.getElem?_eq_some_iff.1 e).1
    rw [if_pos this, e]
  · rfl
theorem zbcx_ {a : SP} : cptA a [] = [] := rfl
theorem zcoo_ (es : List SP) (a : SP) (ha : es[1 - 1]? = some a) : cpt es = es.take 1 ++ cptA a (es.drop 1) := by
  cases es with
  | nil => simp at ha
  | cons x r =>
    simp only [Nat.sub_self, List.getElem?_cons_zero, Option.some.injEq] at ha
    subst ha
    rfl
theorem zcop_ {h : H} {l : Nat} {es : List SP} (he : h[l]? = some (.arr false 14 (es.map SP.v))) (hs : ∀ e ∈ es, e.Sm) (hn : es.length ≤ 100000) :
    ∃ r, run XP zjl_ [.ref l es.length, .fn zck_ [] []] h = some r ∧ ((r = (.ref l es.length, h) ∧ cpt es = es) ∨ ∃ o, r = (.lst 14 ((cpt es).map SP.v), h.set l o)) := by
  have hl : l < h.length := (List.getElem?_eq_some_iff.1 he).1
  have hset : ∀ o : O, (h.set l o)[l]? = some o := fun o => List.getElem?_set_self hl
  have hlen : (es.map SP.v).length = es.length := by simp
  have htoL : V.toL h (.ref l es.length) = some (es.map SP.v) := by simp [he]
  by_cases h2 : es.length < 2
  · refine ⟨_, ?_, .inl ⟨rfl, ?_⟩⟩
    · have h2i : (es.length : Int) < 2 := by omega
      rw [run_eq, zve_]
      simp -implicitDefEqProofs [zfr_, htoL, h2i, hl]
    · cases es with
      | nil => rfl
      | cons a r => cases r with
        | nil => rfl
        | cons b r => simp at h2; omega
  · have h2' : ¬ ((es.length : Int) < 2) := by omega
    suffices key : ∃ r, ((r = (.ref l es.length, h) ∧ cpt es = es) ∨ ∃ o, r = (.lst 14 ((cpt es).map SP.v), h.set l o)) ∧ run XP zjl_ [.ref l es.length, .fn zck_ [] []] h = some r by
      obtain ⟨r, h3, h4⟩ := key
      exact ⟨r, h4, h3⟩
    -- which of the two it will be
    obtain ⟨r, hr, hr1, hr2⟩ : ∃ r, ((r = (V.ref l es.length, h) ∧ cpt es = es) ∨ ∃ o, r = (.lst 14 ((cpt es).map SP.v), h.set l o)) ∧ (cpt es = es → r = (.ref l es.length, h)) ∧
        (cpt es ≠ es → r = (.lst 14 ((cpt es).map SP.v), h.set l (.arr true 14 ((cpt es).map SP.v ++ List.replicate (es.length - (cpt es).length) zSP)))) := by
      by_cases hc : cpt es = es
      · exact ⟨_, .inl ⟨rfl, hc⟩, fun _ => rfl, fun h => absurd hc h⟩
      · exact ⟨_, .inr ⟨_, rfl⟩, fun h => absurd h hc, fun _ => rfl⟩
    refine ⟨r, hr, ?_⟩
    rw [run_eq, zve_]
    simp -implicitDefEqProofs [zfr_, htoL, h2']
    refine zeh_ (σ := Nat) (fun k => es.length - k) (fun k s h' => Sees s [(0, .ref l es.length), (1, .fn zck_ [] []), (5, vi k)] ∧ h' = h ∧ 1 ≤ k ∧ k ≤ es.length ∧ ∀ a, es[k - 1]? = some a → cpt es = es.take k ++ cptA a (es.drop k)) ?_ 1 _ _
      ⟨by simp, rfl, Nat.le_refl _, by omega, zcoo_ es⟩
    rintro B f hB hf k s h' ⟨⟨h0, h1, h5, -⟩, rfl, hk1, hkn, hinv⟩ K
    obtain ⟨a, ha⟩ : ∃ a, es[k - 1]? = some a := ⟨_, List.getElem?_eq_getElem (by omega)⟩
    have hx := hinv a ha
    have hw : IntKind.i64.wrap ((k : Int) + 1) = (k : Int) + 1 := zae_ (by omega) (by omega)
    by_cases hlt : k < es.length
    · have hlti : (k : Int) < es.length := by omega
      obtain ⟨e, hek⟩ : ∃ e, es[k]? = some e := ⟨_, List.getElem?_eq_getElem hlt⟩
      have hw1 : IntKind.i64.wrap ((k : Int) - 1) = ((k - 1 : Nat) : Int) := by rw [zae_ (by omega) (by omega)]; omega
      have ld1 := zmz_ he rfl hek
      have ld2 := zmz_ he rfl ha
      have hE := zqh_ h' (hs e (List.mem_of_getElem? hek)).len (hs a (List.mem_of_getElem? ha)).len
      have hp1 : k - 1 < es.length := by omega
      have hf1 : frz0 e.v = some e.v := rfl
      have ia1 := zna_ he hlen hlt
      have ia2 := zna_ he hlen hp1
      have ar1 : ∀ a : SP, arg0 a.v = some a.v := fun _ => rfl
      rw [zau_ hek, cptA] at hx
      by_cases hc : cmpS e a = 0
      · rw [if_pos hc] at hx
        have hc' : (cmpS e a == 0) = true := by simpa using hc
        have hsame : h'.set l (.arr false 14 (es.map SP.v)) = h' := zbcw_ he
        have hke : k ≤ es.length := by omega
        simp -implicitDefEqProofs [hB, hf, zpo_, h0, h1, h5, htoL, hlt, hw1, ia1, ia2, ld1, ld2, hE, hc', ar1, he, hke]
        refine zeh_ (σ := Nat) (fun j => es.length - j) (fun j s h'' => ∃ (ws out : List SP), Sees s [(0, .ref l es.length), (1, .fn zck_ [] []), (5, vi out.length), (6, .win l es.length k es.length), (7, vi j)] ∧ h'' = h'.set l (.arr false 14 (ws.map SP.v)) ∧
          ws.length = es.length ∧ ws.take out.length = out ∧ out.length + 1 ≤ k + j ∧ (∀ i, k + j ≤ i + 1 → ws[i]? = es[i]?) ∧ (∀ b, es[k + j - 1]? = some b → cpt es = out ++ cptA b (es.drop (k + j))) ∧ 1 ≤ j ∧ k + j ≤ es.length) ?_ 1 _ _
          ⟨es, es.take k, by simp [Nat.min_eq_left hke, h0, h1, h5], hsame.symm, rfl, by simp, by simp; omega, fun _ _ => rfl, fun b hb => ?_, Nat.le_refl _, hlt⟩
        · rintro B2 f2 hB2 hf2 j s2 h2 ⟨ws, out, ⟨z0, z1, z5, z6, z7, -⟩, rfl, hwl, hwo, hol, hwe, hwc, hj1, hjn⟩ K2
          have hH := hset (.arr false 14 (ws.map SP.v))
          have hwl' : (ws.map SP.v).length = es.length := by simp [hwl]
          have htw := zcon_ hH hwl' (a := k) (Nat.le_refl es.length)
          have hlw : (((ws.map SP.v).take es.length).drop k).length = es.length - k := by simp [hwl]
          have hmn : out.length < es.length := by omega
          by_cases hjl : k + j < es.length
          · have hjlt : (j : Int) < ((es.length - k : Nat) : Int) := by omega
            have hw2 : IntKind.i64.wrap ((j : Int) - 1) = ((j - 1 : Nat) : Int) := by rw [zae_ (by omega) (by omega)]; omega
            have hw3 : IntKind.i64.wrap ((j : Int) + 1) = (j : Int) + 1 := zae_ (by omega) (by omega)
            have hw4 : IntKind.i64.wrap ((out.length : Int) + 1) = (out.length : Int) + 1 := zae_ (by omega) (by omega)
            obtain ⟨e1, he1⟩ : ∃ e1, es[k + j]? = some e1 := ⟨_, List.getElem?_eq_getElem hjl⟩
            obtain ⟨e0, he0⟩ : ∃ e0, es[k + j - 1]? = some e0 := ⟨_, List.getElem?_eq_getElem (by omega)⟩
            have hj0 : k + (j - 1) = k + j - 1 := by omega
            have w1 : ws[k + j]? = some e1 := by rw [hwe _ (by omega), he1]
            have w0 : ws[k + (j - 1)]? = some e0 := by rw [hj0, hwe _ (by omega), he0]
            have ib1 := zbcv_ hH hwl' hjl (Nat.le_refl _)
            have ib0 := zbcv_ hH hwl' (a := k) (i := j - 1) (b := es.length) (by omega) (Nat.le_refl _)
            have ib2 := zna_ hH hwl' hmn
            have lb1 := zmz_ hH hwl w1
            have lb0 := zmz_ hH hwl w0
            have hE2 := zqh_ (h'.set l (.arr false 14 (ws.map SP.v))) (hs e1 (List.mem_of_getElem? he1)).len (hs e0 (List.mem_of_getElem? he0)).len
            have hcc := hwc e0 he0
            rw [zau_ he1, cptA] at hcc
            by_cases hd : cmpS e1 e0 = 0
            · rw [if_pos hd] at hcc
              have hd' : (cmpS e1 e0 == 0) = true := by simpa using hd
              simp -implicitDefEqProofs [hB2, zpn_, z0, z1, z5, z6, z7, htw, hlw, hjlt, hw2, ib1, ib0, lb1, lb0, hE2, hd', ar1]
              refine K2 (j + 1) _ _ (by omega) ⟨ws, out, ?_, rfl, hwl, hwo, by omega, fun i hi => hwe i (by omega), fun b hb => ?_, by omega, by omega⟩
              · simp [z0, z1, z5, z6, hw3]
              · rw [show k + (j + 1) - 1 = k + j by omega, he1] at hb
                injection hb with hb
                subst hb
                exact hcc
            · rw [if_neg hd] at hcc
              have hd' : (cmpS e1 e0 == 0) = false := by simpa using hd
              have sb := zbcu_ (base := h'.length) hH hwl hmn e1
              simp -implicitDefEqProofs [hB2, zpn_, z0, z1, z5, z6, z7, htw, hlw, hjlt, hw2, ib1, ib0, ib2, lb1, lb0, hE2, hd', ar1, sb]
              refine K2 (j + 1) _ _ (by omega) ⟨ws.set out.length e1, out ++ [e1], ?_, by rw [List.map_set], by simp [hwl], ?_, by simp; omega, fun i hi => ?_, fun b hb => ?_, by omega, by omega⟩
              · simp [z0, z1, z6, hw3, hw4]
              · rw [List.length_append, List.length_singleton, List.take_add_one, List.take_set, List.set_eq_of_length_le (by simp; omega), hwo, List.getElem?_set_self (by omega)]
                rfl
              · rw [List.getElem?_set_ne (by omega)]
                exact hwe i (by omega)
              · rw [show k + (j + 1) - 1 = k + j by omega, he1] at hb
                injection hb with hb
                subst hb
                rw [hcc]
                simp
                rfl
          · have hjn' : k + j = es.length := by omega
            have hjlt : ¬ ((j : Int) < ((es.length - k : Nat) : Int)) := by omega
            obtain ⟨e0, he0⟩ : ∃ e0, es[k + j - 1]? = some e0 := ⟨_, List.getElem?_eq_getElem (by omega)⟩
            have hcc := hwc e0 he0
            rw [hjn', List.drop_of_length_le (Nat.le_refl _), zbcx_, List.append_nil] at hcc
            subst hcc
            have hrr := hr2 (fun h => by rw [h] at hmn; omega)
            subst hrr
            have hmle : (cpt es).length ≤ es.length := by omega
            simp -implicitDefEqProofs [hB2, hf2, zpn_, z0, z1, z5, z6, z7, htw, hlw, hjlt, hH, hwl, hmle, hset]
            have htk : (ws.map SP.v).take (cpt es).length = (cpt es).map SP.v := by rw [← List.map_take, hwo]
            rw [htk]
            refine ⟨?_, ?_⟩
            · have h1 := zbcs_ ((cpt es).map SP.v) (List.replicate (es.length - (cpt es).length) zSP)
              rw [zaq_, zbct_, Bool.and_self] at h1
              exact h1
            · rw [hf]
              simp -implicitDefEqProofs [zSP]
        · rw [Nat.add_sub_cancel, hek] at hb
          injection hb with hb
          subst hb
          exact hx
      · rw [if_neg hc] at hx
        have hc' : (cmpS e a == 0) = false := by simpa using hc
        simp -implicitDefEqProofs [hB, zpo_, h0, h1, h5, htoL, hlt, hw1, ia1, ia2, ld1, ld2, hE, hc', ar1]
        refine K (k + 1) _ _ (by omega) ⟨?_, rfl, by omega, hlt, fun b hb => ?_⟩
        · simp [h0, h1, hw]
        · rw [Nat.add_sub_cancel, hek] at hb
          injection hb with hb
          subst hb
          rw [hx, zfy_ hek]
          simp
    · obtain rfl : k = es.length := by omega
      rw [List.drop_of_length_le (Nat.le_refl _), zbcx_, List.append_nil, List.take_length] at hx
      have := hr1 hx
      subst this
      simp -implicitDefEqProofs [hB, hf, zpo_, h0, h1, h5, htoL, hl]
end Go.Proofs.Sl
namespace Go.Proofs.Sl
theorem zvt_ {n : Nat} {c : Nat → Nat → Int} (hO : Go.Sort.SWO (cmpLt n c)) : (zbe_ n c).Perm (List.range n) ∧ (zbe_ n c).Pairwise fun a b => ¬ c b a < 0 := by
  unfold zbe_
  by_cases h0 : n = 0
  · subst h0; simp
  · rw [if_neg h0]
    have hd : (Array.range n).size = n := by simp
    have hps := Go.Sort.pdq_sorts (cmpLt n c) hO (Array.range n) 0 n (zgc_ n) true true (Nat.zero_le _) (by rw [hd]; exact Nat.le_refl _) (Or.inl rfl)
    generalize Go.Sort.pdq (cmpLt n c) (Array.range n) 0 n (zgc_ n) true true = dd at hps
    obtain ⟨⟨hs1, _, hp⟩, hs2⟩ := hps
    rw [hd] at hs1
    have e1 : (dd.extract 0 n).toList = dd.toList := by
      rw [Array.toList_extract, List.extract_eq_take_drop, List.drop_zero, Nat.sub_zero, List.take_of_length_le (by rw [Array.length_toList, hs1]; exact Nat.le_refl _)]
    have e2 : ((Array.range n).extract 0 n).toList = List.range n := by
      rw [Array.toList_extract, List.extract_eq_take_drop]
      simp
    rw [e1, e2] at hp
    refine ⟨hp, ?_⟩
    have hmem : ∀ i, i < n → dd[i]! < n := fun i hi => by
      have : dd[i]! ∈ dd.toList := by
        rw [getElem!_pos dd i (by omega)]
        exact Array.mem_toList_iff.2 (Array.getElem_mem _)
      exact List.mem_range.1 (hp.mem_iff.1 this)
    rw [List.pairwise_iff_getElem]
    intro i j hi hj hij
    rw [Array.length_toList] at hi hj
    have := hs2 i j (Nat.zero_le _) hij (by omega)
    have h1 := hmem i (by omega)
    have h2 := hmem j (by omega)
    simp only [cmpLt, decide_eq_false_iff_not] at this
    rw [show clampI n dd[j]! = dd[j]! by simp [clampI, h2], show clampI n dd[i]! = dd[i]! by simp [clampI, h1], getElem!_pos dd i (by omega), getElem!_pos dd j (by omega)] at this
    simpa using this
def cI (l : List SP) (i j : Nat) : Int := cmpS (l.getD i SP.z) (l.getD j SP.z)
def srt (l : List SP) : List SP := (zbe_ l.length (cI l)).map fun i => l.getD i SP.z
theorem cI_swo (l : List SP) : Go.Sort.SWO (cmpLt l.length (cI l)) where
  irrefl := fun x => by simp [cmpLt, cI, zbg_.self]
  trans := fun x y z h k => by
    simp only [cmpLt, decide_eq_true_eq] at h k ⊢
    simp only [cI] at h k ⊢
    exact zbg_.lt_of_lt_le h (by omega)
  ntrans := fun x y z h k => by
    simp only [cmpLt, decide_eq_false_iff_not] at h k ⊢
    simp only [cI] at h k ⊢
    generalize l.getD (clampI l.length x) SP.z = a at *
    generalize l.getD (clampI l.length y) SP.z = b at *
    generalize l.getD (clampI l.length z) SP.z = c at *
    have h1 := zbg_.anti a b
    have h2 := zbg_.anti b c
    have h3 := zbg_.anti a c
    have := zbg_.trans c b a (by omega) (by omega)
    omega
theorem zcoq_ (l : List SP) : (List.range l.length).map (fun i => l.getD i SP.z) = l := by
  apply List.ext_getElem
  · simp
  · intro i h1 h2
    simp at h1
    simp [h1]
theorem zvu_ (l : List SP) : (srt l).Perm l := by
  have := ((zvt_ (cI_swo l)).1).map fun i => l.getD i SP.z
  rw [zcoq_] at this
  exact this
theorem zcor_ (l : List SP) : (srt l).Pairwise fun a b => cmpS a b ≤ 0 := by
  have := (zvt_ (cI_swo l)).2
  rw [srt, List.pairwise_map]
  refine this.imp fun {a b} h => ?_
  simp only [cI] at h
  have := zbg_.anti (l.getD a SP.z) (l.getD b SP.z)
  omega
theorem znb_ (l : List SP) : (srt l).length = l.length := (zvu_ l).length_eq
theorem zvv_ {l : List SP} {a : SP} : a ∈ srt l ↔ a ∈ l := (zvu_ l).mem_iff
theorem zcos_ (l : List SP) : pickEs (l.map SP.v) (zbe_ l.length (cI l)) = (srt l).map SP.v := by
  unfold pickEs srt
  rw [List.map_map]
  apply List.map_congr_left
  intro i hi
  have : i < l.length := List.mem_range.1 ((zvt_ (cI_swo l)).1.mem_iff.1 hi)
  simp [this]
theorem znc_ {f : Nat} {F : XF} {k : NK} (e : XP f = some F) (hk : F.nat = some k) (args : List V) (h : H) : run XP f args h = xnat (run XP) args h k := by
  rw [run_eq, e, zac_]
  unfold xfun
  rw [hk]
theorem zvw_ : ∀ l : List SP, allAgg (l.map SP.v) = true
  | [] => rfl
  | a :: l => zvw_ l
theorem zcot_ (h : H) (f : V) : run XP zox_ [vnil, f] h = some (.tup [], h) := by
  rw [znc_ zbbp_ rfl]
  rfl
theorem zcou_ {h : H} {l : Nat} {es : List SP} (he : h[l]? = some (.arr false 14 (es.map SP.v))) (hs : ∀ e ∈ es, e.Sm) (hn : es.length ≤ 100000) :
    run XP zox_ [.ref l es.length, .fn zdg_ [] []] h = some (.tup [], h.set l (.arr false 14 ((srt es).map SP.v))) := by
  rw [znc_ zbbp_ rfl]
  simp only [xnat]
  rw [zet_]
  refine ⟨es.map SP.v, cI es, he, by simp, by omega, zaq_ es, rfl, rfl, ⟨rfl, zvw_ es⟩, ⟨?_, by simpa using cI_swo es⟩, by rw [zcos_]⟩
  intro i j x y hx hy
  rw [List.getElem?_map] at hx hy
  obtain ⟨a, ha, rfl⟩ : ∃ a, es[i]? = some a ∧ a.v = x := by simpa using hx
  obtain ⟨b, hb, rfl⟩ : ∃ a, es[j]? = some a ∧ a.v = y := by simpa using hy
  have := zqg_ [] (hs a (List.mem_of_getElem? ha)).len (hs b (List.mem_of_getElem? hb)).len
  simp only [List.nil_append, List.append_nil]
  rw [this]
  simp [cI, ha, hb]
def LV (v : V) (es : List SP) : Prop := (es = [] ∧ v = vnil) ∨ v = .lst 14 (es.map SP.v)
theorem zcov_ {h : H} {v : V} {es : List SP} (hv : LV v es) (hn : es.length ≤ 100000) : run XP ztn_ [vnil, .fn zcl_ [] [.fptr (.agg [v]) 0]] h = some (if es = [] then vnil else .own 14 (es.map SP.v), h) := by
  rw [znc_ zbza_ rfl]
  simp only [xnat]
  rcases hv with ⟨rfl, rfl⟩ | rfl
  · rfl
  · show (if _ then _ else _) = _
    rw [if_pos ⟨rfl, rfl, by simp; omega, zeo_ es, zaq_ es, zvw_ es⟩]
    cases es with
    | nil => rfl
    | cons a r => rfl
theorem zcow_ {h : H} {v : V} {es : List SP} (hv : LV v es) (hn : es.length ≤ 100000) : run XP ztm_ [.fn zcl_ [] [.fptr (.agg [v]) 0]] h = some (if es = [] then vnil else .own 14 (es.map SP.v), h) := by
  have h1 := fun h => zcov_ (h := h) hv hn
  have h2 := zaq_ es
  rw [run_eq, zbyz_]
  by_cases he : es = []
  · simp -implicitDefEqProofs [zhp_, h1, he]
  · simp -implicitDefEqProofs [zhp_, h1, he, h2]
theorem zcox_ {h : H} {v : V} {es : List SP} (hv : LV v es) (hs : ∀ e ∈ es, e.Sm) (hn : es.length ≤ 100000) :
    run XP ztl_ [.fn zcl_ [] [.fptr (.agg [v]) 0], .fn zdg_ [] []] h = some (if es = [] then vnil else .own 14 ((srt es).map SP.v), h) := by
  have h1 := fun h => zcow_ (h := h) hv hn
  have h2 := zaq_ (srt es)
  have h4 := znb_ es
  rw [run_eq, zbyw_]
  by_cases he : es = []
  · have h3 := fun h => zcot_ h (.fn zdg_ [] [])
    simp -implicitDefEqProofs [zhl_, h1, he, h3]
  · have h3 := zcou_ (h := h ++ [.arr false 14 (es.map SP.v)]) (l := h.length) (by simp) hs hn
    simp -implicitDefEqProofs [zhl_, h1, he, h2, h3, h4]
end Go.Proofs.Sl
namespace Go.Proofs.Sl
def nl (es : List SP) : V := if es = [] then vnil else .lst 14 (es.map SP.v)
theorem nl_LV (es : List SP) : LV (nl es) es := by
  unfold nl
  split
  · rename_i h; exact .inl ⟨h, rfl⟩
  · exact .inr rfl
theorem LV.rd {v : V} {es : List SP} (l : LV v es) (h : H) : Rd h 14 v (es.map SP.v) := by
  rcases l with ⟨rfl, rfl⟩ | rfl
  · exact .nil
  · exact .lst _
theorem zcoy_ {es : List SP} : cpt es = [] ↔ es = [] := by cases es <;> simp [cpt]
theorem zvx_ : ∀ (r : List SP) (a : SP), (cptA a r).Sublist r
  | [], a => List.Sublist.slnil
  | b :: r, a => by
    rw [cptA]
    split
    · exact (zvx_ r b).cons b
    · exact (zvx_ r b).cons_cons b
theorem zbcy_ : ∀ es : List SP, (cpt es).Sublist es
  | [] => List.Sublist.slnil
  | a :: r => (zvx_ r a).cons_cons a
def dst (es : List SP) : List SP := cpt (srt es)
theorem zcoz_ {es : List SP} : dst es = [] ↔ es = [] := by
  unfold dst
  rw [zcoy_]
  constructor
  · intro h
    have := znb_ es
    rw [h] at this
    exact List.eq_nil_of_length_eq_zero this.symm
  · rintro rfl
    rfl
theorem zca_ {es : List SP} {a : SP} (h : a ∈ dst es) : a ∈ es := zvv_.1 ((zbcy_ _).subset h)
theorem zep_ (es : List SP) : (dst es).length ≤ es.length := by
  have := (zbcy_ (srt es)).length_le
  rw [znb_] at this
  exact this
theorem zbcz_ {h : H} {v : V} {es : List SP} (hv : LV v es) : run XP zfl_ [v] h = some (.fn zcl_ [] [.fptr (.agg [v]) 0], h) := by
  rw [run_eq, zbbn_]
  rcases hv with ⟨rfl, rfl⟩ | rfl <;> simp -implicitDefEqProofs [zhm_, V.closed]
theorem zcpa_ {h : H} {l : Nat} {z : Bool} {es : List SP} (he : h[l]? = some (.arr z 14 (es.map SP.v))) :
    run XP zfl_ [.ref l es.length] h = some (.fn zcl_ [] [.fptr (.agg [.lst 14 (es.map SP.v)]) 0], h.set l (.arr true 14 (es.map SP.v))) := by
  have h1 := zaq_ es
  rw [run_eq, zbbn_]
  have hl : (h.set l (O.arr true 14 (es.map SP.v))).length = h.length := by simp
  simp -implicitDefEqProofs [zhm_, V.closed, he, h1]
theorem zcpb_ (h : H) : run XP zjl_ [vnil, .fn zck_ [] []] h = some (vnil, h) := by
  rw [run_eq, zve_]
  simp -implicitDefEqProofs [zfr_]
theorem zcpc_ {h h2 : H} {v v2 : V} {es : List SP} (hv : LV v2 es) (h1 : arg0 v = some v) (hval : run XP zfl_ [v] h = some (.fn zcl_ [] [.fptr (.agg [v2]) 0], h2)) (hl2 : h2.length = h.length) (hs : ∀ e ∈ es, e.Sm) (hn : es.length ≤ 100000) :
    ∃ R, run XP ztg_ [v] h = some (R, h2) ∧ res0 R = nl (dst es) := by
  have hS := fun h => zcox_ (h := h) hv hs hn
  have htk : h2.take h.length = h2 := List.take_of_length_le (by omega)
  by_cases he : es = []
  · subst he
    refine ⟨vnil, ?_, by rw [show dst [] = [] from rfl]; rfl⟩
    have hC := zcpb_
    rw [run_eq, zvd_]
    simp -implicitDefEqProofs [zfq_, h1, hval, hS, hC, htk]
  · have hlen := znb_ es
    obtain ⟨r, hr, hc⟩ := zcop_ (h := h2 ++ [.arr false 14 ((srt es).map SP.v)]) (l := h2.length) (es := srt es) (by simp) (fun e he => hs e (zvv_.1 he)) (by omega)
    rw [hlen] at hr hc
    have hd : dst es ≠ [] := fun h => he (zcoz_.1 h)
    have hcl := zaq_ (srt es)
    have hnl : ¬ h2.length < h.length := by omega
    have htk3 : (h2 ++ [O.arr false 14 ((srt es).map SP.v)]).take h.length = h2 := by rw [← hl2]; simp
    rcases hc with ⟨rfl, hcc⟩ | ⟨o, rfl⟩
    · refine ⟨.own 14 ((srt es).map SP.v), ?_, by rw [nl, if_neg hd]; show V.lst 14 _ = V.lst 14 ((cpt (srt es)).map SP.v); rw [hcc]⟩
      rw [run_eq, zvd_]
      simp -implicitDefEqProofs [zfq_, h1, hval, hS, he, hr, htk, htk3, hcl, hlen, hnl]
    · refine ⟨.lst 14 ((dst es).map SP.v), ?_, by rw [nl, if_neg hd]; rfl⟩
      rw [run_eq, zvd_]
      have htk2 : (h2 ++ [o]).take h.length = h2 := by rw [← hl2]; simp
      simp -implicitDefEqProofs [zfq_, h1, hval, hS, he, hr, htk2, hcl, hlen, dst]
theorem zcpd_ (es : List SP) : ∀ k, selA (fun _ => true) k es = es := by
  induction es with
  | nil => exact fun _ => rfl
  | cons a r ih => intro k; rw [selA, if_pos rfl, ih]
theorem zcpe_ (h : H) (k : Nat) : run XP zor_ [vi k] h = some (vb true, h) := by
  rw [run_eq, zbyo_]
  simp -implicitDefEqProofs [zkw_]
theorem nl_res (es : List SP) : res0 (if es = [] then vnil else V.own 14 (es.map SP.v)) = nl es := by
  unfold nl
  split <;> rfl
def ow (es : List SP) : V := if es = [] then vnil else .own 14 (es.map SP.v)
theorem zds_ (es : List SP) : res0 (ow es) = nl es := nl_res es
theorem zbo_ (es : List SP) : arg0 (nl es) = some (nl es) := by unfold nl; split <;> rfl
theorem nl_ret (b : Nat) (h : H) (es : List SP) (t : List O) : retV b h .v (nl es) t = some (nl es, t) := by unfold nl; split <;> simp
theorem zbt_ (es : List SP) : res0 (nl es) = nl es := by unfold nl; split <;> rfl
theorem zbda_ {h h2 : H} {v v2 : V} {es : List SP} (hv : LV v2 es) (h1 : arg0 v = some v) (hval : run XP zfl_ [v] h = some (.fn zcl_ [] [.fptr (.agg [v2]) 0], h2)) (hl2 : h2.length = h.length) (hs : ∀ e ∈ es, e.Sm) (hn : es.length ≤ 100000) :
    run XP zfj_ [v] h = some (ow (dst es), h2) := by
  obtain ⟨R, hR, hR0⟩ := zcpc_ hv h1 hval hl2 hs hn
  have htk : h2.take h.length = h2 := List.take_of_length_le (by omega)
  have hC := zcok_ (h := h2) (v := nl (dst es)) (es := dst es) (fun t => (nl_LV _).rd _) (fun e he => hs e (zca_ he)) (by have := zep_ es; omega) (f := zor_) (b := []) rfl (p := fun _ => true) (fun k t _ => zcpe_ _ k)
  rw [zcpd_] at hC
  have hcl := zaq_ (dst es)
  have hnl : ¬ h2.length < h.length := by omega
  have htk3 : ∀ o : O, (h2 ++ [o]).take h.length = h2 := fun o => by rw [← hl2]; simp
  rw [run_eq, zbxy_, ow]
  by_cases hd : dst es = []
  · rw [if_pos hd] at hC ⊢
    simp -implicitDefEqProofs [zhf_, h1, hR, hR0, zbo_, hC, htk]
  · rw [if_neg hd] at hC ⊢
    simp -implicitDefEqProofs [zhf_, h1, hR, hR0, zbo_, hC, hcl, hnl, htk3]
theorem nl_at {D : List SP} {k : Nat} {a : SP} (ha : D[k]? = some a) (h : H) : iaddrV h 14 (nl D) k = some (.fptr a.v 0) := by
  have : D ≠ [] := by rintro rfl; simp at ha
  rw [nl, if_neg this]
  have h2 : (D.map SP.v)[k]? = some a.v := by rw [List.getElem?_map, ha]; rfl
  rw [zgt_, if_pos rfl, h2, zac_]
end Go.Proofs.Sl
namespace Go.Proofs.Sl
def wthn (lo hi : Int) : List UInt8 → Bool
  | [] => true
  | b :: l => if (b.toNat : Int) < lo ∨ hi < (b.toNat : Int) then false else wthn lo hi l
theorem zbdb_ {s : ByteArray} {k : Nat} {c : UInt8} (h : (bts s)[k]? = some c) : s.data[k]? = some c := by simpa [bts] using h
theorem zbdc_ (h : H) (s : ByteArray) (lo hi : Int) (hs : s.size ≤ 9223372036854775807) : run XP zoq_ [vs s, vk .u8 lo, vk .u8 hi] h = some (vb (wthn lo hi (bts s)), h) := by
  have hlen := zih_ s
  rw [run_eq, zbym_]
  simp -implicitDefEqProofs [zku_]
  refine zak_ (bts s) (fun k s' h' => Sees s' [(0, vs s), (1, vk .u8 lo), (2, vk .u8 hi), (9, vi s.size), (10, vi k)] ∧ h' = h ∧ wthn lo hi (bts s) = wthn lo hi ((bts s).drop k)) ?_ ?_ _ _ ⟨by simp, rfl, rfl⟩
  · rintro B f hB hf k c s' h' he hk ⟨⟨h0, h1, h2, h9, h10, -⟩, rfl, hx⟩ K
    have hlt : (k : Int) < s.size := by omega
    have hw : IntKind.i64.wrap ((k : Int) + 1) = (k : Int) + 1 := zae_ (by omega) (by omega)
    have hd := zbdb_ he
    rw [zau_ he, wthn] at hx
    by_cases c1 : (c.toNat : Int) < lo
    · rw [if_pos (.inl c1)] at hx
      simp -implicitDefEqProofs [hB, hf, zkt_, h0, h1, h2, h9, h10, hlt, hd, c1, hx]
    · by_cases c2 : hi < (c.toNat : Int)
      · rw [if_pos (.inr c2)] at hx
        simp -implicitDefEqProofs [hB, hf, zkt_, h0, h1, h2, h9, h10, hlt, hd, c1, c2, hx]
      · rw [if_neg (by omega)] at hx
        simp -implicitDefEqProofs [hB, zkt_, h0, h1, h2, h9, h10, hlt, hd, c1, c2]
        refine K _ _ ⟨?_, rfl, hx⟩
        simp [h0, h1, h2, h9, hw]
  · rintro B hB s' h' ⟨⟨h0, h1, h2, h9, h10, -⟩, rfl, hx⟩
    rw [hlen] at h10
    rw [hlen, List.drop_of_length_le (by omega), wthn] at hx
    simp -implicitDefEqProofs [hB, zkt_, h0, h1, h2, h9, h10, hx]
def eS : ByteArray := ⟨#[]⟩
def isNm (s : ByteArray) : Bool := !(decide (s = eS)) && (decide (s.size ≤ 64) && wthn 33 126 (bts s))
theorem isE (s : ByteArray) : s.toList.isEmpty = decide (s = eS) := by
  have := bl_eq (a := s) (b := eS)
  rw [← this]
  have h : eS.toList = [] := by rw [ByteArray.toList_eq]; rfl
  rw [h]
  cases s.toList <;> rfl
theorem zqi_ (h : H) (s : ByteArray) (hs : s.size ≤ 9223372036854775807) : run XP zgw_ [vs s] h = some (vb (isNm s), h) := by
  have h1 := fun h => zbdc_ h s 33 126 hs
  have h2 := isE s
  rw [run_eq, zbyb_]
  unfold isNm
  by_cases c1 : s = eS
  · have h3 : s.toList.isEmpty = true := by rw [h2]; simp [c1]
    rw [show decide (s = eS) = true by simp [c1]]
    simp only [Bool.not_true, Bool.false_and]
    simp -implicitDefEqProofs [zfn_, h3]
  · have h3 : s.toList.isEmpty = false := by rw [h2]; simp [c1]
    rw [show decide (s = eS) = false by simp [c1]]
    simp only [Bool.not_false, Bool.true_and]
    by_cases c2 : s.size ≤ 64
    · have c2' : (s.size : Int) ≤ 64 := by omega
      simp -implicitDefEqProofs [zfn_, h3, c2, c2', h1]
    · have c2' : ¬ (s.size : Int) ≤ 64 := by omega
      simp -implicitDefEqProofs [zfn_, h3, c2, c2']
def fin5 (sz : Nat) (ok : Bool) : Int := if 4096 < sz then 5 else if ok = true then 0 else 3
def okV (k : Int) (t : ByteArray) (n : Int) : Bool := if k = 1 then wthn 32 126 (bts t) && decide (n = 0) else if k = 2 then decide (t = eS) && (decide (-1099511627776 ≤ n) && decide (n ≤ 1099511627776)) else decide (t = eS) && (decide (n = 0) || decide (n = 1))
def chkV (v : AV) : Int := if v.k = 1 ∨ v.k = 2 ∨ v.k = 3 then fin5 v.t.size (okV v.k v.t v.n) else 12
theorem zcpf_ (h : H) (v : AV) (hs : v.t.size ≤ 9223372036854775807) : run XP zsx_ [v.v] h = some (vi (chkV v), h) := by
  obtain ⟨k, t, n⟩ := v
  simp only at hs
  have h1 := fun h => zbdc_ h t 32 126 hs
  rw [run_eq, zbxv_]
  by_cases hl : 4096 < t.size
  · have hl' : (4096 : Int) < t.size := by omega
    by_cases k1 : k = 1
    · cases hw : wthn 32 126 (bts t)
      · simp -implicitDefEqProofs [zax_, AV.v, h1, chkV, fin5, okV, hl, hl', k1, hw]
      · by_cases n0 : n = 0
        · simp -implicitDefEqProofs [zax_, AV.v, h1, chkV, fin5, okV, hl, hl', k1, hw, n0]
        · have n0' : (n == 0) = false := by simpa using n0
          simp -implicitDefEqProofs [zax_, AV.v, h1, chkV, fin5, okV, hl, hl', k1, hw, n0, n0']
    · have k1' : (k == 1) = false := by simpa using k1
      by_cases k2 : k = 2
      · by_cases te : t = eS
        · have te' : t.toList.isEmpty = true := by rw [isE]; simp [te]
          have teP : t = eS ↔ True := iff_true_intro te
          by_cases n1 : -1099511627776 ≤ n
          · by_cases n2 : n ≤ 1099511627776
            · simp -implicitDefEqProofs [zax_, AV.v, h1, chkV, fin5, okV, hl, hl', k1, k1', k2, te', teP, n1, n2]
            · simp -implicitDefEqProofs [zax_, AV.v, h1, chkV, fin5, okV, hl, hl', k1, k1', k2, te', teP, n1, n2]
          · simp -implicitDefEqProofs [zax_, AV.v, h1, chkV, fin5, okV, hl, hl', k1, k1', k2, te', teP, n1]
        · have te' : t.toList.isEmpty = false := by rw [isE]; simp [te]
          have teP : t = eS ↔ False := iff_false_intro te
          simp -implicitDefEqProofs [zax_, AV.v, h1, chkV, fin5, okV, hl, hl', k1, k1', k2, te', teP]
      · have k2' : (k == 2) = false := by simpa using k2
        by_cases k3 : k = 3
        · by_cases te : t = eS
          · have te' : t.toList.isEmpty = true := by rw [isE]; simp [te]
            have teP : t = eS ↔ True := iff_true_intro te
            by_cases n0 : n = 0
            · simp -implicitDefEqProofs [zax_, AV.v, h1, chkV, fin5, okV, hl, hl', k1, k1', k2, k2', k3, te', teP, n0]
            · have n0' : (n == 0) = false := by simpa using n0
              by_cases n1 : n = 1
              · simp -implicitDefEqProofs [zax_, AV.v, h1, chkV, fin5, okV, hl, hl', k1, k1', k2, k2', k3, te', teP, n0, n0', n1]
              · have n1' : (n == 1) = false := by simpa using n1
                simp -implicitDefEqProofs [zax_, AV.v, h1, chkV, fin5, okV, hl, hl', k1, k1', k2, k2', k3, te', teP, n0, n0', n1, n1']
          · have te' : t.toList.isEmpty = false := by rw [isE]; simp [te]
            have teP : t = eS ↔ False := iff_false_intro te
            simp -implicitDefEqProofs [zax_, AV.v, h1, chkV, fin5, okV, hl, hl', k1, k1', k2, k2', k3, te', teP]
        · have k3' : (k == 3) = false := by simpa using k3
          simp -implicitDefEqProofs [zax_, AV.v, h1, chkV, fin5, okV, hl, hl', k1, k1', k2, k2', k3, k3']
  · have hl' : ¬ ((4096 : Int) < t.size) := by omega
    by_cases k1 : k = 1
    · cases hw : wthn 32 126 (bts t)
      · simp -implicitDefEqProofs [zax_, AV.v, h1, chkV, fin5, okV, hl, hl', k1, hw]
      · by_cases n0 : n = 0
        · simp -implicitDefEqProofs [zax_, AV.v, h1, chkV, fin5, okV, hl, hl', k1, hw, n0]
        · have n0' : (n == 0) = false := by simpa using n0
          simp -implicitDefEqProofs [zax_, AV.v, h1, chkV, fin5, okV, hl, hl', k1, hw, n0, n0']
    · have k1' : (k == 1) = false := by simpa using k1
      by_cases k2 : k = 2
      · by_cases te : t = eS
        · have te' : t.toList.isEmpty = true := by rw [isE]; simp [te]
          have teP : t = eS ↔ True := iff_true_intro te
          by_cases n1 : -1099511627776 ≤ n
          · by_cases n2 : n ≤ 1099511627776
            · simp -implicitDefEqProofs [zax_, AV.v, h1, chkV, fin5, okV, hl, hl', k1, k1', k2, te', teP, n1, n2]
            · simp -implicitDefEqProofs [zax_, AV.v, h1, chkV, fin5, okV, hl, hl', k1, k1', k2, te', teP, n1, n2]
          · simp -implicitDefEqProofs [zax_, AV.v, h1, chkV, fin5, okV, hl, hl', k1, k1', k2, te', teP, n1]
        · have te' : t.toList.isEmpty = false := by rw [isE]; simp [te]
          have teP : t = eS ↔ False := iff_false_intro te
          simp -implicitDefEqProofs [zax_, AV.v, h1, chkV, fin5, okV, hl, hl', k1, k1', k2, te', teP]
      · have k2' : (k == 2) = false := by simpa using k2
        by_cases k3 : k = 3
        · by_cases te : t = eS
          · have te' : t.toList.isEmpty = true := by rw [isE]; simp [te]
            have teP : t = eS ↔ True := iff_true_intro te
            by_cases n0 : n = 0
            · simp -implicitDefEqProofs [zax_, AV.v, h1, chkV, fin5, okV, hl, hl', k1, k1', k2, k2', k3, te', teP, n0]
            · have n0' : (n == 0) = false := by simpa using n0
              by_cases n1 : n = 1
              · simp -implicitDefEqProofs [zax_, AV.v, h1, chkV, fin5, okV, hl, hl', k1, k1', k2, k2', k3, te', teP, n0, n0', n1]
              · have n1' : (n == 1) = false := by simpa using n1
                simp -implicitDefEqProofs [zax_, AV.v, h1, chkV, fin5, okV, hl, hl', k1, k1', k2, k2', k3, te', teP, n0, n0', n1, n1']
          · have te' : t.toList.isEmpty = false := by rw [isE]; simp [te]
            have teP : t = eS ↔ False := iff_false_intro te
            simp -implicitDefEqProofs [zax_, AV.v, h1, chkV, fin5, okV, hl, hl', k1, k1', k2, k2', k3, te', teP]
        · have k3' : (k == 3) = false := by simpa using k3
          simp -implicitDefEqProofs [zax_, AV.v, h1, chkV, fin5, okV, hl, hl', k1, k1', k2, k2', k3, k3']
end Go.Proofs.Sl
namespace Go.Proofs.Sl
theorem zcpg_ (h : H) (ns : List Int) (hl : ns.length ≤ 10000) : run XP zta_ [.lst 1 (il ns)] h = some (vi (orl ns), h) := by
  have hv : Rd h 1 (.lst 1 (il ns)) (il ns) := .lst _
  rw [run_eq, zbyc_]
  simp -implicitDefEqProofs [zkn_, zdq_]
  refine zak_ ns (fun k s h' => Sees s [(3, vi 0), (6, .lst 1 (il ns)), (7, vi ns.length), (8, vi k)] ∧ h' = h ∧ orl ns = orl (ns.drop k)) ?_ ?_ _ _ ⟨by simp, rfl, rfl⟩
  · rintro B f hB hf k e s h' he hk ⟨⟨h3, h6, h7, h8, -⟩, rfl, hx⟩ K
    obtain ⟨p, hp, hld⟩ := hv.at1 (il_at he) rfl
    have hlt : (k : Int) < ns.length := by omega
    rw [zau_ he, orl] at hx
    by_cases h0 : e = 0
    · rw [if_neg (by simpa using h0)] at hx
      simp -implicitDefEqProofs [hB, zpi_, h3, h6, h7, h8, hlt, hp, hld, h0]
      refine K _ _ ⟨?_, rfl, hx⟩
      simp [h3, h6, h7, zvq_ (by omega : k < 100000000000)]
    · rw [if_pos h0] at hx
      have h0' : (e != 0) = true := by simpa using h0
      simp -implicitDefEqProofs [hB, hf, zpi_, h3, h6, h7, h8, hlt, hp, hld, h0', hx]
  · rintro B hB s h' ⟨⟨h3, h6, h7, h8, -⟩, rfl, hx⟩
    simp -implicitDefEqProofs [hB, zpi_, h3, h7, h8, hx, orl]
def rngd (n lo hi : Int) : Bool := decide (lo ≤ n) && decide (n ≤ hi)
theorem zqj_ (h : H) (n : Int) : run XP zgv_ [vi n] h = some (vb (!rngd n 1 1099511627776), h) := by
  rw [run_eq, zbya_]
  unfold rngd
  by_cases c1 : 1 ≤ n
  · have c1' : ¬ n < 1 := by omega
    by_cases c2 : n ≤ 1099511627776
    · have c2' : ¬ 1099511627776 < n := by omega
      simp -implicitDefEqProofs [zfm_, c1, c2, c1', c2']
    · have c2' : 1099511627776 < n := by omega
      simp -implicitDefEqProofs [zfm_, c1, c2, c1', c2']
  · have c1' : n < 1 := by omega
    simp -implicitDefEqProofs [zfm_, c1, c1']
def leqT (a b : ByteArray) : Bool := Op.bytesLess a.toList b.toList || a.toList == b.toList
def chkAs : Option AT → List AT → Int
  | _, [] => 0
  | p, a :: r => if isNm a.key = false then 11 else if (match p with
      | none => false
      | some q => leqT a.key q.key) = true then 8 else if chkV a.val ≠ 0 then chkV a.val else chkAs (some a) r
theorem zcph_ (p : Option AT) : chkAs p [] = 0 := by rw [chkAs]
theorem zbdd_ (p : Option AT) (a : AT) (r : List AT) : chkAs p (a :: r) = if isNm a.key = false then 11 else if (match p with
      | none => false
      | some q => leqT a.key q.key) = true then 8 else if chkV a.val ≠ 0 then chkV a.val else chkAs (some a) r := by cases p <;> rfl
def chkAL (l : List AT) : Int := if 32 < l.length then 6 else chkAs none l
def prevA {α : Type} (l : List α) (k : Nat) : Option α := if k = 0 then none else l[k - 1]?
theorem zqk_ {α : Type} {l : List α} {k : Nat} {a : α} (h : l[k]? = some a) : prevA l (k + 1) = some a := by simp [prevA, h]
structure AT.Sz (a : AT) : Prop where
  key : a.key.size ≤ 9223372036854775807
  t : a.val.t.size ≤ 9223372036854775807
theorem zvy_ {α : Type} {f : α → V} {l : List α} {n : Bool} (hn : n = true → l = []) {i : Nat} {a : α} (ha : l[i]? = some a) (h : H) (k : Nat) : iaddrV h k (lv k (slc f l n)) i = some (.fptr (f a) 0) := by
  cases n with
  | true => rw [hn rfl] at ha; simp at ha
  | false =>
    show iaddrV h k (.lst k (l.map f)) i = _
    have : (l.map f)[i]? = some (f a) := by rw [List.getElem?_map, ha]; rfl
    rw [zgt_, if_pos rfl, this, zac_]
theorem zcpi_ {h : H} {l : List AT} {n : Bool} (hn : n = true → l = []) (hs : ∀ a ∈ l, a.Sz) : run XP ztb_ [lv 4 (slc AT.v l n)] h = some (vi (chkAL l), h) := by
  have hv := fun h => rd_slc h 4 AT.v hn
  obtain ⟨v, hvv⟩ : ∃ v, v = lv 4 (slc AT.v l n) := ⟨_, rfl⟩
  rw [← hvv] at hv ⊢
  rw [run_eq, zbyd_]
  by_cases hl : 32 < l.length
  · have hl' : (32 : Int) < l.length := by omega
    simp -implicitDefEqProofs [zhg_, (hv _).toL, hl, hl', chkAL]
  · have hl' : ¬ (32 : Int) < l.length := by omega
    rw [chkAL, if_neg hl]
    simp -implicitDefEqProofs [zhg_, (hv _).toL, hl, hl']
    refine zak_ l (fun k s h' => Sees s [(0, v), (9, v), (10, vi l.length), (11, vi k)] ∧ (∃ t, h' = h ++ t) ∧ chkAs none l = chkAs (prevA l k) (l.drop k)) ?_ ?_ _ _ ⟨by simp, ⟨[], by simp⟩, rfl⟩
    · rintro B f hB hf k e s h' he hk ⟨⟨h0, h9, h10, h11, -⟩, ⟨t, rfl⟩, hx⟩ K
      have hlt : (k : Int) < l.length := by omega
      obtain ⟨p, hp, hld⟩ := (hv (h ++ t)).at (i := k) (e := e.v) (by simp [he])
      have hw : IntKind.i64.wrap ((k : Int) + 1) = (k : Int) + 1 := zae_ (by omega) (by omega)
      have hsz := hs e (List.mem_of_getElem? he)
      have hN := fun h => zqi_ h e.key hsz.key
      have hV := fun h => zcpf_ h e.val hsz.t
      simp only [AT.v, AV.v, V.cells] at hld hV
      rw [zau_ he, zbdd_] at hx
      cases hnm : isNm e.key with
      | false =>
        rw [if_pos hnm] at hx
        simp -implicitDefEqProofs [hB, hf, zel_, h0, h9, h10, h11, hlt, hp, hld, hN, hnm, hx]
      | true =>
        rw [if_neg (by simp [hnm])] at hx
        by_cases hk0 : k = 0
        · subst hk0
          simp only [prevA, if_true, Bool.false_eq_true, if_false] at hx
          by_cases hz : chkV e.val = 0
          · rw [if_neg (by simpa using hz)] at hx
            simp -implicitDefEqProofs [hB, zel_, h0, h9, h10, h11, hk, hp, hld, hN, hnm, hV, hz]
            refine K _ _ ⟨?_, ⟨_, rfl⟩, by rw [zqk_ he]; exact hx⟩
            simpa [h0, h9, h10] using hw
          · rw [if_pos hz] at hx
            have hz' : (chkV e.val != 0) = true := by simpa using hz
            simp -implicitDefEqProofs [hB, hf, zel_, h0, h9, h10, h11, hk, hp, hld, hN, hnm, hV, hz', hx]
        · obtain ⟨q, hq⟩ : ∃ q, l[k - 1]? = some q := ⟨_, List.getElem?_eq_getElem (by omega)⟩
          have hp2 := zvy_ (f := AT.v) hn hq (h ++ (t ++ [.box false e.v.cells])) 4
          rw [← hvv] at hp2
          have hw1 : IntKind.i64.wrap ((k : Int) - 1) = ((k - 1 : Nat) : Int) := by rw [zae_ (by omega) (by omega)]; omega
          have hk0' : (0 : Int) < k := by omega
          have hk0n : 0 < k := by omega
          simp only [AT.v, V.cells] at hp2
          have hpv : prevA l k = some q := by simp [prevA, hk0, hq]
          rw [hpv] at hx
          replace hx : chkAs none l = if leqT e.key q.key = true then 8 else if chkV e.val ≠ 0 then chkV e.val else chkAs (some e) (l.drop (k + 1)) := hx
          cases hle0 : leqT e.key q.key with
          | true =>
            rw [if_pos hle0] at hx
            have hle : (Op.bytesLess e.key.toList q.key.toList || e.key.toList == q.key.toList) = true := hle0
            simp -implicitDefEqProofs [hB, hf, zel_, h0, h9, h10, h11, hlt, hp, hld, hN, hnm, hk0', hk0n, hw1, hp2, hle, hx]
          | false =>
            rw [if_neg (by simp [hle0])] at hx
            have hle : (Op.bytesLess e.key.toList q.key.toList || e.key.toList == q.key.toList) = false := hle0
            by_cases hz : chkV e.val = 0
            · rw [if_neg (by simpa using hz)] at hx
              simp -implicitDefEqProofs [hB, zel_, h0, h9, h10, h11, hlt, hp, hld, hN, hnm, hk0', hk0n, hw1, hp2, hle, hV, hz]
              refine K _ _ ⟨?_, ⟨_, rfl⟩, by rw [zqk_ he]; exact hx⟩
              simp [h0, h9, h10, hw]
            · rw [if_pos hz] at hx
              have hz' : (chkV e.val != 0) = true := by simpa using hz
              simp -implicitDefEqProofs [hB, hf, zel_, h0, h9, h10, h11, hlt, hp, hld, hN, hnm, hk0', hk0n, hw1, hp2, hle, hV, hz', hx]
    · rintro B hB s h' ⟨⟨h0, h9, h10, h11, -⟩, ⟨t, rfl⟩, hx⟩
      rw [List.drop_of_length_le (Nat.le_refl _), zcph_] at hx
      simp -implicitDefEqProofs [hB, zel_, h0, h9, h10, h11, hx]
def okR (r : RF) : Bool := rngd r.t 1 1099511627776 && rngd r.i 1 1099511627776
def chkLs : Option RF → List RF → Int
  | _, [] => 0
  | p, r :: l => if okR r = false then 2 else if (match p with
      | none => false
      | some q => decide (0 ≤ cmpR q r)) = true then 8 else chkLs (some r) l
theorem zbde_ (p : Option RF) : chkLs p [] = 0 := by rw [chkLs]
theorem zvz_ (p : Option RF) (r : RF) (l : List RF) : chkLs p (r :: l) = if okR r = false then 2 else if (match p with
      | none => false
      | some q => decide (0 ≤ cmpR q r)) = true then 8 else chkLs (some r) l := by cases p <;> rfl
def chkLL (l : List RF) : Int := if 16 < l.length then 6 else chkLs none l
theorem zcpj_ {h : H} {l : List RF} {n : Bool} (hn : n = true → l = []) : run XP ztc_ [lv 2 (slc RF.v l n)] h = some (vi (chkLL l), h) := by
  have hv := fun h => rd_slc h 2 RF.v hn
  obtain ⟨v, hvv⟩ : ∃ v, v = lv 2 (slc RF.v l n) := ⟨_, rfl⟩
  rw [← hvv] at hv ⊢
  rw [run_eq, zbye_]
  by_cases hl : 16 < l.length
  · have hl' : (16 : Int) < l.length := by omega
    simp -implicitDefEqProofs [zhh_, (hv _).toL, hl, hl', chkLL]
  · have hl' : ¬ (16 : Int) < l.length := by omega
    rw [chkLL, if_neg hl]
    simp -implicitDefEqProofs [zhh_, (hv _).toL, hl, hl']
    refine zak_ l (fun k s h' => Sees s [(0, v), (8, v), (9, vi l.length), (10, vi k)] ∧ (∃ t, h' = h ++ t) ∧ chkLs none l = chkLs (prevA l k) (l.drop k)) ?_ ?_ _ _ ⟨by simp, ⟨[], by simp⟩, rfl⟩
    · rintro B f hB hf k e s h' he hk ⟨⟨h0, h8, h9, h10, -⟩, ⟨t, rfl⟩, hx⟩ K
      have hlt : (k : Int) < l.length := by omega
      have hp := zvy_ (f := RF.v) hn he (h ++ t) 2
      rw [← hvv] at hp
      have hw : IntKind.i64.wrap ((k : Int) + 1) = (k : Int) + 1 := zae_ (by omega) (by omega)
      have b1 := fun h => zqj_ h e.t
      have b2 := fun h => zqj_ h e.i
      simp only [RF.v] at hp
      rw [zau_ he, zvz_] at hx
      cases r1 : rngd e.t 1 1099511627776 with
      | false =>
        rw [if_pos (by simp [okR, r1])] at hx
        simp -implicitDefEqProofs [hB, hf, zfo_, h0, h8, h9, h10, hlt, hk, hp, b1, r1, hx]
      | true =>
        cases r2 : rngd e.i 1 1099511627776 with
        | false =>
          rw [if_pos (by simp [okR, r2])] at hx
          simp -implicitDefEqProofs [hB, hf, zfo_, h0, h8, h9, h10, hlt, hk, hp, b1, b2, r1, r2, hx]
        | true =>
          rw [if_neg (by simp [okR, r1, r2])] at hx
          by_cases hk0 : k = 0
          · subst hk0
            simp only [prevA, if_true, Bool.false_eq_true, if_false] at hx
            simp -implicitDefEqProofs [hB, zfo_, h0, h8, h9, h10, hk, hp, b1, b2, r1, r2]
            refine K _ _ ⟨?_, ⟨_, rfl⟩, by rw [zqk_ he]; exact hx⟩
            simpa [h0, h8, h9] using hw
          · obtain ⟨q, hq⟩ : ∃ q, l[k - 1]? = some q := ⟨_, List.getElem?_eq_getElem (by omega)⟩
            have hp2 := zvy_ (f := RF.v) hn hq (h ++ (t ++ [.box false e.v.cells])) 2
            rw [← hvv] at hp2
            have hw1 : IntKind.i64.wrap ((k : Int) - 1) = ((k - 1 : Nat) : Int) := by rw [zae_ (by omega) (by omega)]; omega
            have hk0' : (0 : Int) < k := by omega
            have hk0n : 0 < k := by omega
            have hc := fun h => zbcm_ h q e
            simp only [RF.v, V.cells] at hp2 hc
            have hpv : prevA l k = some q := by simp [prevA, hk0, hq]
            rw [hpv] at hx
            replace hx : chkLs none l = if decide (0 ≤ cmpR q e) = true then 8 else chkLs (some e) (l.drop (k + 1)) := hx
            by_cases hle : 0 ≤ cmpR q e
            · rw [if_pos (by simpa using hle)] at hx
              simp -implicitDefEqProofs [hB, hf, zfo_, h0, h8, h9, h10, hlt, hk, hp, b1, b2, r1, r2, hk0', hk0n, hw1, hp2, hc, hle, hx]
            · rw [if_neg (by simpa using hle)] at hx
              simp -implicitDefEqProofs [hB, zfo_, h0, h8, h9, h10, hlt, hk, hp, b1, b2, r1, r2, hk0', hk0n, hw1, hp2, hc, hle]
              refine K _ _ ⟨?_, ⟨_, rfl⟩, by rw [zqk_ he]; exact hx⟩
              simp [h0, h8, h9, hw]
    · rintro B hB s h' ⟨⟨h0, h8, h9, h10, -⟩, ⟨t, rfl⟩, hx⟩
      rw [List.drop_of_length_le (Nat.le_refl _), zbde_] at hx
      simp -implicitDefEqProofs [hB, zfo_, h0, h8, h9, h10, hx]
end Go.Proofs.Sl
namespace Go.Proofs.Sl
theorem zcv_ {n lo hi : Int} : rngd n lo hi = true ↔ lo ≤ n ∧ n ≤ hi := by simp [rngd]
def chkSp (a : SP) : Int :=
  if (rngd a.tr 1 1099511627776 && (rngd a.id 1 1099511627776 && (rngd a.par 0 1099511627776 && (rngd a.rev 0 1048576 && rngd a.clk 1 1048576)))) = false then 2
  else if rngd a.kind 1 5 = false then 12
  else if (isNm a.sv && (isNm a.op && (decide (a.vr = eS) || isNm a.vr))) = false then 11
  else if (rngd a.st (-1099511627776) 1099511627776 && rngd a.en (-1099511627776) 1099511627776) = false then 32
  else if a.en < a.st then 8
  else if 1099511627776 < a.en - a.st then 32
  else orl [chkAL a.ats, chkLL a.lks]
structure SP.Sz (a : SP) : Prop where
  sv : a.sv.size ≤ 9223372036854775807
  vr : a.vr.size ≤ 9223372036854775807
  op : a.op.size ≤ 9223372036854775807
  ats : ∀ e ∈ a.ats, e.Sz
  an : a.an = true → a.ats = []
  ln : a.ln = true → a.lks = []
theorem vcase (vr : ByteArray) (h : (decide (vr = eS) || isNm vr) = true) : (vr.toList.isEmpty = true ∧ True) ∨ (vr.toList.isEmpty = false ∧ isNm vr = true) := by
  by_cases e : vr = eS
  · exact .inl ⟨by rw [isE]; simp [e], trivial⟩
  · exact .inr ⟨by rw [isE]; simp [e], by simpa [e] using h⟩
theorem zbdf_ (h : H) {a : SP} (ha : a.Sz) : run XP zjj_ [a.v] h = some (vi (chkSp a), h) := by
  obtain ⟨q1, q2, q3, q4, q5, q6⟩ := ha
  obtain ⟨tr, id, par, rev, clk, kind, sv, vr, op, st, en, er, ats, lks, an, ln⟩ := a
  simp only at q1 q2 q3 q4 q5 q6
  have i1 := fun h => zqi_ h sv q1
  have i2 := fun h => zqi_ h vr q2
  have i3 := fun h => zqi_ h op q3
  have ca := fun h => zcpi_ (h := h) q5 q4
  have aa := (rd_slc h 4 AT.v q5).arg0
  have ab := (rd_slc h 2 RF.v q6).arg0
  have b1 := fun h => zqj_ h tr
  have b2 := fun h => zqj_ h id
  have cl := fun h => zcpj_ (h := h) q6
  have co := fun h => zcpg_ h [chkAL ats, chkLL lks] (by simp)
  simp only [il, List.map_cons, List.map_nil] at co
  rw [run_eq]
  cases r_tr : rngd tr 1 1099511627776
  · (rw [zbf_]; simp -implicitDefEqProofs [zba_, SP.v, chkSp, i1, i2, i3, b1, b2, r_tr])
  ·
    cases r_id : rngd id 1 1099511627776
    · (rw [zbf_]; simp -implicitDefEqProofs [zba_, SP.v, chkSp, i1, i2, i3, b1, b2, r_tr, r_id])
    ·
      by_cases c_par : par < 0
      · have r_par : rngd par 0 1099511627776 = false := by simp [rngd]; omega
        (rw [zbf_]; simp -implicitDefEqProofs [zba_, SP.v, chkSp, i1, i2, i3, b1, b2, r_tr, r_id, c_par, r_par])
      ·
        by_cases d_par : 1099511627776 < par
        · have r_par : rngd par 0 1099511627776 = false := by simp [rngd]; omega
          (rw [zbf_]; simp -implicitDefEqProofs [zba_, SP.v, chkSp, i1, i2, i3, b1, b2, r_tr, r_id, c_par, d_par, r_par])
        ·
          have r_par : rngd par 0 1099511627776 = true := by simp [rngd]; omega
          by_cases c_rev : rev < 0
          · have r_rev : rngd rev 0 1048576 = false := by simp [rngd]; omega
            (rw [zbf_]; simp -implicitDefEqProofs [zba_, SP.v, chkSp, i1, i2, i3, b1, b2, r_tr, r_id, c_par, d_par, r_par, c_rev, r_rev])
          ·
            by_cases d_rev : 1048576 < rev
            · have r_rev : rngd rev 0 1048576 = false := by simp [rngd]; omega
              (rw [zbf_]; simp -implicitDefEqProofs [zba_, SP.v, chkSp, i1, i2, i3, b1, b2, r_tr, r_id, c_par, d_par, r_par, c_rev, d_rev, r_rev])
            ·
              have r_rev : rngd rev 0 1048576 = true := by simp [rngd]; omega
              by_cases c_clk : clk < 1
              · have r_clk : rngd clk 1 1048576 = false := by simp [rngd]; omega
                (rw [zbf_]; simp -implicitDefEqProofs [zba_, SP.v, chkSp, i1, i2, i3, b1, b2, r_tr, r_id, c_par, d_par, r_par, c_rev, d_rev, r_rev, c_clk, r_clk])
              ·
                by_cases d_clk : 1048576 < clk
                · have r_clk : rngd clk 1 1048576 = false := by simp [rngd]; omega
                  (rw [zbf_]; simp -implicitDefEqProofs [zba_, SP.v, chkSp, i1, i2, i3, b1, b2, r_tr, r_id, c_par, d_par, r_par, c_rev, d_rev, r_rev, c_clk, d_clk, r_clk])
                ·
                  have r_clk : rngd clk 1 1048576 = true := by simp [rngd]; omega
                  by_cases c_kind : kind < 1
                  · have r_kind : rngd kind 1 5 = false := by simp [rngd]; omega
                    (rw [zbf_]; simp -implicitDefEqProofs [zba_, SP.v, chkSp, i1, i2, i3, b1, b2, r_tr, r_id, c_par, d_par, r_par, c_rev, d_rev, r_rev, c_clk, d_clk, r_clk, c_kind, r_kind])
                  ·
                    by_cases d_kind : 5 < kind
                    · have r_kind : rngd kind 1 5 = false := by simp [rngd]; omega
                      (rw [zbf_]; simp -implicitDefEqProofs [zba_, SP.v, chkSp, i1, i2, i3, b1, b2, r_tr, r_id, c_par, d_par, r_par, c_rev, d_rev, r_rev, c_clk, d_clk, r_clk, c_kind, d_kind, r_kind])
                    ·
                      have r_kind : rngd kind 1 5 = true := by simp [rngd]; omega
                      cases n_sv : isNm sv
                      · (rw [zbf_]; simp -implicitDefEqProofs [zba_, SP.v, chkSp, i1, i2, i3, b1, b2, r_tr, r_id, c_par, d_par, r_par, c_rev, d_rev, r_rev, c_clk, d_clk, r_clk, c_kind, d_kind, r_kind, n_sv])
                      ·
                        cases n_op : isNm op
                        · (rw [zbf_]; simp -implicitDefEqProofs [zba_, SP.v, chkSp, i1, i2, i3, b1, b2, r_tr, r_id, c_par, d_par, r_par, c_rev, d_rev, r_rev, c_clk, d_clk, r_clk, c_kind, d_kind, r_kind, n_sv, n_op])
                        ·
                          have tail : ∀ (q : Bool), q = (decide (vr = eS) || isNm vr) → q = true → ob (XP zjj_) (fun F => xfun (run XP) loopW F [SP.v ⟨tr, id, par, rev, clk, kind, sv, vr, op, st, en, er, ats, lks, an, ln⟩] h) = some (vi (chkSp ⟨tr, id, par, rev, clk, kind, sv, vr, op, st, en, er, ats, lks, an, ln⟩), h) := by
                            intro q hq hq1
                            rw [hq1] at hq
                            replace hq := hq.symm
                            rcases vcase vr hq with ⟨v1, v2⟩ | ⟨v1, v2⟩
                            all_goals
                              by_cases o1 : en < st
                              · have o3 : ¬ st < en := by omega
                                by_cases t1 : en < -1099511627776
                                · have r_en : rngd en (-1099511627776) 1099511627776 = false := by (cases h : rngd en (-1099511627776) 1099511627776; rfl; have := zcv_.1 h; omega)
                                  (rw [zbf_]; simp -implicitDefEqProofs [zba_, SP.v, chkSp, i1, i2, i3, b1, b2, r_tr, r_id, c_par, d_par, r_par, c_rev, d_rev, r_rev, c_clk, d_clk, r_clk, c_kind, d_kind, r_kind, n_sv, n_op, hq, v1, v2, o1, o3, t1, r_en, Bool.and_false])
                                · by_cases t2 : 1099511627776 < st
                                  · have r_st : rngd st (-1099511627776) 1099511627776 = false := by (cases h : rngd st (-1099511627776) 1099511627776; rfl; have := zcv_.1 h; omega)
                                    (rw [zbf_]; simp -implicitDefEqProofs [zba_, SP.v, chkSp, i1, i2, i3, b1, b2, r_tr, r_id, c_par, d_par, r_par, c_rev, d_rev, r_rev, c_clk, d_clk, r_clk, c_kind, d_kind, r_kind, n_sv, n_op, hq, v1, v2, o1, o3, t1, t2, r_st])
                                  · have r_st : rngd st (-1099511627776) 1099511627776 = true := zcv_.2 (by omega)
                                    have r_en : rngd en (-1099511627776) 1099511627776 = true := zcv_.2 (by omega)
                                    (rw [zbf_]; simp -implicitDefEqProofs [zba_, SP.v, chkSp, i1, i2, i3, b1, b2, r_tr, r_id, c_par, d_par, r_par, c_rev, d_rev, r_rev, c_clk, d_clk, r_clk, c_kind, d_kind, r_kind, n_sv, n_op, hq, v1, v2, o1, o3, t1, t2, r_st, r_en])
                              · have hmx : (if st < en then en else st) = en := by split <;> omega
                                by_cases t1 : st < -1099511627776
                                · have r_st : rngd st (-1099511627776) 1099511627776 = false := by (cases h : rngd st (-1099511627776) 1099511627776; rfl; have := zcv_.1 h; omega)
                                  (rw [zbf_]; simp -implicitDefEqProofs [zba_, SP.v, chkSp, i1, i2, i3, b1, b2, r_tr, r_id, c_par, d_par, r_par, c_rev, d_rev, r_rev, c_clk, d_clk, r_clk, c_kind, d_kind, r_kind, n_sv, n_op, hq, v1, v2, o1, hmx, t1, r_st])
                                · by_cases t2 : 1099511627776 < en
                                  · have r_en : rngd en (-1099511627776) 1099511627776 = false := by (cases h : rngd en (-1099511627776) 1099511627776; rfl; have := zcv_.1 h; omega)
                                    (rw [zbf_]; simp -implicitDefEqProofs [zba_, SP.v, chkSp, i1, i2, i3, b1, b2, r_tr, r_id, c_par, d_par, r_par, c_rev, d_rev, r_rev, c_clk, d_clk, r_clk, c_kind, d_kind, r_kind, n_sv, n_op, hq, v1, v2, o1, hmx, t1, t2, r_en, Bool.and_false])
                                  · have r_st : rngd st (-1099511627776) 1099511627776 = true := zcv_.2 (by omega)
                                    have r_en : rngd en (-1099511627776) 1099511627776 = true := zcv_.2 (by omega)
                                    have hw : IntKind.i64.wrap (en - st) = en - st := zae_ (by omega) (by omega)
                                    by_cases o2 : 1099511627776 < en - st
                                    · (rw [zbf_]; simp -implicitDefEqProofs [zba_, SP.v, chkSp, i1, i2, i3, b1, b2, r_tr, r_id, c_par, d_par, r_par, c_rev, d_rev, r_rev, c_clk, d_clk, r_clk, c_kind, d_kind, r_kind, n_sv, n_op, hq, v1, v2, o1, hmx, t1, t2, r_st, r_en, hw, o2])
                                    ·
                                      rw [zbf_]; simp -implicitDefEqProofs [zba_, SP.v, chkSp, i1, i2, i3, b1, b2, ca, cl, co, aa, ab, zav_, optEq, r_tr, r_id, c_par, d_par, r_par, c_rev, d_rev, r_rev, c_clk, d_clk, r_clk, c_kind, d_kind, r_kind, n_sv, n_op, hq, v1, v2, o1, hmx, t1, t2, r_st, r_en, hw, o2]
                          by_cases e_vr : vr = eS
                          · exact tail _ rfl (by simp [e_vr])
                          · cases n_vr : isNm vr
                            · have e_vr' : vr.toList.isEmpty = false := by rw [isE]; simp [e_vr]
                              have hq : (decide (vr = eS) || isNm vr) = false := by simp [e_vr, n_vr]
                              (rw [zbf_]; simp -implicitDefEqProofs [zba_, SP.v, chkSp, i1, i2, i3, b1, b2, r_tr, r_id, c_par, d_par, r_par, c_rev, d_rev, r_rev, c_clk, d_clk, r_clk, c_kind, d_kind, r_kind, n_sv, n_op, e_vr', e_vr, n_vr, hq])
                            · exact tail _ rfl (by simp [n_vr])
end Go.Proofs.Sl
namespace Go.Proofs.Sl
end Go.Proofs.Sl
namespace Go.Proofs.Sl
def ixF {α : Type} (p : α → Bool) : List α → Nat → Int
  | [], _ => -1
  | e :: r, k => if p e = true then (k : Int) else ixF p r (k + 1)
theorem zwa_ {α : Type} (p : α → Bool) : ∀ (es : List α) (k : Nat), decide (0 ≤ ixF p es k) = es.any p
  | [], k => rfl
  | e :: r, k => by
    rw [ixF, List.any_cons]
    cases h : p e with
    | true => simp
    | false => rw [if_neg (by simp), zwa_ p r (k + 1)]; rfl
theorem zcpk_ {h : H} {v : V} {es : List AT} {f : Nat} {a b : List V} {p : AT → Bool} (hv : Rd h 4 v (es.map AT.v)) (hg : ∀ e ∈ es, arg0s (a ++ e.v :: b) = some (a ++ e.v :: b)) (hp : ∀ e ∈ es, run XP f (a ++ e.v :: b) h = some (vb (p e), h)) (hl : es.length ≤ 100000) :
    run XP zug_ [v, .fn f a b] h = some (vi (ixF p es 0), h) := by
  rw [run_eq, zcae_]
  simp -implicitDefEqProofs [zls_, hv.toL]
  refine zak_ es (fun k s h' => Sees s [(0, v), (1, .fn f a b), (7, vi es.length), (8, vi k)] ∧ h' = h ∧ ixF p es 0 = ixF p (es.drop k) k) ?_ ?_ _ _ ⟨by simp, rfl, rfl⟩
  · rintro B f' hB hf k e s h' he hk ⟨⟨h0, h1, h7, h8, -⟩, rfl, hx⟩ K
    have hlt : (k : Int) < es.length := by omega
    have hm := List.mem_of_getElem? he
    obtain ⟨q, hq, hld⟩ := hv.at (i := k) (e := e.v) (by simp [he])
    have hw : IntKind.i64.wrap ((k : Int) + 1) = (k : Int) + 1 := zae_ (by omega) (by omega)
    have hge := hg e hm
    have hpe := hp e hm
    rw [zau_ he, ixF] at hx
    simp only [AT.v, V.cells] at hld hge hpe
    cases hb : p e with
    | false =>
      rw [hb] at hpe
      rw [hb, if_neg (by simp)] at hx
      simp -implicitDefEqProofs [hB, zpt_, h0, h1, h7, h8, hlt, hq, hld, hge, hpe]
      refine K _ _ ⟨?_, rfl, hx⟩
      simp [h0, h1, h7, hw]
    | true =>
      rw [hb] at hpe
      rw [hb, if_pos rfl] at hx
      simp -implicitDefEqProofs [hB, hf, zpt_, h0, h1, h7, h8, hlt, hq, hld, hge, hpe, hx]
  · rintro B hB s h' ⟨⟨h0, h1, h7, h8, -⟩, rfl, hx⟩
    rw [List.drop_of_length_le (Nat.le_refl _)] at hx
    have hx' : ixF p es 0 = -1 := hx
    simp -implicitDefEqProofs [hB, zpt_, h7, h8, hx']
theorem zcpl_ {h : H} {v : V} {es : List AT} {f : Nat} {a b : List V} {p : AT → Bool} (hv : Rd h 4 v (es.map AT.v)) (hf : arg0 (.fn f a b) = some (.fn f a b)) (hg : ∀ e ∈ es, arg0s (a ++ e.v :: b) = some (a ++ e.v :: b)) (hp : ∀ e ∈ es, run XP f (a ++ e.v :: b) h = some (vb (p e), h)) (hl : es.length ≤ 100000) :
    run XP zpd_ [v, .fn f a b] h = some (vb (es.any p), h) := by
  have h1 := zcpk_ hv hg hp hl
  have ha := hv.arg0
  have hx := zwa_ p es 0
  generalize ixF p es 0 = z at *
  rw [run_eq, zbzw_, ← hx]
  simp -implicitDefEqProofs [zlm_, h1, ha, hf]
theorem zwb_ {h : H} {v : V} {es : List SP} {f : Nat} {a b : List V} {p : SP → Bool} (hv : Rd h 14 v (es.map SP.v)) (hg : ∀ e ∈ es, arg0s (a ++ e.v :: b) = some (a ++ e.v :: b)) (hp : ∀ e ∈ es, run XP f (a ++ e.v :: b) h = some (vb (p e), h)) (hl : es.length ≤ 100000) :
    run XP zjr_ [v, .fn f a b] h = some (vi (ixF p es 0), h) := by
  rw [run_eq, zcab_]
  simp -implicitDefEqProofs [zmp_, hv.toL]
  refine zak_ es (fun k s h' => Sees s [(0, v), (1, .fn f a b), (7, vi es.length), (8, vi k)] ∧ h' = h ∧ ixF p es 0 = ixF p (es.drop k) k) ?_ ?_ _ _ ⟨by simp, rfl, rfl⟩
  · rintro B f' hB hf k e s h' he hk ⟨⟨h0, h1, h7, h8, -⟩, rfl, hx⟩ K
    have hlt : (k : Int) < es.length := by omega
    have hm := List.mem_of_getElem? he
    obtain ⟨q, hq, hld⟩ := hv.at (i := k) (e := e.v) (by simp [he])
    have hw : IntKind.i64.wrap ((k : Int) + 1) = (k : Int) + 1 := zae_ (by omega) (by omega)
    have hge := hg e hm
    have hpe := hp e hm
    rw [zau_ he, ixF] at hx
    simp only [SP.v, V.cells] at hld hge hpe
    cases hb : p e with
    | false =>
      rw [hb] at hpe
      rw [hb, if_neg (by simp)] at hx
      simp -implicitDefEqProofs [hB, zqa_, h0, h1, h7, h8, hlt, hq, hld, hge, hpe]
      refine K _ _ ⟨?_, rfl, hx⟩
      simp [h0, h1, h7, hw]
    | true =>
      rw [hb] at hpe
      rw [hb, if_pos rfl] at hx
      simp -implicitDefEqProofs [hB, hf, zqa_, h0, h1, h7, h8, hlt, hq, hld, hge, hpe, hx]
  · rintro B hB s h' ⟨⟨h0, h1, h7, h8, -⟩, rfl, hx⟩
    rw [List.drop_of_length_le (Nat.le_refl _)] at hx
    have hx' : ixF p es 0 = -1 := hx
    simp -implicitDefEqProofs [hB, zqa_, h7, h8, hx']
theorem zcpm_ {h : H} {v : V} {es : List SP} {f : Nat} {a b : List V} {p : SP → Bool} (hv : Rd h 14 v (es.map SP.v)) (hf : arg0 (.fn f a b) = some (.fn f a b)) (hg : ∀ e ∈ es, arg0s (a ++ e.v :: b) = some (a ++ e.v :: b)) (hp : ∀ e ∈ es, run XP f (a ++ e.v :: b) h = some (vb (p e), h)) (hl : es.length ≤ 100000) :
    run XP ztv_ [v, .fn f a b] h = some (vb (es.any p), h) := by
  have h1 := zwb_ hv hg hp hl
  have ha := hv.arg0
  have hx := zwa_ p es 0
  generalize ixF p es 0 = z at *
  rw [run_eq, zbzn_, ← hx]
  simp -implicitDefEqProofs [zmi_, h1, ha, hf]
end Go.Proofs.Sl
namespace Go.Proofs.Sl
theorem zbdg_ (h : H) {a : SP} (ha : a.Sm) : run XP zpf_ [a.v] h = some (a.v, h) := by
  have h1 := fun h => zbcq_ h ha.an (by have := ha.al; omega)
  have h2 := fun h => zbcr_ h ha.ln (by have := ha.ll; omega)
  rw [run_eq, zcaf_]
  simp -implicitDefEqProofs [zlq_, SP.v, h1, h2, zbcp_, zav_, optEq]
def long (a : AT) : Bool := decide (255 < a.val.t.size)
theorem zcpn_ (h : H) (a : AT) : run XP zpe_ [a.v] h = some (vb (long a), h) := by
  have e : decide ((255 : Int) < (a.val.t.size : Int)) = long a := by
    unfold long
    congr 1
    exact propext ⟨fun h => by omega, fun h => by omega⟩
  rw [run_eq, zbzx_, ← e]
  simp -implicitDefEqProofs [zln_, AT.v]
def chkF : List SP → Int
  | [] => 0
  | a :: r => if chkSp a ≠ 0 then chkSp a else chkF r
def longS (a : SP) : Bool := a.ats.any long
theorem zcpo_ (h : H) {a : SP} (ha : a.Sm) (hl : a.ats.length ≤ 100000) : run XP zpd_ [lv 4 (slc AT.v a.ats a.an), .fn zpe_ [] []] h = some (vb (longS a), h) :=
  zcpl_ (a := []) (b := []) (rd_slc h 4 AT.v ha.an) rfl (fun _ _ => rfl) (fun e _ => zcpn_ h e) hl
def bkV (es : List SP) : V := .fptr (.agg [nl es]) 0
def sumA : List SP → Nat
  | [] => 0
  | a :: r => a.ats.length + sumA r
def sumL : List SP → Nat
  | [] => 0
  | a :: r => a.lks.length + sumL r
def madE (es : List SP) : Int := if 4096 < es.length ∨ 4096 < sumA es ∨ 4096 < sumL es then 6 else 0
theorem zcpp_ {es : List SP} : ∀ {k : Nat} {e : SP}, es[k]? = some e → sumA (es.take (k + 1)) = sumA (es.take k) + e.ats.length := by
  induction es with
  | nil => intro k e h; simp at h
  | cons a r ih =>
    intro k e h
    cases k with
    | zero => simp only [List.getElem?_cons_zero, Option.some.injEq] at h; subst h; simp [sumA]
    | succ k =>
      have := ih (k := k) (e := e) (by simpa using h)
      simp only [List.take_succ_cons, sumA, this]
      omega
theorem zcpq_ {es : List SP} : ∀ {k : Nat} {e : SP}, es[k]? = some e → sumL (es.take (k + 1)) = sumL (es.take k) + e.lks.length := by
  induction es with
  | nil => intro k e h; simp at h
  | cons a r ih =>
    intro k e h
    cases k with
    | zero => simp only [List.getElem?_cons_zero, Option.some.injEq] at h; subst h; simp [sumL]
    | succ k =>
      have := ih (k := k) (e := e) (by simpa using h)
      simp only [List.take_succ_cons, sumL, this]
      omega
structure SP.Bk (a : SP) : Prop where
  al : a.ats.length ≤ 100000
  ll : a.lks.length ≤ 100000
  an : a.an = true → a.ats = []
  ln : a.ln = true → a.lks = []
theorem SP.Bk.sm {a : SP} (h : a.Bk) : a.Sm := ⟨by have := h.al; omega, by have := h.ll; omega, h.an, h.ln⟩
theorem zcpr_ {es : List SP} (hs : ∀ e ∈ es, e.Bk) : sumA es ≤ es.length * 100000 := by
  induction es with
  | nil => exact Nat.le_refl _
  | cons a r ih =>
    have := (hs a (by simp)).al
    have := ih fun e he => hs e (by simp [he])
    simp only [sumA, List.length_cons]
    omega
theorem zcps_ {es : List SP} (hs : ∀ e ∈ es, e.Bk) : sumL es ≤ es.length * 100000 := by
  induction es with
  | nil => exact Nat.le_refl _
  | cons a r ih =>
    have := (hs a (by simp)).ll
    have := ih fun e he => hs e (by simp [he])
    simp only [sumL, List.length_cons]
    omega
theorem zcpt_ {es : List SP} (k : Nat) : sumA (es.take k) ≤ sumA es := by
  induction es generalizing k with
  | nil => simp
  | cons a r ih =>
    cases k with
    | zero => simp [sumA]
    | succ k => have := ih k; simp only [List.take_succ_cons, sumA]; omega
theorem zcpu_ {es : List SP} (k : Nat) : sumL (es.take k) ≤ sumL es := by
  induction es generalizing k with
  | nil => simp
  | cons a r ih =>
    cases k with
    | zero => simp [sumL]
    | succ k => have := ih k; simp only [List.take_succ_cons, sumL]; omega
end Go.Proofs.Sl
namespace Go.Proofs.Sl
def gl (es : List SP) : V := if es = [] then vnil else .own 14 (es.map SP.v)
theorem zcpv_ (es : List SP) : zap_ (gl es) = nl es := by unfold gl nl; split <;> rfl
theorem gl_nil : gl [] = vnil := rfl
theorem zcpw_ {β : Type} {f : Ex × St → Option β} {w : Option β} {base : Nat} {h : H} {v : V} {es : List SP} (hv : ∀ t, Rd (h ++ t) 14 v (es.map SP.v)) (hs : ∀ e ∈ es, e.Bk) (hl : es.length ≤ 100000)
    (hend : ∀ s t, Sees s [(0, v), (3, vi 0), (4, vi (sumA es)), (5, vi (sumL es))] → f (.exit 0, ⟨s, h ++ t⟩) = w)
    (s0 : Sl) (g : Sees s0 [(0, v), (3, vi 0), (4, vi 0), (5, vi 0), (11, v), (12, vi es.length), (13, vi 0)]) : ob (loopW (xcode (run XP) loopW base zpq_) ⟨s0, h⟩) f = w := by
  have hA := zcpr_ hs
  have hL := zcps_ hs
  refine zak_ es (fun k s h' => ∃ t, h' = h ++ t ∧ Sees s [(0, v), (3, vi 0), (4, vi (sumA (es.take k))), (5, vi (sumL (es.take k))), (11, v), (12, vi es.length), (13, vi k)]) ?_ ?_ _ _ ⟨[], by simp, by simpa [sumA, sumL] using g⟩
  · rintro B f' hB hf k e s h' he hk ⟨t, rfl, h0, h3, h4, h5, h11, h12, h13, -⟩ K
    have hlt : (k : Int) < es.length := by omega
    have hm := List.mem_of_getElem? he
    obtain ⟨q, hq, hld⟩ := (hv t).at (i := k) (e := e.v) (by simp [he])
    have hb := hs e hm
    have hat := zmv_ (v := AT.v) hb.an
    have hrt := zmv_ (v := RF.v) hb.ln
    have a1 := zcpp_ he
    have a2 := zcpq_ he
    have b1 := zcpt_ (es := es) (k + 1)
    have b2 := zcpu_ (es := es) (k + 1)
    have w0 : IntKind.i64.wrap ((k : Int) + 1) = (k : Int) + 1 := zae_ (by omega) (by omega)
    have w1 : IntKind.i64.wrap ((sumA (es.take k) : Int) + e.ats.length) = (sumA (es.take (k + 1)) : Int) := by rw [zae_ (by omega) (by omega)]; omega
    have w2 : IntKind.i64.wrap ((sumL (es.take k) : Int) + e.lks.length) = (sumL (es.take (k + 1)) : Int) := by rw [zae_ (by omega) (by omega)]; omega
    simp only [SP.v, V.cells] at hld
    simp -implicitDefEqProofs [hB, zpq_, h0, h3, h4, h5, h11, h12, h13, hlt, hq, hld, hat, hrt, w1, w2]
    refine K _ _ ⟨_, rfl, ?_⟩
    simp [h0, h3, h11, h12, w0]
  · rintro B hB s h' ⟨t, rfl, h0, h3, h4, h5, h11, h12, h13, -⟩
    rw [List.take_length] at h4 h5
    simp -implicitDefEqProofs [hB, zpq_, h12, h13]
    exact hend _ t (by simp [h0, h3, h4, h5])
theorem zcpx_ {β : Type} {f : Ex × St → Option β} {w : Option β} {h : H} {v : V} {es : List SP} (hv : ∀ t, Rd (h ++ t) 14 v (es.map SP.v)) (hs : ∀ e ∈ es, e.Bk) (hl : es.length ≤ 100000) {l : Nat}
    (hend : ∀ s t, Sees s [(3, vi 0), (8, .ptr l 0)] → (h ++ t)[l]? = some (.box false [gl es]) → f (.exit 2, ⟨s, h ++ t⟩) = w)
    (s0 : Sl) (t0 : H) (hb0 : h.length ≤ l) (hl0 : (h ++ t0)[l]? = some (.box false [vnil])) (g : Sees s0 [(3, vi 0), (8, .ptr l 0), (41, v), (42, vi es.length), (43, vi 0)]) : ob (loopW (xcode (run XP) loopW h.length zlo_) ⟨s0, h ++ t0⟩) f = w := by
  refine zak_ es (fun k s h' => ∃ t, h' = h ++ t ∧ h'[l]? = some (.box false [gl (es.take k)]) ∧ Sees s [(3, vi 0), (8, .ptr l 0), (41, v), (42, vi es.length), (43, vi k)]) ?_ ?_ _ _ ⟨t0, rfl, by rw [List.take_zero, gl_nil]; exact hl0, by simpa using g⟩
  · rintro B f' hB hf k e s h' he hk ⟨t, rfl, hbx, h3, h8, h41, h42, h43, -⟩ K
    have hlt : (k : Int) < es.length := by omega
    have hm := List.mem_of_getElem? he
    obtain ⟨q, hq, hld⟩ := (hv t).at (i := k) (e := e.v) (by simp [he])
    have hb := hs e hm
    have hcp := fun h => zbdg_ h hb.sm
    have hw1 := zdr_ e
    have hc1 : V.closed.closeds [e.v] = true := zaq_ [e]
    have w0 : IntKind.i64.wrap ((k : Int) + 1) = (k : Int) + 1 := zae_ (by omega) (by omega)
    have tk : es.take (k + 1) = es.take k ++ [e] := by rw [List.take_add_one, he]; rfl
    have hle : (es.take k).length = k := by rw [List.length_take]; omega
    have hc14 : ∀ (P : List SP), wide 14 (P.map SP.v) = true := zeo_
    have hhl : ¬ l < h.length := by omega
    obtain ⟨u, hu⟩ : ∃ u, u = l - h.length := ⟨_, rfl⟩
    obtain rfl : l = h.length + u := by omega
    have hx : ∀ x : H, (t ++ x)[u]? = some (.box false [gl (es.take k)]) := fun x => by
      rw [at_app u] at hbx
      rw [List.getElem?_append_left (List.getElem?_eq_some_iff.1 hbx).1]
      exact hbx
    have hut : u < t.length := by
      rw [at_app u] at hbx
      exact (List.getElem?_eq_some_iff.1 hbx).1
    have hset : ∀ (x : H) (y : O), ((t ++ x).set u y)[u]? = some y := fun x y => List.getElem?_set_self (by simp; omega)
    have hmin : min k es.length = k := by omega
    simp only [SP.v, V.cells] at hld hcp hw1 hc1
    by_cases hk0 : es.take k = []
    · rw [hk0, gl_nil] at hx
      simp -implicitDefEqProofs [hB, zlo_, h3, h8, h41, h42, h43, hlt, hq, hld, hcp, hw1, hc1, hx, hle, hset, zav_, optEq]
      refine K _ _ ⟨_, rfl, ?_, ?_⟩
      · rw [at_app u]
        simp [gl, tk, hk0, SP.v, hset]
      · simp [h3, h8, h41, h42, w0]
    · have hgl : gl (es.take k) = .own 14 ((es.take k).map SP.v) := by rw [gl, if_neg hk0]
      rw [hgl] at hx
      have hk1 : k ≤ 837723144971 := by omega
      simp -implicitDefEqProofs [hB, zlo_, h3, h8, h41, h42, h43, hlt, hq, hld, hcp, hw1, hc1, hx, hle, hk1, hset, hmin, zav_, optEq]
      refine K _ _ ⟨_, rfl, ?_, ?_⟩
      · rw [at_app u, hset]
        simp [gl, tk, hk0, SP.v]
      · simp [h3, h8, h41, h42, w0]
  · rintro B hB s h' ⟨t, rfl, hbx, h3, h8, h41, h42, h43, -⟩
    rw [List.take_length] at hbx
    simp -implicitDefEqProofs [hB, zlo_, h42, h43]
    exact hend _ t (by simp [h3, h8]) hbx
end Go.Proofs.Sl
namespace Go.Proofs.Sl
theorem zbdh_ (es : List SP) : (nl es).closed = true := by unfold nl; split <;> rfl
def mdV (es : List SP) : V := if madE es = 0 then bkV es else vnp
theorem zcpy_ {h : H} {v : V} {es : List SP} (hv : ∀ t, Rd (h ++ t) 14 v (es.map SP.v)) (hs : ∀ e ∈ es, e.Bk) (hl : es.length ≤ 100000) :
    run XP zub_ [v] h = some (.tup [mdV es, vi (madE es)], h) := by
  have hv0 := hv []
  rw [List.append_nil] at hv0
  rw [run_eq, zbzy_]
  simp -implicitDefEqProofs [zlp_, hv0.toL]
  refine zcpw_ hv hs hl ?_ _ (by simp)
  rintro s t ⟨h0, h3, h4, h5, -⟩
  have hvt := hv t
  by_cases c1 : 4096 < es.length
  · have c1' : (4096 : Int) < es.length := by omega
    have e6 : madE es = 6 := by rw [madE, if_pos (.inl c1)]
    simp -implicitDefEqProofs [h0, h3, h4, h5, hvt.toL, c1, c1', e6, mdV]
  · have c1' : ¬ (4096 : Int) < es.length := by omega
    by_cases c2 : 4096 < sumA es
    · have c2' : (4096 : Int) < sumA es := by omega
      have e6 : madE es = 6 := by rw [madE, if_pos (.inr (.inl c2))]
      simp -implicitDefEqProofs [h0, h3, h4, h5, hvt.toL, c1, c1', c2, c2', e6, mdV]
    · have c2' : ¬ (4096 : Int) < sumA es := by omega
      by_cases c3 : 4096 < sumL es
      · have c3' : (4096 : Int) < sumL es := by omega
        have e6 : madE es = 6 := by rw [madE, if_pos (.inr (.inr c3))]
        simp -implicitDefEqProofs [h0, h3, h4, h5, hvt.toL, c1, c1', c2, c2', c3, c3', e6, mdV]
      · have c3' : ¬ (4096 : Int) < sumL es := by omega
        have e0 : madE es = 0 := by rw [madE, if_neg (by omega)]
        have hvt2 := fun x : H => (hv (t ++ x)).toL
        simp -implicitDefEqProofs [h0, h3, h4, h5, hvt.toL, hvt2, c1, c1', c2, c2', c3, c3', e0, mdV]
        refine zcpx_ (l := h.length + t.length) hv hs hl ?_ _ _ (by omega) ?_ ?_
        · rintro s t2 ⟨g3, g8, -⟩ hbx
          have hn : ¬ h.length + t.length < h.length := by omega
          have hr := zcpv_ es
          have hc := zbdh_ es
          simp -implicitDefEqProofs [g3, g8, hbx, hn, hr, hc, bkV, V.closed]
        · simp
        · simp [h3]
end Go.Proofs.Sl
namespace Go.Proofs.Sl
theorem zcpz_ {β : Type} {f : Ex × St → Option β} {w : Option β} {base : Nat} {h : H} {v : V} {es : List SP} (hv : ∀ t, Rd (h ++ t) 14 v (es.map SP.v)) (hs : ∀ e ∈ es, e.Sz) (hl : es.length ≤ 100000)
    (hret : ∀ s t, Sees s [(2, vnp), (3, vi (chkF es))] → chkF es ≠ 0 → f (.ret, ⟨s, h ++ t⟩) = w)
    (hend : ∀ s t, Sees s [(0, v)] → chkF es = 0 → f (.exit 0, ⟨s, h ++ t⟩) = w)
    (s0 : Sl) (g : Sees s0 [(0, v), (12, v), (13, vi es.length), (14, vi 0)]) : ob (loopW (xcode (run XP) loopW base zlf_) ⟨s0, h⟩) f = w := by
  refine zak_ es (fun k s h' => ∃ t, h' = h ++ t ∧ Sees s [(0, v), (12, v), (13, vi es.length), (14, vi k)] ∧ chkF es = chkF (es.drop k)) ?_ ?_ _ _ ⟨[], by simp, by simpa using g, rfl⟩
  · rintro B f' hB hf k e s h' he hk ⟨t, rfl, ⟨h0, h12, h13, h14, -⟩, hx⟩ K
    have hlt : (k : Int) < es.length := by omega
    have hm := List.mem_of_getElem? he
    obtain ⟨q, hq, hld⟩ := (hv t).at (i := k) (e := e.v) (by simp [he])
    have hck := fun h => zbdf_ h (hs e hm)
    have w0 : IntKind.i64.wrap ((k : Int) + 1) = (k : Int) + 1 := zae_ (by omega) (by omega)
    rw [zau_ he, chkF] at hx
    simp only [SP.v, V.cells] at hld hck
    by_cases hc : chkSp e = 0
    · rw [if_neg (by simpa using hc)] at hx
      rw [hc] at hck
      simp -implicitDefEqProofs [hB, zlf_, h0, h12, h13, h14, hlt, hq, hld, hck]
      refine K _ _ ⟨_, rfl, ?_, hx⟩
      simp [h0, h12, h13, w0]
    · rw [if_pos hc] at hx
      have hr := fun s t g => hret s t g (by rw [hx]; exact hc)
      rw [hx] at hr
      generalize chkSp e = z at *
      have hnz : (z != 0) = true := by simpa using hc
      simp -implicitDefEqProofs [hB, hf, hnz, zlf_, h0, h12, h13, h14, hlt, hq, hld, hck, hc]
      refine hr _ _ ?_
      simp
  · rintro B hB s h' ⟨t, rfl, ⟨h0, h12, h13, h14, -⟩, hx⟩
    rw [List.drop_of_length_le (Nat.le_refl _)] at hx
    simp -implicitDefEqProofs [hB, zlf_, h13, h14]
    exact hend _ t (by simp [h0]) hx
theorem zcqa_ {β : Type} {f : Ex × St → Option β} {w : Option β} {base : Nat} {h t0 : H} {v : V} {es : List SP} (hv : ∀ t, Rd (h ++ t) 14 v (es.map SP.v)) (hs : ∀ e ∈ es, e.Bk) (hl : es.length ≤ 100000)
    (hret : ∀ s t, Sees s [(2, vnp), (3, vi 5)] → es.any longS = true → f (.ret, ⟨s, h ++ t⟩) = w)
    (hend : ∀ s t, Sees s [(0, v)] → es.any longS = false → f (.exit 2, ⟨s, h ++ t⟩) = w)
    (s0 : Sl) (g : Sees s0 [(0, v), (24, v), (25, vi es.length), (26, vi 0)]) : ob (loopW (xcode (run XP) loopW base zlg_) ⟨s0, h ++ t0⟩) f = w := by
  refine zak_ es (fun k s h' => ∃ t, h' = h ++ t ∧ Sees s [(0, v), (24, v), (25, vi es.length), (26, vi k)] ∧ es.any longS = (es.drop k).any longS) ?_ ?_ _ _ ⟨t0, rfl, by simpa using g, rfl⟩
  · rintro B f' hB hf k e s h' he hk ⟨t, rfl, ⟨h0, h24, h25, h26, -⟩, hx⟩ K
    have hlt : (k : Int) < es.length := by omega
    have hm := List.mem_of_getElem? he
    obtain ⟨q, hq, hld⟩ := (hv t).at (i := k) (e := e.v) (by simp [he])
    have hbk := hs e hm
    have hlo := fun h => zcpo_ h hbk.sm hbk.al
    have w0 : IntKind.i64.wrap ((k : Int) + 1) = (k : Int) + 1 := zae_ (by omega) (by omega)
    rw [zau_ he, List.any_cons] at hx
    simp only [SP.v, V.cells] at hld
    cases hc : longS e with
    | false =>
      rw [hc, Bool.false_or] at hx
      rw [hc] at hlo
      simp -implicitDefEqProofs [hB, zlg_, h0, h24, h25, h26, hlt, hq, hld, hlo]
      refine K _ _ ⟨_, rfl, ?_, hx⟩
      simp [h0, h24, h25, w0]
    | true =>
      rw [hc, Bool.true_or] at hx
      rw [hc] at hlo
      simp -implicitDefEqProofs [hB, hf, zlg_, h0, h24, h25, h26, hlt, hq, hld, hlo]
      refine hret _ _ ?_ hx
      simp
  · rintro B hB s h' ⟨t, rfl, ⟨h0, h24, h25, h26, -⟩, hx⟩
    rw [List.drop_of_length_le (Nat.le_refl _)] at hx
    simp -implicitDefEqProofs [hB, zlg_, h25, h26]
    exact hend _ t (by simp [h0]) hx
structure SA (h h2 : H) (v : V) (es : List SP) : Prop where
  a0 : arg0 v = some v
  len : h2.length = h.length
  val : ∃ v2, LV v2 es ∧ ∀ t, run XP zfl_ [v] (h ++ t) = some (.fn zcl_ [] [.fptr (.agg [v2]) 0], h2 ++ t)
  rd : ∀ t, Rd (h ++ t) 14 v (es.map SP.v)
  rd2 : ∀ t, Rd (h2 ++ t) 14 v (es.map SP.v)
theorem SA.lst {v : V} {es : List SP} (l : LV v es) (h : H) : SA h h v es :=
  ⟨by rcases l with ⟨rfl, rfl⟩ | rfl <;> rfl, rfl, ⟨v, l, fun t => zbcz_ l⟩, fun t => l.rd _, fun t => l.rd _⟩
theorem SA.ref {h : H} {l : Nat} {z : Bool} {es : List SP} (he : h[l]? = some (.arr z 14 (es.map SP.v))) : SA h (h.set l (.arr true 14 (es.map SP.v))) (.ref l es.length) es := by
  have hl := (List.getElem?_eq_some_iff.1 he).1
  have h3 : ∀ t, (h ++ t)[l]? = some (.arr z 14 (es.map SP.v)) := fun t => by rw [List.getElem?_append_left hl]; exact he
  refine ⟨rfl, by simp, ⟨_, .inr rfl, fun t => ?_⟩, fun t => ?_, fun t => ?_⟩
  · rw [zcpa_ (h3 t), List.set_append_left _ _ hl]
  · have := Rd.ref (h := h ++ t) (k := 14) l z (es.map SP.v) (h3 t)
    rwa [List.length_map] at this
  · have := Rd.ref (h := h.set l (.arr true 14 (es.map SP.v)) ++ t) (k := 14) l true (es.map SP.v) (by rw [List.getElem?_append_left (by simpa using hl), List.getElem?_set_self hl])
    rwa [List.length_map] at this
theorem SA.set {h h2 : H} {v : V} {es : List SP} (a : SA h h2 v es) (hs : ∀ e ∈ es, e.Sm) (hn : es.length ≤ 100000) (t : H) : run XP zfj_ [v] (h ++ t) = some (ow (dst es), h2 ++ t) := by
  obtain ⟨v2, hl, hval⟩ := a.val
  exact zbda_ hl a.a0 (hval t) (by simp [a.len]) hs hn
def blE0 (es : List SP) : Int := if 4096 < es.length then 6 else if chkF es ≠ 0 then chkF es else if es.any longS = true then 5 else 0
def blE (es : List SP) : Int := if blE0 es ≠ 0 then blE0 es else madE (dst es)
def blV (es : List SP) : V := if blE es = 0 then bkV (dst es) else vnp
theorem zcqb_ {h h2 : H} {v : V} {es : List SP} (a : SA h h2 v es) (hb : ∀ e ∈ es, e.Bk) (hs : ∀ e ∈ es, e.Sz) (hl : es.length ≤ 100000) :
    run XP ztu_ [v] h = some (.tup [blV es, vi (blE es)], if blE0 es ≠ 0 then h else h2) := by
  have hv0 := a.rd []
  rw [List.append_nil] at hv0
  have hS := a.set (fun e he => (hb e he).sm) hl
  have ha0 := a.a0
  have hM := fun h => zcpy_ (h := h) (v := nl (dst es)) (es := dst es) (fun t => (nl_LV _).rd _) (fun e he => hb e (zca_ he)) (by have := zep_ es; omega)
  rw [run_eq, zbzl_]
  by_cases c1 : 4096 < es.length
  · have c1' : (4096 : Int) < es.length := by omega
    have e0 : blE0 es = 6 := by rw [blE0, if_pos c1]
    have e1 : blE es = 6 := by rw [blE, e0]; rfl
    simp -implicitDefEqProofs [zhq_, hv0.toL, c1, c1', e0, e1, blV]
  · have c1' : ¬ (4096 : Int) < es.length := by omega
    simp -implicitDefEqProofs [zhq_, hv0.toL, c1, c1']
    refine zcpz_ a.rd hs hl ?_ ?_ _ (by simp)
    · rintro s t ⟨g2, g3, -⟩ hz
      have e0 : blE0 es = chkF es := by rw [blE0, if_neg c1, if_pos hz]
      have e1 : blE es = chkF es := by rw [blE, e0, if_pos hz]
      simp -implicitDefEqProofs [g2, g3, e0, e1, hz, blV]
    · rintro s t ⟨g0, -⟩ hz
      have hvt := (a.rd t).toL
      simp -implicitDefEqProofs [g0, hvt]
      refine zcqa_ a.rd hb hl ?_ ?_ _ (by simp [g0])
      · rintro s t ⟨g2, g3, -⟩ hy
        have e0 : blE0 es = 5 := by rw [blE0, if_neg c1, if_neg (by simpa using hz), if_pos hy]
        have e1 : blE es = 5 := by rw [blE, e0]; rfl
        simp -implicitDefEqProofs [g2, g3, e0, e1, blV]
      · rintro s t ⟨g0, -⟩ hy
        have e0 : blE0 es = 0 := by rw [blE0, if_neg c1, if_neg (by simpa using hz), if_neg (by simp [hy])]
        have e1 : blE es = madE (dst es) := by rw [blE, e0]; rfl
        have ln := a.len
        have htk : (h2 ++ t).take h.length = h2 := by rw [← ln]; simp
        have hn0 := zbo_ (dst es)
        have e2 : mdV (dst es) = blV es := by rw [mdV, blV, e1]
        have hbv : retV h.length (h2 ++ t) .f (blV es) [] = some (blV es, []) := by
          rw [blV]
          split
          · rfl
          · rfl
        have hr0 : res0 (blV es) = blV es := by rw [blV]; split <;> rfl
        rw [e2] at hM
        have hn1 := zds_ (dst es)
        simp -implicitDefEqProofs [g0, ha0, hS, hn0, hn1, hM, e0, e1, htk, hbv, hr0]
end Go.Proofs.Sl
namespace Go.Proofs.Sl
theorem zbdi_ {α : Type} (p : α → Bool) : ∀ (es : List α) (k : Nat), (ixF p es k = -1 ∧ es.filter (fun e => !p e) = es) ∨ ∃ i e, ixF p es k = ((k + i : Nat) : Int) ∧ es[i]? = some e ∧ p e = true ∧ (es.take i).filter (fun e => !p e) = es.take i
  | [], k => .inl ⟨rfl, rfl⟩
  | e :: r, k => by
    cases h : p e with
    | true => exact .inr ⟨0, e, by rw [ixF, if_pos h]; simp, rfl, h, rfl⟩
    | false =>
      rcases zbdi_ p r (k + 1) with ⟨h1, h2⟩ | ⟨i, d, h1, h2, h3, h4⟩
      · exact .inl ⟨by rw [ixF, if_neg (by simp [h]), h1], by rw [List.filter_cons, if_pos (by simp [h]), h2]⟩
      · exact .inr ⟨i + 1, d, by rw [ixF, if_neg (by simp [h]), h1]; congr 1; omega, by simpa using h2, h3, by rw [List.take_succ_cons, List.filter_cons, if_pos (by simp [h]), h4]⟩
set_option maxHeartbeats 2000000 in
theorem zcqc_ {h : H} {l : Nat} {es : List SP} (he : h[l]? = some (.arr false 14 (es.map SP.v))) {f : Nat} {a b : List V} {p : SP → Bool} (hfa : arg0 (.fn f a b) = some (.fn f a b)) (hg : ∀ e ∈ es, arg0s (a ++ e.v :: b) = some (a ++ e.v :: b))
    (hp : ∀ e ∈ es, ∀ o t, run XP f (a ++ e.v :: b) (h.set l o ++ t) = some (vb (p e), h.set l o ++ t)) (hn : es.length ≤ 100000) :
    ∃ r, run XP zjp_ [.ref l es.length, .fn f a b] h = some r ∧ ((r = (.ref l es.length, h) ∧ es.filter (fun e => !p e) = es) ∨ ∃ o, r = (.lst 14 ((es.filter fun e => !p e).map SP.v), h.set l o)) := by
  have hl : l < h.length := (List.getElem?_eq_some_iff.1 he).1
  have hset : ∀ (o : O) (t : H), (h.set l o ++ t)[l]? = some o := fun o t => by rw [List.getElem?_append_left (by simpa using hl), List.getElem?_set_self hl]
  have hsame : h.set l (.arr false 14 (es.map SP.v)) = h := zbcw_ he
  have hrd := Rd.ref (h := h) (k := 14) l false (es.map SP.v) he
  rw [List.length_map] at hrd
  have hI := zwb_ (h := h) (f := f) (a := a) (b := b) (p := p) hrd hg (fun e hm => by have := hp e hm (.arr false 14 (es.map SP.v)) []; rwa [hsame, List.append_nil] at this) hn
  rcases zbdi_ p es 0 with ⟨h1, h2⟩ | ⟨i, d, h1, h2, h3, h4⟩
  · refine ⟨_, ?_, .inl ⟨rfl, h2⟩⟩
    rw [h1] at hI
    rw [run_eq, zvf_]
    simp -implicitDefEqProofs [zfu_, hfa, hI, hl]
  · rw [h1, Nat.zero_add] at hI
    have hin : i < es.length := (List.getElem?_eq_some_iff.1 h2).1
    refine ⟨_, ?_, .inr ⟨.arr true 14 ((es.filter fun e => !p e).map SP.v ++ List.replicate (es.length - (es.filter fun e => !p e).length) zSP), rfl⟩⟩
    have hi1 : ((i : Int) == -1) = false := by simp
    have hw : IntKind.i64.wrap ((i : Int) + 1) = ((i + 1 : Nat) : Int) := by rw [zae_ (by omega) (by omega)]; omega
    have hf1 : (es.take (i + 1)).filter (fun e => !p e) = es.take i := by
      rw [List.take_add_one, h2, List.filter_append, h4]
      simp [h3]
    have hlm : (es.map SP.v).length = es.length := by simp
    rw [run_eq, zvf_]
    simp -implicitDefEqProofs [zfu_, hfa, hI, hi1, hw]
    refine zeh_ (σ := Nat) (fun j => es.length - j) (fun j s h' => ∃ (ws out : List SP) (t : H), Sees s [(0, .ref l es.length), (1, .fn f a b), (5, vi out.length), (6, vi j)] ∧ h' = h.set l (.arr false 14 (ws.map SP.v)) ++ t ∧
      ws.length = es.length ∧ ws.take out.length = out ∧ out.length < j ∧ j ≤ es.length ∧ (∀ q, j ≤ q → ws[q]? = es[q]?) ∧ (es.take j).filter (fun e => !p e) = out) ?_ (i + 1) _ _ ?_
    rotate_left
    · refine ⟨es, es.take i, [], ?_, by rw [hsame, List.append_nil], rfl, by simp [Nat.min_eq_left (Nat.le_of_lt hin)], by rw [List.length_take]; omega, hin, fun _ _ => rfl, hf1⟩
      simp [Nat.min_eq_left (Nat.le_of_lt hin)]
    rintro B f' hB hf j s h' ⟨ws, out, t, ⟨z0, z1, z5, z6, -⟩, rfl, hwl, hwo, hol, hjn, hwe, hfl⟩ K
    have hwl' : (ws.map SP.v).length = es.length := by simp [hwl]
    have hH := fun t => hset (.arr false 14 (ws.map SP.v)) t
    have htoL : V.toL (h.set l (.arr false 14 (ws.map SP.v)) ++ t) (.ref l es.length) = some (ws.map SP.v) := by
      have := (Rd.ref (h := h.set l (.arr false 14 (ws.map SP.v)) ++ t) (k := 14) l false (ws.map SP.v) (hH t)).toL
      rwa [hwl'] at this
    have hw3 : IntKind.i64.wrap ((j : Int) + 1) = (j : Int) + 1 := zae_ (by omega) (by omega)
    have hw4 : IntKind.i64.wrap ((out.length : Int) + 1) = (out.length : Int) + 1 := zae_ (by omega) (by omega)
    by_cases hjl : j < es.length
    · have hjlt : (j : Int) < es.length := by omega
      obtain ⟨e, he1⟩ : ∃ e, es[j]? = some e := ⟨_, List.getElem?_eq_getElem hjl⟩
      have hm := List.mem_of_getElem? he1
      have w1 : ws[j]? = some e := by rw [hwe _ (Nat.le_refl _), he1]
      have ia := fun t => zna_ (hH t) hwl' hjl
      have ib := fun t => zna_ (hH t) hwl' (Nat.lt_trans hol hjl)
      have ld := fun t => zmz_ (hH t) hwl w1
      have hpe := hp e hm (.arr false 14 (ws.map SP.v))
      have hge := hg e hm
      have hta : es.take (j + 1) = es.take j ++ [e] := by rw [List.take_add_one, he1]; rfl
      cases hc : p e with
      | true =>
        have hfl' : (es.take (j + 1)).filter (fun e => !p e) = out := by rw [hta, List.filter_append, hfl]; simp [hc]
        rw [hc] at hpe
        simp only [SP.v] at ld hpe hge
        simp -implicitDefEqProofs [hB, zpz_, z0, z1, z5, z6, htoL, hwl, hjlt, ia, ld, hpe, hge]
        refine K (j + 1) _ _ (by omega) ⟨ws, out, _, ?_, rfl, hwl, hwo, by omega, by omega, fun q hq => hwe q (by omega), hfl'⟩
        simp [z0, z1, z5, hw3]
      | false =>
        have hfl' : (es.take (j + 1)).filter (fun e => !p e) = out ++ [e] := by rw [hta, List.filter_append, hfl]; simp [hc]
        have sb := fun t => zbcu_ (base := h.length) (hH t) hwl (Nat.lt_trans hol hjl) e
        have sa : ∀ t o, (h.set l (.arr false 14 (ws.map SP.v)) ++ t).set l o = h.set l o ++ t := fun t o => by rw [List.set_append_left _ _ (by simpa using hl), List.set_set]
        rw [hc] at hpe
        simp only [SP.v, sa] at ld hpe hge sb
        simp -implicitDefEqProofs [hB, zpz_, z0, z1, z5, z6, htoL, hwl, hjlt, ia, ib, ld, hpe, hge, sb]
        refine K (j + 1) _ _ (by omega) ⟨ws.set out.length e, out ++ [e], _, ?_, by rw [List.map_set], by simp [hwl], ?_, by simp; omega, by omega, fun q hq => ?_, hfl'⟩
        · simp [z0, z1, hw3, hw4]
        · rw [List.length_append, List.length_singleton, List.take_add_one, List.take_set, List.set_eq_of_length_le (by simp; omega), hwo, List.getElem?_set_self (by omega)]
          rfl
        · rw [List.getElem?_set_ne (by omega)]
          exact hwe q (by omega)
    · obtain rfl : j = es.length := by omega
      rw [List.take_length] at hfl
      subst hfl
      have hmle : (es.filter fun e => !p e).length ≤ es.length := List.length_filter_le _ _
      generalize es.filter (fun e => !p e) = out at *
      have sa : ∀ x t o, (h.set l x ++ t).set l o = h.set l o ++ t := fun x t o => by rw [List.set_append_left _ _ (by simpa using hl), List.set_set]
      simp -implicitDefEqProofs [hB, hf, zpz_, z0, z1, z5, z6, htoL, hH, hwl, hmle, sa, hset]
      have htk : (ws.map SP.v).take out.length = out.map SP.v := by rw [← List.map_take, hwo]
      rw [htk]
      refine ⟨?_, rfl, rfl⟩
      have h1 := zbcs_ (out.map SP.v) (List.replicate (es.length - out.length) zSP)
      rw [zaq_, zbct_, Bool.and_self] at h1
      exact h1
end Go.Proofs.Sl
namespace Go.Proofs.Sl
theorem zcqd_ (h : H) (n : Int) : run XP zsy_ [vi n] h = some (vi (n.fdiv 1048576), h) := by
  rw [run_eq, zbxw_]
  simp -implicitDefEqProofs [zkk_, zsm_]
  rfl
theorem zcqe_ (h : H) (n : Int) : run XP zon_ [vi n] h = some (vi ((n.fdiv 1048576).fdiv 16), h) := by
  have h1 := fun h => zcqd_ h n
  rw [run_eq, zbxx_]
  simp -implicitDefEqProofs [zkl_, h1, zsm_]
  rfl
end Go.Proofs.Sl
namespace Go.Proofs.Sl
theorem zcqf_ (a b : List Int) : il (a ++ b) = il a ++ il b := by simp [il]
theorem zbdj_ : ∀ l : List Int, wide 1 (il l) = true
  | [] => rfl
  | n :: l => by
    have := zbdj_ l
    simp only [il] at this
    simp only [il, List.map_cons, wide, this, Bool.and_true]
    rfl
theorem zbdk_ : ∀ l : List Int, V.closed.closeds (il l) = true
  | [] => rfl
  | n :: l => by
    have := zbdk_ l
    simp only [il] at this
    simp only [il, List.map_cons, V.closed.closeds, this, Bool.and_true]
    rfl
structure At3 (h : H) (n : Nat) (ca cb : List V) (ns : List Int) : Prop where
  a : h[n]? = some (.box false ca)
  b : h[n + 1]? = some (.box false cb)
  l : h[n + 2]? = some (.arr false 1 (il ns))
theorem At3.app {h : H} {n : Nat} {ca cb : List V} {ns : List Int} (A : At3 h n ca cb ns) (t : H) : At3 (h ++ t) n ca cb ns := by
  have := (List.getElem?_eq_some_iff.1 A.l).1
  exact ⟨by rw [List.getElem?_append_left (by omega)]; exact A.a, by rw [List.getElem?_append_left (by omega)]; exact A.b, by rw [List.getElem?_append_left (by omega)]; exact A.l⟩
theorem At3.set {h : H} {n : Nat} {ca cb : List V} {ns : List Int} (A : At3 h n ca cb ns) (ms : List Int) : At3 (h.set (n + 2) (.arr false 1 (il ms))) n ca cb ms := by
  have := (List.getElem?_eq_some_iff.1 A.l).1
  exact ⟨by rw [List.getElem?_set_ne (by omega)]; exact A.a, by rw [List.getElem?_set_ne (by omega)]; exact A.b, by rw [List.getElem?_set_self this]⟩
theorem At3.len {h : H} {n : Nat} {ca cb : List V} {ns : List Int} (A : At3 h n ca cb ns) : n + 2 < h.length := (List.getElem?_eq_some_iff.1 A.l).1
theorem At3.grow {h : H} {n : Nat} {ca cb : List V} {ns : List Int} (A : At3 h n ca cb ns) (ms : List Int) (hl : ns.length + ms.length ≤ 17592186044416) : zay_ h 1 17592186044416 (.ref (n + 2) ns.length) (.lst 1 (il ms)) = some (.ref (n + 2) (ns ++ ms).length, h.set (n + 2) (.arr false 1 (il (ns ++ ms)))) := by
  have h1 : arrN h (n + 2) ns.length = some (false, 1, il ns) := by simp [arrN, arrAt, A.l, zac_, zdq_]
  have ea : appEls h (.lst 1 (il ms)) = some (il ms) := rfl
  have hl' : ns.length + (il ms).length ≤ 17592186044416 := by rw [zdq_]; exact hl
  simp only [zay_, ea, zac_, zbdj_, zbdk_, and_self, if_true, h1, true_and, hl, zcqf_, List.length_append, zdq_]
end Go.Proofs.Sl
namespace Go.Proofs.Sl
theorem zcqg_ (s : Sl) (h : H) (k : Nat) (x i : Opd) : xread s h (.iaddr k x i) = ob (asNat (i.ev s)) fun i => iaddrV h k (x.ev s) i := Eq.trans rfl rfl
theorem zcqh_ (s : Sl) (h : H) (n : Nat) (g : Bool) (x : Opd) : xread s h (.load n g x) = xload h n g (x.ev s) := Eq.trans rfl rfl
theorem zcqi_ (s : Sl) (h : H) (x : Opd) : xread s h (.len false x) = ob ((x.ev s).toL h) fun es => some (vi es.length) := Eq.trans rfl rfl
section
variable {H0 : H} {n base : Nat} {ca cb : List V} {f : Ex × St → Option (V × H)} {w : Option (V × H)} {ns : List Int}
end
end Go.Proofs.Sl
namespace Go.Proofs.Sl
abbrev v8 (n : Nat) : V := .s (.int .u8 (n : Int))
structure MK where
  t : Nat
  i : Nat
  p : Nat
  r : Nat
  c : Nat
  k : Nat
  s : Nat
  v : Nat
  o : Nat
  st : Nat
  lo : Nat
  tg : Nat
  lk : Nat
  fl : Bool
def MK.val (m : MK) : V := .agg [v8 m.t, v8 m.i, v8 m.p, v8 m.r, v8 m.c, v8 m.k, v8 m.s, v8 m.v, v8 m.o, v8 m.st, v8 m.lo, v8 m.tg, v8 m.lk, vb m.fl]
structure MK.Ok (m : MK) : Prop where
  a : ∀ n ∈ [m.t, m.i, m.p, m.r, m.c, m.k, m.s, m.v, m.o, m.st, m.lo, m.tg, m.lk], n < 256
def svs : List ByteArray := [⟨#[97, 112, 105]⟩, ⟨#[100, 98]⟩, ⟨#[119, 101, 98]⟩]
def vrs : List ByteArray := [⟨#[]⟩, ⟨#[118, 49]⟩, ⟨#[118, 50]⟩]
def ops : List ByteArray := [⟨#[103, 101, 116]⟩, ⟨#[112, 117, 116]⟩]
def zns : List ByteArray := [⟨#[97]⟩, ⟨#[98]⟩, ⟨#[119, 101, 115, 116, 32, 49]⟩]
def mats (b : Nat) (n : Int) (z : ByteArray) : List AT := [⟨⟨#[111, 107]⟩, ⟨3, ⟨#[]⟩, b⟩⟩, ⟨⟨#[115, 105, 122, 101]⟩, ⟨2, ⟨#[]⟩, n⟩⟩, ⟨⟨#[122, 111, 110, 101]⟩, ⟨1, z, 0⟩⟩]
def mlks : Nat → Int → Int → List RF
  | 0, _, _ => []
  | 1, t, i => [⟨t, i⟩]
  | _, t, i => [⟨t, i⟩, ⟨t, i + 1⟩]
def tbl (l : List ByteArray) (n : Nat) : ByteArray := l.getD n ⟨#[]⟩
def MK.sp (m : MK) : SP := ⟨((m.t % 3 * 1048576 + 1 + m.t / 3 % 4 : Nat) : Int), ((1 + m.i % 4 : Nat) : Int), ((m.p % 5 : Nat) : Int), ((m.r % 3 : Nat) : Int), ((1 + m.c % 3 : Nat) : Int), ((1 + m.k % 5 : Nat) : Int), tbl svs (m.s % 3), tbl vrs (m.v % 3), tbl ops (m.o % 2), (m.st : Int) - 50, (m.st : Int) - 50 + ((m.lo % 40 : Nat) : Int), m.fl,
  (mats (m.tg / 4 % 2) ((m.tg : Int) - 60) (tbl zns (m.tg / 8 % 3))).take (m.tg % 4), mlks (m.lk % 3) ((1 + m.lk / 3 % 5 : Nat) : Int) ((1 + m.lk / 15 % 5 : Nat) : Int), false, m.lk % 3 == 0⟩
theorem tmodN (a b : Nat) : (a : Int).tmod (b : Int) = ((a % b : Nat) : Int) := rfl
theorem tdivN (a b : Nat) : (a : Int).tdiv (b : Int) = ((a / b : Nat) : Int) := rfl
theorem w8 {n : Nat} (h : n < 256) : IntKind.u8.wrap (n : Int) = (n : Int) := by rw [zqd_]; omega
theorem w64 {n : Int} (h : -1000000000 ≤ n ∧ n ≤ 1000000000) : IntKind.i64.wrap n = n := zae_ (by omega) (by omega)
theorem tbl_at {l : List ByteArray} {n : Nat} (h : n < l.length) : (l.map vs)[n]? = some (vs (tbl l n)) := by
  simp [tbl, h]
end Go.Proofs.Sl
namespace Go.Proofs.Sl
theorem MK.len (m : MK) : m.sp.ats.length ≤ 3 ∧ m.sp.lks.length ≤ 2 := by
  refine ⟨?_, ?_⟩
  · show ((mats _ _ _).take _).length ≤ 3
    rw [List.length_take]
    exact Nat.min_le_right _ _
  · show (mlks (m.lk % 3) _ _).length ≤ 2
    have : m.lk % 3 = 0 ∨ m.lk % 3 = 1 ∨ m.lk % 3 = 2 := by omega
    rcases this with h | h | h <;> rw [h] <;> simp [mlks]
theorem MK.an (m : MK) : m.sp.an = true → m.sp.ats = [] := fun h => by cases h
theorem MK.ln (m : MK) : m.sp.ln = true → m.sp.lks = [] := fun h => by
  have h0 : m.lk % 3 = 0 := by simpa [MK.sp] using h
  show mlks (m.lk % 3) _ _ = []
  rw [h0, mlks]
theorem MK.sm (m : MK) : m.sp.Sm := ⟨by have := m.len.1; omega, by have := m.len.2; omega, m.an, m.ln⟩
end Go.Proofs.Sl
namespace Go.Proofs.Sl
def sps (ms : List MK) : List SP := (ms.take 12).map MK.sp
structure SP.Ti (a : SP) : Prop where
  al : a.ats.length ≤ 1000
  ll : a.lks.length ≤ 1000
  an : a.an = true → a.ats = []
  ln : a.ln = true → a.lks = []
theorem SP.Ti.sm {a : SP} (h : a.Ti) : a.Sm := ⟨by have := h.al; omega, by have := h.ll; omega, h.an, h.ln⟩
theorem zcqj_ {h h2 : H} (htk : h2.take h.length = h) : ∃ t, h2 = h ++ t := ⟨h2.drop h.length, by
  have := List.take_append_drop h.length h2
  rw [htk] at this
  exact this.symm⟩
def sameL : List SP → List SP → Bool
  | [], [] => true
  | a :: x, b :: y => cmpS a b == 0 && sameL x y
  | _, _ => false
theorem znd_ : ∀ {x y : List SP}, sameL x y = true → x.length = y.length
  | [], [], _ => rfl
  | a :: x, b :: y, h => by
    rw [sameL, Bool.and_eq_true] at h
    rw [List.length_cons, List.length_cons, znd_ h.2]
  | [], b :: y, h => by simp [sameL] at h
  | a :: x, [], h => by simp [sameL] at h
end Go.Proofs.Sl
namespace Go.Proofs.Sl
end Go.Proofs.Sl
namespace Go.Proofs.Sl
theorem OutV.rd {x : V} {h : H} {b k : Nat} {es : List V} (o : OutV x h b k es) : Rd h k x es := by
  rcases o with ⟨rfl, rfl⟩ | ⟨q, _, _, rfl, h3⟩
  · exact .nil
  · exact .ref q false es h3
theorem zcqk_ (s : Sl) (h : H) (k : Nat) (x : Opd) (lo hi : Option Opd) : xread s h (.slLst k x lo hi) = slV h k (x.ev s) (evOpt s lo) (evOpt s hi) := Eq.trans rfl rfl
theorem zcql_ {h : H} {lim : Nat} {es ys : List V} {y : V} {n : Nat} (hn : es.length = n) (ey : appEls (h ++ [.arr false 14 es]) y = some ys) (hw : wide 14 ys = true) (hc : V.closed.closeds ys = true) (hl : es.length + ys.length ≤ lim) :
    zay_ (h ++ [.arr false 14 es]) 14 lim (.ref h.length n) y = some (.ref h.length (n + ys.length), h ++ [.arr false 14 (es ++ ys)]) := by
  subst hn
  rw [zjc_, ey, zac_, if_pos ⟨hw, hc⟩]
  simp [hl]
end Go.Proofs.Sl
namespace Go.Proofs.Sl
theorem ow_map (es : List SP) : (if es.map SP.v = [] then vnil else V.own 14 (es.map SP.v)) = ow es := by
  unfold ow
  by_cases hx : es = []
  · rw [hx]; rfl
  · rw [if_neg hx, if_neg (by simpa using hx)]
end Go.Proofs.Sl
namespace Go.Proofs.Sl
theorem zcqm_ (h : H) : run XP zou_ [vnil, vi 0] h = some (vnil, h) := by
  rw [znc_ zbbo_ rfl]
  rfl
theorem zcqn_ (h : H) {n : Int} (h0 : 0 < n) (hn : n ≤ 100000) : run XP zou_ [vnil, vi n] h = some (.own 14 [], h) := by
  rw [znc_ zbbo_ rfl]
  show (if 0 < n ∧ n ≤ (837723144972 : Nat) then some (V.own 14 [], h) else if n = 0 then some (vnil, h) else none) = _
  rw [if_pos ⟨h0, by omega⟩]
theorem zcw_ (es : List SP) : (nl es).plain = true := by unfold nl; split <;> simp
theorem zga_ {xs : List (List SP)} {k : Nat} {e : List SP} (h : xs[k]? = some e) : (xs.take (k + 1)).flatten = (xs.take k).flatten ++ e := by
  rw [List.take_add_one, h]
  simp
theorem zii_ {xs : List (List SP)} (k : Nat) : (xs.take k).flatten.length ≤ xs.flatten.length := by
  have := congrArg (fun l : List (List SP) => l.flatten.length) (List.take_append_drop k xs)
  simp only [List.flatten_append, List.length_append] at this
  omega
set_option maxHeartbeats 2000000 in
theorem zcqo_ (h : H) (xs : List (List SP)) (hn : xs.length ≤ 1000) (hl : xs.flatten.length ≤ 100000) : run XP zth_ [.lst 1 (xs.map nl)] h = some (ow xs.flatten, h) := by
  have at1 : ∀ {k : Nat} {e : List SP} (he : xs[k]? = some e) (h : H), ∃ p, iaddrV h 1 (.lst 1 (xs.map nl)) k = some p ∧ xload h 1 false p = some (nl e) := fun {k e} he h =>
    (Rd.lst (h := h) (k := 1) (xs.map nl)).at1 (by simp [he]) (zcw_ e)
  rw [run_eq, zbyp_]
  simp -implicitDefEqProofs [zky_]
  refine zak_ xs (fun k s h' => Sees s [(0, .lst 1 (xs.map nl)), (3, vi ((xs.take k).flatten.length : Int)), (9, .lst 1 (xs.map nl)), (10, vi xs.length), (11, vi k)] ∧ h' = h) ?_ ?_ _ _ ⟨by simp, rfl⟩
  · rintro B f' hB hf k e s h' he hk ⟨⟨h0, h3, h9, h10, h11, -⟩, rfl⟩ K
    have hlt : (k : Int) < xs.length := by omega
    obtain ⟨p, hp, hpl⟩ := at1 he h'
    have hL := ((nl_LV e).rd h').toL
    have hfu := congrArg List.length (zga_ he)
    rw [List.length_append] at hfu
    have hfl := zii_ (xs := xs) (k + 1)
    have hw : IntKind.i64.wrap ((k : Int) + 1) = (k : Int) + 1 := zae_ (by omega) (by omega)
    have hw2 : IntKind.i64.wrap (((xs.take k).flatten.length : Int) + e.length) = ((xs.take (k + 1)).flatten.length : Int) := by rw [zae_ (by omega) (by omega)]; omega
    have hng : ¬ ((xs.take (k + 1)).flatten.length : Int) < 0 := by omega
    generalize (xs.take (k + 1)).flatten.length = m at *
    generalize (xs.take k).flatten.length = m0 at *
    simp -implicitDefEqProofs [hB, zpm_, h0, h3, h9, h10, h11, hlt, hp, hpl, hL, hw2, hng]
    refine K _ _ ⟨?_, rfl⟩
    simp [h0, h9, h10, hw]
  · rintro B hB s h' ⟨⟨h0, h3, h9, h10, h11, -⟩, rfl⟩
    rw [List.take_of_length_le (Nat.le_refl _)] at h3
    by_cases hz : xs.flatten = []
    · have g0 := zcqm_
      rw [hz] at h3
      simp -implicitDefEqProofs [hB, zpm_, h0, h3, h9, h10, h11, g0]
      refine zak_ xs (fun k s h'' => Sees s [(6, vnil), (25, .lst 1 (xs.map nl)), (26, vi xs.length), (27, vi k)] ∧ h'' = h') ?_ ?_ _ _ ⟨by simp, rfl⟩
      · rintro B f' hB hf k e s h' he hk ⟨⟨h6, h25, h26, h27, -⟩, rfl⟩ K
        have hlt : (k : Int) < xs.length := by omega
        obtain ⟨p, hp, hpl⟩ := at1 he h'
        have hw : IntKind.i64.wrap ((k : Int) + 1) = (k : Int) + 1 := zae_ (by omega) (by omega)
        have hee : e = [] := by
          have := List.flatten_eq_nil_iff.1 hz e (List.mem_of_getElem? he)
          exact this
        subst hee
        rw [show nl [] = vnil from rfl] at hpl
        simp -implicitDefEqProofs [hB, zkx_, h6, h25, h26, h27, hlt, hp, hpl]
        refine K _ _ ⟨?_, rfl⟩
        simp [h25, h26, hw]
      · rintro B hB s h' ⟨⟨h6, h25, h26, h27, -⟩, rfl⟩
        simp -implicitDefEqProofs [hB, zkx_, h6, h25, h26, h27, hz, ow]
    · have hpos : 0 < xs.flatten.length := List.length_pos_iff.2 hz
      have g0 := fun h => zcqn_ h (n := (xs.flatten.length : Int)) (by omega) (by omega)
      generalize hN : (xs.flatten.length : Int) = N at *
      simp -implicitDefEqProofs [hB, zpm_, h0, h3, h9, h10, h11, g0]
      refine zak_ xs (fun k s h'' => Sees s [(6, .ref h'.length (xs.take k).flatten.length), (25, .lst 1 (xs.map nl)), (26, vi xs.length), (27, vi k)] ∧ h'' = h' ++ [.arr false 14 ((xs.take k).flatten.map SP.v)]) ?_ ?_ _ _ ⟨by simp, by simp⟩
      · rintro B f' hB hf k e s h'' he hk ⟨⟨h6, h25, h26, h27, -⟩, rfl⟩ K
        have hlt : (k : Int) < xs.length := by omega
        obtain ⟨p, hp, hpl⟩ := at1 he (h' ++ [.arr false 14 ((xs.take k).flatten.map SP.v)])
        have hw : IntKind.i64.wrap ((k : Int) + 1) = (k : Int) + 1 := zae_ (by omega) (by omega)
        have hfu := zga_ he
        have hfl := zii_ (xs := xs) (k + 1)
        rw [hfu, List.length_append] at hfl
        have A := zcql_ (h := h') (lim := 837723144972) (es := (xs.take k).flatten.map SP.v) (n := (xs.take k).flatten.length) (List.length_map _) ((nl_LV e).rd _).appEls (zeo_ e) (zaq_ e) (by simp only [List.length_map]; omega)
        rw [← List.map_append, ← hfu] at A
        have hln : (xs.take k).flatten.length + (e.map SP.v).length = (xs.take (k + 1)).flatten.length := by rw [hfu, List.length_append, List.length_map]
        rw [hln] at A
        generalize (xs.take (k + 1)).flatten = m at *
        generalize (xs.take k).flatten = m0 at *
        simp -implicitDefEqProofs [-zjc_, hB, zkx_, h6, h25, h26, h27, hlt, hp, hpl, A]
        refine K _ _ ⟨?_, rfl⟩
        simp [h25, h26, hw]
      · rintro B hB s h'' ⟨⟨h6, h25, h26, h27, -⟩, rfl⟩
        rw [List.take_of_length_le (Nat.le_refl _)] at h6
        have e5 := zaq_ xs.flatten
        have ho : OutV (.ref h'.length xs.flatten.length) (h' ++ [.arr false 14 (xs.flatten.map SP.v)]) h'.length 14 (xs.flatten.map SP.v) :=
          .inr ⟨h'.length, by simpa using hz, Nat.le_refl _, by rw [List.length_map], by simp⟩
        have hr := ho.ret e5
        rw [ow_map] at hr
        rw [List.take_of_length_le (Nat.le_refl _)]
        generalize xs.flatten = m at *
        simp -implicitDefEqProofs [hB, zkx_, h6, h25, h26, h27]
        exact ⟨e5, by rw [ow, if_neg hz]⟩
theorem zcqp_ (h : H) {a b : List SP} (ha : ∀ e ∈ a, e.Sm) (hb : ∀ e ∈ b, e.Sm) (la : a.length ≤ 1000) (lb : b.length ≤ 1000) : run XP zsz_ [nl a, nl b] h = some (nl (dst (a ++ b)), h) := by
  have hc := fun h => zcqo_ h [a, b] (by simp) (by simp; omega)
  have hm : ∀ e ∈ a ++ b, e.Sm := fun e he => by
    rcases List.mem_append.1 he with he | he
    · exact ha e he
    · exact hb e he
  have hs := fun h => zbda_ (h := h) (h2 := h) (nl_LV (a ++ b)) (zbo_ _) (zbcz_ (nl_LV (a ++ b))) rfl hm (by simp; omega)
  simp only [List.map_cons, List.map_nil, List.flatten_cons, List.flatten_nil, List.append_nil] at hc
  have n1 := zcw_ a
  have n2 := zcw_ b
  rw [run_eq, zbxz_]
  simp -implicitDefEqProofs [zkm_, zbo_, hc, hs, zds_, nl_ret, zbt_, n1, n2]
end Go.Proofs.Sl
namespace Go.Proofs.Sl
theorem zbdl_ (h : H) (es : List SP) : run XP zpc_ [bkV es] h = some (vi es.length, h) := by
  have hL := ((nl_LV es).rd h).toL
  have hp := zcw_ es
  rw [run_eq, zbzv_]
  simp -implicitDefEqProofs [zlj_, bkV, hL]
theorem zcqq_ (h : H) {es : List SP} {k : Nat} {a : SP} (ha : es[k]? = some a) (hb : a.Bk) (hn : es.length ≤ 100000) : run XP zuf_ [bkV es, vi k] h = some (.tup [a.v, vb true], h) := by
  have h1 := fun h => zbdl_ h es
  have hk := (List.getElem?_eq_some_iff.1 ha).1
  have hlt : ¬ (es.length : Int) ≤ k := by omega
  have hk0 : ¬ ((k : Int) < 0) := by omega
  have hc := fun h => zbdg_ h hb.sm
  have hi := fun h => nl_at ha h
  have hp := zcw_ es
  simp only [bkV] at h1
  simp only [SP.v, V.cells] at hc hi
  rw [run_eq, zcad_]
  simp -implicitDefEqProofs [zli_, bkV, h1, hlt, hk0, hc, hi, SP.v]
theorem zcqr_ (h : H) {es : List SP} (hb : ∀ e ∈ es, e.Bk) (hn : es.length ≤ 100000) : run XP zua_ [bkV es] h = some (ow es, h) := by
  have h1 := fun h => zbdl_ h es
  simp only [bkV] at h1
  rw [run_eq, zbzu_]
  simp -implicitDefEqProofs [zlh_, bkV, h1]
  refine zak_ es (fun k s h' => ∃ t, Sees s [(0, bkV es), (8, vi es.length), (9, vi k)] ∧ h' = h ++ t ∧ OutV (s 3) h' h.length 14 ((es.take k).map SP.v)) ?_ ?_ _ _ ?_
  rotate_left
  · rintro B hB s h' ⟨t, ⟨g0, g8, g9, -⟩, rfl, ho⟩
    rw [List.take_length] at ho
    have hr := ho.ret (zaq_ _)
    have hom := ow_map es
    simp -implicitDefEqProofs [hB, zus_, g8, g9]
    simp only [hr, hom]
    simp
  · exact ⟨[], by simp [bkV], by simp, .inl ⟨by simp, by simp⟩⟩
  · rintro B f' hB hf k e s h' he hk ⟨t, ⟨g0, g8, g9, -⟩, rfl, ho⟩ K
    have hlt : (k : Int) < es.length := by omega
    have hbe := hb e (List.mem_of_getElem? he)
    have hat := fun h => zcqq_ h he hbe hn
    have hw : IntKind.i64.wrap ((k : Int) + 1) = (k : Int) + 1 := zae_ (by omega) (by omega)
    have hw1 := zdr_ e
    have hc1 : V.closed.closeds [e.v] = true := zaq_ [e]
    have hmin : min k es.length = k := by omega
    have tk : es.take (k + 1) = es.take k ++ [e] := by rw [List.take_add_one, he]; rfl
    obtain ⟨x', h'', hap, ho', htk, hbl⟩ := (ho.app [.box false e.v.cells]).grow (lim := 837723144972) (by simp) hw1 hc1 (by simp [hmin]; omega)
    simp only [SP.v, V.cells, bkV] at hat hap hw1 hc1 g0
    rw [List.append_assoc] at hap
    have htk' : ∃ t', h'' = h ++ t' := ⟨h''.drop h.length, by
      have := List.take_append_drop h.length h''
      rw [htk] at this
      rw [List.append_assoc, List.take_left] at this
      exact this.symm⟩
    obtain ⟨t', rfl⟩ := htk'
    simp -implicitDefEqProofs [hB, zus_, g0, g8, g9, hlt, hat, hap]
    refine K _ _ ⟨t', ?_, rfl, ?_⟩
    · simp [g0, g8, hw, bkV]
    · rw [tk, List.map_append]
      simpa using ho'
end Go.Proofs.Sl
namespace Go.Proofs.Sl
def Str (l : List SP) : Prop := l.Pairwise fun a b => cmpS a b < 0
def Ins (x y : List SP) : Prop := ∀ a ∈ x, ∃ b ∈ y, cmpS a b = 0
def Alk (x y : List SP) : Prop := Ins x y ∧ Ins y x
theorem cz (a : SP) : cmpS a a = 0 := zbg_.self a
theorem csym {a b : SP} (h : cmpS a b = 0) : cmpS b a = 0 := by rw [zbg_.anti]; omega
theorem clt {a b c : SP} (h : cmpS a b < 0) (k : cmpS b c ≤ 0) : cmpS a c < 0 := zbg_.lt_of_lt_le h k
theorem cle {a b c : SP} (h : cmpS a b ≤ 0) (k : cmpS b c ≤ 0) : cmpS a c ≤ 0 := zbg_.trans _ _ _ h k
theorem Ins.of_sub {x y : List SP} (h : ∀ a ∈ x, a ∈ y) : Ins x y := fun a ha => ⟨a, h a ha, cz a⟩
theorem Ins.trans {x y z : List SP} (h : Ins x y) (k : Ins y z) : Ins x z := fun a ha => by
  obtain ⟨b, hb, e⟩ := h a ha
  obtain ⟨c, hc, e2⟩ := k b hb
  exact ⟨c, hc, zbg_.eq_trans e e2⟩
theorem Alk.symm {x y : List SP} (h : Alk x y) : Alk y x := ⟨h.2, h.1⟩
theorem Alk.trans {x y z : List SP} (h : Alk x y) (k : Alk y z) : Alk x z := ⟨h.1.trans k.1, k.2.trans h.2⟩
theorem Alk.of_mem {x y : List SP} (h : ∀ a, a ∈ x ↔ a ∈ y) : Alk x y := ⟨Ins.of_sub fun a => (h a).1, Ins.of_sub fun a => (h a).2⟩
theorem zij_ : ∀ {x y : List SP}, Str x → Str y → Alk x y → sameL x y = true
  | [], [], _, _, _ => rfl
  | [], b :: y, _, _, h => by obtain ⟨a, ha, _⟩ := h.2 b (by simp); cases ha
  | a :: x, [], _, _, h => by obtain ⟨b, hb, _⟩ := h.1 a (by simp); cases hb
  | a :: x, b :: y, hx, hy, h => by
    obtain ⟨hx1, hx2⟩ := List.pairwise_cons.1 hx
    obtain ⟨hy1, hy2⟩ := List.pairwise_cons.1 hy
    have hab : cmpS a b = 0 := by
      obtain ⟨b', hb', e1⟩ := h.1 a (by simp)
      obtain ⟨a', ha', e2⟩ := h.2 b (by simp)
      rcases List.mem_cons.1 hb' with rfl | hb'
      · exact e1
      · rcases List.mem_cons.1 ha' with rfl | ha'
        · exact csym e2
        · have l1 := hy1 b' hb'
          have l2 := hx1 a' ha'
          have l3 := clt l1 (by rw [csym e1]; exact Int.le_refl _)
          have l4 := clt l3 (Int.le_of_lt l2)
          have l5 := csym e2
          rw [zbg_.anti] at l5
          omega
    rw [sameL, hab, zij_ hx2 hy2]
    · rfl
    · refine ⟨fun c hc => ?_, fun c hc => ?_⟩
      · obtain ⟨d, hd, e⟩ := h.1 c (List.mem_cons_of_mem _ hc)
        rcases List.mem_cons.1 hd with rfl | hd
        · have := hx1 c hc
          have e3 := zbg_.eq_trans hab (csym e)
          omega
        · exact ⟨d, hd, e⟩
      · obtain ⟨d, hd, e⟩ := h.2 c (List.mem_cons_of_mem _ hc)
        rcases List.mem_cons.1 hd with rfl | hd
        · have := hy1 c hc
          have e3 := zbg_.eq_trans (csym hab) (csym e)
          omega
        · exact ⟨d, hd, e⟩
theorem zbdm_ : ∀ (r : List SP) (a : SP), ∀ c ∈ r, ∃ d ∈ a :: cptA a r, cmpS c d = 0
  | [], a, c, h => by cases h
  | b :: r, a, c, h => by
    rw [cptA]
    have ih := zbdm_ r b
    by_cases e : cmpS b a = 0
    · rw [if_pos e]
      rcases List.mem_cons.1 h with rfl | h
      · exact ⟨a, by simp, e⟩
      · obtain ⟨d, hd, e2⟩ := ih c h
        rcases List.mem_cons.1 hd with rfl | hd
        · exact ⟨a, by simp, zbg_.eq_trans e2 e⟩
        · exact ⟨d, List.mem_cons_of_mem _ hd, e2⟩
    · rw [if_neg e]
      rcases List.mem_cons.1 h with rfl | h
      · exact ⟨c, by simp, cz c⟩
      · obtain ⟨d, hd, e2⟩ := ih c h
        exact ⟨d, List.mem_cons_of_mem _ hd, e2⟩
theorem zbdn_ : ∀ (r : List SP) (a : SP), (a :: r).Pairwise (fun a b => cmpS a b ≤ 0) → Str (a :: cptA a r)
  | [], a, h => List.pairwise_singleton _ _
  | b :: r, a, h => by
    obtain ⟨h1, h2⟩ := List.pairwise_cons.1 h
    have ih := zbdn_ r b h2
    obtain ⟨i1, i2⟩ := List.pairwise_cons.1 ih
    have hab := h1 b (by simp)
    rw [cptA]
    by_cases e : cmpS b a = 0
    · rw [if_pos e]
      refine List.pairwise_cons.2 ⟨fun c hc => ?_, i2⟩
      have := i1 c hc
      exact zbg_.lt_of_le_lt hab this
    · rw [if_neg e]
      refine List.pairwise_cons.2 ⟨fun c hc => ?_, ih⟩
      have hlt : cmpS a b < 0 := by
        rcases Int.lt_or_eq_of_le hab with q | q
        · exact q
        · exact absurd (csym q) e
      rcases List.mem_cons.1 hc with rfl | hc
      · exact hlt
      · exact clt hlt (Int.le_of_lt (i1 c hc))
theorem zeq_ (es : List SP) : Str (dst es) := by
  have h := zcor_ es
  unfold dst
  match srt es, h with
  | [], _ => exact List.Pairwise.nil
  | a :: r, h => exact zbdn_ r a h
theorem zdt_ (es : List SP) : Alk (dst es) es := by
  refine ⟨Ins.of_sub fun a => zca_, fun c hc => ?_⟩
  have hc := zvv_.2 hc
  unfold dst
  generalize srt es = l at *
  match l, hc with
  | a :: r, hc =>
    rcases List.mem_cons.1 hc with rfl | hc
    · exact ⟨c, by simp [cpt], cz c⟩
    · obtain ⟨d, hd, e⟩ := zbdm_ r a c hc
      exact ⟨d, hd, e⟩
def Idn (a b : SP) : Prop := a.tr = b.tr ∧ a.id = b.id
theorem cmp_id {a b : SP} (h : cmpS a b ≤ 0) : a.tr < b.tr ∨ (a.tr = b.tr ∧ a.id ≤ b.id) := by
  obtain ⟨t, e⟩ : ∃ t, cmpS a b = orl (sgn a.tr b.tr :: sgn a.id b.id :: t) := ⟨_, rfl⟩
  rw [e, orl, orl] at h
  clear e
  have q1 := zbcb_ (a := a.tr) (b := b.tr)
  have q2 := zbcb_ (a := a.id) (b := b.id)
  unfold sgn at q1 q2 h
  by_cases c1 : a.tr < b.tr
  · exact .inl c1
  · by_cases c2 : b.tr < a.tr
    · simp [c1, c2] at h
    · have e1 : a.tr = b.tr := by omega
      by_cases c3 : b.id < a.id
      · have c4 : ¬ a.id < b.id := by omega
        simp [c1, c2, c3, c4] at h
      · exact .inr ⟨e1, by omega⟩
theorem zcqs_ {a b : SP} (h : cmpS a b = 0) : Idn a b := by
  have h1 := cmp_id (Int.le_of_eq h)
  have h2 := cmp_id (Int.le_of_eq (csym h))
  exact ⟨by omega, by omega⟩
theorem Idn.symm {a b : SP} (h : Idn a b) : Idn b a := ⟨h.1.symm, h.2.symm⟩
theorem Idn.trans {a b c : SP} (h : Idn a b) (k : Idn b c) : Idn a c := ⟨h.1.trans k.1, h.2.trans k.2⟩
def Lst (D : List SP) (x : SP) : Prop := ∀ y ∈ D, Idn y x → cmpS y x ≤ 0
theorem Lst.ins {D E : List SP} (h : Ins E D) {x : SP} (hl : Lst D x) : Lst E x := fun z hz hi => by
  obtain ⟨z', hz', e⟩ := h z hz
  exact cle (Int.le_of_eq e) (hl z' hz' ((zcqs_ (csym e)).trans hi))
end Go.Proofs.Sl
namespace Go.Proofs.Sl
end Go.Proofs.Sl
namespace Go.Proofs.Sl
end Go.Proofs.Sl
namespace Go.Proofs.Sl
end Go.Proofs.Sl
namespace Go.Proofs.Sl
end Go.Proofs.Sl
namespace Go.Proofs.Sl
def bsW (c : Nat → Int) (i j : Nat) : Nat := if h : i < j then (if c ((i + j) / 2) < 0 then bsW c ((i + j) / 2 + 1) j else bsW c i ((i + j) / 2)) else i
termination_by j - i
decreasing_by all_goals omega
end Go.Proofs.Sl
