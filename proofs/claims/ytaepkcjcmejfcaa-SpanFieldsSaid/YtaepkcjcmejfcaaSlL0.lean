/- A part of the proof. -/
import Derived.Laws.Strings
import Derived.Sort.AssemblyPlain
import Derived.Test.YtaepkcjcmejfcaaSlS
import Derived.Test.YtaepkcjcmejfcaaSlP
set_option linter.unusedVariables false
set_option linter.unusedSimpArgs false
set_option linter.unnecessarySimpa false
namespace Go.Proofs.Sl

/-! ### Whole numbers -/
theorem wrap_u8 (n : Int) : IntKind.u8.wrap n = n % 256 := rfl
theorem wrap_u64 (n : Int) : IntKind.u64.wrap n = n % 18446744073709551616 := rfl
theorem wrap_i64 {n : Int} (h1 : -9223372036854775808 ≤ n) (h2 : n ≤ 9223372036854775807) : IntKind.i64.wrap n = n := by
  have e : IntKind.i64.wrap n = if n % 18446744073709551616 ≥ 9223372036854775808 then n % 18446744073709551616 - 18446744073709551616 else n % 18446744073709551616 := by
    simp [IntKind.wrap, IntKind.bits, IntKind.signed]
  rw [e]
  split <;> omega

/-! ### Bytes -/
/-- k digits to the base 256, the greatest first. -/
def dig (m : Nat) : Nat → List Nat
  | 0 => []
  | k + 1 => m / 256 ^ k % 256 :: dig m k
/-- How many bytes a number has. -/
def blen (m : Nat) : Nat := if h : m = 0 then 0 else blen (m / 256) + 1
termination_by m
decreasing_by omega

theorem blen_zero : blen 0 = 0 := by unfold blen; simp
theorem blen_pos {m : Nat} (h : m ≠ 0) : blen m = blen (m / 256) + 1 := by conv => lhs; unfold blen; simp [h]

/-- A digit, turned over where the number is less than zero. -/
def flipB (neg : Bool) (d : Nat) : UInt8 := UInt8.ofNat (if neg = true then 255 - d else d)
/-- The form of a number. -/
def fNum (n : Int) : List UInt8 := (if n < 0 then UInt8.ofNat (128 - blen n.natAbs) else UInt8.ofNat (128 + blen n.natAbs)) :: (dig n.natAbs (blen n.natAbs)).map (flipB (decide (n < 0)))
/-- An int. -/
def Rng (n : Int) : Prop := -9223372036854775808 ≤ n ∧ n ≤ 9223372036854775807
end Go.Proofs.Sl

namespace Go.Proofs.Sl

/-- The bytes of a text. -/
def bts (s : ByteArray) : List UInt8 := s.data.toList
theorem bts_length (s : ByteArray) : (bts s).length = s.size := by rw [bts, Array.length_toList]; rfl
/-- A list of ints. -/
def il (l : List Int) : List V := l.map vi
/-! ### Values of api's types -/
/-- A value. -/
structure AV where
  k : Int
  t : ByteArray
  n : Int
def AV.v (a : AV) : V := .agg [vi a.k, vs a.t, vi a.n]
structure AV.Ok (a : AV) : Prop where
  k : Rng a.k
  t : a.t.size ≤ 5000
  n : Rng a.n
/-- An attribute. -/
structure AT where
  key : ByteArray
  val : AV
def AT.v (a : AT) : V := .agg [vs a.key, vi a.val.k, vs a.val.t, vi a.val.n]
structure AT.Ok (a : AT) : Prop where
  key : a.key.size ≤ 5000
  val : a.val.Ok
/-- A reference. -/
structure RF where
  t : Int
  i : Int
def RF.v (a : RF) : V := .agg [vi a.t, vi a.i]
structure RF.Ok (a : RF) : Prop where
  t : Rng a.t
  i : Rng a.i
/-- An exchange. -/
structure EX where
  fr : Int
  to : Int
  sent : Int
  rcv : Int
  least : Int
def EX.v (a : EX) : V := .agg [vi a.fr, vi a.to, vi a.sent, vi a.rcv, vi a.least]
structure EX.Ok (a : EX) : Prop where
  fr : Rng a.fr
  to : Rng a.to
  sent : Rng a.sent
  rcv : Rng a.rcv
  least : Rng a.least
/-- A message: its kind, two references, an exchange. -/
structure MS where
  k : Int
  a : RF
  b : RF
  x : EX
def MS.v (a : MS) : V := .agg [vi a.k, vi a.a.t, vi a.a.i, vi a.b.t, vi a.b.i, vi a.x.fr, vi a.x.to, vi a.x.sent, vi a.x.rcv, vi a.x.least]
structure MS.Ok (m : MS) : Prop where
  k : Rng m.k
  a : m.a.Ok
  b : m.b.Ok
  x : m.x.Ok
end Go.Proofs.Sl

namespace Go.Proofs.Sl

end Go.Proofs.Sl

namespace Go.Proofs.Sl

/-- A span. -/
structure SP where
  tr : Int
  id : Int
  par : Int
  rev : Int
  clk : Int
  kind : Int
  sv : ByteArray
  vr : ByteArray
  op : ByteArray
  st : Int
  en : Int
  er : Bool
  ats : List AT
  lks : List RF
  /-- the two slices: nil or not -/
  an : Bool
  ln : Bool
/-- A slice of these elements: nil if so marked. -/
def slc {α : Type} (v : α → V) (l : List α) (n : Bool) : Option (List V) := if n = true then none else some (l.map v)
def SP.v (a : SP) : V := .agg [vi a.tr, vi a.id, vi a.par, vi a.rev, vi a.clk, vi a.kind, vs a.sv, vs a.vr, vs a.op, vi a.st, vi a.en, vb a.er, lv 4 (slc AT.v a.ats a.an), lv 2 (slc RF.v a.lks a.ln)]
structure SP.Ok (a : SP) : Prop where
  n : ∀ n ∈ [a.tr, a.id, a.par, a.rev, a.clk, a.kind, a.st, a.en], Rng n
  sv : a.sv.size ≤ 5000
  vr : a.vr.size ≤ 5000
  op : a.op.size ≤ 5000
  ats : ∀ e ∈ a.ats, e.Ok
  lks : ∀ e ∈ a.lks, e.Ok
  al : a.ats.length ≤ 1000
  ll : a.lks.length ≤ 1000
  an : a.an = true → a.ats = []
  ln : a.ln = true → a.lks = []
theorem slc_getD {α : Type} {v : α → V} {l : List α} {n : Bool} (h : n = true → l = []) : (slc v l n).getD [] = l.map v := by
  cases n with
  | true => rw [h rfl]; rfl
  | false => rfl
end Go.Proofs.Sl

namespace Go.Proofs.Sl

end Go.Proofs.Sl

namespace Go.Proofs.Sl

end Go.Proofs.Sl

namespace Go.Proofs.Sl

/-- A reader: its text, its offset, its first error. -/
def rd (s : ByteArray) (a : Nat) (e : Int) : O := .box false [vs s, vi a, vi e]

end Go.Proofs.Sl

namespace Go.Proofs.Sl

theorem Rng.zero : Rng 0 := ⟨by decide, by decide⟩

section
variable {h t : H} {l : Nat} {s : ByteArray} {a : Nat} {e : Int}
end
end Go.Proofs.Sl

namespace Go.Proofs.Sl
section
variable {h t : H} {l : Nat} {s : ByteArray} {a : Nat} {e : Int}
theorem bone {n : Int} (h1 : 0 < n) (h2 : n < 256) : blen n.natAbs = 1 := by
  have : n.natAbs / 256 = 0 := by omega
  rw [blen_pos (by omega), this, blen_zero]
theorem b3 : fNum 3 = [129, 3] := by
  unfold fNum
  rw [bone (by decide) (by decide)]
  decide +kernel
theorem b1 : fNum 1 = [129, 1] := by
  unfold fNum
  rw [bone (by decide) (by decide)]
  decide +kernel
theorem b0 : fNum 0 = [128] := by
  have : blen (Int.natAbs 0) = 0 := blen_zero
  unfold fNum
  rw [this]
  decide +kernel

end
end Go.Proofs.Sl

namespace Go.Proofs.Sl

/-- At the first place where they differ u has the lesser byte. -/
def Cut (u v : List UInt8) : Prop := ∃ p a b x y, u = p ++ a :: x ∧ v = p ++ b :: y ∧ a < b
theorem Cut.take {u v : List UInt8} (h : Cut u v) : u.take (min u.length v.length) ≠ v.take (min u.length v.length) := by
  obtain ⟨p, a, b, x, y, rfl, rfl, hab⟩ := h
  intro e
  have e1 := congrArg (·[p.length]?) e
  simp only [List.getElem?_take] at e1
  rw [if_pos (by simp), if_pos (by simp)] at e1
  simp at e1
  subst e1
  exact absurd hab (by simp)

theorem toList_ofList (l : List UInt8) : (⟨l.toArray⟩ : ByteArray).toList = l := by
  rw [ByteArray.toList_eq]
theorem size_ofList (l : List UInt8) : (⟨l.toArray⟩ : ByteArray).size = l.length := by
  show l.toArray.size = _
  simp
theorem less_self : ∀ l : List UInt8, Op.bytesLess l l = false
  | [] => rfl
  | a :: l => by simp [Op.bytesLess, less_self l]
end Go.Proofs.Sl

namespace Go.Proofs.Sl

end Go.Proofs.Sl

namespace Go.Proofs.Sl

end Go.Proofs.Sl

namespace Go.Proofs.Sl
end Go.Proofs.Sl

namespace Go.Proofs.Sl
end Go.Proofs.Sl

namespace Go.Proofs.Sl
/-- A text of these bytes. -/
def tx (l : List UInt8) : V := vs ⟨l.toArray⟩
theorem tx_plain (a : List UInt8) : (tx a).plain = true := Eq.trans rfl rfl
theorem lenT_tx (a : List UInt8) : lenT (tx a) = some (vi a.length) := by simp [tx, size_ofList]
theorem eql_tx (a b : List UInt8) : xbin .eql (tx a) (tx b) = some (vb (a == b)) := by simp [tx, strOp, toList_ofList]
theorem neq_tx (a b : List UInt8) : xbin .neq (tx a) (tx b) = some (vb (!(a == b))) := by simp [tx, strOp, toList_ofList]
attribute [simp] lenT_tx eql_tx neq_tx tx_plain
end Go.Proofs.Sl

namespace Go.Proofs.Sl

end Go.Proofs.Sl

namespace Go.Proofs.Sl
/-- A part: what is to be written. -/
structure PT where
  k : Int
  n0 : Int
  n1 : Int
  n2 : Int
  n3 : Int
  n4 : Int
  n5 : Int
  n6 : Int
  n7 : Int
  key : ByteArray
  s : ByteArray
def PT.v (p : PT) : V := .agg [vk .u8 p.k, vi p.n0, vi p.n1, vi p.n2, vi p.n3, vi p.n4, vi p.n5, vi p.n6, vi p.n7, vs p.key, vs p.s]
structure PT.Ok (p : PT) : Prop where
  k0 : 0 ≤ p.k
  k1 : p.k ≤ 255
  n0 : Rng p.n0
  n1 : Rng p.n1
  n2 : Rng p.n2
  n3 : Rng p.n3
  n4 : Rng p.n4
  n5 : Rng p.n5
  n6 : Rng p.n6
  n7 : Rng p.n7
  key : p.key.size ≤ 5000
  s : p.s.size ≤ 5000
def PT.av (p : PT) : AV := ⟨p.n0, p.s, p.n1⟩
def PT.at (p : PT) : AT := ⟨p.key, p.av⟩
def PT.rf (p : PT) : RF := ⟨p.n0, p.n1⟩
def PT.sp (p : PT) : SP := ⟨p.n0, p.n1, p.n2, p.n3, p.n4, p.n5, p.key, p.s, p.key, p.n6, p.n7, decide (p.n0 > 0), [p.at], [p.rf, p.rf], false, false⟩
theorem PT.Ok.av {p : PT} (h : p.Ok) : p.av.Ok := ⟨h.n0, h.s, h.n1⟩
theorem PT.Ok.at {p : PT} (h : p.Ok) : p.at.Ok := ⟨h.key, h.av⟩
theorem PT.Ok.rf {p : PT} (h : p.Ok) : p.rf.Ok := ⟨h.n0, h.n1⟩
theorem PT.Ok.sp {p : PT} (h : p.Ok) : p.sp.Ok where
  n := by
    intro n hn
    simp [PT.sp] at hn
    rcases hn with rfl | rfl | rfl | rfl | rfl | rfl | rfl | rfl
    · exact h.n0
    · exact h.n1
    · exact h.n2
    · exact h.n3
    · exact h.n4
    · exact h.n5
    · exact h.n6
    · exact h.n7
  sv := h.key
  vr := h.s
  op := h.key
  ats := by
    intro e he
    simp [PT.sp] at he
    rw [he]
    exact h.at
  lks := by
    intro e he
    simp [PT.sp] at he
    rw [he]
    exact h.rf
  al := by simp [PT.sp]
  ll := by simp [PT.sp]
  an := by simp [PT.sp]
  ln := by simp [PT.sp]
end Go.Proofs.Sl

namespace Go.Proofs.Sl

section
variable {h t : H} {l : Nat} {s : ByteArray} {a : Nat} {e : Int}
end
end Go.Proofs.Sl

namespace Go.Proofs.Sl

def plains (cs : List V) : Prop := ∀ c ∈ cs, c.plain = true
theorem plains.set {cs : List V} (h : plains cs) (j : Nat) {v : V} (hv : v.plain = true) : plains (cs.set j v) := by
  intro c hc
  rcases List.mem_or_eq_of_mem_set hc with hc | rfl
  · exact h c hc
  · exact hv

section
variable {s : ByteArray}
end
end Go.Proofs.Sl

namespace Go.Proofs.Sl
def AV.z : AV := ⟨0, ⟨#[]⟩, 0⟩
def AT.z : AT := ⟨⟨#[]⟩, AV.z⟩
def RF.z : RF := ⟨0, 0⟩
def EX.z : EX := ⟨0, 0, 0, 0, 0⟩
def MS.z : MS := ⟨0, RF.z, RF.z, EX.z⟩
section
variable {h t : H} {l : Nat} {s : ByteArray} {a : Nat} {e : Int}
end
end Go.Proofs.Sl

namespace Go.Proofs.Sl
section
variable {h t : H} {l : Nat} {s : ByteArray} {a : Nat} {e : Int}
end

theorem closeds_AT : ∀ l : List AT, V.closed.closeds (l.map AT.v) = true
  | [] => rfl
  | x :: l => by simp [AT.v, closeds_AT l]
theorem closeds_RF : ∀ l : List RF, V.closed.closeds (l.map RF.v) = true
  | [] => rfl
  | x :: l => by simp [RF.v, closeds_RF l]
end Go.Proofs.Sl

namespace Go.Proofs.Sl
def SP.z : SP := ⟨0, 0, 0, 0, 0, 0, ⟨#[]⟩, ⟨#[]⟩, ⟨#[]⟩, 0, 0, false, [], [], true, true⟩
section
variable {h t : H} {l : Nat} {s : ByteArray} {a : Nat} {e : Int}

end
end Go.Proofs.Sl

namespace Go.Proofs.Sl
end Go.Proofs.Sl

namespace Go.Proofs.Sl
theorem closeds_SP : ∀ l : List SP, V.closed.closeds (l.map SP.v) = true
  | [] => rfl
  | x :: l => by simp [SP.v, closeds_SP l]
/-- A fragment, a trace. -/
structure FR where
  ag : Int
  sq : Int
  sps : List SP
  exs : List EX
  sn : Bool
  xn : Bool
def FR.v (a : FR) : V := .agg [vi a.ag, vi a.sq, lv 14 (slc SP.v a.sps a.sn), lv 5 (slc EX.v a.exs a.xn)]
structure FR.Ok (a : FR) : Prop where
  ag : Rng a.ag
  sq : Rng a.sq
  sps : ∀ e ∈ a.sps, e.Ok
  exs : ∀ e ∈ a.exs, e.Ok
  sl : a.sps.length ≤ 1000
  xl : a.exs.length ≤ 1000
  sn : a.sn = true → a.sps = []
  xn : a.xn = true → a.exs = []
structure TC where
  id : Int
  wt : Int
  sps : List SP
  sn : Bool
def TC.v (a : TC) : V := .agg [vi a.id, vi a.wt, lv 14 (slc SP.v a.sps a.sn)]
structure TC.Ok (a : TC) : Prop where
  id : Rng a.id
  wt : Rng a.wt
  sps : ∀ e ∈ a.sps, e.Ok
  sl : a.sps.length ≤ 1000
  sn : a.sn = true → a.sps = []
def FR.z : FR := ⟨0, 0, [], [], true, true⟩
def TC.z : TC := ⟨0, 0, [], true⟩

end Go.Proofs.Sl

namespace Go.Proofs.Sl

theorem drop_at {α : Type} {l : List α} {k : Nat} {e : α} (h : l[k]? = some e) : l.drop k = e :: l.drop (k + 1) := by
  obtain ⟨hk, he⟩ := List.getElem?_eq_some_iff.1 h
  rw [List.drop_eq_getElem_cons hk, he]
theorem take_at {α : Type} {l : List α} {k : Nat} {e : α} (h : l[k]? = some e) : l.take (k + 1) = l.take k ++ [e] := by
  rw [List.take_add_one, h]; rfl
theorem wrap_up {k : Nat} (h : k < 100000000000) : IntKind.i64.wrap ((k : Int) + 1) = (k : Int) + 1 := wrap_i64 (by omega) (by omega)
theorem il_at {vs : List Int} {k : Nat} {e : Int} (h : vs[k]? = some e) : (il vs)[k]? = some (vi e) := by simp [il, h]
theorem il_length (vs : List Int) : (il vs).length = vs.length := by simp [il]

end Go.Proofs.Sl

namespace Go.Proofs.Sl
open Go
/-! ### bytesLess is an order -/
theorem less_nil (x : List UInt8) : Op.bytesLess x [] = false := by cases x <;> rfl
theorem less_trans : ∀ {x y z : List UInt8}, Op.bytesLess x y = true → Op.bytesLess y z = true → Op.bytesLess x z = true
  | _, [], _, h, _ => by rw [less_nil] at h; cases h
  | _, _ :: _, [], _, h => by rw [less_nil] at h; cases h
  | [], _ :: _, _ :: _, _, _ => rfl
  | a :: x, b :: y, c :: z, h, k => by
    simp only [Op.bytesLess, Bool.or_eq_true, Bool.and_eq_true, decide_eq_true_eq, beq_iff_eq] at h k ⊢
    rcases h with h | ⟨rfl, h⟩ <;> rcases k with k | ⟨rfl, k⟩
    · exact .inl (UInt8.lt_trans h k)
    · exact .inl h
    · exact .inl k
    · exact .inr ⟨rfl, less_trans h k⟩
theorem less_total : ∀ (x y : List UInt8), Op.bytesLess x y = false → Op.bytesLess y x = false → x = y
  | [], [], _, _ => rfl
  | [], _ :: _, h, _ => by cases h
  | _ :: _, [], _, h => by cases h
  | a :: x, b :: y, h, k => by
    simp only [Op.bytesLess, Bool.or_eq_false_iff, decide_eq_false_iff_not, Bool.and_eq_false_iff, beq_eq_false_iff_ne] at h k
    have hab : a = b := UInt8.le_antisymm (UInt8.not_lt.1 k.1) (UInt8.not_lt.1 h.1)
    subst hab
    rw [less_total x y (by rcases h.2 with h | h; exact absurd rfl h; exact h) (by rcases k.2 with h | h; exact absurd rfl h; exact h)]
theorem less_asymm {x y : List UInt8} (h : Op.bytesLess x y = true) : Op.bytesLess y x = false := by
  cases k : Op.bytesLess y x with
  | false => rfl
  | true => have := less_trans h k; rw [less_self] at this; cases this

/-! ### Three ways -/
def sgn (a b : Int) : Int := if a < b then -1 else if b < a then 1 else 0
def wrd (a b : ByteArray) : Int := if Op.bytesLess a.toList b.toList = true then -1 else if Op.bytesLess b.toList a.toList = true then 1 else 0
/-- The first one that is not 0. -/
def orl : List Int → Int
  | [] => 0
  | n :: l => if n ≠ 0 then n else orl l
theorem orl_append (a b : List Int) : orl (a ++ b) = if orl a ≠ 0 then orl a else orl b := by
  induction a with
  | nil => simp [orl]
  | cons n a ih =>
    simp only [List.cons_append, orl, ih]
    by_cases h : n = 0 <;> simp [h]

/-- A total order, told three ways. -/
structure Cm {α : Type} (f : α → α → Int) : Prop where
  anti : ∀ x y, f y x = -f x y
  trans : ∀ x y z, f x y ≤ 0 → f y z ≤ 0 → f x z ≤ 0
section
variable {α β : Type} {f g : α → α → Int}
theorem Cm.self (c : Cm f) (x : α) : f x x = 0 := by have := c.anti x x; omega
theorem Cm.lt_of_lt_le (c : Cm f) {x y z : α} (h : f x y < 0) (k : f y z ≤ 0) : f x z < 0 := by
  have h1 := c.trans x y z (by omega) k
  rcases Int.lt_or_eq_of_le h1 with h2 | h2
  · exact h2
  · have h3 := c.trans y z x k (by rw [c.anti x z]; omega)
    rw [c.anti x y] at h3
    omega
theorem Cm.lt_of_le_lt (c : Cm f) {x y z : α} (h : f x y ≤ 0) (k : f y z < 0) : f x z < 0 := by
  have h1 := c.trans x y z h (by omega)
  rcases Int.lt_or_eq_of_le h1 with h2 | h2
  · exact h2
  · have h3 := c.trans z x y (by rw [c.anti x z]; omega) h
    rw [c.anti y z] at h3
    omega
theorem Cm.eq_trans (c : Cm f) {x y z : α} (h : f x y = 0) (k : f y z = 0) : f x z = 0 := by
  have h1 := c.trans x y z (by omega) (by omega)
  have h2 := c.trans z y x (by rw [c.anti y z]; omega) (by rw [c.anti x y]; omega)
  rw [c.anti x z] at h2
  omega
theorem Cm.key {f : β → β → Int} (c : Cm f) (k : α → β) : Cm fun x y => f (k x) (k y) := ⟨fun x y => c.anti _ _, fun x y z => c.trans _ _ _⟩
theorem Cm.zero : Cm fun (_ _ : α) => (0 : Int) := ⟨fun _ _ => rfl, fun _ _ _ _ _ => Int.le_refl _⟩
/-- One, then the other one. -/
theorem Cm.lex (c : Cm f) (d : Cm g) : Cm fun x y => if f x y ≠ 0 then f x y else g x y where
  anti := fun x y => by
    rw [c.anti x y, d.anti x y]
    by_cases h : f x y = 0 <;> simp [h]
  trans := fun x y z h k => by
    by_cases h1 : f x y = 0 <;> by_cases h2 : f y z = 0
    · rw [if_neg (by simpa using h1)] at h
      rw [if_neg (by simpa using h2)] at k
      rw [if_neg (by simpa using c.eq_trans h1 h2)]
      exact d.trans _ _ _ h k
    · rw [if_pos h2] at k
      have := c.lt_of_le_lt (x := x) (y := y) (z := z) (by omega) (by omega)
      rw [if_pos (by omega)]
      omega
    · rw [if_pos h1] at h
      have := c.lt_of_lt_le (x := x) (y := y) (z := z) (by omega) (by omega)
      rw [if_pos (by omega)]
      omega
    · rw [if_pos h1] at h
      rw [if_pos h2] at k
      have := c.lt_of_lt_le (x := x) (y := y) (z := z) (by omega) (by omega)
      rw [if_pos (by omega)]
      omega
theorem Cm.orl_nil : Cm fun (_ _ : α) => orl [] := Cm.zero
theorem Cm.orl_cons {fs : List (α → α → Int)} (c : Cm f) (d : Cm fun x y => orl (fs.map fun g => g x y)) : Cm fun x y => orl ((f :: fs).map fun g => g x y) := by
  have := c.lex d
  simpa only [List.map_cons, orl] using this
end
theorem sgn_cm : Cm sgn where
  anti := fun x y => by unfold sgn; split <;> split <;> omega
  trans := fun x y z h k => by unfold sgn at *; split at h <;> split at k <;> (try split at h) <;> (try split at k) <;> split <;> (try split) <;> omega
theorem wrd_cm : Cm wrd where
  anti := fun x y => by
    unfold wrd
    cases h : Op.bytesLess x.toList y.toList <;> cases k : Op.bytesLess y.toList x.toList <;> simp
    have := less_asymm h
    rw [k] at this
    cases this
  trans := fun x y z h k => by
    have key : ∀ a b : ByteArray, wrd a b ≤ 0 ↔ Op.bytesLess b.toList a.toList = false := fun a b => by
      unfold wrd
      cases h : Op.bytesLess a.toList b.toList <;> cases k : Op.bytesLess b.toList a.toList <;> simp
      have := less_asymm h
      rw [k] at this
      cases this
    rw [key] at h k ⊢
    cases e : Op.bytesLess z.toList x.toList with
    | false => rfl
    | true =>
      cases e1 : Op.bytesLess x.toList y.toList with
      | true => rw [less_trans e e1] at k; cases k
      | false =>
        have := less_total _ _ e1 h
        rw [this] at e
        rw [e] at k
        cases k
/-- Lists, one element after another; the shorter one comes first. -/
def lexc {α : Type} (f : α → α → Int) : List α → List α → Int
  | [], [] => 0
  | [], _ :: _ => -1
  | _ :: _, [] => 1
  | a :: r, b :: s => if f a b ≠ 0 then f a b else lexc f r s
theorem lexc_anti {α : Type} {f : α → α → Int} (c : Cm f) : ∀ x y : List α, lexc f y x = -lexc f x y
  | [], [] => rfl
  | [], _ :: _ => rfl
  | _ :: _, [] => rfl
  | a :: x, b :: y => by
    simp only [lexc]
    rw [c.anti a b, lexc_anti c x y]
    by_cases h : f a b = 0 <;> simp [h]
theorem lexc_trans {α : Type} {f : α → α → Int} (c : Cm f) : ∀ x y z : List α, lexc f x y ≤ 0 → lexc f y z ≤ 0 → lexc f x z ≤ 0
  | [], _, [], _, _ => by simp [lexc]
  | [], _, _ :: _, _, _ => by simp [lexc]
  | _ :: _, [], _, h, _ => by simp [lexc] at h
  | _, _ :: _, [], _, h => by simp [lexc] at h
  | a :: x, b :: y, d :: z, h, k => by
    simp only [lexc] at h k ⊢
    by_cases h1 : f a b = 0 <;> by_cases h2 : f b d = 0
    · rw [if_neg (by simpa using h1)] at h
      rw [if_neg (by simpa using h2)] at k
      rw [if_neg (by simpa using c.eq_trans h1 h2)]
      exact lexc_trans c _ _ _ h k
    · rw [if_pos h2] at k
      have := c.lt_of_le_lt (x := a) (y := b) (z := d) (by omega) (by omega)
      rw [if_pos (by omega)]
      omega
    · rw [if_pos h1] at h
      have := c.lt_of_lt_le (x := a) (y := b) (z := d) (by omega) (by omega)
      rw [if_pos (by omega)]
      omega
    · rw [if_pos h1] at h
      rw [if_pos h2] at k
      have := c.lt_of_lt_le (x := a) (y := b) (z := d) (by omega) (by omega)
      rw [if_pos (by omega)]
      omega
theorem lexc_cm {α : Type} {f : α → α → Int} (c : Cm f) : Cm (lexc f) := ⟨lexc_anti c, lexc_trans c⟩
/-! ### Records -/
def flg (b : Bool) : Int := if b = true then 1 else 0
def cmpV (a b : AV) : Int := orl [sgn a.k b.k, wrd a.t b.t, sgn a.n b.n]
def cmpA (a b : AT) : Int := orl [wrd a.key b.key, cmpV a.val b.val]
def cmpR (a b : RF) : Int := orl [sgn a.t b.t, sgn a.i b.i]
def cmpS (a b : SP) : Int := orl [sgn a.tr b.tr, sgn a.id b.id, sgn a.rev b.rev, sgn a.par b.par, sgn a.clk b.clk, sgn a.kind b.kind, wrd a.sv b.sv, wrd a.vr b.vr, wrd a.op b.op, sgn a.st b.st, sgn a.en b.en, sgn (flg a.er) (flg b.er),
  lexc cmpA a.ats b.ats, lexc cmpR a.lks b.lks]
theorem cmpV_cm : Cm cmpV := Cm.orl_cons (f := fun a b : AV => sgn a.k b.k) (fs := [fun a b : AV => wrd a.t b.t, fun a b : AV => sgn a.n b.n]) (sgn_cm.key _) (Cm.orl_cons (wrd_cm.key _) (Cm.orl_cons (fs := []) (sgn_cm.key _) Cm.orl_nil))
theorem cmpA_cm : Cm cmpA := Cm.orl_cons (f := fun a b : AT => wrd a.key b.key) (fs := [fun a b : AT => cmpV a.val b.val]) (wrd_cm.key _) (Cm.orl_cons (fs := []) (cmpV_cm.key _) Cm.orl_nil)
theorem cmpR_cm : Cm cmpR := Cm.orl_cons (f := fun a b : RF => sgn a.t b.t) (fs := [fun a b : RF => sgn a.i b.i]) (sgn_cm.key _) (Cm.orl_cons (fs := []) (sgn_cm.key _) Cm.orl_nil)
theorem cmpS_cm : Cm cmpS :=
  Cm.orl_cons (f := fun a b : SP => sgn a.tr b.tr) (fs := [fun a b : SP => sgn a.id b.id, fun a b : SP => sgn a.rev b.rev, fun a b : SP => sgn a.par b.par, fun a b : SP => sgn a.clk b.clk, fun a b : SP => sgn a.kind b.kind, fun a b : SP => wrd a.sv b.sv, fun a b : SP => wrd a.vr b.vr, fun a b : SP => wrd a.op b.op,
    fun a b : SP => sgn a.st b.st, fun a b : SP => sgn a.en b.en, fun a b : SP => sgn (flg a.er) (flg b.er), fun a b : SP => lexc cmpA a.ats b.ats, fun a b : SP => lexc cmpR a.lks b.lks]) (sgn_cm.key _)
  (Cm.orl_cons (sgn_cm.key _) (Cm.orl_cons (sgn_cm.key _) (Cm.orl_cons (sgn_cm.key _) (Cm.orl_cons (sgn_cm.key _) (Cm.orl_cons (sgn_cm.key _) (Cm.orl_cons (wrd_cm.key _) (Cm.orl_cons (wrd_cm.key _) (Cm.orl_cons (wrd_cm.key _)
  (Cm.orl_cons (sgn_cm.key _) (Cm.orl_cons (sgn_cm.key _) (Cm.orl_cons (sgn_cm.key fun a : SP => flg a.er) (Cm.orl_cons ((lexc_cm cmpA_cm).key _) (Cm.orl_cons (fs := []) ((lexc_cm cmpR_cm).key _) Cm.orl_nil)))))))))))))
end Go.Proofs.Sl

namespace Go.Proofs.Sl
open Go
theorem noOwn_nil : noOwn [] = true := Eq.trans rfl rfl
attribute [simp] noOwn_nil
theorem bl_eq {a b : ByteArray} : (a.toList == b.toList) = decide (a = b) := by
  by_cases h : a = b
  · subst h; simp
  · have : a.toList ≠ b.toList := fun e => h (by rw [ByteArray.toList_eq, ByteArray.toList_eq] at e; exact ByteArray.ext (Array.ext' e))
    simp [h, this]
theorem bl_ne {a b : ByteArray} (h : Op.bytesLess a.toList b.toList = true) : ¬ a = b := by
  rintro rfl
  rw [less_self] at h
  cases h
/-- greater: neither less nor equal -/
theorem bl_gt (a b : ByteArray) : (!(Op.bytesLess a.toList b.toList || a.toList == b.toList)) = Op.bytesLess b.toList a.toList := by
  cases h : Op.bytesLess a.toList b.toList with
  | true => simp [less_asymm h]
  | false =>
    cases k : Op.bytesLess b.toList a.toList with
    | true => have := bl_ne k; rw [bl_eq]; simp; exact fun e => this e.symm
    | false => rw [less_total _ _ h k]; simp

theorem bl_eq_of {a b : ByteArray} (h : Op.bytesLess a.toList b.toList = false) : (a.toList == b.toList) = !Op.bytesLess b.toList a.toList := by
  have := bl_gt a b
  rw [h, Bool.false_or] at this
  rw [← this, Bool.not_not]

theorem run_isNaN_i (h : H) (a : Int) : run XP i_cmp_isNaN_int [vi a] h = some (vb false, h) := by
  rw [run_eq, xp_cmp_isNaN_int]
  simp -implicitDefEqProofs [x_cmp_isNaN_int]
theorem run_isNaN_s (h : H) (a : ByteArray) : run XP i_cmp_isNaN_string [vs a] h = some (vb false, h) := by
  rw [run_eq, xp_cmp_isNaN_string]
  simp -implicitDefEqProofs [x_cmp_isNaN_string]
theorem run_cmpI (h : H) (a b : Int) : run XP i_cmp_Compare_int [vi a, vi b] h = some (vi (sgn a b), h) := by
  rw [run_eq, xp_cmp_Compare_int]
  have h1 := run_isNaN_i h a
  have h2 := run_isNaN_i h b
  unfold sgn
  by_cases h3 : a < b
  · simp -implicitDefEqProofs [x_cmp_Compare_int, h1, h2, h3]
  · by_cases h4 : b < a <;> simp -implicitDefEqProofs [x_cmp_Compare_int, h1, h2, h3, h4]
theorem run_cmpT (h : H) (a b : ByteArray) : run XP i_cmp_Compare_string [vs a, vs b] h = some (vi (wrd a b), h) := by
  rw [run_eq, xp_cmp_Compare_string]
  have h1 := run_isNaN_s h a
  have h2 := run_isNaN_s h b
  unfold wrd
  cases h3 : Op.bytesLess a.toList b.toList
  · have h5 := bl_eq_of h3
    cases h4 : Op.bytesLess b.toList a.toList
    · rw [h4, Bool.not_false] at h5
      simp -implicitDefEqProofs [x_cmp_Compare_string, h1, h2, h3, h4, h5]
    · rw [h4, Bool.not_true] at h5
      simp -implicitDefEqProofs [x_cmp_Compare_string, h1, h2, h3, h4, h5]
  · simp -implicitDefEqProofs [x_cmp_Compare_string, h1, h2, h3]
theorem run_number (h : H) (b : Bool) : run XP i_span_number [vb b] h = some (vi (flg b), h) := by
  rw [run_eq, xp_span_number]
  cases b <;> simp -implicitDefEqProofs [x_span_number, flg]
theorem run_flag (h : H) (b : Bool) : run XP i_sleuthlaw11_flag [vb b] h = some (vi (flg b), h) := by
  rw [run_eq, xp_sleuthlaw11_flag]
  cases b <;> simp -implicitDefEqProofs [x_sleuthlaw11_flag, flg]

/-- cmp.Or of numbers. -/
theorem run_Or (h : H) (ns : List Int) (hl : ns.length ≤ 10000) : run XP i_cmp_Or_int [.lst 1 (il ns)] h = some (vi (orl ns), h) := by
  have hv : Rd h 1 (.lst 1 (il ns)) (il ns) := .lst _
  rw [run_eq, xp_cmp_Or_int]
  simp -implicitDefEqProofs [x_cmp_Or_int, il_length]
  refine loop_list ns (fun k s h' => Sees s [(3, vi 0), (6, .lst 1 (il ns)), (7, vi ns.length), (8, vi k)] ∧ h' = h ∧ orl ns = orl (ns.drop k)) ?_ ?_ _ _ ⟨by simp, rfl, rfl⟩
  · rintro B f hB hf k e s h' he hk ⟨⟨h3, h6, h7, h8, -⟩, rfl, hx⟩ K
    obtain ⟨p, hp, hld⟩ := hv.at1 (il_at he) rfl
    have hlt : (k : Int) < ns.length := by omega
    rw [drop_at he, orl] at hx
    by_cases h0 : e = 0
    · rw [if_neg (by simpa using h0)] at hx
      simp -implicitDefEqProofs [hB, x_cmp_Or_int_l0, h3, h6, h7, h8, hlt, hp, hld, h0]
      refine K _ _ ⟨?_, rfl, hx⟩
      simp [h3, h6, h7, wrap_up (by omega : k < 100000000000)]
    · rw [if_pos h0] at hx
      have h0' : (e != 0) = true := by simpa using h0
      simp -implicitDefEqProofs [hB, hf, x_cmp_Or_int_l0, h3, h6, h7, h8, hlt, hp, hld, h0', hx]
  · rintro B hB s h' ⟨⟨h3, h6, h7, h8, -⟩, rfl, hx⟩
    simp -implicitDefEqProofs [hB, x_cmp_Or_int_l0, h3, h7, h8, hx, orl]

theorem il_get {l : List Int} {k : Nat} {e : Int} (h : l[k]? = some e) : ∀ hh, (il l)[k]'hh = vi e := fun hh => by
  have := il_at h
  rw [List.getElem?_eq_getElem hh] at this
  injection this
/-- What is said of two cut lists. -/
theorem lexc_at {α : Type} {f : α → α → Int} {x y : List α} {k : Nat} {a b : α} (ha : x[k]? = some a) (hb : y[k]? = some b) : lexc f (x.drop k) (y.drop k) = if f a b ≠ 0 then f a b else lexc f (x.drop (k + 1)) (y.drop (k + 1)) := by
  rw [drop_at ha, drop_at hb, lexc]
theorem lexc_end {α : Type} {f : α → α → Int} {x y : List α} {k : Nat} {a : α} (ha : x[k]? = some a) (hb : y.length ≤ k) : lexc f (x.drop k) (y.drop k) = 1 := by
  rw [drop_at ha, List.drop_of_length_le hb, lexc]
theorem lexc_last {α : Type} {f : α → α → Int} {x y : List α} : lexc f (x.drop x.length) (y.drop x.length) = if x.length < y.length then -1 else 0 := by
  rw [List.drop_of_length_le (Nat.le_refl _)]
  split
  · rename_i h
    rw [List.drop_eq_getElem_cons h, lexc]
  · rename_i h
    rw [List.drop_of_length_le (by omega), lexc]

/-- slices.Compare of two boxes of numbers. -/
theorem run_sCmp {h : H} {l m : Nat} {z z' : Bool} {xs ys : List Int} (hx : h[l]? = some (.box z (il xs))) (hy : h[m]? = some (.box z' (il ys))) (hn : xs.length = ys.length) (hl : xs.length ≤ 1000) :
    run XP i_slices_Compare_int_int [.bref l xs.length, .bref m ys.length] h = some (vi (lexc sgn xs ys), h) := by
  rw [run_eq, xp_slices_Compare_int_int]
  have hb1 : ∀ l : List Int, (il l).map rdCells = il l := fun l => by simp [il]
  simp -implicitDefEqProofs [x_slices_Compare_int_int, il_length, hx, hy, hb1]
  refine loop_list xs (fun k s h' => Sees s [(0, .bref l xs.length), (1, .bref m ys.length), (9, .bref l xs.length), (10, vi xs.length), (11, vi k)] ∧ h' = h ∧ lexc sgn xs ys = lexc sgn (xs.drop k) (ys.drop k)) ?_ ?_ _ _ ⟨by simp, rfl, rfl⟩
  · rintro B f hB hf k e s h' he hk ⟨⟨h0', h1, h9, h10, h11, -⟩, rfl, hq⟩ K
    have hlt : (k : Int) < xs.length := by omega
    have hky : k < ys.length := by omega
    have hlt2 : ¬ ((ys.length : Int) ≤ k) := by omega
    obtain ⟨e', he'⟩ : ∃ e', ys[k]? = some e' := ⟨_, List.getElem?_eq_getElem hky⟩
    have hc := run_cmpI h' e e'
    have g1 := il_get he
    have g2 := il_get he'
    rw [lexc_at he he'] at hq
    by_cases h0 : sgn e e' = 0
    · rw [if_neg (by simpa using h0)] at hq
      simp -implicitDefEqProofs [hB, x_slices_Compare_int_int_l0, h1, h9, h10, h11, hlt, hlt2, hk, hky, hx, hy, g1, g2, hc, h0, il_length, hb1]
      refine K _ _ ⟨?_, rfl, hq⟩
      simp [h0', h1, h9, h10, wrap_up (by omega : k < 100000000000)]
    · rw [if_pos h0] at hq
      have h0n : (sgn e e' != 0) = true := by simpa using h0
      simp -implicitDefEqProofs [hB, hf, x_slices_Compare_int_int_l0, h1, h9, h10, h11, hlt, hlt2, hk, hky, hx, hy, g1, g2, hc, h0n, hq, il_length, hb1]
  · rintro B hB s h' ⟨⟨h0', h1, h9, h10, h11, -⟩, rfl, hq⟩
    rw [lexc_last, if_neg (by omega)] at hq
    simp -implicitDefEqProofs [hB, x_slices_Compare_int_int_l0, h0', h1, h9, h10, h11, hq, hx, hy, il_length, hn, hb1]
end Go.Proofs.Sl

namespace Go.Proofs.Sl
theorem run_cmpV (h : H) (a b : AV) : run XP i_attribute_CompareValues [a.v, b.v] h = some (vi (cmpV a b), h) := by
  obtain ⟨k, t, n⟩ := a
  obtain ⟨k', t', n'⟩ := b
  rw [run_eq, xp_attribute_CompareValues]
  have h1 := fun h => run_cmpI h k k'
  have h2 := fun h => run_cmpT h t t'
  have h3 := fun h => run_cmpI h n n'
  have h4 := fun h => run_Or h [sgn k k', wrd t t', sgn n n'] (by simp)
  simp only [il, List.map_cons, List.map_nil] at h4
  simp -implicitDefEqProofs [x_attribute_CompareValues, AV.v, h1, h2, h3, h4, same_self, optEq, cmpV]
theorem run_cmpA (h : H) (a b : AT) : run XP i_attribute_CompareAttrs_1 [a.v, b.v] h = some (vi (cmpA a b), h) := by
  obtain ⟨k, v⟩ := a
  obtain ⟨k', v'⟩ := b
  rw [run_eq, xp_attribute_CompareAttrs_1]
  have h1 := fun h => run_cmpT h k k'
  have h2 := fun h => run_cmpV h v v'
  have h4 := fun h => run_Or h [wrd k k', cmpV v v'] (by simp)
  simp only [il, List.map_cons, List.map_nil, AV.v] at h4 h2
  simp -implicitDefEqProofs [x_attribute_CompareAttrs_1, AT.v, h1, h2, h4, same_self, optEq, cmpA]
theorem run_cmpR (h : H) (a b : RF) : run XP i_span_CompareRefs [a.v, b.v] h = some (vi (cmpR a b), h) := by
  obtain ⟨k, v⟩ := a
  obtain ⟨k', v'⟩ := b
  rw [run_eq, xp_span_CompareRefs]
  have h1 := fun h => run_cmpI h k k'
  have h2 := fun h => run_cmpI h v v'
  have h4 := fun h => run_Or h [sgn k k', sgn v v'] (by simp)
  simp only [il, List.map_cons, List.map_nil] at h4
  simp -implicitDefEqProofs [x_span_CompareRefs, RF.v, h1, h2, h4, same_self, optEq, cmpR]
end Go.Proofs.Sl

namespace Go.Proofs.Sl

/-- slices.CompareFunc of two lists of AT. -/
theorem run_CFAT {h : H} {v w : V} {xs ys : List AT} (hx : ∀ h, Rd h 4 v (xs.map AT.v)) (hy : ∀ h, Rd h 4 w (ys.map AT.v)) (hl : xs.length ≤ 9223372036854775807) :
    run XP i_slices_CompareFunc_api_Attr_api_Attr_api_Attr_api_Attr [v, w, .fn i_attribute_CompareAttrs_1 [] []] h = some (vi (lexc cmpA xs ys), h) := by
  rw [run_eq, xp_slices_CompareFunc_api_Attr_api_Attr_api_Attr_api_Attr]
  simp -implicitDefEqProofs [x_slices_CompareFunc_api_Attr_api_Attr_api_Attr_api_Attr, (hx _).toL]
  refine loop_list xs (fun k s h' => Sees s [(0, v), (1, w), (2, .fn i_attribute_CompareAttrs_1 [] []), (11, v), (12, vi xs.length), (13, vi k)] ∧ (∃ t, h' = h ++ t) ∧ lexc cmpA xs ys = lexc cmpA (xs.drop k) (ys.drop k)) ?_ ?_ _ _ ⟨by simp, ⟨[], by simp⟩, rfl⟩
  · rintro B f hB hf k e s h' he hk ⟨⟨h0, h1, h2, h11, h12, h13, -⟩, ⟨t, rfl⟩, hq⟩ K
    have hlt : (k : Int) < xs.length := by omega
    obtain ⟨p, hp, hld⟩ := (hx (h ++ t)).at (i := k) (e := e.v) (by simp [he])
    have hw : IntKind.i64.wrap ((k : Int) + 1) = (k : Int) + 1 := wrap_i64 (by omega) (by omega)
    by_cases hky : k < ys.length
    · have hlt2 : ¬ ((ys.length : Int) ≤ k) := by omega
      obtain ⟨e', he'⟩ : ∃ e', ys[k]? = some e' := ⟨_, List.getElem?_eq_getElem hky⟩
      obtain ⟨p', hp', hld'⟩ := (hy (h ++ (t ++ [.box false e.v.cells]))).at (i := k) (e := e'.v) (by simp [he'])
      have hc := fun h => run_cmpA h e e'
      rw [lexc_at he he'] at hq
      simp only [AT.v, V.cells] at hld hld' hc hp'
      by_cases hz : cmpA e e' = 0
      · rw [if_neg (by simpa using hz)] at hq
        simp -implicitDefEqProofs [hB, x_slices_CompareFunc_api_Attr_api_Attr_api_Attr_api_Attr_l0, h0, h1, h2, h11, h12, h13, hlt, hlt2, hk, (hy _).toL, hp, hld, hp', hld', hc, hz]
        refine K _ _ ⟨?_, ⟨_, rfl⟩, hq⟩
        simp [h0, h1, h2, h11, h12, hw]
      · rw [if_pos hz] at hq
        have hz' : (cmpA e e' != 0) = true := by simpa using hz
        simp -implicitDefEqProofs [hB, hf, x_slices_CompareFunc_api_Attr_api_Attr_api_Attr_api_Attr_l0, h0, h1, h2, h11, h12, h13, hlt, hlt2, hk, (hy _).toL, hp, hld, hp', hld', hc, hz', hq]
    · have hlt2 : ((ys.length : Int) ≤ k) := by omega
      rw [lexc_end he (by omega)] at hq
      simp only [AT.v, V.cells] at hld
      simp -implicitDefEqProofs [hB, hf, x_slices_CompareFunc_api_Attr_api_Attr_api_Attr_api_Attr_l0, h0, h1, h2, h11, h12, h13, hlt, hlt2, hk, (hy _).toL, hp, hld, hq]
  · rintro B hB s h' ⟨⟨h0, h1, h2, h11, h12, h13, -⟩, ⟨t, rfl⟩, hq⟩
    rw [lexc_last] at hq
    by_cases hlt : xs.length < ys.length
    · rw [if_pos hlt] at hq
      simp -implicitDefEqProofs [hB, x_slices_CompareFunc_api_Attr_api_Attr_api_Attr_api_Attr_l0, h0, h1, h11, h12, h13, hq, (hx _).toL, (hy _).toL, hlt]
    · rw [if_neg hlt] at hq
      simp -implicitDefEqProofs [hB, x_slices_CompareFunc_api_Attr_api_Attr_api_Attr_api_Attr_l0, h0, h1, h11, h12, h13, hq, (hx _).toL, (hy _).toL, hlt]

/-- slices.CompareFunc of two lists of RF. -/
theorem run_CFRF {h : H} {v w : V} {xs ys : List RF} (hx : ∀ h, Rd h 2 v (xs.map RF.v)) (hy : ∀ h, Rd h 2 w (ys.map RF.v)) (hl : xs.length ≤ 9223372036854775807) :
    run XP i_slices_CompareFunc_api_Ref_api_Ref_api_Ref_api_Ref [v, w, .fn i_span_CompareRefs [] []] h = some (vi (lexc cmpR xs ys), h) := by
  rw [run_eq, xp_slices_CompareFunc_api_Ref_api_Ref_api_Ref_api_Ref]
  simp -implicitDefEqProofs [x_slices_CompareFunc_api_Ref_api_Ref_api_Ref_api_Ref, (hx _).toL]
  refine loop_list xs (fun k s h' => Sees s [(0, v), (1, w), (2, .fn i_span_CompareRefs [] []), (11, v), (12, vi xs.length), (13, vi k)] ∧ (∃ t, h' = h ++ t) ∧ lexc cmpR xs ys = lexc cmpR (xs.drop k) (ys.drop k)) ?_ ?_ _ _ ⟨by simp, ⟨[], by simp⟩, rfl⟩
  · rintro B f hB hf k e s h' he hk ⟨⟨h0, h1, h2, h11, h12, h13, -⟩, ⟨t, rfl⟩, hq⟩ K
    have hlt : (k : Int) < xs.length := by omega
    obtain ⟨p, hp, hld⟩ := (hx (h ++ t)).at (i := k) (e := e.v) (by simp [he])
    have hw : IntKind.i64.wrap ((k : Int) + 1) = (k : Int) + 1 := wrap_i64 (by omega) (by omega)
    by_cases hky : k < ys.length
    · have hlt2 : ¬ ((ys.length : Int) ≤ k) := by omega
      obtain ⟨e', he'⟩ : ∃ e', ys[k]? = some e' := ⟨_, List.getElem?_eq_getElem hky⟩
      obtain ⟨p', hp', hld'⟩ := (hy (h ++ (t ++ [.box false e.v.cells]))).at (i := k) (e := e'.v) (by simp [he'])
      have hc := fun h => run_cmpR h e e'
      rw [lexc_at he he'] at hq
      simp only [RF.v, V.cells] at hld hld' hc hp'
      by_cases hz : cmpR e e' = 0
      · rw [if_neg (by simpa using hz)] at hq
        simp -implicitDefEqProofs [hB, x_slices_CompareFunc_api_Ref_api_Ref_api_Ref_api_Ref_l0, h0, h1, h2, h11, h12, h13, hlt, hlt2, hk, (hy _).toL, hp, hld, hp', hld', hc, hz]
        refine K _ _ ⟨?_, ⟨_, rfl⟩, hq⟩
        simp [h0, h1, h2, h11, h12, hw]
      · rw [if_pos hz] at hq
        have hz' : (cmpR e e' != 0) = true := by simpa using hz
        simp -implicitDefEqProofs [hB, hf, x_slices_CompareFunc_api_Ref_api_Ref_api_Ref_api_Ref_l0, h0, h1, h2, h11, h12, h13, hlt, hlt2, hk, (hy _).toL, hp, hld, hp', hld', hc, hz', hq]
    · have hlt2 : ((ys.length : Int) ≤ k) := by omega
      rw [lexc_end he (by omega)] at hq
      simp only [RF.v, V.cells] at hld
      simp -implicitDefEqProofs [hB, hf, x_slices_CompareFunc_api_Ref_api_Ref_api_Ref_api_Ref_l0, h0, h1, h2, h11, h12, h13, hlt, hlt2, hk, (hy _).toL, hp, hld, hq]
  · rintro B hB s h' ⟨⟨h0, h1, h2, h11, h12, h13, -⟩, ⟨t, rfl⟩, hq⟩
    rw [lexc_last] at hq
    by_cases hlt : xs.length < ys.length
    · rw [if_pos hlt] at hq
      simp -implicitDefEqProofs [hB, x_slices_CompareFunc_api_Ref_api_Ref_api_Ref_api_Ref_l0, h0, h1, h11, h12, h13, hq, (hx _).toL, (hy _).toL, hlt]
    · rw [if_neg hlt] at hq
      simp -implicitDefEqProofs [hB, x_slices_CompareFunc_api_Ref_api_Ref_api_Ref_api_Ref_l0, h0, h1, h11, h12, h13, hq, (hx _).toL, (hy _).toL, hlt]
end Go.Proofs.Sl

namespace Go.Proofs.Sl
structure SP.Len (a : SP) : Prop where
  al : a.ats.length ≤ 9223372036854775807
  ll : a.lks.length ≤ 9223372036854775807
  an : a.an = true → a.ats = []
  ln : a.ln = true → a.lks = []
theorem rd_slc {α : Type} (h : H) (k : Nat) (v : α → V) {l : List α} {n : Bool} (hn : n = true → l = []) : Rd h k (lv k (slc v l n)) (l.map v) := by
  have := Rd.lv h k (slc v l n)
  rwa [slc_getD hn] at this
theorem orl6 (a b c d e f : Int) (l : List Int) : orl (orl [a, b, c, d, e, f] :: l) = orl (a :: b :: c :: d :: e :: f :: l) := by
  have := orl_append [a, b, c, d, e, f] l
  simp only [List.cons_append, List.nil_append] at this
  rw [this]
  simp only [orl]
theorem lexc6 (a b c d e f a' b' c' d' e' f' : Int) : lexc sgn [a, b, c, d, e, f] [a', b', c', d', e', f'] = orl [sgn a a', sgn b b', sgn c c', sgn d d', sgn e e', sgn f f'] := by
  simp only [lexc, orl]
theorem flg_sub (a b : Bool) : IntKind.i64.wrap (flg a - flg b) = sgn (flg a) (flg b) := by cases a <;> cases b <;> rfl

theorem run_cmpS (h : H) {a b : SP} (ha : a.Len) (hb : b.Len) : run XP i_span_Compare [a.v, b.v] h = some (vi (cmpS a b), h) := by
  obtain ⟨q1, q2, q3, q4⟩ := ha
  obtain ⟨r1, r2, r3, r4⟩ := hb
  obtain ⟨tr, id, par, rev, clk, kind, sv, vr, op, st, en, er, ats, lks, an, ln⟩ := a
  obtain ⟨tr', id', par', rev', clk', kind', sv', vr', op', st', en', er', ats', lks', an', ln'⟩ := b
  simp only at q1 q2 q3 q4 r1 r2 r3 r4
  have cA := fun h => run_CFAT (h := h) (fun h => rd_slc h 4 AT.v q3) (fun h => rd_slc h 4 AT.v r3) q1
  have cR := fun h => run_CFRF (h := h) (fun h => rd_slc h 2 RF.v q4) (fun h => rd_slc h 2 RF.v r4) q2
  have h1 := fun h => run_cmpT h sv sv'
  have h2 := fun h => run_cmpT h vr vr'
  have h3 := fun h => run_cmpT h op op'
  have h4 := fun h => run_cmpI h st st'
  have h5 := fun h => run_cmpI h en en'
  have h6 := fun h => run_number h er
  have h7 := fun h => run_number h er'
  have h8 := fun h => run_Or h [orl [sgn tr tr', sgn id id', sgn rev rev', sgn par par', sgn clk clk', sgn kind kind'], wrd sv sv', wrd vr vr', wrd op op', sgn st st', sgn en en', sgn (flg er) (flg er'), lexc cmpA ats ats', lexc cmpR lks lks'] (by simp)
  have h9 : ∀ (h : H) (t1 t2 : H) (z z' : Bool), run XP i_slices_Compare_int_int [.bref (h.length + 2) 6, .bref (h.length + 3) 6] (h ++ [t1.headD .dead, t2.headD .dead, .box z [vi tr, vi id, vi rev, vi par, vi clk, vi kind], .box z' [vi tr', vi id', vi rev', vi par', vi clk', vi kind']]) =
      some (vi (orl [sgn tr tr', sgn id id', sgn rev rev', sgn par par', sgn clk clk', sgn kind kind']), h ++ [t1.headD .dead, t2.headD .dead, .box z [vi tr, vi id, vi rev, vi par, vi clk, vi kind], .box z' [vi tr', vi id', vi rev', vi par', vi clk', vi kind']]) := by
    intro h t1 t2 z z'
    have := run_sCmp (h := h ++ [t1.headD .dead, t2.headD .dead, .box z [vi tr, vi id, vi rev, vi par, vi clk, vi kind], .box z' [vi tr', vi id', vi rev', vi par', vi clk', vi kind']]) (l := h.length + 2) (m := h.length + 3) (z := z) (z' := z') (xs := [tr, id, rev, par, clk, kind]) (ys := [tr', id', rev', par', clk', kind']) (by simp [il]) (by simp [il]) rfl (by simp)
    rw [lexc6] at this
    exact this
  have h9' := fun a b => h9 h [a] [b] false false
  simp only [List.headD] at h9'
  simp only [il, List.map_cons, List.map_nil] at h8
  have hcA : ∀ h, run XP i_attribute_CompareAttrs [lv 4 (slc AT.v ats an), lv 4 (slc AT.v ats' an')] h = some (vi (lexc cmpA ats ats'), h) := by
    intro h
    rw [run_eq, xp_attribute_CompareAttrs]
    simp -implicitDefEqProofs [x_attribute_CompareAttrs, cA, (rd_slc h 4 AT.v q3).arg0, (rd_slc h 4 AT.v r3).arg0]
  rw [run_eq, xp_span_Compare]
  simp -implicitDefEqProofs [x_span_Compare, SP.v, h1, h2, h3, h4, h5, h6, h7, h8, h9', cR, hcA, flg_sub, (fun h => (rd_slc h 4 AT.v q3).arg0), (fun h => (rd_slc h 4 AT.v r3).arg0), (fun h => (rd_slc h 2 RF.v q4).arg0), (fun h => (rd_slc h 2 RF.v r4).arg0), same_self, optEq, cmpS, orl6]
end Go.Proofs.Sl

namespace Go.Proofs.Sl
theorem run_RefOf (h : H) (a : SP) : run XP i_span_RefOf [a.v] h = some (RF.v ⟨a.tr, a.id⟩, h) := by
  rw [run_eq, xp_span_RefOf]
  simp -implicitDefEqProofs [x_span_RefOf, SP.v, RF.v]
theorem run_Equal (h : H) {a b : SP} (ha : a.Len) (hb : b.Len) : run XP i_span_Equal [a.v, b.v] h = some (vb (cmpS a b == 0), h) := by
  have hc := fun h => run_cmpS h ha hb
  simp only [SP.v] at hc
  rw [run_eq, xp_span_Equal]
  simp -implicitDefEqProofs [x_span_Equal, SP.v, hc]
theorem wide_AT : ∀ l : List AT, wide 4 (l.map AT.v) = true
  | [] => rfl
  | a :: l => by simp only [List.map_cons, wide, wide_AT l, Bool.and_true]; rfl
theorem wide_RF : ∀ l : List RF, wide 2 (l.map RF.v) = true
  | [] => rfl
  | a :: l => by simp only [List.map_cons, wide, wide_RF l, Bool.and_true]; rfl
theorem wide_SP1 (a : SP) : wide 14 [a.v] = true := by
  have h : ∀ (k : Nat) (o : Option (List V)), (lv k o).cell = true := fun k o => by cases o <;> rfl
  simp only [wide, SP.v, V.cells, List.length_cons, List.length_nil, cellsOk, h, Bool.and_true]
  rfl
theorem wide_SP : ∀ l : List SP, wide 14 (l.map SP.v) = true
  | [] => rfl
  | a :: l => by
    have h := wide_SP1 a
    simp only [wide, Bool.and_true] at h
    simp only [List.map_cons, wide, h, wide_SP l, Bool.and_self]
/-- A list that has been made. -/
def ov (k : Nat) : Option (List V) → V
  | none => vnil
  | some es => .own k es
theorem ov_res0 (k : Nat) (o : Option (List V)) : res0 (ov k o) = lv k o := by cases o <;> rfl
theorem run_CloneA (h : H) {l : List AT} {n : Bool} (hn : n = true → l = []) (hl : l.length ≤ 2932031007402) : run XP i_slices_Clone_api_Attr_api_Attr [lv 4 (slc AT.v l n)] h = some (ov 4 (slc AT.v l n), h) := by
  rw [run_eq, xp_slices_Clone_api_Attr_api_Attr]
  have h1 := wide_AT l
  have h2 := closeds_AT l
  cases n with
  | true =>
    rw [hn rfl]
    simp -implicitDefEqProofs [x_slices_Clone_api_Attr_api_Attr, slc, lv, ov]
  | false => simp -implicitDefEqProofs [x_slices_Clone_api_Attr_api_Attr, slc, lv, ov, h1, h2, hl]
theorem run_CloneR (h : H) {l : List RF} {n : Bool} (hn : n = true → l = []) (hl : l.length ≤ 8796093022208) : run XP i_slices_Clone_api_Ref_api_Ref [lv 2 (slc RF.v l n)] h = some (ov 2 (slc RF.v l n), h) := by
  rw [run_eq, xp_slices_Clone_api_Ref_api_Ref]
  have h1 := wide_RF l
  have h2 := closeds_RF l
  cases n with
  | true =>
    rw [hn rfl]
    simp -implicitDefEqProofs [x_slices_Clone_api_Ref_api_Ref, slc, lv, ov]
  | false => simp -implicitDefEqProofs [x_slices_Clone_api_Ref_api_Ref, slc, lv, ov, h1, h2, hl]
/-- Lists that may be copied. -/
structure SP.Sm (a : SP) : Prop where
  al : a.ats.length ≤ 2000000000000
  ll : a.lks.length ≤ 2000000000000
  an : a.an = true → a.ats = []
  ln : a.ln = true → a.lks = []
theorem SP.Sm.len {a : SP} (h : a.Sm) : a.Len := ⟨by have := h.al; omega, by have := h.ll; omega, h.an, h.ln⟩
theorem run_copied (h : H) {a : SP} (ha : a.Sm) : run XP i_span_copied [a.v] h = some (a.v, h) := by
  have h1 := fun h => run_CloneA h ha.an (by have := ha.al; omega)
  have h2 := fun h => run_CloneR h ha.ln (by have := ha.ll; omega)
  rw [run_eq, xp_span_copied]
  simp -implicitDefEqProofs [x_span_copied, SP.v, h1, h2, ov_res0, same_self, optEq]
end Go.Proofs.Sl

namespace Go.Proofs.Sl
def selA (p : Nat → Bool) : Nat → List SP → List SP
  | _, [] => []
  | k, e :: r => if p k = true then e :: selA p (k + 1) r else selA p (k + 1) r
/-- A list that grows in a variable: where it lies. -/
def OutV (x : V) (h : H) (b k : Nat) (es : List V) : Prop := (es = [] ∧ x = vnil) ∨ ∃ q, es ≠ [] ∧ b ≤ q ∧ x = .ref q es.length ∧ h[q]? = some (.arr false k es)
theorem OutV.app {x : V} {h : H} {b k : Nat} {es : List V} (o : OutV x h b k es) (t : H) : OutV x (h ++ t) b k es := by
  rcases o with o | ⟨q, h0, h1, h2, h3⟩
  · exact .inl o
  · exact .inr ⟨q, h0, h1, h2, by rw [List.getElem?_append_left (List.getElem?_eq_some_iff.1 h3).1]; exact h3⟩
/-- Something is appended. -/
theorem OutV.grow {x : V} {h : H} {b k lim : Nat} {es : List V} (o : OutV x h b k es) {e : V} (hb : b ≤ h.length) (hw : wide k [e] = true) (hc : V.closed.closeds [e] = true) (hl : es.length + 1 ≤ lim) :
    ∃ x' h', xappend h k lim x (.lst k [e]) = some (x', h') ∧ OutV x' h' b k (es ++ [e]) ∧ h'.take b = h.take b ∧ b ≤ h'.length := by
  have ea : appEls h (.lst k [e]) = some [e] := rfl
  rcases o with ⟨rfl, rfl⟩ | ⟨q, h0, h1, rfl, h3⟩
  · have hl' : 1 ≤ lim := by simpa using hl
    refine ⟨.ref h.length 1, h ++ [.arr false k [e]], ?_, .inr ⟨h.length, by simp, hb, rfl, by simp⟩, by rw [List.take_append_of_le_length hb], by simp; omega⟩
    simp only [xappend, ea, ob_some, hw, hc, and_self, if_true, List.length_cons, List.length_nil, Nat.zero_add, Nat.one_ne_zero, if_false, hl']
  · have hq := (List.getElem?_eq_some_iff.1 h3).1
    refine ⟨.ref q (es.length + 1), h.set q (.arr false k (es ++ [e])), ?_, .inr ⟨q, by simp, h1, by simp, by rw [List.getElem?_set_self hq]⟩, ?_, by simpa using hb⟩
    · have : arrN h q es.length = some (false, k, es) := by simp [arrN, arrAt, h3, ob_some]
      simp only [xappend, ea, ob_some, hw, hc, and_self, if_true, this, List.length_cons, List.length_nil, Nat.zero_add, true_and, hl]
    · rw [List.take_set, List.set_eq_of_length_le (by simp; omega)]
theorem OutV.ret {x : V} {h : H} {b k : Nat} {es : List V} (o : OutV x h b k es) (hc : V.closed.closeds es = true) : retV b h .v x [] = some (if es = [] then vnil else .own k es, []) := by
  rcases o with ⟨rfl, rfl⟩ | ⟨q, h0, h1, rfl, h3⟩
  · simp
  · have : arrN h q es.length = some (false, k, es) := by simp [arrN, arrAt, h3, ob_some]
    rw [if_neg h0]
    show (if q < b then _ else ob (arrN h q es.length) _) = _
    rw [if_neg (by omega), this, ob_some, if_pos hc]
    rfl
theorem run_chosen {h : H} {v : V} {es : List SP} (hv : ∀ t, Rd (h ++ t) 14 v (es.map SP.v)) (hs : ∀ e ∈ es, e.Sm) (hl : es.length ≤ 100000) {f : Nat} {b : List V} (hb0 : arg0s b = some b) {p : Nat → Bool} (hp : ∀ k t, k < es.length → run XP f (vi k :: b) (h ++ t) = some (vb (p k), h ++ t)) :
    run XP i_span_chosen [v, .fn f [] b] h = some (if selA p 0 es = [] then vnil else .own 14 ((selA p 0 es).map SP.v), h) := by
  have hv0 := hv []
  rw [List.append_nil] at hv0
  rw [run_eq, xp_span_chosen]
  simp -implicitDefEqProofs [x_span_chosen, hv0.toL]
  refine loop_list es (fun k s h' => ∃ t pre, Sees s [(1, .fn f [] b), (8, v), (9, vi es.length), (10, vi k)] ∧ h' = h ++ t ∧ OutV (s 5) h' h.length 14 (pre.map SP.v) ∧ pre ++ selA p k (es.drop k) = selA p 0 es ∧ pre.length ≤ k) ?_ ?_ _ _
    ⟨[], [], by simp, by simp, .inl ⟨rfl, by simp⟩, rfl, by simp⟩
  · rintro B f' hB hf k e s h' he hk ⟨t, pre, ⟨h1, h8, h9, h10, -⟩, rfl, ho, hx, hpl⟩ K
    have hlt : (k : Int) < es.length := by omega
    obtain ⟨q, hq, hld⟩ := (hv t).at (i := k) (e := e.v) (by simp [he])
    have hw : IntKind.i64.wrap ((k : Int) + 1) = (k : Int) + 1 := wrap_i64 (by omega) (by omega)
    have hsm := hs e (List.mem_of_getElem? he)
    have hcp := fun h => run_copied h hsm
    have hpk := fun t => hp k t hk
    have hw1 := wide_SP1 e
    have hc1 : V.closed.closeds [e.v] = true := closeds_SP [e]
    rw [drop_at he, selA] at hx
    obtain ⟨x', h'', hap, ho', htk, hbl⟩ := (ho.app [.box false e.v.cells]).grow (lim := 837723144972) (by simp) hw1 hc1 (by simp; omega)
    simp only [SP.v, V.cells] at hld hcp hap hw1 hc1
    rw [List.append_assoc] at hap
    cases hb : p k with
    | false =>
      rw [hb, if_neg (by simp)] at hx
      simp -implicitDefEqProofs [hB, x_span_chosen_l0, h1, h8, h9, h10, hlt, hq, hld, hb0, hpk, hb]
      refine K _ _ ⟨t ++ [.box false e.v.cells], pre, ?_, ?_, ?_, hx, by omega⟩
      · simp [h1, h8, h9, hw]
      · simp [SP.v]
      · have := ho.app [.box false e.v.cells]
        simpa [SP.v] using this
    | true =>
      rw [hb, if_pos rfl] at hx
      have htk' : ∃ t', h'' = h ++ t' := ⟨h''.drop h.length, by
        have := List.take_append_drop h.length h''
        rw [htk] at this
        rw [List.append_assoc, List.take_left] at this
        exact this.symm⟩
      obtain ⟨t', rfl⟩ := htk'
      simp -implicitDefEqProofs [hB, x_span_chosen_l0, h1, h8, h9, h10, hlt, hq, hld, hb0, hpk, hb, hcp, hap]
      refine K _ _ ⟨t', pre ++ [e], ?_, rfl, ?_, by simpa using hx, by simp; omega⟩
      · simp [h1, h8, h9, hw]
      · simpa using ho'
  · rintro B hB s h' ⟨t, pre, ⟨h1, h8, h9, h10, -⟩, rfl, ho, hx, -⟩
    rw [List.drop_of_length_le (Nat.le_refl _), selA, List.append_nil] at hx
    subst hx
    have hr := ho.ret (closeds_SP _)
    simp -implicitDefEqProofs [hB, x_span_chosen_l0, h1, h8, h9, h10]
    simp only [hr]
    simp
end Go.Proofs.Sl

namespace Go.Proofs.Sl
def cptA : SP → List SP → List SP
  | _, [] => []
  | a, b :: r => if cmpS b a = 0 then cptA b r else b :: cptA b r
def cpt : List SP → List SP
  | [] => []
  | a :: r => a :: cptA a r
def zSP : V := .agg [.s (.int .i64 0), .s (.int .i64 0), .s (.int .i64 0), .s (.int .i64 0), .s (.int .i64 0), .s (.int .i64 0), .s (.string ⟨#[]⟩), .s (.string ⟨#[]⟩), .s (.string ⟨#[]⟩), .s (.int .i64 0), .s (.int .i64 0), .s (.bool false), .s (.slice none 0 0), .s (.slice none 0 0)]
theorem closeds_app (a b : List V) : V.closed.closeds (a ++ b) = (V.closed.closeds a && V.closed.closeds b) := by
  induction a with
  | nil => rfl
  | cons x a ih => simp only [List.cons_append, V.closed.closeds, ih, Bool.and_assoc]
theorem closeds_rep (n : Nat) : V.closed.closeds (List.replicate n zSP) = true := by
  induction n with
  | zero => rfl
  | succ n ih => simp only [List.replicate_succ, V.closed.closeds, ih, Bool.and_true]; rfl

theorem SP_cells (a : SP) : a.v.cells.length = 14 ∧ cellsOk a.v.cells = true := by
  have := wide_SP1 a
  simp only [wide, Bool.and_true, Bool.and_eq_true, beq_iff_eq] at this
  exact this
theorem putEl_SP (a b : SP) : putEl 0 a.v.cells b.v = a.v := rfl
theorem keep0s_SP (a : SP) : keep0s a.v.cells = some a.v.cells := by
  have h1 : ∀ (k : Nat) (o : Option (List V)), frz0 (lv k o) = some (lv k o) := fun k o => by cases o <;> rfl
  simp [SP.v, V.cells, keep0s, h1]
theorem xstore_SP {base : Nat} {h : H} {l n i : Nat} {ws : List SP} (e : h[l]? = some (.arr false 14 (ws.map SP.v))) (hn : ws.length = n) (hi : i < n) (a : SP) :
    xstore base h 14 (.eptr l n i 0) a.v = some (h.set l (.arr false 14 ((ws.set i a).map SP.v))) := by
  have h1 : arrN h l n = some (false, 14, ws.map SP.v) := by simp [arrN, arrAt, e, ob_some, hn]
  obtain ⟨w, hw⟩ : ∃ w, ws[i]? = some w := ⟨_, List.getElem?_eq_getElem (by omega)⟩
  have h2 : (ws.map SP.v)[i]? = some w.v := by rw [List.getElem?_map, hw]; rfl
  have h3 : V.closed.closeds a.v.cells = true := by
    have := closeds_SP [a]
    simp only [List.map_cons, List.map_nil, V.closed.closeds, Bool.and_true] at this
    exact this
  have h4 : cellsOk a.v.cells = true := (SP_cells a).2
  rw [xstore_eptr, if_pos (SP_cells a).1, h1, ob_some]
  simp only [Bool.false_eq_true, if_false, h2, ob_some, keep0s_SP, h3, h4, and_true]
  rw [if_pos (by rw [(SP_cells w).1]; exact Nat.le_refl _), putEl_SP, List.map_set]
theorem xload_SP {h : H} {l n i : Nat} {z : Bool} {ws : List SP} (e : h[l]? = some (.arr z 14 (ws.map SP.v))) (hn : ws.length = n) {a : SP} (hi : ws[i]? = some a) : xload h 14 true (.eptr l n i 0) = some a.v := by
  have h1 : arrN h l n = some (z, 14, ws.map SP.v) := by simp [arrN, arrAt, e, ob_some, hn]
  have h2 : (ws.map SP.v)[i]? = some a.v := by rw [List.getElem?_map, hi]; rfl
  rw [xload_eptr, h1, ob_some]
  simp only [h2, ob_some]
  rfl
theorem toL_winL {h : H} {l n a b : Nat} {z : Bool} {ws : List V} (e : h[l]? = some (.arr z 14 ws)) (hn : ws.length = n) (hb : b ≤ n) : V.toL h (.win l n a b) = some ((ws.take b).drop a) := by
  show (match h[l]? with
    | some (.arr _ _ es) => if es.length = n ∧ b ≤ n then some ((es.take b).drop a) else none
    | _ => none) = _
  rw [e]
  exact if_pos ⟨hn, hb⟩
theorem iaddr_win {h : H} {l n a b i : Nat} {z : Bool} {ws : List V} (e : h[l]? = some (.arr z 14 ws)) (hn : ws.length = n) (hi : a + i < b) (hb : b ≤ n) : iaddrV h 14 (.win l n a b) i = some (.eptr l n (a + i) 0) := by
  rw [iaddrV_win]
  have h1 : arrN h l n = some (z, 14, ws) := by simp [arrN, arrAt, e, ob_some, hn]
  rw [h1, ob_some, if_pos ⟨hi, hb, rfl⟩]
theorem iaddr_ref {h : H} {l n i : Nat} {z : Bool} {ws : List V} (e : h[l]? = some (.arr z 14 ws)) (hn : ws.length = n) (hi : i < n) : iaddrV h 14 (.ref l n) i = some (.eptr l n i 0) := by
  have h1 : arrN h l n = some (z, 14, ws) := by simp [arrN, arrAt, e, ob_some, hn]
  rw [iaddrV_ref, h1, ob_some, if_pos ⟨hi, rfl⟩]
theorem list_set_same' {h : H} {l : Nat} {o : O} (e : h[l]? = some o) : h.set l o = h := by
  apply List.ext_getElem?
  intro i
  rw [List.getElem?_set]
  split
  · rename_i hi
    subst hi
    have := (List.getElem?_eq_some_iff.1 e).1
    rw [if_pos this, e]
  · rfl
theorem cptA_end {a : SP} : cptA a [] = [] := rfl

theorem cpt_start (es : List SP) (a : SP) (ha : es[1 - 1]? = some a) : cpt es = es.take 1 ++ cptA a (es.drop 1) := by
  cases es with
  | nil => simp at ha
  | cons x r =>
    simp only [Nat.sub_self, List.getElem?_cons_zero, Option.some.injEq] at ha
    subst ha
    rfl
theorem run_Compact {h : H} {l : Nat} {es : List SP} (he : h[l]? = some (.arr false 14 (es.map SP.v))) (hs : ∀ e ∈ es, e.Sm) (hn : es.length ≤ 100000) :
    ∃ r, run XP i_slices_CompactFunc_api_Span_api_Span [.ref l es.length, .fn i_span_Equal [] []] h = some r ∧ ((r = (.ref l es.length, h) ∧ cpt es = es) ∨ ∃ o, r = (.lst 14 ((cpt es).map SP.v), h.set l o)) := by
  have hl : l < h.length := (List.getElem?_eq_some_iff.1 he).1
  have hset : ∀ o : O, (h.set l o)[l]? = some o := fun o => List.getElem?_set_self hl
  have hlen : (es.map SP.v).length = es.length := by simp
  have htoL : V.toL h (.ref l es.length) = some (es.map SP.v) := by simp [he]
  by_cases h2 : es.length < 2
  · refine ⟨_, ?_, .inl ⟨rfl, ?_⟩⟩
    · have h2i : (es.length : Int) < 2 := by omega
      rw [run_eq, xp_slices_CompactFunc_api_Span_api_Span]
      simp -implicitDefEqProofs [x_slices_CompactFunc_api_Span_api_Span, htoL, h2i, hl]
    · cases es with
      | nil => rfl
      | cons a r => cases r with
        | nil => rfl
        | cons b r => simp at h2; omega
  · have h2' : ¬ ((es.length : Int) < 2) := by omega
    suffices key : ∃ r, ((r = (.ref l es.length, h) ∧ cpt es = es) ∨ ∃ o, r = (.lst 14 ((cpt es).map SP.v), h.set l o)) ∧ run XP i_slices_CompactFunc_api_Span_api_Span [.ref l es.length, .fn i_span_Equal [] []] h = some r by
      obtain ⟨r, h3, h4⟩ := key
      exact ⟨r, h4, h3⟩
    -- which of the two it will be
    obtain ⟨r, hr, hr1, hr2⟩ : ∃ r, ((r = (V.ref l es.length, h) ∧ cpt es = es) ∨ ∃ o, r = (.lst 14 ((cpt es).map SP.v), h.set l o)) ∧ (cpt es = es → r = (.ref l es.length, h)) ∧
        (cpt es ≠ es → r = (.lst 14 ((cpt es).map SP.v), h.set l (.arr true 14 ((cpt es).map SP.v ++ List.replicate (es.length - (cpt es).length) zSP)))) := by
      by_cases hc : cpt es = es
      · exact ⟨_, .inl ⟨rfl, hc⟩, fun _ => rfl, fun h => absurd hc h⟩
      · exact ⟨_, .inr ⟨_, rfl⟩, fun h => absurd h hc, fun _ => rfl⟩
    refine ⟨r, hr, ?_⟩
    rw [run_eq, xp_slices_CompactFunc_api_Span_api_Span]
    simp -implicitDefEqProofs [x_slices_CompactFunc_api_Span_api_Span, htoL, h2']
    refine loop_ind (σ := Nat) (fun k => es.length - k) (fun k s h' => Sees s [(0, .ref l es.length), (1, .fn i_span_Equal [] []), (5, vi k)] ∧ h' = h ∧ 1 ≤ k ∧ k ≤ es.length ∧ ∀ a, es[k - 1]? = some a → cpt es = es.take k ++ cptA a (es.drop k)) ?_ 1 _ _
      ⟨by simp, rfl, Nat.le_refl _, by omega, cpt_start es⟩
    rintro B f hB hf k s h' ⟨⟨h0, h1, h5, -⟩, rfl, hk1, hkn, hinv⟩ K
    obtain ⟨a, ha⟩ : ∃ a, es[k - 1]? = some a := ⟨_, List.getElem?_eq_getElem (by omega)⟩
    have hx := hinv a ha
    have hw : IntKind.i64.wrap ((k : Int) + 1) = (k : Int) + 1 := wrap_i64 (by omega) (by omega)
    by_cases hlt : k < es.length
    · have hlti : (k : Int) < es.length := by omega
      obtain ⟨e, hek⟩ : ∃ e, es[k]? = some e := ⟨_, List.getElem?_eq_getElem hlt⟩
      have hw1 : IntKind.i64.wrap ((k : Int) - 1) = ((k - 1 : Nat) : Int) := by rw [wrap_i64 (by omega) (by omega)]; omega
      have ld1 := xload_SP he rfl hek
      have ld2 := xload_SP he rfl ha
      have hE := run_Equal h' (hs e (List.mem_of_getElem? hek)).len (hs a (List.mem_of_getElem? ha)).len
      have hp1 : k - 1 < es.length := by omega
      have hf1 : frz0 e.v = some e.v := rfl
      have ia1 := iaddr_ref he hlen hlt
      have ia2 := iaddr_ref he hlen hp1
      have ar1 : ∀ a : SP, arg0 a.v = some a.v := fun _ => rfl
      rw [drop_at hek, cptA] at hx
      by_cases hc : cmpS e a = 0
      · rw [if_pos hc] at hx
        have hc' : (cmpS e a == 0) = true := by simpa using hc
        have hsame : h'.set l (.arr false 14 (es.map SP.v)) = h' := list_set_same' he
        have hke : k ≤ es.length := by omega
        simp -implicitDefEqProofs [hB, hf, x_slices_CompactFunc_api_Span_api_Span_l1, h0, h1, h5, htoL, hlt, hw1, ia1, ia2, ld1, ld2, hE, hc', ar1, he, hke]
        refine loop_ind (σ := Nat) (fun j => es.length - j) (fun j s h'' => ∃ (ws out : List SP), Sees s [(0, .ref l es.length), (1, .fn i_span_Equal [] []), (5, vi out.length), (6, .win l es.length k es.length), (7, vi j)] ∧ h'' = h'.set l (.arr false 14 (ws.map SP.v)) ∧
          ws.length = es.length ∧ ws.take out.length = out ∧ out.length + 1 ≤ k + j ∧ (∀ i, k + j ≤ i + 1 → ws[i]? = es[i]?) ∧ (∀ b, es[k + j - 1]? = some b → cpt es = out ++ cptA b (es.drop (k + j))) ∧ 1 ≤ j ∧ k + j ≤ es.length) ?_ 1 _ _
          ⟨es, es.take k, by simp [Nat.min_eq_left hke, h0, h1, h5], hsame.symm, rfl, by simp, by simp; omega, fun _ _ => rfl, fun b hb => ?_, Nat.le_refl _, hlt⟩
        · rintro B2 f2 hB2 hf2 j s2 h2 ⟨ws, out, ⟨z0, z1, z5, z6, z7, -⟩, rfl, hwl, hwo, hol, hwe, hwc, hj1, hjn⟩ K2
          have hH := hset (.arr false 14 (ws.map SP.v))
          have hwl' : (ws.map SP.v).length = es.length := by simp [hwl]
          have htw := toL_winL hH hwl' (a := k) (Nat.le_refl es.length)
          have hlw : (((ws.map SP.v).take es.length).drop k).length = es.length - k := by simp [hwl]
          have hmn : out.length < es.length := by omega
          by_cases hjl : k + j < es.length
          · have hjlt : (j : Int) < ((es.length - k : Nat) : Int) := by omega
            have hw2 : IntKind.i64.wrap ((j : Int) - 1) = ((j - 1 : Nat) : Int) := by rw [wrap_i64 (by omega) (by omega)]; omega
            have hw3 : IntKind.i64.wrap ((j : Int) + 1) = (j : Int) + 1 := wrap_i64 (by omega) (by omega)
            have hw4 : IntKind.i64.wrap ((out.length : Int) + 1) = (out.length : Int) + 1 := wrap_i64 (by omega) (by omega)
            obtain ⟨e1, he1⟩ : ∃ e1, es[k + j]? = some e1 := ⟨_, List.getElem?_eq_getElem hjl⟩
            obtain ⟨e0, he0⟩ : ∃ e0, es[k + j - 1]? = some e0 := ⟨_, List.getElem?_eq_getElem (by omega)⟩
            have hj0 : k + (j - 1) = k + j - 1 := by omega
            have w1 : ws[k + j]? = some e1 := by rw [hwe _ (by omega), he1]
            have w0 : ws[k + (j - 1)]? = some e0 := by rw [hj0, hwe _ (by omega), he0]
            have ib1 := iaddr_win hH hwl' hjl (Nat.le_refl _)
            have ib0 := iaddr_win hH hwl' (a := k) (i := j - 1) (b := es.length) (by omega) (Nat.le_refl _)
            have ib2 := iaddr_ref hH hwl' hmn
            have lb1 := xload_SP hH hwl w1
            have lb0 := xload_SP hH hwl w0
            have hE2 := run_Equal (h'.set l (.arr false 14 (ws.map SP.v))) (hs e1 (List.mem_of_getElem? he1)).len (hs e0 (List.mem_of_getElem? he0)).len
            have hcc := hwc e0 he0
            rw [drop_at he1, cptA] at hcc
            by_cases hd : cmpS e1 e0 = 0
            · rw [if_pos hd] at hcc
              have hd' : (cmpS e1 e0 == 0) = true := by simpa using hd
              simp -implicitDefEqProofs [hB2, x_slices_CompactFunc_api_Span_api_Span_l0, z0, z1, z5, z6, z7, htw, hlw, hjlt, hw2, ib1, ib0, lb1, lb0, hE2, hd', ar1]
              refine K2 (j + 1) _ _ (by omega) ⟨ws, out, ?_, rfl, hwl, hwo, by omega, fun i hi => hwe i (by omega), fun b hb => ?_, by omega, by omega⟩
              · simp [z0, z1, z5, z6, hw3]
              · rw [show k + (j + 1) - 1 = k + j by omega, he1] at hb
                injection hb with hb
                subst hb
                exact hcc
            · rw [if_neg hd] at hcc
              have hd' : (cmpS e1 e0 == 0) = false := by simpa using hd
              have sb := xstore_SP (base := h'.length) hH hwl hmn e1
              simp -implicitDefEqProofs [hB2, x_slices_CompactFunc_api_Span_api_Span_l0, z0, z1, z5, z6, z7, htw, hlw, hjlt, hw2, ib1, ib0, ib2, lb1, lb0, hE2, hd', ar1, sb]
              refine K2 (j + 1) _ _ (by omega) ⟨ws.set out.length e1, out ++ [e1], ?_, by rw [List.map_set], by simp [hwl], ?_, by simp; omega, fun i hi => ?_, fun b hb => ?_, by omega, by omega⟩
              · simp [z0, z1, z6, hw3, hw4]
              · rw [List.length_append, List.length_singleton, List.take_add_one, List.take_set, List.set_eq_of_length_le (by simp; omega), hwo, List.getElem?_set_self (by omega)]
                rfl
              · rw [List.getElem?_set_ne (by omega)]
                exact hwe i (by omega)
              · rw [show k + (j + 1) - 1 = k + j by omega, he1] at hb
                injection hb with hb
                subst hb
                rw [hcc]
                simp
                rfl
          · have hjn' : k + j = es.length := by omega
            have hjlt : ¬ ((j : Int) < ((es.length - k : Nat) : Int)) := by omega
            obtain ⟨e0, he0⟩ : ∃ e0, es[k + j - 1]? = some e0 := ⟨_, List.getElem?_eq_getElem (by omega)⟩
            have hcc := hwc e0 he0
            rw [hjn', List.drop_of_length_le (Nat.le_refl _), cptA_end, List.append_nil] at hcc
            subst hcc
            have hrr := hr2 (fun h => by rw [h] at hmn; omega)
            subst hrr
            have hmle : (cpt es).length ≤ es.length := by omega
            simp -implicitDefEqProofs [hB2, hf2, x_slices_CompactFunc_api_Span_api_Span_l0, z0, z1, z5, z6, z7, htw, hlw, hjlt, hH, hwl, hmle, hset]
            have htk : (ws.map SP.v).take (cpt es).length = (cpt es).map SP.v := by rw [← List.map_take, hwo]
            rw [htk]
            refine ⟨?_, ?_⟩
            · have h1 := closeds_app ((cpt es).map SP.v) (List.replicate (es.length - (cpt es).length) zSP)
              rw [closeds_SP, closeds_rep, Bool.and_self] at h1
              exact h1
            · rw [hf]
              simp -implicitDefEqProofs [zSP]
        · rw [Nat.add_sub_cancel, hek] at hb
          injection hb with hb
          subst hb
          exact hx
      · rw [if_neg hc] at hx
        have hc' : (cmpS e a == 0) = false := by simpa using hc
        simp -implicitDefEqProofs [hB, x_slices_CompactFunc_api_Span_api_Span_l1, h0, h1, h5, htoL, hlt, hw1, ia1, ia2, ld1, ld2, hE, hc', ar1]
        refine K (k + 1) _ _ (by omega) ⟨?_, rfl, by omega, hlt, fun b hb => ?_⟩
        · simp [h0, h1, hw]
        · rw [Nat.add_sub_cancel, hek] at hb
          injection hb with hb
          subst hb
          rw [hx, take_at hek]
          simp
    · obtain rfl : k = es.length := by omega
      rw [List.drop_of_length_le (Nat.le_refl _), cptA_end, List.append_nil, List.take_length] at hx
      have := hr1 hx
      subst this
      simp -implicitDefEqProofs [hB, hf, x_slices_CompactFunc_api_Span_api_Span_l1, h0, h1, h5, htoL, hl]
end Go.Proofs.Sl

namespace Go.Proofs.Sl
/-! ### What the sort gives, by numbers -/
theorem permSort_ok {n : Nat} {c : Nat → Nat → Int} (hO : Go.Sort.SWO (cmpLt n c)) : (permSort n c).Perm (List.range n) ∧ (permSort n c).Pairwise fun a b => ¬ c b a < 0 := by
  unfold permSort
  by_cases h0 : n = 0
  · subst h0; simp
  · rw [if_neg h0]
    have hd : (Array.range n).size = n := by simp
    have hps := Go.Sort.pdq_sorts (cmpLt n c) hO (Array.range n) 0 n (bitLenN n) true true (Nat.zero_le _) (by rw [hd]; exact Nat.le_refl _) (Or.inl rfl)
    generalize Go.Sort.pdq (cmpLt n c) (Array.range n) 0 n (bitLenN n) true true = dd at hps
    obtain ⟨⟨hs1, _, hp⟩, hs2⟩ := hps
    rw [hd] at hs1
    have e1 : (dd.extract 0 n).toList = dd.toList := by
      rw [Array.toList_extract, List.extract_eq_take_drop, List.drop_zero, Nat.sub_zero, List.take_of_length_le (by rw [Array.length_toList, hs1]; exact Nat.le_refl _)]
    have e2 : ((Array.range n).extract 0 n).toList = List.range n := by
      rw [Array.toList_extract, List.extract_eq_take_drop]
      simp
    rw [e1, e2] at hp
    refine ⟨hp, ?_⟩
    have hmem : ∀ i, i < n → dd[i]! < n := fun i hi => by
      have : dd[i]! ∈ dd.toList := by
        rw [getElem!_pos dd i (by omega)]
        exact Array.mem_toList_iff.2 (Array.getElem_mem _)
      exact List.mem_range.1 (hp.mem_iff.1 this)
    rw [List.pairwise_iff_getElem]
    intro i j hi hj hij
    rw [Array.length_toList] at hi hj
    have := hs2 i j (Nat.zero_le _) hij (by omega)
    have h1 := hmem i (by omega)
    have h2 := hmem j (by omega)
    simp only [cmpLt, decide_eq_false_iff_not] at this
    rw [show clampI n dd[j]! = dd[j]! by simp [clampI, h2], show clampI n dd[i]! = dd[i]! by simp [clampI, h1], getElem!_pos dd i (by omega), getElem!_pos dd j (by omega)] at this
    simpa using this

def cI (l : List SP) (i j : Nat) : Int := cmpS (l.getD i SP.z) (l.getD j SP.z)
def srt (l : List SP) : List SP := (permSort l.length (cI l)).map fun i => l.getD i SP.z
theorem cI_swo (l : List SP) : Go.Sort.SWO (cmpLt l.length (cI l)) where
  irrefl := fun x => by simp [cmpLt, cI, cmpS_cm.self]
  trans := fun x y z h k => by
    simp only [cmpLt, decide_eq_true_eq] at h k ⊢
    simp only [cI] at h k ⊢
    exact cmpS_cm.lt_of_lt_le h (by omega)
  ntrans := fun x y z h k => by
    simp only [cmpLt, decide_eq_false_iff_not] at h k ⊢
    simp only [cI] at h k ⊢
    generalize l.getD (clampI l.length x) SP.z = a at *
    generalize l.getD (clampI l.length y) SP.z = b at *
    generalize l.getD (clampI l.length z) SP.z = c at *
    have h1 := cmpS_cm.anti a b
    have h2 := cmpS_cm.anti b c
    have h3 := cmpS_cm.anti a c
    have := cmpS_cm.trans c b a (by omega) (by omega)
    omega
theorem range_getD (l : List SP) : (List.range l.length).map (fun i => l.getD i SP.z) = l := by
  apply List.ext_getElem
  · simp
  · intro i h1 h2
    simp at h1
    simp [h1]
theorem srt_perm (l : List SP) : (srt l).Perm l := by
  have := ((permSort_ok (cI_swo l)).1).map fun i => l.getD i SP.z
  rw [range_getD] at this
  exact this
theorem srt_sorted (l : List SP) : (srt l).Pairwise fun a b => cmpS a b ≤ 0 := by
  have := (permSort_ok (cI_swo l)).2
  rw [srt, List.pairwise_map]
  refine this.imp fun {a b} h => ?_
  simp only [cI] at h
  have := cmpS_cm.anti (l.getD a SP.z) (l.getD b SP.z)
  omega
theorem srt_length (l : List SP) : (srt l).length = l.length := (srt_perm l).length_eq
theorem srt_mem {l : List SP} {a : SP} : a ∈ srt l ↔ a ∈ l := (srt_perm l).mem_iff
theorem srt_pick (l : List SP) : pickEs (l.map SP.v) (permSort l.length (cI l)) = (srt l).map SP.v := by
  unfold pickEs srt
  rw [List.map_map]
  apply List.map_congr_left
  intro i hi
  have : i < l.length := List.mem_range.1 ((permSort_ok (cI_swo l)).1.mem_iff.1 hi)
  simp [this]

/-! ### The functions -/
theorem run_nat {f : Nat} {F : XF} {k : NK} (e : XP f = some F) (hk : F.nat = some k) (args : List V) (h : H) : run XP f args h = xnat (run XP) args h k := by
  rw [run_eq, e, ob_some]
  unfold xfun
  rw [hk]
theorem allAgg_SP : ∀ l : List SP, allAgg (l.map SP.v) = true
  | [] => rfl
  | a :: l => allAgg_SP l
theorem run_sortNil (h : H) (f : V) : run XP i_slices_SortFunc_api_Span_api_Span [vnil, f] h = some (.tup [], h) := by
  rw [run_nat xp_slices_SortFunc_api_Span_api_Span rfl]
  rfl
theorem run_sort {h : H} {l : Nat} {es : List SP} (he : h[l]? = some (.arr false 14 (es.map SP.v))) (hs : ∀ e ∈ es, e.Sm) (hn : es.length ≤ 100000) :
    run XP i_slices_SortFunc_api_Span_api_Span [.ref l es.length, .fn i_span_Compare [] []] h = some (.tup [], h.set l (.arr false 14 ((srt es).map SP.v))) := by
  rw [run_nat xp_slices_SortFunc_api_Span_api_Span rfl]
  simp only [xnat]
  rw [xsort_ref]
  refine ⟨es.map SP.v, cI es, he, by simp, by omega, closeds_SP es, rfl, rfl, ⟨rfl, allAgg_SP es⟩, ⟨?_, by simpa using cI_swo es⟩, by rw [srt_pick]⟩
  intro i j x y hx hy
  rw [List.getElem?_map] at hx hy
  obtain ⟨a, ha, rfl⟩ : ∃ a, es[i]? = some a ∧ a.v = x := by simpa using hx
  obtain ⟨b, hb, rfl⟩ : ∃ a, es[j]? = some a ∧ a.v = y := by simpa using hy
  have := run_cmpS [] (hs a (List.mem_of_getElem? ha)).len (hs b (List.mem_of_getElem? hb)).len
  simp only [List.nil_append, List.append_nil]
  rw [this]
  simp [cI, ha, hb]
/-- What stands in the variable that the iterator has captured. -/
def LV (v : V) (es : List SP) : Prop := (es = [] ∧ v = vnil) ∨ v = .lst 14 (es.map SP.v)
theorem run_appendSeq {h : H} {v : V} {es : List SP} (hv : LV v es) (hn : es.length ≤ 100000) : run XP i_slices_AppendSeq_api_Span_api_Span [vnil, .fn i_slices_Values_api_Span_api_Span_1 [] [.fptr (.agg [v]) 0]] h = some (if es = [] then vnil else .own 14 (es.map SP.v), h) := by
  rw [run_nat xp_slices_AppendSeq_api_Span_api_Span rfl]
  simp only [xnat]
  rcases hv with ⟨rfl, rfl⟩ | rfl
  · rfl
  · show (if _ then _ else _) = _
    rw [if_pos ⟨rfl, rfl, by simp; omega, wide_SP es, closeds_SP es, allAgg_SP es⟩]
    cases es with
    | nil => rfl
    | cons a r => rfl
theorem run_collect {h : H} {v : V} {es : List SP} (hv : LV v es) (hn : es.length ≤ 100000) : run XP i_slices_Collect_api_Span [.fn i_slices_Values_api_Span_api_Span_1 [] [.fptr (.agg [v]) 0]] h = some (if es = [] then vnil else .own 14 (es.map SP.v), h) := by
  have h1 := fun h => run_appendSeq (h := h) hv hn
  have h2 := closeds_SP es
  rw [run_eq, xp_slices_Collect_api_Span]
  by_cases he : es = []
  · simp -implicitDefEqProofs [x_slices_Collect_api_Span, h1, he]
  · simp -implicitDefEqProofs [x_slices_Collect_api_Span, h1, he, h2]
theorem run_sorted {h : H} {v : V} {es : List SP} (hv : LV v es) (hs : ∀ e ∈ es, e.Sm) (hn : es.length ≤ 100000) :
    run XP i_slices_SortedFunc_api_Span [.fn i_slices_Values_api_Span_api_Span_1 [] [.fptr (.agg [v]) 0], .fn i_span_Compare [] []] h = some (if es = [] then vnil else .own 14 ((srt es).map SP.v), h) := by
  have h1 := fun h => run_collect (h := h) hv hn
  have h2 := closeds_SP (srt es)
  have h4 := srt_length es
  rw [run_eq, xp_slices_SortedFunc_api_Span]
  by_cases he : es = []
  · have h3 := fun h => run_sortNil h (.fn i_span_Compare [] [])
    simp -implicitDefEqProofs [x_slices_SortedFunc_api_Span, h1, he, h3]
  · have h3 := run_sort (h := h ++ [.arr false 14 (es.map SP.v)]) (l := h.length) (by simp) hs hn
    simp -implicitDefEqProofs [x_slices_SortedFunc_api_Span, h1, he, h2, h3, h4]
end Go.Proofs.Sl

namespace Go.Proofs.Sl
/-- A list of spans, nil where there are none. -/
def nl (es : List SP) : V := if es = [] then vnil else .lst 14 (es.map SP.v)
theorem nl_LV (es : List SP) : LV (nl es) es := by
  unfold nl
  split
  · rename_i h; exact .inl ⟨h, rfl⟩
  · exact .inr rfl
theorem LV.rd {v : V} {es : List SP} (l : LV v es) (h : H) : Rd h 14 v (es.map SP.v) := by
  rcases l with ⟨rfl, rfl⟩ | rfl
  · exact .nil
  · exact .lst _
theorem cpt_nil {es : List SP} : cpt es = [] ↔ es = [] := by cases es <;> simp [cpt]
theorem cptA_sub : ∀ (r : List SP) (a : SP), (cptA a r).Sublist r
  | [], a => List.Sublist.slnil
  | b :: r, a => by
    rw [cptA]
    split
    · exact (cptA_sub r b).cons b
    · exact (cptA_sub r b).cons_cons b
theorem cpt_sub : ∀ es : List SP, (cpt es).Sublist es
  | [] => List.Sublist.slnil
  | a :: r => (cptA_sub r a).cons_cons a
/-- The set, as a list. -/
def dst (es : List SP) : List SP := cpt (srt es)
theorem dst_nil {es : List SP} : dst es = [] ↔ es = [] := by
  unfold dst
  rw [cpt_nil]
  constructor
  · intro h
    have := srt_length es
    rw [h] at this
    exact List.eq_nil_of_length_eq_zero this.symm
  · rintro rfl
    rfl
theorem dst_mem {es : List SP} {a : SP} (h : a ∈ dst es) : a ∈ es := srt_mem.1 ((cpt_sub _).subset h)
theorem dst_length (es : List SP) : (dst es).length ≤ es.length := by
  have := (cpt_sub (srt es)).length_le
  rw [srt_length] at this
  exact this

theorem run_Values {h : H} {v : V} {es : List SP} (hv : LV v es) : run XP i_slices_Values_api_Span_api_Span [v] h = some (.fn i_slices_Values_api_Span_api_Span_1 [] [.fptr (.agg [v]) 0], h) := by
  rw [run_eq, xp_slices_Values_api_Span_api_Span]
  rcases hv with ⟨rfl, rfl⟩ | rfl <;> simp -implicitDefEqProofs [x_slices_Values_api_Span_api_Span, V.closed]
theorem run_CompactNil (h : H) : run XP i_slices_CompactFunc_api_Span_api_Span [vnil, .fn i_span_Equal [] []] h = some (vnil, h) := by
  rw [run_eq, xp_slices_CompactFunc_api_Span_api_Span]
  simp -implicitDefEqProofs [x_slices_CompactFunc_api_Span_api_Span]
/-- The code behind slices.Values. -/
theorem run_set {h h2 : H} {v v2 : V} {es : List SP} (hv : LV v2 es) (h1 : arg0 v = some v) (hval : run XP i_slices_Values_api_Span_api_Span [v] h = some (.fn i_slices_Values_api_Span_api_Span_1 [] [.fptr (.agg [v2]) 0], h2)) (hl2 : h2.length = h.length) (hs : ∀ e ∈ es, e.Sm) (hn : es.length ≤ 100000) :
    ∃ R, run XP i_span_set [v] h = some (R, h2) ∧ res0 R = nl (dst es) := by
  have hS := fun h => run_sorted (h := h) hv hs hn
  have htk : h2.take h.length = h2 := List.take_of_length_le (by omega)
  by_cases he : es = []
  · subst he
    refine ⟨vnil, ?_, by rw [show dst [] = [] from rfl]; rfl⟩
    have hC := run_CompactNil
    rw [run_eq, xp_span_set]
    simp -implicitDefEqProofs [x_span_set, h1, hval, hS, hC, htk]
  · have hlen := srt_length es
    obtain ⟨r, hr, hc⟩ := run_Compact (h := h2 ++ [.arr false 14 ((srt es).map SP.v)]) (l := h2.length) (es := srt es) (by simp) (fun e he => hs e (srt_mem.1 he)) (by omega)
    rw [hlen] at hr hc
    have hd : dst es ≠ [] := fun h => he (dst_nil.1 h)
    have hcl := closeds_SP (srt es)
    have hnl : ¬ h2.length < h.length := by omega
    have htk3 : (h2 ++ [O.arr false 14 ((srt es).map SP.v)]).take h.length = h2 := by rw [← hl2]; simp
    rcases hc with ⟨rfl, hcc⟩ | ⟨o, rfl⟩
    · refine ⟨.own 14 ((srt es).map SP.v), ?_, by rw [nl, if_neg hd]; show V.lst 14 _ = V.lst 14 ((cpt (srt es)).map SP.v); rw [hcc]⟩
      rw [run_eq, xp_span_set]
      simp -implicitDefEqProofs [x_span_set, h1, hval, hS, he, hr, htk, htk3, hcl, hlen, hnl]
    · refine ⟨.lst 14 ((dst es).map SP.v), ?_, by rw [nl, if_neg hd]; rfl⟩
      rw [run_eq, xp_span_set]
      have htk2 : (h2 ++ [o]).take h.length = h2 := by rw [← hl2]; simp
      simp -implicitDefEqProofs [x_span_set, h1, hval, hS, he, hr, htk2, hcl, hlen, dst]
/-! ### Set -/
theorem nl_res (es : List SP) : res0 (if es = [] then vnil else V.own 14 (es.map SP.v)) = nl es := by
  unfold nl
  split <;> rfl
theorem nl_arg0 (es : List SP) : arg0 (nl es) = some (nl es) := by unfold nl; split <;> rfl
theorem nl_ret (b : Nat) (h : H) (es : List SP) (t : List O) : retV b h .v (nl es) t = some (nl es, t) := by unfold nl; split <;> simp
theorem nl_rdCell (l o : Nat) (es : List SP) : rdCell l o (nl es) = nl es := by unfold nl; split <;> rfl
theorem nl_cells (es : List SP) : (nl es).cells = [nl es] := by unfold nl; split <;> rfl
theorem nl_stNew (base l : Nat) (h : H) (es : List SP) : stNew base l (nl es) h = some (nl es, h) := by
  unfold nl
  split <;> exact if_pos (.inr (Nat.zero_le _))
/-! ### Winners -/
/-- The last one of each identity. -/
def winL : List SP → List SP
  | [] => []
  | [a] => [a]
  | a :: b :: r => if a.tr = b.tr ∧ a.id = b.id then winL (b :: r) else a :: winL (b :: r)
def pW (D : List SP) (k : Nat) : Bool := k + 1 == D.length || !((D.getD (k + 1) SP.z).tr == (D.getD k SP.z).tr && (D.getD (k + 1) SP.z).id == (D.getD k SP.z).id)
theorem winL_sel (D : List SP) : ∀ (r : List SP) (k : Nat), D.drop k = r → selA (pW D) k r = winL r
  | [], k, _ => rfl
  | [a], k, h => by
    have hk : k + 1 = D.length := by
      have := congrArg List.length h
      rw [List.length_drop] at this
      simp at this
      omega
    simp [selA, pW, hk, winL]
  | a :: b :: r, k, h => by
    have h1 : D.drop (k + 1) = b :: r := by rw [← List.tail_drop, h]; rfl
    have e1 : D.getD k SP.z = a := by
      have := congrArg (fun l => l[0]?) h
      simp at this
      simp [this]
    have e2 : D.getD (k + 1) SP.z = b := by
      have := congrArg (fun l => l[0]?) h1
      simp at this
      simp [this]
    have hk : ¬ k + 1 = D.length := by
      intro hk
      rw [List.drop_of_length_le (by omega)] at h1
      cases h1
    rw [selA, winL_sel D (b :: r) (k + 1) h1, winL]
    have hp : pW D k = !(b.tr == a.tr && b.id == a.id) := by simp only [pW, e1, e2]; simp [hk]
    rw [hp]
    by_cases hc : a.tr = b.tr ∧ a.id = b.id
    · rw [if_pos hc, if_neg (by simp [hc.1, hc.2])]
    · rw [if_neg hc, if_pos]
      simp only [Bool.not_eq_true', Bool.and_eq_false_iff, beq_eq_false_iff_ne]
      by_cases h1 : a.tr = b.tr
      · exact .inr fun h2 => hc ⟨h1, h2.symm⟩
      · exact .inl fun h2 => h1 h2.symm
theorem nl_at {D : List SP} {k : Nat} {a : SP} (ha : D[k]? = some a) (h : H) : iaddrV h 14 (nl D) k = some (.fptr a.v 0) := by
  have : D ≠ [] := by rintro rfl; simp at ha
  rw [nl, if_neg this]
  have h2 : (D.map SP.v)[k]? = some a.v := by rw [List.getElem?_map, ha]; rfl
  rw [iaddrV_lst, if_pos rfl, h2, ob_some]
theorem run_Win1 {h : H} {l : Nat} {z : Bool} {D : List SP} (hl : h[l]? = some (.box z [nl D])) {k : Nat} (hk : k < D.length) (hn : D.length ≤ 100000) : run XP i_span_Winners_1 [vi k, .ptr l 0] h = some (vb (pW D k), h) := by
  have hw : IntKind.i64.wrap ((k : Int) + 1) = (k : Int) + 1 := wrap_i64 (by omega) (by omega)
  have hL := ((nl_LV D).rd h).toL
  have h0k : (0 : Int) ≤ (k : Int) + 1 := by omega
  obtain ⟨a, ha⟩ : ∃ a, D[k]? = some a := ⟨_, List.getElem?_eq_getElem hk⟩
  have i1 := nl_at ha h
  have d1 : D.getD k SP.z = a := by simp [ha]
  rw [run_eq, xp_span_Winners_1]
  by_cases hk1 : k + 1 = D.length
  · have hb : ((k : Int) + 1 == (D.length : Int)) = true := by rw [← hk1]; simp
    have hp : pW D k = true := by simp [pW, hk1]
    simp -implicitDefEqProofs [x_span_Winners_1, hl, nl_rdCell, hw, hL, hb, hp, same_self, optEq]
  · have hb : ((k : Int) + 1 == (D.length : Int)) = false := by simp; omega
    obtain ⟨b, hb2⟩ : ∃ b, D[k + 1]? = some b := ⟨_, List.getElem?_eq_getElem (by omega)⟩
    have i2 := nl_at hb2 h
    have d2 : D.getD (k + 1) SP.z = b := by simp [hb2]
    have r1 := fun h => run_RefOf h a
    have r2 := fun h => run_RefOf h b
    have hp : pW D k = !(b.tr == a.tr && b.id == a.id) := by simp only [pW, d1, d2]; simp [hk1]
    simp only [SP.v, RF.v] at r1 r2 i1 i2
    rw [hp]
    simp -implicitDefEqProofs [x_span_Winners_1, hl, nl_rdCell, hw, hL, hb, same_self, optEq, i1, i2, r1, r2, h0k]
def wns (es : List SP) : List SP := winL (dst es)
theorem run_Winners {h h2 : H} {v v2 : V} {es : List SP} (hv : LV v2 es) (h1 : arg0 v = some v) (hval : run XP i_slices_Values_api_Span_api_Span [v] h = some (.fn i_slices_Values_api_Span_api_Span_1 [] [.fptr (.agg [v2]) 0], h2)) (hl2 : h2.length = h.length) (hs : ∀ e ∈ es, e.Sm) (hn : es.length ≤ 100000) :
    run XP i_span_Winners [v] h = some (nl (wns es), h2) := by
  obtain ⟨R, hR, hR0⟩ := run_set hv h1 hval hl2 hs hn
  have htk : h2.take h.length = h2 := List.take_of_length_le (by omega)
  have hdl := dst_length es
  have hC := run_chosen (h := h2 ++ [.box false [nl (dst es)]]) (v := nl (dst es)) (es := dst es) (fun t => (nl_LV _).rd _) (fun e he => hs e (dst_mem he)) (by omega) (f := i_span_Winners_1) (b := [.ptr h2.length 0]) rfl (p := pW (dst es))
    (fun k t hk => run_Win1 (z := false) (by rw [List.append_assoc, at_app0]; rfl) hk (by omega))
  rw [winL_sel (dst es) (dst es) 0 rfl] at hC
  have hh : h2.length = h.length := hl2
  rw [run_eq, xp_span_Winners]
  have htk2 : ∀ x : O, (h2 ++ [x]).take h.length = h2 := fun x => by rw [← hl2]; simp
  simp -implicitDefEqProofs [x_span_Winners, h1, hR, hR0, nl_arg0, nl_cells, nl_stNew, nl_rdCell, hC, nl_res, nl_ret, htk2, wns]
end Go.Proofs.Sl

namespace Go.Proofs.Sl
def wthn (lo hi : Int) : List UInt8 → Bool
  | [] => true
  | b :: l => if (b.toNat : Int) < lo ∨ hi < (b.toNat : Int) then false else wthn lo hi l
theorem bts_get {s : ByteArray} {k : Nat} {c : UInt8} (h : (bts s)[k]? = some c) : s.data[k]? = some c := by simpa [bts] using h
theorem run_within (h : H) (s : ByteArray) (lo hi : Int) (hs : s.size ≤ 9223372036854775807) : run XP i_attribute_within [vs s, vk .u8 lo, vk .u8 hi] h = some (vb (wthn lo hi (bts s)), h) := by
  have hlen := bts_length s
  rw [run_eq, xp_attribute_within]
  simp -implicitDefEqProofs [x_attribute_within]
  refine loop_list (bts s) (fun k s' h' => Sees s' [(0, vs s), (1, vk .u8 lo), (2, vk .u8 hi), (9, vi s.size), (10, vi k)] ∧ h' = h ∧ wthn lo hi (bts s) = wthn lo hi ((bts s).drop k)) ?_ ?_ _ _ ⟨by simp, rfl, rfl⟩
  · rintro B f hB hf k c s' h' he hk ⟨⟨h0, h1, h2, h9, h10, -⟩, rfl, hx⟩ K
    have hlt : (k : Int) < s.size := by omega
    have hw : IntKind.i64.wrap ((k : Int) + 1) = (k : Int) + 1 := wrap_i64 (by omega) (by omega)
    have hd := bts_get he
    rw [drop_at he, wthn] at hx
    by_cases c1 : (c.toNat : Int) < lo
    · rw [if_pos (.inl c1)] at hx
      simp -implicitDefEqProofs [hB, hf, x_attribute_within_l0, h0, h1, h2, h9, h10, hlt, hd, c1, hx]
    · by_cases c2 : hi < (c.toNat : Int)
      · rw [if_pos (.inr c2)] at hx
        simp -implicitDefEqProofs [hB, hf, x_attribute_within_l0, h0, h1, h2, h9, h10, hlt, hd, c1, c2, hx]
      · rw [if_neg (by omega)] at hx
        simp -implicitDefEqProofs [hB, x_attribute_within_l0, h0, h1, h2, h9, h10, hlt, hd, c1, c2]
        refine K _ _ ⟨?_, rfl, hx⟩
        simp [h0, h1, h2, h9, hw]
  · rintro B hB s' h' ⟨⟨h0, h1, h2, h9, h10, -⟩, rfl, hx⟩
    rw [hlen] at h10
    rw [hlen, List.drop_of_length_le (by omega), wthn] at hx
    simp -implicitDefEqProofs [hB, x_attribute_within_l0, h0, h1, h2, h9, h10, hx]

def eS : ByteArray := ⟨#[]⟩
def isNm (s : ByteArray) : Bool := !(decide (s = eS)) && (decide (s.size ≤ 64) && wthn 33 126 (bts s))
theorem isE (s : ByteArray) : s.toList.isEmpty = decide (s = eS) := by
  have := bl_eq (a := s) (b := eS)
  rw [← this]
  have h : eS.toList = [] := by rw [ByteArray.toList_eq]; rfl
  rw [h]
  cases s.toList <;> rfl
theorem run_IsName (h : H) (s : ByteArray) (hs : s.size ≤ 9223372036854775807) : run XP i_attribute_IsName [vs s] h = some (vb (isNm s), h) := by
  have h1 := fun h => run_within h s 33 126 hs
  have h2 := isE s
  rw [run_eq, xp_attribute_IsName]
  unfold isNm
  by_cases c1 : s = eS
  · have h3 : s.toList.isEmpty = true := by rw [h2]; simp [c1]
    rw [show decide (s = eS) = true by simp [c1]]
    simp only [Bool.not_true, Bool.false_and]
    simp -implicitDefEqProofs [x_attribute_IsName, h3]
  · have h3 : s.toList.isEmpty = false := by rw [h2]; simp [c1]
    rw [show decide (s = eS) = false by simp [c1]]
    simp only [Bool.not_false, Bool.true_and]
    by_cases c2 : s.size ≤ 64
    · have c2' : (s.size : Int) ≤ 64 := by omega
      simp -implicitDefEqProofs [x_attribute_IsName, h3, c2, c2', h1]
    · have c2' : ¬ (s.size : Int) ≤ 64 := by omega
      simp -implicitDefEqProofs [x_attribute_IsName, h3, c2, c2']
/-! ### Values -/
def fin5 (sz : Nat) (ok : Bool) : Int := if 4096 < sz then 5 else if ok = true then 0 else 3
def okV (k : Int) (t : ByteArray) (n : Int) : Bool := if k = 1 then wthn 32 126 (bts t) && decide (n = 0) else if k = 2 then decide (t = eS) && (decide (-1099511627776 ≤ n) && decide (n ≤ 1099511627776)) else decide (t = eS) && (decide (n = 0) || decide (n = 1))
def chkV (v : AV) : Int := if v.k = 1 ∨ v.k = 2 ∨ v.k = 3 then fin5 v.t.size (okV v.k v.t v.n) else 12
theorem run_CheckValue (h : H) (v : AV) (hs : v.t.size ≤ 9223372036854775807) : run XP i_attribute_CheckValue [v.v] h = some (vi (chkV v), h) := by
  obtain ⟨k, t, n⟩ := v
  simp only at hs
  have h1 := fun h => run_within h t 32 126 hs
  rw [run_eq, xp_attribute_CheckValue]
  by_cases hl : 4096 < t.size
  · have hl' : (4096 : Int) < t.size := by omega
    by_cases k1 : k = 1
    · cases hw : wthn 32 126 (bts t)
      · simp -implicitDefEqProofs [x_attribute_CheckValue, AV.v, h1, chkV, fin5, okV, hl, hl', k1, hw]
      · by_cases n0 : n = 0
        · simp -implicitDefEqProofs [x_attribute_CheckValue, AV.v, h1, chkV, fin5, okV, hl, hl', k1, hw, n0]
        · have n0' : (n == 0) = false := by simpa using n0
          simp -implicitDefEqProofs [x_attribute_CheckValue, AV.v, h1, chkV, fin5, okV, hl, hl', k1, hw, n0, n0']
    · have k1' : (k == 1) = false := by simpa using k1
      by_cases k2 : k = 2
      · by_cases te : t = eS
        · have te' : t.toList.isEmpty = true := by rw [isE]; simp [te]
          have teP : t = eS ↔ True := iff_true_intro te
          by_cases n1 : -1099511627776 ≤ n
          · by_cases n2 : n ≤ 1099511627776
            · simp -implicitDefEqProofs [x_attribute_CheckValue, AV.v, h1, chkV, fin5, okV, hl, hl', k1, k1', k2, te', teP, n1, n2]
            · simp -implicitDefEqProofs [x_attribute_CheckValue, AV.v, h1, chkV, fin5, okV, hl, hl', k1, k1', k2, te', teP, n1, n2]
          · simp -implicitDefEqProofs [x_attribute_CheckValue, AV.v, h1, chkV, fin5, okV, hl, hl', k1, k1', k2, te', teP, n1]
        · have te' : t.toList.isEmpty = false := by rw [isE]; simp [te]
          have teP : t = eS ↔ False := iff_false_intro te
          simp -implicitDefEqProofs [x_attribute_CheckValue, AV.v, h1, chkV, fin5, okV, hl, hl', k1, k1', k2, te', teP]
      · have k2' : (k == 2) = false := by simpa using k2
        by_cases k3 : k = 3
        · by_cases te : t = eS
          · have te' : t.toList.isEmpty = true := by rw [isE]; simp [te]
            have teP : t = eS ↔ True := iff_true_intro te
            by_cases n0 : n = 0
            · simp -implicitDefEqProofs [x_attribute_CheckValue, AV.v, h1, chkV, fin5, okV, hl, hl', k1, k1', k2, k2', k3, te', teP, n0]
            · have n0' : (n == 0) = false := by simpa using n0
              by_cases n1 : n = 1
              · simp -implicitDefEqProofs [x_attribute_CheckValue, AV.v, h1, chkV, fin5, okV, hl, hl', k1, k1', k2, k2', k3, te', teP, n0, n0', n1]
              · have n1' : (n == 1) = false := by simpa using n1
                simp -implicitDefEqProofs [x_attribute_CheckValue, AV.v, h1, chkV, fin5, okV, hl, hl', k1, k1', k2, k2', k3, te', teP, n0, n0', n1, n1']
          · have te' : t.toList.isEmpty = false := by rw [isE]; simp [te]
            have teP : t = eS ↔ False := iff_false_intro te
            simp -implicitDefEqProofs [x_attribute_CheckValue, AV.v, h1, chkV, fin5, okV, hl, hl', k1, k1', k2, k2', k3, te', teP]
        · have k3' : (k == 3) = false := by simpa using k3
          simp -implicitDefEqProofs [x_attribute_CheckValue, AV.v, h1, chkV, fin5, okV, hl, hl', k1, k1', k2, k2', k3, k3']
  · have hl' : ¬ ((4096 : Int) < t.size) := by omega
    by_cases k1 : k = 1
    · cases hw : wthn 32 126 (bts t)
      · simp -implicitDefEqProofs [x_attribute_CheckValue, AV.v, h1, chkV, fin5, okV, hl, hl', k1, hw]
      · by_cases n0 : n = 0
        · simp -implicitDefEqProofs [x_attribute_CheckValue, AV.v, h1, chkV, fin5, okV, hl, hl', k1, hw, n0]
        · have n0' : (n == 0) = false := by simpa using n0
          simp -implicitDefEqProofs [x_attribute_CheckValue, AV.v, h1, chkV, fin5, okV, hl, hl', k1, hw, n0, n0']
    · have k1' : (k == 1) = false := by simpa using k1
      by_cases k2 : k = 2
      · by_cases te : t = eS
        · have te' : t.toList.isEmpty = true := by rw [isE]; simp [te]
          have teP : t = eS ↔ True := iff_true_intro te
          by_cases n1 : -1099511627776 ≤ n
          · by_cases n2 : n ≤ 1099511627776
            · simp -implicitDefEqProofs [x_attribute_CheckValue, AV.v, h1, chkV, fin5, okV, hl, hl', k1, k1', k2, te', teP, n1, n2]
            · simp -implicitDefEqProofs [x_attribute_CheckValue, AV.v, h1, chkV, fin5, okV, hl, hl', k1, k1', k2, te', teP, n1, n2]
          · simp -implicitDefEqProofs [x_attribute_CheckValue, AV.v, h1, chkV, fin5, okV, hl, hl', k1, k1', k2, te', teP, n1]
        · have te' : t.toList.isEmpty = false := by rw [isE]; simp [te]
          have teP : t = eS ↔ False := iff_false_intro te
          simp -implicitDefEqProofs [x_attribute_CheckValue, AV.v, h1, chkV, fin5, okV, hl, hl', k1, k1', k2, te', teP]
      · have k2' : (k == 2) = false := by simpa using k2
        by_cases k3 : k = 3
        · by_cases te : t = eS
          · have te' : t.toList.isEmpty = true := by rw [isE]; simp [te]
            have teP : t = eS ↔ True := iff_true_intro te
            by_cases n0 : n = 0
            · simp -implicitDefEqProofs [x_attribute_CheckValue, AV.v, h1, chkV, fin5, okV, hl, hl', k1, k1', k2, k2', k3, te', teP, n0]
            · have n0' : (n == 0) = false := by simpa using n0
              by_cases n1 : n = 1
              · simp -implicitDefEqProofs [x_attribute_CheckValue, AV.v, h1, chkV, fin5, okV, hl, hl', k1, k1', k2, k2', k3, te', teP, n0, n0', n1]
              · have n1' : (n == 1) = false := by simpa using n1
                simp -implicitDefEqProofs [x_attribute_CheckValue, AV.v, h1, chkV, fin5, okV, hl, hl', k1, k1', k2, k2', k3, te', teP, n0, n0', n1, n1']
          · have te' : t.toList.isEmpty = false := by rw [isE]; simp [te]
            have teP : t = eS ↔ False := iff_false_intro te
            simp -implicitDefEqProofs [x_attribute_CheckValue, AV.v, h1, chkV, fin5, okV, hl, hl', k1, k1', k2, k2', k3, te', teP]
        · have k3' : (k == 3) = false := by simpa using k3
          simp -implicitDefEqProofs [x_attribute_CheckValue, AV.v, h1, chkV, fin5, okV, hl, hl', k1, k1', k2, k2', k3, k3']
end Go.Proofs.Sl

namespace Go.Proofs.Sl
theorem run_OrE (h : H) (ns : List Int) (hl : ns.length ≤ 10000) : run XP i_cmp_Or_api_Errno [.lst 1 (il ns)] h = some (vi (orl ns), h) := by
  have hv : Rd h 1 (.lst 1 (il ns)) (il ns) := .lst _
  rw [run_eq, xp_cmp_Or_api_Errno]
  simp -implicitDefEqProofs [x_cmp_Or_api_Errno, il_length]
  refine loop_list ns (fun k s h' => Sees s [(3, vi 0), (6, .lst 1 (il ns)), (7, vi ns.length), (8, vi k)] ∧ h' = h ∧ orl ns = orl (ns.drop k)) ?_ ?_ _ _ ⟨by simp, rfl, rfl⟩
  · rintro B f hB hf k e s h' he hk ⟨⟨h3, h6, h7, h8, -⟩, rfl, hx⟩ K
    obtain ⟨p, hp, hld⟩ := hv.at1 (il_at he) rfl
    have hlt : (k : Int) < ns.length := by omega
    rw [drop_at he, orl] at hx
    by_cases h0 : e = 0
    · rw [if_neg (by simpa using h0)] at hx
      simp -implicitDefEqProofs [hB, x_cmp_Or_api_Errno_l0, h3, h6, h7, h8, hlt, hp, hld, h0]
      refine K _ _ ⟨?_, rfl, hx⟩
      simp [h3, h6, h7, wrap_up (by omega : k < 100000000000)]
    · rw [if_pos h0] at hx
      have h0' : (e != 0) = true := by simpa using h0
      simp -implicitDefEqProofs [hB, hf, x_cmp_Or_api_Errno_l0, h3, h6, h7, h8, hlt, hp, hld, h0', hx]
  · rintro B hB s h' ⟨⟨h3, h6, h7, h8, -⟩, rfl, hx⟩
    simp -implicitDefEqProofs [hB, x_cmp_Or_api_Errno_l0, h3, h7, h8, hx, orl]
def rngd (n lo hi : Int) : Bool := decide (lo ≤ n) && decide (n ≤ hi)
theorem run_badId (h : H) (n : Int) : run XP i_span_badId [vi n] h = some (vb (!rngd n 1 1099511627776), h) := by
  rw [run_eq, xp_span_badId]
  unfold rngd
  by_cases c1 : 1 ≤ n
  · have c1' : ¬ n < 1 := by omega
    by_cases c2 : n ≤ 1099511627776
    · have c2' : ¬ 1099511627776 < n := by omega
      simp -implicitDefEqProofs [x_span_badId, c1, c2, c1', c2']
    · have c2' : 1099511627776 < n := by omega
      simp -implicitDefEqProofs [x_span_badId, c1, c2, c1', c2']
  · have c1' : n < 1 := by omega
    simp -implicitDefEqProofs [x_span_badId, c1, c1']

def leqT (a b : ByteArray) : Bool := Op.bytesLess a.toList b.toList || a.toList == b.toList
def chkAs : Option AT → List AT → Int
  | _, [] => 0
  | p, a :: r => if isNm a.key = false then 11 else if (match p with
      | none => false
      | some q => leqT a.key q.key) = true then 8 else if chkV a.val ≠ 0 then chkV a.val else chkAs (some a) r
theorem chkAs_nil (p : Option AT) : chkAs p [] = 0 := by rw [chkAs]
theorem chkAs_cons (p : Option AT) (a : AT) (r : List AT) : chkAs p (a :: r) = if isNm a.key = false then 11 else if (match p with
      | none => false
      | some q => leqT a.key q.key) = true then 8 else if chkV a.val ≠ 0 then chkV a.val else chkAs (some a) r := by cases p <;> rfl
def chkAL (l : List AT) : Int := if 32 < l.length then 6 else chkAs none l
/-- The one ahead. -/
def prevA {α : Type} (l : List α) (k : Nat) : Option α := if k = 0 then none else l[k - 1]?
theorem prevA_up {α : Type} {l : List α} {k : Nat} {a : α} (h : l[k]? = some a) : prevA l (k + 1) = some a := by simp [prevA, h]
structure AT.Sz (a : AT) : Prop where
  key : a.key.size ≤ 9223372036854775807
  t : a.val.t.size ≤ 9223372036854775807

theorem lv_fptr {α : Type} {f : α → V} {l : List α} {n : Bool} (hn : n = true → l = []) {i : Nat} {a : α} (ha : l[i]? = some a) (h : H) (k : Nat) : iaddrV h k (lv k (slc f l n)) i = some (.fptr (f a) 0) := by
  cases n with
  | true => rw [hn rfl] at ha; simp at ha
  | false =>
    show iaddrV h k (.lst k (l.map f)) i = _
    have : (l.map f)[i]? = some (f a) := by rw [List.getElem?_map, ha]; rfl
    rw [iaddrV_lst, if_pos rfl, this, ob_some]
theorem run_CheckAttrs {h : H} {l : List AT} {n : Bool} (hn : n = true → l = []) (hs : ∀ a ∈ l, a.Sz) : run XP i_attribute_CheckAttrs [lv 4 (slc AT.v l n)] h = some (vi (chkAL l), h) := by
  have hv := fun h => rd_slc h 4 AT.v hn
  obtain ⟨v, hvv⟩ : ∃ v, v = lv 4 (slc AT.v l n) := ⟨_, rfl⟩
  rw [← hvv] at hv ⊢
  rw [run_eq, xp_attribute_CheckAttrs]
  by_cases hl : 32 < l.length
  · have hl' : (32 : Int) < l.length := by omega
    simp -implicitDefEqProofs [x_attribute_CheckAttrs, (hv _).toL, hl, hl', chkAL]
  · have hl' : ¬ (32 : Int) < l.length := by omega
    rw [chkAL, if_neg hl]
    simp -implicitDefEqProofs [x_attribute_CheckAttrs, (hv _).toL, hl, hl']
    refine loop_list l (fun k s h' => Sees s [(0, v), (9, v), (10, vi l.length), (11, vi k)] ∧ (∃ t, h' = h ++ t) ∧ chkAs none l = chkAs (prevA l k) (l.drop k)) ?_ ?_ _ _ ⟨by simp, ⟨[], by simp⟩, rfl⟩
    · rintro B f hB hf k e s h' he hk ⟨⟨h0, h9, h10, h11, -⟩, ⟨t, rfl⟩, hx⟩ K
      have hlt : (k : Int) < l.length := by omega
      obtain ⟨p, hp, hld⟩ := (hv (h ++ t)).at (i := k) (e := e.v) (by simp [he])
      have hw : IntKind.i64.wrap ((k : Int) + 1) = (k : Int) + 1 := wrap_i64 (by omega) (by omega)
      have hsz := hs e (List.mem_of_getElem? he)
      have hN := fun h => run_IsName h e.key hsz.key
      have hV := fun h => run_CheckValue h e.val hsz.t
      simp only [AT.v, AV.v, V.cells] at hld hV
      rw [drop_at he, chkAs_cons] at hx
      cases hnm : isNm e.key with
      | false =>
        rw [if_pos hnm] at hx
        simp -implicitDefEqProofs [hB, hf, x_attribute_CheckAttrs_l0, h0, h9, h10, h11, hlt, hp, hld, hN, hnm, hx]
      | true =>
        rw [if_neg (by simp [hnm])] at hx
        by_cases hk0 : k = 0
        · subst hk0
          simp only [prevA, if_true, Bool.false_eq_true, if_false] at hx
          by_cases hz : chkV e.val = 0
          · rw [if_neg (by simpa using hz)] at hx
            simp -implicitDefEqProofs [hB, x_attribute_CheckAttrs_l0, h0, h9, h10, h11, hk, hp, hld, hN, hnm, hV, hz]
            refine K _ _ ⟨?_, ⟨_, rfl⟩, by rw [prevA_up he]; exact hx⟩
            simpa [h0, h9, h10] using hw
          · rw [if_pos hz] at hx
            have hz' : (chkV e.val != 0) = true := by simpa using hz
            simp -implicitDefEqProofs [hB, hf, x_attribute_CheckAttrs_l0, h0, h9, h10, h11, hk, hp, hld, hN, hnm, hV, hz', hx]
        · obtain ⟨q, hq⟩ : ∃ q, l[k - 1]? = some q := ⟨_, List.getElem?_eq_getElem (by omega)⟩
          have hp2 := lv_fptr (f := AT.v) hn hq (h ++ (t ++ [.box false e.v.cells])) 4
          rw [← hvv] at hp2
          have hw1 : IntKind.i64.wrap ((k : Int) - 1) = ((k - 1 : Nat) : Int) := by rw [wrap_i64 (by omega) (by omega)]; omega
          have hk0' : (0 : Int) < k := by omega
          have hk0n : 0 < k := by omega
          simp only [AT.v, V.cells] at hp2
          have hpv : prevA l k = some q := by simp [prevA, hk0, hq]
          rw [hpv] at hx
          replace hx : chkAs none l = if leqT e.key q.key = true then 8 else if chkV e.val ≠ 0 then chkV e.val else chkAs (some e) (l.drop (k + 1)) := hx
          cases hle0 : leqT e.key q.key with
          | true =>
            rw [if_pos hle0] at hx
            have hle : (Op.bytesLess e.key.toList q.key.toList || e.key.toList == q.key.toList) = true := hle0
            simp -implicitDefEqProofs [hB, hf, x_attribute_CheckAttrs_l0, h0, h9, h10, h11, hlt, hp, hld, hN, hnm, hk0', hk0n, hw1, hp2, hle, hx]
          | false =>
            rw [if_neg (by simp [hle0])] at hx
            have hle : (Op.bytesLess e.key.toList q.key.toList || e.key.toList == q.key.toList) = false := hle0
            by_cases hz : chkV e.val = 0
            · rw [if_neg (by simpa using hz)] at hx
              simp -implicitDefEqProofs [hB, x_attribute_CheckAttrs_l0, h0, h9, h10, h11, hlt, hp, hld, hN, hnm, hk0', hk0n, hw1, hp2, hle, hV, hz]
              refine K _ _ ⟨?_, ⟨_, rfl⟩, by rw [prevA_up he]; exact hx⟩
              simp [h0, h9, h10, hw]
            · rw [if_pos hz] at hx
              have hz' : (chkV e.val != 0) = true := by simpa using hz
              simp -implicitDefEqProofs [hB, hf, x_attribute_CheckAttrs_l0, h0, h9, h10, h11, hlt, hp, hld, hN, hnm, hk0', hk0n, hw1, hp2, hle, hV, hz', hx]
    · rintro B hB s h' ⟨⟨h0, h9, h10, h11, -⟩, ⟨t, rfl⟩, hx⟩
      rw [List.drop_of_length_le (Nat.le_refl _), chkAs_nil] at hx
      simp -implicitDefEqProofs [hB, x_attribute_CheckAttrs_l0, h0, h9, h10, h11, hx]
/-! ### Links -/
def okR (r : RF) : Bool := rngd r.t 1 1099511627776 && rngd r.i 1 1099511627776
def chkLs : Option RF → List RF → Int
  | _, [] => 0
  | p, r :: l => if okR r = false then 2 else if (match p with
      | none => false
      | some q => decide (0 ≤ cmpR q r)) = true then 8 else chkLs (some r) l
theorem chkLs_nil (p : Option RF) : chkLs p [] = 0 := by rw [chkLs]
theorem chkLs_cons (p : Option RF) (r : RF) (l : List RF) : chkLs p (r :: l) = if okR r = false then 2 else if (match p with
      | none => false
      | some q => decide (0 ≤ cmpR q r)) = true then 8 else chkLs (some r) l := by cases p <;> rfl
def chkLL (l : List RF) : Int := if 16 < l.length then 6 else chkLs none l
theorem run_checkLinks {h : H} {l : List RF} {n : Bool} (hn : n = true → l = []) : run XP i_span_checkLinks [lv 2 (slc RF.v l n)] h = some (vi (chkLL l), h) := by
  have hv := fun h => rd_slc h 2 RF.v hn
  obtain ⟨v, hvv⟩ : ∃ v, v = lv 2 (slc RF.v l n) := ⟨_, rfl⟩
  rw [← hvv] at hv ⊢
  rw [run_eq, xp_span_checkLinks]
  by_cases hl : 16 < l.length
  · have hl' : (16 : Int) < l.length := by omega
    simp -implicitDefEqProofs [x_span_checkLinks, (hv _).toL, hl, hl', chkLL]
  · have hl' : ¬ (16 : Int) < l.length := by omega
    rw [chkLL, if_neg hl]
    simp -implicitDefEqProofs [x_span_checkLinks, (hv _).toL, hl, hl']
    refine loop_list l (fun k s h' => Sees s [(0, v), (8, v), (9, vi l.length), (10, vi k)] ∧ (∃ t, h' = h ++ t) ∧ chkLs none l = chkLs (prevA l k) (l.drop k)) ?_ ?_ _ _ ⟨by simp, ⟨[], by simp⟩, rfl⟩
    · rintro B f hB hf k e s h' he hk ⟨⟨h0, h8, h9, h10, -⟩, ⟨t, rfl⟩, hx⟩ K
      have hlt : (k : Int) < l.length := by omega
      have hp := lv_fptr (f := RF.v) hn he (h ++ t) 2
      rw [← hvv] at hp
      have hw : IntKind.i64.wrap ((k : Int) + 1) = (k : Int) + 1 := wrap_i64 (by omega) (by omega)
      have b1 := fun h => run_badId h e.t
      have b2 := fun h => run_badId h e.i
      simp only [RF.v] at hp
      rw [drop_at he, chkLs_cons] at hx
      cases r1 : rngd e.t 1 1099511627776 with
      | false =>
        rw [if_pos (by simp [okR, r1])] at hx
        simp -implicitDefEqProofs [hB, hf, x_span_checkLinks_l0, h0, h8, h9, h10, hlt, hk, hp, b1, r1, hx]
      | true =>
        cases r2 : rngd e.i 1 1099511627776 with
        | false =>
          rw [if_pos (by simp [okR, r2])] at hx
          simp -implicitDefEqProofs [hB, hf, x_span_checkLinks_l0, h0, h8, h9, h10, hlt, hk, hp, b1, b2, r1, r2, hx]
        | true =>
          rw [if_neg (by simp [okR, r1, r2])] at hx
          by_cases hk0 : k = 0
          · subst hk0
            simp only [prevA, if_true, Bool.false_eq_true, if_false] at hx
            simp -implicitDefEqProofs [hB, x_span_checkLinks_l0, h0, h8, h9, h10, hk, hp, b1, b2, r1, r2]
            refine K _ _ ⟨?_, ⟨_, rfl⟩, by rw [prevA_up he]; exact hx⟩
            simpa [h0, h8, h9] using hw
          · obtain ⟨q, hq⟩ : ∃ q, l[k - 1]? = some q := ⟨_, List.getElem?_eq_getElem (by omega)⟩
            have hp2 := lv_fptr (f := RF.v) hn hq (h ++ (t ++ [.box false e.v.cells])) 2
            rw [← hvv] at hp2
            have hw1 : IntKind.i64.wrap ((k : Int) - 1) = ((k - 1 : Nat) : Int) := by rw [wrap_i64 (by omega) (by omega)]; omega
            have hk0' : (0 : Int) < k := by omega
            have hk0n : 0 < k := by omega
            have hc := fun h => run_cmpR h q e
            simp only [RF.v, V.cells] at hp2 hc
            have hpv : prevA l k = some q := by simp [prevA, hk0, hq]
            rw [hpv] at hx
            replace hx : chkLs none l = if decide (0 ≤ cmpR q e) = true then 8 else chkLs (some e) (l.drop (k + 1)) := hx
            by_cases hle : 0 ≤ cmpR q e
            · rw [if_pos (by simpa using hle)] at hx
              simp -implicitDefEqProofs [hB, hf, x_span_checkLinks_l0, h0, h8, h9, h10, hlt, hk, hp, b1, b2, r1, r2, hk0', hk0n, hw1, hp2, hc, hle, hx]
            · rw [if_neg (by simpa using hle)] at hx
              simp -implicitDefEqProofs [hB, x_span_checkLinks_l0, h0, h8, h9, h10, hlt, hk, hp, b1, b2, r1, r2, hk0', hk0n, hw1, hp2, hc, hle]
              refine K _ _ ⟨?_, ⟨_, rfl⟩, by rw [prevA_up he]; exact hx⟩
              simp [h0, h8, h9, hw]
    · rintro B hB s h' ⟨⟨h0, h8, h9, h10, -⟩, ⟨t, rfl⟩, hx⟩
      rw [List.drop_of_length_le (Nat.le_refl _), chkLs_nil] at hx
      simp -implicitDefEqProofs [hB, x_span_checkLinks_l0, h0, h8, h9, h10, hx]
end Go.Proofs.Sl

namespace Go.Proofs.Sl
theorem rngd_iff {n lo hi : Int} : rngd n lo hi = true ↔ lo ≤ n ∧ n ≤ hi := by simp [rngd]
def chkSp (a : SP) : Int :=
  if (rngd a.tr 1 1099511627776 && (rngd a.id 1 1099511627776 && (rngd a.par 0 1099511627776 && (rngd a.rev 0 1048576 && rngd a.clk 1 1048576)))) = false then 2
  else if rngd a.kind 1 5 = false then 12
  else if (isNm a.sv && (isNm a.op && (decide (a.vr = eS) || isNm a.vr))) = false then 11
  else if (rngd a.st (-1099511627776) 1099511627776 && rngd a.en (-1099511627776) 1099511627776) = false then 32
  else if a.en < a.st then 8
  else if 1099511627776 < a.en - a.st then 32
  else orl [chkAL a.ats, chkLL a.lks]
structure SP.Sz (a : SP) : Prop where
  sv : a.sv.size ≤ 9223372036854775807
  vr : a.vr.size ≤ 9223372036854775807
  op : a.op.size ≤ 9223372036854775807
  ats : ∀ e ∈ a.ats, e.Sz
  an : a.an = true → a.ats = []
  ln : a.ln = true → a.lks = []
/-- No version, or a name. -/
theorem vcase (vr : ByteArray) (h : (decide (vr = eS) || isNm vr) = true) : (vr.toList.isEmpty = true ∧ True) ∨ (vr.toList.isEmpty = false ∧ isNm vr = true) := by
  by_cases e : vr = eS
  · exact .inl ⟨by rw [isE]; simp [e], trivial⟩
  · exact .inr ⟨by rw [isE]; simp [e], by simpa [e] using h⟩
theorem run_Check (h : H) {a : SP} (ha : a.Sz) : run XP i_span_Check [a.v] h = some (vi (chkSp a), h) := by
  obtain ⟨q1, q2, q3, q4, q5, q6⟩ := ha
  obtain ⟨tr, id, par, rev, clk, kind, sv, vr, op, st, en, er, ats, lks, an, ln⟩ := a
  simp only at q1 q2 q3 q4 q5 q6
  have i1 := fun h => run_IsName h sv q1
  have i2 := fun h => run_IsName h vr q2
  have i3 := fun h => run_IsName h op q3
  have ca := fun h => run_CheckAttrs (h := h) q5 q4
  have aa := (rd_slc h 4 AT.v q5).arg0
  have ab := (rd_slc h 2 RF.v q6).arg0
  have b1 := fun h => run_badId h tr
  have b2 := fun h => run_badId h id
  have cl := fun h => run_checkLinks (h := h) q6
  have co := fun h => run_OrE h [chkAL ats, chkLL lks] (by simp)
  simp only [il, List.map_cons, List.map_nil] at co
  rw [run_eq]
  cases r_tr : rngd tr 1 1099511627776
  · (rw [xp_span_Check]; simp -implicitDefEqProofs [x_span_Check, SP.v, chkSp, i1, i2, i3, b1, b2, r_tr])
  ·
    cases r_id : rngd id 1 1099511627776
    · (rw [xp_span_Check]; simp -implicitDefEqProofs [x_span_Check, SP.v, chkSp, i1, i2, i3, b1, b2, r_tr, r_id])
    ·
      by_cases c_par : par < 0
      · have r_par : rngd par 0 1099511627776 = false := by simp [rngd]; omega
        (rw [xp_span_Check]; simp -implicitDefEqProofs [x_span_Check, SP.v, chkSp, i1, i2, i3, b1, b2, r_tr, r_id, c_par, r_par])
      ·
        by_cases d_par : 1099511627776 < par
        · have r_par : rngd par 0 1099511627776 = false := by simp [rngd]; omega
          (rw [xp_span_Check]; simp -implicitDefEqProofs [x_span_Check, SP.v, chkSp, i1, i2, i3, b1, b2, r_tr, r_id, c_par, d_par, r_par])
        ·
          have r_par : rngd par 0 1099511627776 = true := by simp [rngd]; omega
          by_cases c_rev : rev < 0
          · have r_rev : rngd rev 0 1048576 = false := by simp [rngd]; omega
            (rw [xp_span_Check]; simp -implicitDefEqProofs [x_span_Check, SP.v, chkSp, i1, i2, i3, b1, b2, r_tr, r_id, c_par, d_par, r_par, c_rev, r_rev])
          ·
            by_cases d_rev : 1048576 < rev
            · have r_rev : rngd rev 0 1048576 = false := by simp [rngd]; omega
              (rw [xp_span_Check]; simp -implicitDefEqProofs [x_span_Check, SP.v, chkSp, i1, i2, i3, b1, b2, r_tr, r_id, c_par, d_par, r_par, c_rev, d_rev, r_rev])
            ·
              have r_rev : rngd rev 0 1048576 = true := by simp [rngd]; omega
              by_cases c_clk : clk < 1
              · have r_clk : rngd clk 1 1048576 = false := by simp [rngd]; omega
                (rw [xp_span_Check]; simp -implicitDefEqProofs [x_span_Check, SP.v, chkSp, i1, i2, i3, b1, b2, r_tr, r_id, c_par, d_par, r_par, c_rev, d_rev, r_rev, c_clk, r_clk])
              ·
                by_cases d_clk : 1048576 < clk
                · have r_clk : rngd clk 1 1048576 = false := by simp [rngd]; omega
                  (rw [xp_span_Check]; simp -implicitDefEqProofs [x_span_Check, SP.v, chkSp, i1, i2, i3, b1, b2, r_tr, r_id, c_par, d_par, r_par, c_rev, d_rev, r_rev, c_clk, d_clk, r_clk])
                ·
                  have r_clk : rngd clk 1 1048576 = true := by simp [rngd]; omega
                  by_cases c_kind : kind < 1
                  · have r_kind : rngd kind 1 5 = false := by simp [rngd]; omega
                    (rw [xp_span_Check]; simp -implicitDefEqProofs [x_span_Check, SP.v, chkSp, i1, i2, i3, b1, b2, r_tr, r_id, c_par, d_par, r_par, c_rev, d_rev, r_rev, c_clk, d_clk, r_clk, c_kind, r_kind])
                  ·
                    by_cases d_kind : 5 < kind
                    · have r_kind : rngd kind 1 5 = false := by simp [rngd]; omega
                      (rw [xp_span_Check]; simp -implicitDefEqProofs [x_span_Check, SP.v, chkSp, i1, i2, i3, b1, b2, r_tr, r_id, c_par, d_par, r_par, c_rev, d_rev, r_rev, c_clk, d_clk, r_clk, c_kind, d_kind, r_kind])
                    ·
                      have r_kind : rngd kind 1 5 = true := by simp [rngd]; omega
                      cases n_sv : isNm sv
                      · (rw [xp_span_Check]; simp -implicitDefEqProofs [x_span_Check, SP.v, chkSp, i1, i2, i3, b1, b2, r_tr, r_id, c_par, d_par, r_par, c_rev, d_rev, r_rev, c_clk, d_clk, r_clk, c_kind, d_kind, r_kind, n_sv])
                      ·
                        cases n_op : isNm op
                        · (rw [xp_span_Check]; simp -implicitDefEqProofs [x_span_Check, SP.v, chkSp, i1, i2, i3, b1, b2, r_tr, r_id, c_par, d_par, r_par, c_rev, d_rev, r_rev, c_clk, d_clk, r_clk, c_kind, d_kind, r_kind, n_sv, n_op])
                        ·
                          have tail : ∀ (q : Bool), q = (decide (vr = eS) || isNm vr) → q = true → ob (XP i_span_Check) (fun F => xfun (run XP) loopW F [SP.v ⟨tr, id, par, rev, clk, kind, sv, vr, op, st, en, er, ats, lks, an, ln⟩] h) = some (vi (chkSp ⟨tr, id, par, rev, clk, kind, sv, vr, op, st, en, er, ats, lks, an, ln⟩), h) := by
                            intro q hq hq1
                            rw [hq1] at hq
                            replace hq := hq.symm
                            rcases vcase vr hq with ⟨v1, v2⟩ | ⟨v1, v2⟩
                            all_goals
                              by_cases o1 : en < st
                              · have o3 : ¬ st < en := by omega
                                by_cases t1 : en < -1099511627776
                                · have r_en : rngd en (-1099511627776) 1099511627776 = false := by (cases h : rngd en (-1099511627776) 1099511627776; rfl; have := rngd_iff.1 h; omega)
                                  (rw [xp_span_Check]; simp -implicitDefEqProofs [x_span_Check, SP.v, chkSp, i1, i2, i3, b1, b2, r_tr, r_id, c_par, d_par, r_par, c_rev, d_rev, r_rev, c_clk, d_clk, r_clk, c_kind, d_kind, r_kind, n_sv, n_op, hq, v1, v2, o1, o3, t1, r_en, Bool.and_false])
                                · by_cases t2 : 1099511627776 < st
                                  · have r_st : rngd st (-1099511627776) 1099511627776 = false := by (cases h : rngd st (-1099511627776) 1099511627776; rfl; have := rngd_iff.1 h; omega)
                                    (rw [xp_span_Check]; simp -implicitDefEqProofs [x_span_Check, SP.v, chkSp, i1, i2, i3, b1, b2, r_tr, r_id, c_par, d_par, r_par, c_rev, d_rev, r_rev, c_clk, d_clk, r_clk, c_kind, d_kind, r_kind, n_sv, n_op, hq, v1, v2, o1, o3, t1, t2, r_st])
                                  · have r_st : rngd st (-1099511627776) 1099511627776 = true := rngd_iff.2 (by omega)
                                    have r_en : rngd en (-1099511627776) 1099511627776 = true := rngd_iff.2 (by omega)
                                    (rw [xp_span_Check]; simp -implicitDefEqProofs [x_span_Check, SP.v, chkSp, i1, i2, i3, b1, b2, r_tr, r_id, c_par, d_par, r_par, c_rev, d_rev, r_rev, c_clk, d_clk, r_clk, c_kind, d_kind, r_kind, n_sv, n_op, hq, v1, v2, o1, o3, t1, t2, r_st, r_en])
                              · have hmx : (if st < en then en else st) = en := by split <;> omega
                                by_cases t1 : st < -1099511627776
                                · have r_st : rngd st (-1099511627776) 1099511627776 = false := by (cases h : rngd st (-1099511627776) 1099511627776; rfl; have := rngd_iff.1 h; omega)
                                  (rw [xp_span_Check]; simp -implicitDefEqProofs [x_span_Check, SP.v, chkSp, i1, i2, i3, b1, b2, r_tr, r_id, c_par, d_par, r_par, c_rev, d_rev, r_rev, c_clk, d_clk, r_clk, c_kind, d_kind, r_kind, n_sv, n_op, hq, v1, v2, o1, hmx, t1, r_st])
                                · by_cases t2 : 1099511627776 < en
                                  · have r_en : rngd en (-1099511627776) 1099511627776 = false := by (cases h : rngd en (-1099511627776) 1099511627776; rfl; have := rngd_iff.1 h; omega)
                                    (rw [xp_span_Check]; simp -implicitDefEqProofs [x_span_Check, SP.v, chkSp, i1, i2, i3, b1, b2, r_tr, r_id, c_par, d_par, r_par, c_rev, d_rev, r_rev, c_clk, d_clk, r_clk, c_kind, d_kind, r_kind, n_sv, n_op, hq, v1, v2, o1, hmx, t1, t2, r_en, Bool.and_false])
                                  · have r_st : rngd st (-1099511627776) 1099511627776 = true := rngd_iff.2 (by omega)
                                    have r_en : rngd en (-1099511627776) 1099511627776 = true := rngd_iff.2 (by omega)
                                    have hw : IntKind.i64.wrap (en - st) = en - st := wrap_i64 (by omega) (by omega)
                                    by_cases o2 : 1099511627776 < en - st
                                    · (rw [xp_span_Check]; simp -implicitDefEqProofs [x_span_Check, SP.v, chkSp, i1, i2, i3, b1, b2, r_tr, r_id, c_par, d_par, r_par, c_rev, d_rev, r_rev, c_clk, d_clk, r_clk, c_kind, d_kind, r_kind, n_sv, n_op, hq, v1, v2, o1, hmx, t1, t2, r_st, r_en, hw, o2])
                                    ·
                                      rw [xp_span_Check]; simp -implicitDefEqProofs [x_span_Check, SP.v, chkSp, i1, i2, i3, b1, b2, ca, cl, co, aa, ab, same_self, optEq, r_tr, r_id, c_par, d_par, r_par, c_rev, d_rev, r_rev, c_clk, d_clk, r_clk, c_kind, d_kind, r_kind, n_sv, n_op, hq, v1, v2, o1, hmx, t1, t2, r_st, r_en, hw, o2]
                          by_cases e_vr : vr = eS
                          · exact tail _ rfl (by simp [e_vr])
                          · cases n_vr : isNm vr
                            · have e_vr' : vr.toList.isEmpty = false := by rw [isE]; simp [e_vr]
                              have hq : (decide (vr = eS) || isNm vr) = false := by simp [e_vr, n_vr]
                              (rw [xp_span_Check]; simp -implicitDefEqProofs [x_span_Check, SP.v, chkSp, i1, i2, i3, b1, b2, r_tr, r_id, c_par, d_par, r_par, c_rev, d_rev, r_rev, c_clk, d_clk, r_clk, c_kind, d_kind, r_kind, n_sv, n_op, e_vr', e_vr, n_vr, hq])
                            · exact tail _ rfl (by simp [n_vr])
end Go.Proofs.Sl

namespace Go.Proofs.Sl
end Go.Proofs.Sl

namespace Go.Proofs.Sl
def ixT : List ByteArray → ByteArray → Nat → Int
  | [], _, _ => -1
  | t :: r, s, k => if s = t then k else ixT r s (k + 1)
theorem vs_get {ss : List ByteArray} {k : Nat} {e : ByteArray} (h : ss[k]? = some e) : (ss.map vs)[k]? = some (vs e) := by simp [h]
theorem run_Index (h : H) (ss : List ByteArray) (s : ByteArray) (hl : ss.length ≤ 10000) : run XP i_slices_Index_string_string [.lst 1 (ss.map vs), vs s] h = some (vi (ixT ss s 0), h) := by
  have hv : Rd h 1 (.lst 1 (ss.map vs)) (ss.map vs) := .lst _
  rw [run_eq, xp_slices_Index_string_string]
  simp -implicitDefEqProofs [x_slices_Index_string_string]
  refine loop_list ss (fun k s' h' => Sees s' [(0, .lst 1 (ss.map vs)), (1, vs s), (7, vi ss.length), (8, vi k)] ∧ h' = h ∧ ixT ss s 0 = ixT (ss.drop k) s k) ?_ ?_ _ _ ⟨by simp, rfl, rfl⟩
  · rintro B f hB hf k e s' h' he hk ⟨⟨h0, h1, h7, h8, -⟩, rfl, hx⟩ K
    obtain ⟨p, hp, hld⟩ := hv.at1 (vs_get he) rfl
    have hlt : (k : Int) < ss.length := by omega
    rw [drop_at he, ixT] at hx
    have hb := bl_eq (a := s) (b := e)
    by_cases h0' : s = e
    · rw [if_pos h0'] at hx
      have hb' : (s.toList == e.toList) = true := by rw [hb]; simp [h0']
      simp -implicitDefEqProofs [hB, hf, x_slices_Index_string_string_l0, h0, h1, h7, h8, hlt, hk, hp, hld, hb', hx]
    · rw [if_neg h0'] at hx
      have hb' : (s.toList == e.toList) = false := by rw [hb]; simp [h0']
      simp -implicitDefEqProofs [hB, x_slices_Index_string_string_l0, h0, h1, h7, h8, hlt, hk, hp, hld, hb']
      refine K _ _ ⟨?_, rfl, hx⟩
      simp [h0, h1, h7, wrap_up (by omega : k < 100000000000)]
  · rintro B hB s' h' ⟨⟨h0, h1, h7, h8, -⟩, rfl, hx⟩
    rw [List.drop_of_length_le (Nat.le_refl _), ixT] at hx
    simp -implicitDefEqProofs [hB, x_slices_Index_string_string_l0, h0, h1, h7, h8, hx]
theorem run_Contains (h : H) (ss : List ByteArray) (s : ByteArray) (hl : ss.length ≤ 10000) : run XP i_slices_Contains_string_string [.lst 1 (ss.map vs), vs s] h = some (vb (decide (0 ≤ ixT ss s 0)), h) := by
  have h1 := fun h => run_Index h ss s hl
  rw [run_eq, xp_slices_Contains_string_string]
  simp -implicitDefEqProofs [x_slices_Contains_string_string, h1]
def sClock : ByteArray := ⟨#[99, 108, 111, 99, 107]⟩
def sDur : ByteArray := ⟨#[100, 117, 114, 97, 116, 105, 111, 110]⟩
def flds : List ByteArray := [sClock, sDur, ⟨#[101, 110, 100]⟩, ⟨#[101, 114, 114, 111, 114]⟩, ⟨#[105, 100]⟩, ⟨#[107, 105, 110, 100]⟩, ⟨#[111, 112, 101, 114, 97, 116, 105, 111, 110]⟩, ⟨#[112, 97, 114, 101, 110, 116]⟩, ⟨#[114, 101, 118, 105, 115, 105, 111, 110]⟩, ⟨#[114, 111, 111, 116]⟩,
  ⟨#[115, 101, 114, 118, 105, 99, 101]⟩, ⟨#[115, 108, 111, 116]⟩, ⟨#[115, 116, 97, 114, 116]⟩, ⟨#[116, 114, 97, 99, 101]⟩, ⟨#[118, 101, 114, 115, 105, 111, 110]⟩]
theorem run_Fields (h : H) : run XP i_span_Fields [] h = some (.lst 1 (flds.map vs), h) := by
  rw [run_eq, xp_span_Fields]
  simp -implicitDefEqProofs [x_span_Fields, flds, sClock, sDur]
theorem run_Slot (h : H) (n : Int) : run XP i_span_Slot [vi n] h = some (vi (n.fdiv 1048576), h) := by
  rw [run_eq, xp_span_Slot]
  simp -implicitDefEqProofs [x_span_Slot, xbin_shr]
  rfl
theorem run_Part (h : H) (n : Int) : run XP i_span_Partition [vi n] h = some (vi ((n.fdiv 1048576).fdiv 16), h) := by
  have h1 := fun h => run_Slot h n
  rw [run_eq, xp_span_Partition]
  simp -implicitDefEqProofs [x_span_Partition, h1, xbin_shr]
  rfl
theorem run_Dur (h : H) (a : SP) : run XP i_span_Duration [a.v] h = some (vi (IntKind.i64.wrap (a.en - a.st)), h) := by
  rw [run_eq, xp_span_Duration]
  simp -implicitDefEqProofs [x_span_Duration, SP.v]
/-! ### The examples -/
theorem sDur_ne {l : List UInt8} (h : ([100, 117, 114, 97, 116, 105, 111, 110] == l) = false) : (sDur.toList == l) = false := by
  rw [ByteArray.toList_eq]
  exact h
theorem run_KindDur (h : H) : run XP i_span_FieldKind [vs sDur] h = some (.tup [vi 2, vb true], h) := by
  have h1 := fun h => run_Fields h
  have h2 := fun h => run_Contains h flds sDur (by decide)
  have h3 : ixT flds sDur 0 = 1 := by decide
  rw [h3] at h2
  have e1 := sDur_ne (l := [107, 105, 110, 100]) rfl
  have e2 := sDur_ne (l := [111, 112, 101, 114, 97, 116, 105, 111, 110]) rfl
  have e3 := sDur_ne (l := [115, 101, 114, 118, 105, 99, 101]) rfl
  have e4 := sDur_ne (l := [118, 101, 114, 115, 105, 111, 110]) rfl
  have e5 := sDur_ne (l := [101, 114, 114, 111, 114]) rfl
  have e6 := sDur_ne (l := [114, 111, 111, 116]) rfl
  rw [run_eq, xp_span_FieldKind]
  simp -implicitDefEqProofs [x_span_FieldKind, h1, h2, e1, e2, e3, e4, e5, e6]
theorem run_numDur (h : H) (a : SP) : run XP i_span_View_number [a.v, vs sDur] h = some (vi (IntKind.i64.wrap (a.en - a.st)), h) := by
  have h1 := fun h => run_Dur h a
  have e1 := sDur_ne (l := [99, 108, 111, 99, 107]) rfl
  have e2 : (sDur.toList == [100, 117, 114, 97, 116, 105, 111, 110]) = true := by rw [ByteArray.toList_eq]; rfl
  simp only [SP.v] at h1
  rw [run_eq, xp_span_View_number]
  simp -implicitDefEqProofs [x_span_View_number, SP.v, h1, e1, e2]
theorem run_valDur (h : H) (a : SP) : run XP i_span_View_Value [a.v, vs sDur, vs ⟨#[]⟩] h = some (.tup [.agg [vi 2, vs ⟨#[]⟩, vi (IntKind.i64.wrap (a.en - a.st))], vb true], h) := by
  have h1 := fun h => run_KindDur h
  have h2 := fun h => run_numDur h a
  have e1 := sDur_ne (l := [97, 116, 116, 114]) rfl
  simp only [SP.v] at h2
  rw [run_eq, xp_span_View_Value]
  simp -implicitDefEqProofs [x_span_View_Value, SP.v, h1, h2, e1]
def exA : SP := ⟨1, 2, 0, 1, 1, 3, ⟨#[115]⟩, ⟨#[]⟩, ⟨#[111]⟩, 4, 9, false, [], [], true, true⟩
def exB : SP := ⟨1, 2, 0, 0, 1, 3, ⟨#[115]⟩, ⟨#[]⟩, ⟨#[111]⟩, 4, 12, false, [], [], true, true⟩
theorem exBA : wns [exB, exA] = [exA] := by
  have c1 : cmpS exA exB = 1 := by decide +kernel
  have hs : srt [exB, exA] = [exB, exA] := by
    have hp := srt_perm [exB, exA]
    have ho := srt_sorted [exB, exA]
    generalize srt [exB, exA] = l at hp ho
    match l, hp.length_eq with
    | [x, y], _ =>
      have hx : x ∈ [exB, exA] := hp.mem_iff.1 (by simp)
      simp only [List.mem_cons, List.not_mem_nil, or_false] at hx
      rcases hx with rfl | rfl
      · have := List.Perm.cons_inv hp
        rw [List.perm_singleton] at this
        injection this with this
        rw [this]
      · have h2 : [exA, y].Perm [exA, exB] := hp.trans (List.Perm.swap exA exB [])
        have := List.Perm.cons_inv h2
        rw [List.perm_singleton] at this
        injection this with this
        subst this
        simp only [List.pairwise_cons, List.mem_singleton, forall_eq] at ho
        rw [c1] at ho
        exact absurd ho.1 (by decide)
  have h2 : cpt [exB, exA] = [exB, exA] := by simp [cpt, cptA, c1]
  rw [wns, dst, hs, h2]
  simp [winL, exA, exB]
theorem chk_exA : chkSp exA = 0 := by decide +kernel
theorem known11 (h : H) : run XP i_sleuthlaw11_known [] h = some (vb true, h) := by
  have sA : exA.Sm := ⟨by decide, by decide, fun _ => rfl, fun _ => rfl⟩
  have sB : exB.Sm := ⟨by decide, by decide, fun _ => rfl, fun _ => rfl⟩
  have hW : ∀ h, run XP i_span_Winners [.lst 14 [V.agg [vi 1, vi 2, vi 0, vi 0, vi 1, vi 3, vs ⟨#[115]⟩, vs ⟨#[]⟩, vs ⟨#[111]⟩, vi 4, vi 12, vb false, vnil, vnil], V.agg [vi 1, vi 2, vi 0, vi 1, vi 1, vi 3, vs ⟨#[115]⟩, vs ⟨#[]⟩, vs ⟨#[111]⟩, vi 4, vi 9, vb false, vnil, vnil]]] h = some (.lst 14 [V.agg [vi 1, vi 2, vi 0, vi 1, vi 1, vi 3, vs ⟨#[115]⟩, vs ⟨#[]⟩, vs ⟨#[111]⟩, vi 4, vi 9, vb false, vnil, vnil]], h) := fun h => by
    have := run_Winners (h := h) (h2 := h) (v := .lst 14 [exB.v, exA.v]) (es := [exB, exA]) (.inr rfl) rfl (run_Values (es := [exB, exA]) (.inr rfl)) rfl (by simp [sA, sB]) (by simp)
    rw [exBA] at this
    exact this
  have hV : ∀ h, run XP i_span_View_Value [V.agg [vi 1, vi 2, vi 0, vi 1, vi 1, vi 3, vs ⟨#[115]⟩, vs ⟨#[]⟩, vs ⟨#[111]⟩, vi 4, vi 9, vb false, vnil, vnil], vs ⟨#[100, 117, 114, 97, 116, 105, 111, 110]⟩, vs ⟨#[]⟩] h = some (.tup [.agg [vi 2, vs ⟨#[]⟩, vi 5], vb true], h) := fun h => run_valDur h exA
  have hC : ∀ h, run XP i_span_Check [V.agg [vi 1, vi 2, vi 0, vi 1, vi 1, vi 3, vs ⟨#[115]⟩, vs ⟨#[]⟩, vs ⟨#[111]⟩, vi 4, vi 9, vb false, vnil, vnil]] h = some (vi 0, h) := fun h => by
    have := run_Check h (a := exA) ⟨by decide, by decide, by decide, by simp [exA], fun _ => rfl, fun _ => rfl⟩
    rw [chk_exA] at this
    exact this
  have hP : ∀ h, run XP i_span_Partition [vi 16777216] h = some (vi 1, h) := fun h => run_Part h 16777216
  have hF := fun h => run_Fields h
  have hfl : (flds.map vs).length = 15 := rfl
  generalize flds.map vs = fl at hF hfl
  have hbe : ((⟨#[]⟩ : ByteArray) == ⟨#[]⟩) = true := by decide
  rw [run_eq, xp_sleuthlaw11_known]
  simp -implicitDefEqProofs [x_sleuthlaw11_known, hW, hV, hC, hP, hF, hfl, hbe]
end Go.Proofs.Sl

namespace Go.Proofs.Sl
theorem il_append (a b : List Int) : il (a ++ b) = il a ++ il b := by simp [il]
theorem wide_il1 : ∀ l : List Int, wide 1 (il l) = true
  | [] => rfl
  | n :: l => by
    have := wide_il1 l
    simp only [il] at this
    simp only [il, List.map_cons, wide, this, Bool.and_true]
    rfl
theorem closeds_il1 : ∀ l : List Int, V.closed.closeds (il l) = true
  | [] => rfl
  | n :: l => by
    have := closeds_il1 l
    simp only [il] at this
    simp only [il, List.map_cons, V.closed.closeds, this, Bool.and_true]
    rfl
/-- Where the two spans and the list lie. -/
structure At3 (h : H) (n : Nat) (ca cb : List V) (ns : List Int) : Prop where
  a : h[n]? = some (.box false ca)
  b : h[n + 1]? = some (.box false cb)
  l : h[n + 2]? = some (.arr false 1 (il ns))
theorem At3.app {h : H} {n : Nat} {ca cb : List V} {ns : List Int} (A : At3 h n ca cb ns) (t : H) : At3 (h ++ t) n ca cb ns := by
  have := (List.getElem?_eq_some_iff.1 A.l).1
  exact ⟨by rw [List.getElem?_append_left (by omega)]; exact A.a, by rw [List.getElem?_append_left (by omega)]; exact A.b, by rw [List.getElem?_append_left (by omega)]; exact A.l⟩
theorem At3.set {h : H} {n : Nat} {ca cb : List V} {ns : List Int} (A : At3 h n ca cb ns) (ms : List Int) : At3 (h.set (n + 2) (.arr false 1 (il ms))) n ca cb ms := by
  have := (List.getElem?_eq_some_iff.1 A.l).1
  exact ⟨by rw [List.getElem?_set_ne (by omega)]; exact A.a, by rw [List.getElem?_set_ne (by omega)]; exact A.b, by rw [List.getElem?_set_self this]⟩
theorem At3.len {h : H} {n : Nat} {ca cb : List V} {ns : List Int} (A : At3 h n ca cb ns) : n + 2 < h.length := (List.getElem?_eq_some_iff.1 A.l).1
theorem At3.grow {h : H} {n : Nat} {ca cb : List V} {ns : List Int} (A : At3 h n ca cb ns) (ms : List Int) (hl : ns.length + ms.length ≤ 17592186044416) : xappend h 1 17592186044416 (.ref (n + 2) ns.length) (.lst 1 (il ms)) = some (.ref (n + 2) (ns ++ ms).length, h.set (n + 2) (.arr false 1 (il (ns ++ ms)))) := by
  have h1 : arrN h (n + 2) ns.length = some (false, 1, il ns) := by simp [arrN, arrAt, A.l, ob_some, il_length]
  have ea : appEls h (.lst 1 (il ms)) = some (il ms) := rfl
  have hl' : ns.length + (il ms).length ≤ 17592186044416 := by rw [il_length]; exact hl
  simp only [xappend, ea, ob_some, wide_il1, closeds_il1, and_self, if_true, h1, true_and, hl, il_append, List.length_append, il_length]
end Go.Proofs.Sl

namespace Go.Proofs.Sl
section
variable {H0 : H} {n base : Nat} {ca cb : List V} {f : Ex × St → Option (V × H)} {w : Option (V × H)} {ns : List Int}
end
end Go.Proofs.Sl

namespace Go.Proofs.Sl
abbrev v8 (n : Nat) : V := .s (.int .u8 (n : Int))
structure MK where
  t : Nat
  i : Nat
  p : Nat
  r : Nat
  c : Nat
  k : Nat
  s : Nat
  v : Nat
  o : Nat
  st : Nat
  lo : Nat
  tg : Nat
  lk : Nat
  fl : Bool
def MK.val (m : MK) : V := .agg [v8 m.t, v8 m.i, v8 m.p, v8 m.r, v8 m.c, v8 m.k, v8 m.s, v8 m.v, v8 m.o, v8 m.st, v8 m.lo, v8 m.tg, v8 m.lk, vb m.fl]
structure MK.Ok (m : MK) : Prop where
  a : ∀ n ∈ [m.t, m.i, m.p, m.r, m.c, m.k, m.s, m.v, m.o, m.st, m.lo, m.tg, m.lk], n < 256
def svs : List ByteArray := [⟨#[97, 112, 105]⟩, ⟨#[100, 98]⟩, ⟨#[119, 101, 98]⟩]
def vrs : List ByteArray := [⟨#[]⟩, ⟨#[118, 49]⟩, ⟨#[118, 50]⟩]
def ops : List ByteArray := [⟨#[103, 101, 116]⟩, ⟨#[112, 117, 116]⟩]
def zns : List ByteArray := [⟨#[97]⟩, ⟨#[98]⟩, ⟨#[119, 101, 115, 116, 32, 49]⟩]
/-- The attributes of a mark, before they are cut. -/
def mats (b : Nat) (n : Int) (z : ByteArray) : List AT := [⟨⟨#[111, 107]⟩, ⟨3, ⟨#[]⟩, b⟩⟩, ⟨⟨#[115, 105, 122, 101]⟩, ⟨2, ⟨#[]⟩, n⟩⟩, ⟨⟨#[122, 111, 110, 101]⟩, ⟨1, z, 0⟩⟩]
def mlks : Nat → Int → Int → List RF
  | 0, _, _ => []
  | 1, t, i => [⟨t, i⟩]
  | _, t, i => [⟨t, i⟩, ⟨t, i + 1⟩]
def tbl (l : List ByteArray) (n : Nat) : ByteArray := l.getD n ⟨#[]⟩
def MK.sp (m : MK) : SP := ⟨((m.t % 3 * 1048576 + 1 + m.t / 3 % 4 : Nat) : Int), ((1 + m.i % 4 : Nat) : Int), ((m.p % 5 : Nat) : Int), ((m.r % 3 : Nat) : Int), ((1 + m.c % 3 : Nat) : Int), ((1 + m.k % 5 : Nat) : Int), tbl svs (m.s % 3), tbl vrs (m.v % 3), tbl ops (m.o % 2), (m.st : Int) - 50, (m.st : Int) - 50 + ((m.lo % 40 : Nat) : Int), m.fl,
  (mats (m.tg / 4 % 2) ((m.tg : Int) - 60) (tbl zns (m.tg / 8 % 3))).take (m.tg % 4), mlks (m.lk % 3) ((1 + m.lk / 3 % 5 : Nat) : Int) ((1 + m.lk / 15 % 5 : Nat) : Int), false, m.lk % 3 == 0⟩
theorem tmodN (a b : Nat) : (a : Int).tmod (b : Int) = ((a % b : Nat) : Int) := rfl
theorem tdivN (a b : Nat) : (a : Int).tdiv (b : Int) = ((a / b : Nat) : Int) := rfl
theorem w8 {n : Nat} (h : n < 256) : IntKind.u8.wrap (n : Int) = (n : Int) := by rw [wrap_u8]; omega
theorem w64 {n : Int} (h : -1000000000 ≤ n ∧ n ≤ 1000000000) : IntKind.i64.wrap n = n := wrap_i64 (by omega) (by omega)
theorem tbl_at {l : List ByteArray} {n : Nat} (h : n < l.length) : (l.map vs)[n]? = some (vs (tbl l n)) := by
  simp [tbl, h]
/-- The links. -/
def lcell (cs : List V) (nl : Nat) (a b : Int) : List V := if nl = 0 then cs else cs.set 13 (.own 2 ((mlks nl a b).map RF.v))
theorem span_l0 {h : H} {base : Nat} {mc rs cs : List V} {f : Ex × St → Option (V × H)} {w : Option (V × H)} {lk nl b3 a9 b4 aA : Nat}
    (c12 : mc[12]? = some (v8 lk)) (c13 : cs[13]? = some vnil) (hb : base ≤ h.length)
    (eH : (lk : Int).tmod 3 = (nl : Int)) (eI : (lk : Int).tdiv 3 = (b3 : Int)) (eJ : (b3 : Int).tmod 5 = (a9 : Int)) (eK : (lk : Int).tdiv 15 = (b4 : Int)) (eL : (b4 : Int).tmod 5 = (aA : Int))
    (hv : ∀ n ∈ [b3, b4, a9, aA, nl], n < 256) (hnl : nl = 0 ∨ nl = 1 ∨ nl = 2)
    (hend : ∀ s ds, s 2 = .ptr (h.length + 1) 0 → s 3 = .ptr (h.length + 2) 0 → f (.exit 0, ⟨s, h ++ (.box false mc :: .box false rs :: .box false (lcell cs nl (1 + (a9 : Int)) (1 + (aA : Int))) :: ds)⟩) = w)
    (s0 : Sl) (h1 : s0 1 = .ptr h.length 0) (h2 : s0 2 = .ptr (h.length + 1) 0) (h3 : s0 3 = .ptr (h.length + 2) 0) (h5 : s0 5 = vi 0) :
    ob (loopW (xcode (run XP) loopW base x_sleuthlaw11_Span_l0) ⟨s0, h ++ [.box false mc, .box false rs, .box false cs]⟩) f = w := by
  simp only [List.mem_cons, List.not_mem_nil, or_false, forall_eq_or_imp, forall_eq] at hv
  obtain ⟨g0, g1, g2, g3, g4⟩ := hv
  have w3 := w8 g0
  have w4 := w8 g1
  have xC : IntKind.i64.wrap (a9 : Int) = a9 := w64 (by omega)
  have xD : IntKind.i64.wrap (aA : Int) = aA := w64 (by omega)
  have xH : IntKind.i64.wrap (1 + (a9 : Int)) = 1 + a9 := w64 (by omega)
  have xI : IntKind.i64.wrap (1 + (aA : Int)) = 1 + aA := w64 (by omega)
  have xJ : IntKind.i64.wrap (1 + (aA : Int) + 1) = 1 + aA + 1 := w64 (by omega)
  have y0 : IntKind.i64.wrap 0 = 0 := by decide
  have y1 : IntKind.i64.wrap 1 = 1 := by decide
  have y2 : IntKind.i64.wrap 2 = 2 := by decide
  have hcl : 13 < cs.length := (List.getElem?_eq_some_iff.1 c13).1
  have hb2 : base ≤ h.length + 2 := by omega
  generalize hB : xcode (run XP) loopW base x_sleuthlaw11_Span_l0 = B
  have step : ∀ st, B st = xcode (run XP) loopW base x_sleuthlaw11_Span_l0 st := fun st => by rw [hB]
  rw [loopW_cps]
  rcases hnl with rfl | rfl | rfl
  · simp -implicitDefEqProofs [step, x_sleuthlaw11_Span_l0, h1, h2, h3, h5, c12, c13, eH, y0]
    exact hend _ [] (by simp [h2]) (by simp [h3])
  · simp -implicitDefEqProofs [step, x_sleuthlaw11_Span_l0, h1, h2, h3, h5, c12, c13, eH, eI, eJ, eK, eL, w3, w4, xC, xD, xH, xI, y0, y1, hb2]
    rw [loopW_cps]
    simp -implicitDefEqProofs [step, x_sleuthlaw11_Span_l0, h1, h2, h3, c12, eH, y1]
    exact hend _ [.dead] (by simp [h2]) (by simp [h3])
  · simp -implicitDefEqProofs [step, x_sleuthlaw11_Span_l0, h1, h2, h3, h5, c12, c13, eH, eI, eJ, eK, eL, w3, w4, xC, xD, xH, xI, y0, y1, y2, hb2]
    rw [loopW_cps]
    simp -implicitDefEqProofs [step, x_sleuthlaw11_Span_l0, h1, h2, h3, c12, hcl, eH, eI, eJ, eK, eL, w3, w4, xC, xD, xH, xI, xJ, y1, y2, hb2]
    rw [loopW_cps]
    simp -implicitDefEqProofs [step, x_sleuthlaw11_Span_l0, h1, h2, h3, c12, eH, y2]
    exact hend _ [.dead] (by simp [h2]) (by simp [h3])
set_option maxHeartbeats 2000000 in
theorem run_Span_aux (h : H) (t i p r c k s v o st lo tg lk : Nat) (fl : Bool) (a0 b0 a1 a2 a3 a4 a5 a6 is iv io a7 b1 a8 b2 iz nt nl b3 a9 b4 aA : Nat) (sv vr op zn : ByteArray)
    (e0 : (t : Int).tmod 3 = (a0 : Int)) (e1 : (t : Int).tdiv 3 = (b0 : Int)) (e2 : (b0 : Int).tmod 4 = (a1 : Int)) (e3 : (i : Int).tmod 4 = (a2 : Int)) (e4 : (p : Int).tmod 5 = (a3 : Int)) (e5 : (r : Int).tmod 3 = (a4 : Int)) (e6 : (c : Int).tmod 3 = (a5 : Int)) (e7 : (k : Int).tmod 5 = (a6 : Int))
    (e8 : (s : Int).tmod 3 = (is : Int)) (e9 : (v : Int).tmod 3 = (iv : Int)) (eA : (o : Int).tmod 2 = (io : Int)) (eB : (lo : Int).tmod 40 = (a7 : Int)) (eC : (tg : Int).tdiv 4 = (b1 : Int)) (eD : (b1 : Int).tmod 2 = (a8 : Int)) (eE : (tg : Int).tdiv 8 = (b2 : Int)) (eF : (b2 : Int).tmod 3 = (iz : Int)) (eG : (tg : Int).tmod 4 = (nt : Int))
    (eH : (lk : Int).tmod 3 = (nl : Int)) (eI : (lk : Int).tdiv 3 = (b3 : Int)) (eJ : (b3 : Int).tmod 5 = (a9 : Int)) (eK : (lk : Int).tdiv 15 = (b4 : Int)) (eL : (b4 : Int).tmod 5 = (aA : Int))
    (hv : ∀ n ∈ [b0, st, b1, tg, b2, b3, b4, a0, a1, a2, a3, a4, a5, a6, a7, a8, a9, aA, nl], n < 256) (hnt : nt ≤ 3) (hnl : nl = 0 ∨ nl = 1 ∨ nl = 2)
    (s1 : (svs.map vs)[is]? = some (vs sv)) (s2 : (vrs.map vs)[iv]? = some (vs vr)) (s3 : (ops.map vs)[io]? = some (vs op)) (s4 : (zns.map vs)[iz]? = some (vs zn)) :
    run XP i_sleuthlaw11_Span [.agg [v8 t, v8 i, v8 p, v8 r, v8 c, v8 k, v8 s, v8 v, v8 o, v8 st, v8 lo, v8 tg, v8 lk, vb fl]] h =
      some (SP.v ⟨(a0 : Int) * 1048576 + 1 + a1, 1 + (a2 : Int), a3, a4, 1 + (a5 : Int), 1 + (a6 : Int), sv, vr, op, (st : Int) - 50, (st : Int) - 50 + a7, fl, (mats a8 ((tg : Int) - 60) zn).take nt, mlks nl (1 + (a9 : Int)) (1 + (aA : Int)), false, nl == 0⟩, h) := by
  simp only [List.mem_cons, List.not_mem_nil, or_false, forall_eq_or_imp, forall_eq] at hv
  obtain ⟨g0, g1, g2, g3, g4, g5, g6, g7, g8, g9, gA, gB, gC, gD, gE, gF, gG, gH, gI⟩ := hv
  have w0 := w8 g0
  have w1 := w8 g2
  have w2 := w8 g4
  have w3 := w8 g5
  have w4 := w8 g6
  have x0 : IntKind.i64.wrap (a0 : Int) = a0 := w64 (by omega)
  have x1 : IntKind.i64.wrap ((a0 : Int) * 2 ^ min 20 IntKind.i64.bits) = (a0 : Int) * 1048576 := w64 (n := (a0 : Int) * 1048576) (by omega)
  have x2 : IntKind.i64.wrap ((a0 : Int) * 1048576 + 1) = (a0 : Int) * 1048576 + 1 := w64 (by omega)
  have x3 : IntKind.i64.wrap ((a0 : Int) * 1048576 + 1 + a1) = (a0 : Int) * 1048576 + 1 + a1 := w64 (by omega)
  have x4 : IntKind.i64.wrap (a1 : Int) = a1 := w64 (by omega)
  have x5 : IntKind.i64.wrap (a2 : Int) = a2 := w64 (by omega)
  have x6 : IntKind.i64.wrap (a3 : Int) = a3 := w64 (by omega)
  have x7 : IntKind.i64.wrap (a4 : Int) = a4 := w64 (by omega)
  have x8 : IntKind.i64.wrap (a5 : Int) = a5 := w64 (by omega)
  have x9 : IntKind.i64.wrap (a6 : Int) = a6 := w64 (by omega)
  have xA : IntKind.i64.wrap (a7 : Int) = a7 := w64 (by omega)
  have xB : IntKind.i64.wrap (a8 : Int) = a8 := w64 (by omega)
  have xC : IntKind.i64.wrap (a9 : Int) = a9 := w64 (by omega)
  have xD : IntKind.i64.wrap (aA : Int) = aA := w64 (by omega)
  have xE : IntKind.i64.wrap (1 + (a2 : Int)) = 1 + a2 := w64 (by omega)
  have xF : IntKind.i64.wrap (1 + (a5 : Int)) = 1 + a5 := w64 (by omega)
  have xG : IntKind.i64.wrap (1 + (a6 : Int)) = 1 + a6 := w64 (by omega)
  have xH : IntKind.i64.wrap (1 + (a9 : Int)) = 1 + a9 := w64 (by omega)
  have xI : IntKind.i64.wrap (1 + (aA : Int)) = 1 + aA := w64 (by omega)
  have xJ : IntKind.i64.wrap (1 + (aA : Int) + 1) = 1 + aA + 1 := w64 (by omega)
  have xK : IntKind.i64.wrap (st : Int) = st := w64 (by omega)
  have xL : IntKind.i64.wrap ((st : Int) - 50) = (st : Int) - 50 := w64 (by omega)
  have xM : IntKind.i64.wrap ((st : Int) - 50 + a7) = (st : Int) - 50 + a7 := w64 (by omega)
  have xN : IntKind.i64.wrap (tg : Int) = tg := w64 (by omega)
  have xO : IntKind.i64.wrap ((tg : Int) - 60) = (tg : Int) - 60 := w64 (by omega)
  have xP : IntKind.i64.wrap (nl : Int) = nl := w64 (by omega)
  simp only [svs, vrs, ops, zns, List.map_cons, List.map_nil] at s1 s2 s3 s4
  rw [run_eq, xp_sleuthlaw11_Span]
  have hl := fun mc rs cs f w c12 c13 hend s0 => span_l0 (h := h) (base := h.length) (mc := mc) (rs := rs) (cs := cs) (f := f) (w := w) (lk := lk) (nl := nl) c12 c13 (Nat.le_refl _) eH eI eJ eK eL (by simp; omega) hnl hend s0
  simp -implicitDefEqProofs [x_sleuthlaw11_Span, e0, e1, e2, e3, e4, e5, e6, e7, e8, e9, eA, eB, eC, eD, eE, eF, eG, eH, eI, eJ, eK, eL, w0, w1, w2, w3, w4, x0, x1, x2, x3, x4, x5, x6, x7, x8, x9, xA, xB, xC, xD, xE, xF, xG, xH, xI, xJ, xK, xL, xM, xN, xO, xP, s1, s2, s3, s4, hnt]
  refine hl _ _ _ _ _ rfl rfl ?_ _ ?_ ?_ ?_ ?_
  · intro s ds g2 g3
    have hml : mlks nl (1 + (a9 : Int)) (1 + (aA : Int)) = [] ↔ nl = 0 := by rcases hnl with rfl | rfl | rfl <;> simp [mlks]
    by_cases hn0 : nl = 0
    · subst hn0
      simp -implicitDefEqProofs [lcell, g2, g3, SP.v, slc, mlks]
      exact ⟨rfl, rfl⟩
    · simp -implicitDefEqProofs [lcell, g2, g3, SP.v, slc, hn0]
      exact ⟨rfl, rfl⟩
  all_goals simp
end Go.Proofs.Sl

namespace Go.Proofs.Sl
theorem run_Span {h : H} {m : MK} (hm : m.Ok) : run XP i_sleuthlaw11_Span [m.val] h = some (m.sp.v, h) := by
  obtain ⟨t, i, p, r, c, k, s, v, o, st, lo, tg, lk, fl⟩ := m
  have hm := hm.a
  simp only [List.mem_cons, List.not_mem_nil, or_false, forall_eq_or_imp, forall_eq] at hm
  obtain ⟨m0, m1, m2, m3, m4, m5, m6, m7, m8, m9, mA, mB, mC⟩ := hm
  have := run_Span_aux h t i p r c k s v o st lo tg lk fl (t % 3) (t / 3) (t / 3 % 4) (i % 4) (p % 5) (r % 3) (c % 3) (k % 5) (s % 3) (v % 3) (o % 2) (lo % 40) (tg / 4) (tg / 4 % 2) (tg / 8) (tg / 8 % 3) (tg % 4) (lk % 3) (lk / 3) (lk / 3 % 5) (lk / 15) (lk / 15 % 5)
    (tbl svs (s % 3)) (tbl vrs (v % 3)) (tbl ops (o % 2)) (tbl zns (tg / 8 % 3))
    (tmodN _ _) (tdivN _ _) (tmodN _ _) (tmodN _ _) (tmodN _ _) (tmodN _ _) (tmodN _ _) (tmodN _ _) (tmodN _ _) (tmodN _ _) (tmodN _ _) (tmodN _ _) (tdivN _ _) (tmodN _ _) (tdivN _ _) (tmodN _ _) (tmodN _ _) (tmodN _ _) (tdivN _ _) (tmodN _ _) (tdivN _ _) (tmodN _ _)
    (by simp only [List.mem_cons, List.not_mem_nil, or_false, forall_eq_or_imp, forall_eq]; omega) (by omega) (by omega)
    (tbl_at (by simp only [svs, List.length_cons, List.length_nil]; omega)) (tbl_at (by simp only [vrs, List.length_cons, List.length_nil]; omega)) (tbl_at (by simp only [ops, List.length_cons, List.length_nil]; omega)) (tbl_at (by simp only [zns, List.length_cons, List.length_nil]; omega))
  have hsp : MK.sp ⟨t, i, p, r, c, k, s, v, o, st, lo, tg, lk, fl⟩ = (⟨((t % 3 : Nat) : Int) * 1048576 + 1 + ((t / 3 % 4 : Nat) : Int), 1 + ((i % 4 : Nat) : Int), ((p % 5 : Nat) : Int), ((r % 3 : Nat) : Int), 1 + ((c % 3 : Nat) : Int), 1 + ((k % 5 : Nat) : Int), tbl svs (s % 3), tbl vrs (v % 3), tbl ops (o % 2), (st : Int) - 50, (st : Int) - 50 + ((lo % 40 : Nat) : Int), fl,
      (mats (tg / 4 % 2) ((tg : Int) - 60) (tbl zns (tg / 8 % 3))).take (tg % 4), mlks (lk % 3) (1 + ((lk / 3 % 5 : Nat) : Int)) (1 + ((lk / 15 % 5 : Nat) : Int)), false, lk % 3 == 0⟩ : SP) := by
    simp only [MK.sp, Int.natCast_add, Int.natCast_mul]
    rfl
  rw [hsp]
  exact this
theorem MK.len (m : MK) : m.sp.ats.length ≤ 3 ∧ m.sp.lks.length ≤ 2 := by
  refine ⟨?_, ?_⟩
  · show ((mats _ _ _).take _).length ≤ 3
    rw [List.length_take]
    exact Nat.min_le_right _ _
  · show (mlks (m.lk % 3) _ _).length ≤ 2
    have : m.lk % 3 = 0 ∨ m.lk % 3 = 1 ∨ m.lk % 3 = 2 := by omega
    rcases this with h | h | h <;> rw [h] <;> simp [mlks]
theorem MK.an (m : MK) : m.sp.an = true → m.sp.ats = [] := fun h => by cases h
theorem MK.ln (m : MK) : m.sp.ln = true → m.sp.lks = [] := fun h => by
  have h0 : m.lk % 3 = 0 := by simpa [MK.sp] using h
  show mlks (m.lk % 3) _ _ = []
  rw [h0, mlks]
theorem MK.slot (m : MK) : m.sp.tr.fdiv 1048576 = ((m.t % 3 : Nat) : Int) := by
  show (((m.t % 3 * 1048576 + 1 + m.t / 3 % 4 : Nat) : Int)).fdiv 1048576 = _
  rw [Int.fdiv_eq_ediv_of_nonneg _ (by decide)]
  omega
end Go.Proofs.Sl

namespace Go.Proofs.Sl
def kInt : ByteArray := ⟨#[105, 110, 116, 101, 114, 110, 97, 108]⟩
def kCli : ByteArray := ⟨#[99, 108, 105, 101, 110, 116]⟩
def kSer : ByteArray := ⟨#[115, 101, 114, 118, 101, 114]⟩
def kPro : ByteArray := ⟨#[112, 114, 111, 100, 117, 99, 101, 114]⟩
def kCon : ByteArray := ⟨#[99, 111, 110, 115, 117, 109, 101, 114]⟩
def kNs : List ByteArray := [kInt, kCli, kSer, kPro, kCon]
def kAll : List ByteArray := ⟨#[]⟩ :: kNs
theorem run_kinds (h : H) : run XP i_span_kinds [] h = some (.lst 1 (kAll.map vs), h) := by
  rw [run_eq, xp_span_kinds]
  simp -implicitDefEqProofs [x_span_kinds, kAll, kNs, kInt, kCli, kSer, kPro, kCon]
theorem run_lkinds (h : H) : run XP i_sleuthlaw11_kinds [] h = some (.lst 1 (kNs.map vs), h) := by
  rw [run_eq, xp_sleuthlaw11_kinds]
  simp -implicitDefEqProofs [x_sleuthlaw11_kinds, kNs, kInt, kCli, kSer, kPro, kCon]
theorem run_KindName (h : H) {k : Nat} {s : ByteArray} (hk : kNs[k]? = some s) : run XP i_span_KindName [vi ((k : Int) + 1)] h = some (.tup [vs s, vi 0], h) := by
  have h1 := fun h => run_kinds h
  have hlt : k < 5 := (List.getElem?_eq_some_iff.1 hk).1
  have c1 : ¬ (k : Int) + 1 < 1 := by omega
  have c2 : ¬ 5 < (k : Int) + 1 := by omega
  have hv : Rd h 1 (.lst 1 (kAll.map vs)) (kAll.map vs) := .lst _
  obtain ⟨p, hp, hld⟩ := hv.at1 (vs_get (ss := kAll) (k := k + 1) (e := s) (by simpa [kAll] using hk)) rfl
  have c3 : 0 ≤ (k : Int) + 1 := by omega
  rw [run_eq, xp_span_KindName]
  simp -implicitDefEqProofs [x_span_KindName, h1, c1, c2, c3, hp, hld]
end Go.Proofs.Sl

namespace Go.Proofs.Sl
theorem tl_f {x : ByteArray} {y : List UInt8} (h : (x.data.toList == y) = false) : (x.toList == y) = false := by
  rw [ByteArray.toList_eq]
  exact h
theorem tl_t {x : ByteArray} {y : List UInt8} (h : (x.data.toList == y) = true) : (x.toList == y) = true := by
  rw [ByteArray.toList_eq]
  exact h
def f_clock : ByteArray := ⟨#[99, 108, 111, 99, 107]⟩
def f_duration : ByteArray := ⟨#[100, 117, 114, 97, 116, 105, 111, 110]⟩
def f_end : ByteArray := ⟨#[101, 110, 100]⟩
def f_error : ByteArray := ⟨#[101, 114, 114, 111, 114]⟩
def f_id : ByteArray := ⟨#[105, 100]⟩
def f_kind : ByteArray := ⟨#[107, 105, 110, 100]⟩
def f_operation : ByteArray := ⟨#[111, 112, 101, 114, 97, 116, 105, 111, 110]⟩
def f_parent : ByteArray := ⟨#[112, 97, 114, 101, 110, 116]⟩
def f_revision : ByteArray := ⟨#[114, 101, 118, 105, 115, 105, 111, 110]⟩
def f_root : ByteArray := ⟨#[114, 111, 111, 116]⟩
def f_service : ByteArray := ⟨#[115, 101, 114, 118, 105, 99, 101]⟩
def f_slot : ByteArray := ⟨#[115, 108, 111, 116]⟩
def f_start : ByteArray := ⟨#[115, 116, 97, 114, 116]⟩
def f_trace : ByteArray := ⟨#[116, 114, 97, 99, 101]⟩
def f_version : ByteArray := ⟨#[118, 101, 114, 115, 105, 111, 110]⟩
theorem flds_eq : flds = [f_clock, f_duration, f_end, f_error, f_id, f_kind, f_operation, f_parent, f_revision, f_root, f_service, f_slot, f_start, f_trace, f_version] := rfl
theorem kp_version_service : ((⟨#[118, 101, 114, 115, 105, 111, 110]⟩ : ByteArray) == ⟨#[115, 101, 114, 118, 105, 99, 101]⟩) = false := by decide
theorem kp_operation_service : ((⟨#[111, 112, 101, 114, 97, 116, 105, 111, 110]⟩ : ByteArray) == ⟨#[115, 101, 114, 118, 105, 99, 101]⟩) = false := by decide
theorem kp_operation_version : ((⟨#[111, 112, 101, 114, 97, 116, 105, 111, 110]⟩ : ByteArray) == ⟨#[118, 101, 114, 115, 105, 111, 110]⟩) = false := by decide
theorem kp_id_trace : ((⟨#[105, 100]⟩ : ByteArray) == ⟨#[116, 114, 97, 99, 101]⟩) = false := by decide
theorem kp_parent_trace : ((⟨#[112, 97, 114, 101, 110, 116]⟩ : ByteArray) == ⟨#[116, 114, 97, 99, 101]⟩) = false := by decide
theorem kp_parent_id : ((⟨#[112, 97, 114, 101, 110, 116]⟩ : ByteArray) == ⟨#[105, 100]⟩) = false := by decide
theorem kp_revision_trace : ((⟨#[114, 101, 118, 105, 115, 105, 111, 110]⟩ : ByteArray) == ⟨#[116, 114, 97, 99, 101]⟩) = false := by decide
theorem kp_revision_id : ((⟨#[114, 101, 118, 105, 115, 105, 111, 110]⟩ : ByteArray) == ⟨#[105, 100]⟩) = false := by decide
theorem kp_revision_parent : ((⟨#[114, 101, 118, 105, 115, 105, 111, 110]⟩ : ByteArray) == ⟨#[112, 97, 114, 101, 110, 116]⟩) = false := by decide
theorem kp_clock_trace : ((⟨#[99, 108, 111, 99, 107]⟩ : ByteArray) == ⟨#[116, 114, 97, 99, 101]⟩) = false := by decide
theorem kp_clock_id : ((⟨#[99, 108, 111, 99, 107]⟩ : ByteArray) == ⟨#[105, 100]⟩) = false := by decide
theorem kp_clock_parent : ((⟨#[99, 108, 111, 99, 107]⟩ : ByteArray) == ⟨#[112, 97, 114, 101, 110, 116]⟩) = false := by decide
theorem kp_clock_revision : ((⟨#[99, 108, 111, 99, 107]⟩ : ByteArray) == ⟨#[114, 101, 118, 105, 115, 105, 111, 110]⟩) = false := by decide
theorem kp_start_trace : ((⟨#[115, 116, 97, 114, 116]⟩ : ByteArray) == ⟨#[116, 114, 97, 99, 101]⟩) = false := by decide
theorem kp_start_id : ((⟨#[115, 116, 97, 114, 116]⟩ : ByteArray) == ⟨#[105, 100]⟩) = false := by decide
theorem kp_start_parent : ((⟨#[115, 116, 97, 114, 116]⟩ : ByteArray) == ⟨#[112, 97, 114, 101, 110, 116]⟩) = false := by decide
theorem kp_start_revision : ((⟨#[115, 116, 97, 114, 116]⟩ : ByteArray) == ⟨#[114, 101, 118, 105, 115, 105, 111, 110]⟩) = false := by decide
theorem kp_start_clock : ((⟨#[115, 116, 97, 114, 116]⟩ : ByteArray) == ⟨#[99, 108, 111, 99, 107]⟩) = false := by decide
theorem kp_end_trace : ((⟨#[101, 110, 100]⟩ : ByteArray) == ⟨#[116, 114, 97, 99, 101]⟩) = false := by decide
theorem kp_end_id : ((⟨#[101, 110, 100]⟩ : ByteArray) == ⟨#[105, 100]⟩) = false := by decide
theorem kp_end_parent : ((⟨#[101, 110, 100]⟩ : ByteArray) == ⟨#[112, 97, 114, 101, 110, 116]⟩) = false := by decide
theorem kp_end_revision : ((⟨#[101, 110, 100]⟩ : ByteArray) == ⟨#[114, 101, 118, 105, 115, 105, 111, 110]⟩) = false := by decide
theorem kp_end_clock : ((⟨#[101, 110, 100]⟩ : ByteArray) == ⟨#[99, 108, 111, 99, 107]⟩) = false := by decide
theorem kp_end_start : ((⟨#[101, 110, 100]⟩ : ByteArray) == ⟨#[115, 116, 97, 114, 116]⟩) = false := by decide
theorem kp_duration_trace : ((⟨#[100, 117, 114, 97, 116, 105, 111, 110]⟩ : ByteArray) == ⟨#[116, 114, 97, 99, 101]⟩) = false := by decide
theorem kp_duration_id : ((⟨#[100, 117, 114, 97, 116, 105, 111, 110]⟩ : ByteArray) == ⟨#[105, 100]⟩) = false := by decide
theorem kp_duration_parent : ((⟨#[100, 117, 114, 97, 116, 105, 111, 110]⟩ : ByteArray) == ⟨#[112, 97, 114, 101, 110, 116]⟩) = false := by decide
theorem kp_duration_revision : ((⟨#[100, 117, 114, 97, 116, 105, 111, 110]⟩ : ByteArray) == ⟨#[114, 101, 118, 105, 115, 105, 111, 110]⟩) = false := by decide
theorem kp_duration_clock : ((⟨#[100, 117, 114, 97, 116, 105, 111, 110]⟩ : ByteArray) == ⟨#[99, 108, 111, 99, 107]⟩) = false := by decide
theorem kp_duration_start : ((⟨#[100, 117, 114, 97, 116, 105, 111, 110]⟩ : ByteArray) == ⟨#[115, 116, 97, 114, 116]⟩) = false := by decide
theorem kp_duration_end : ((⟨#[100, 117, 114, 97, 116, 105, 111, 110]⟩ : ByteArray) == ⟨#[101, 110, 100]⟩) = false := by decide
theorem kp_slot_trace : ((⟨#[115, 108, 111, 116]⟩ : ByteArray) == ⟨#[116, 114, 97, 99, 101]⟩) = false := by decide
theorem kp_slot_id : ((⟨#[115, 108, 111, 116]⟩ : ByteArray) == ⟨#[105, 100]⟩) = false := by decide
theorem kp_slot_parent : ((⟨#[115, 108, 111, 116]⟩ : ByteArray) == ⟨#[112, 97, 114, 101, 110, 116]⟩) = false := by decide
theorem kp_slot_revision : ((⟨#[115, 108, 111, 116]⟩ : ByteArray) == ⟨#[114, 101, 118, 105, 115, 105, 111, 110]⟩) = false := by decide
theorem kp_slot_clock : ((⟨#[115, 108, 111, 116]⟩ : ByteArray) == ⟨#[99, 108, 111, 99, 107]⟩) = false := by decide
theorem kp_slot_start : ((⟨#[115, 108, 111, 116]⟩ : ByteArray) == ⟨#[115, 116, 97, 114, 116]⟩) = false := by decide
theorem kp_slot_end : ((⟨#[115, 108, 111, 116]⟩ : ByteArray) == ⟨#[101, 110, 100]⟩) = false := by decide
theorem kp_slot_duration : ((⟨#[115, 108, 111, 116]⟩ : ByteArray) == ⟨#[100, 117, 114, 97, 116, 105, 111, 110]⟩) = false := by decide
theorem kd_clock (h : H) : run XP i_span_FieldKind [vs f_clock] h = some (.tup [vi 2, vb true], h) := by
  have h1 := fun h => run_Fields h
  have h2 := fun h => run_Contains h flds f_clock (by decide)
  have h3 : decide (0 ≤ ixT flds f_clock 0) = true := by decide
  rw [h3] at h2
  have e0 : (f_clock.toList == [107, 105, 110, 100]) = false := tl_f rfl
  have e1 : (f_clock.toList == [111, 112, 101, 114, 97, 116, 105, 111, 110]) = false := tl_f rfl
  have e2 : (f_clock.toList == [115, 101, 114, 118, 105, 99, 101]) = false := tl_f rfl
  have e3 : (f_clock.toList == [118, 101, 114, 115, 105, 111, 110]) = false := tl_f rfl
  have e4 : (f_clock.toList == [101, 114, 114, 111, 114]) = false := tl_f rfl
  have e5 : (f_clock.toList == [114, 111, 111, 116]) = false := tl_f rfl
  rw [run_eq, xp_span_FieldKind]
  simp -implicitDefEqProofs [x_span_FieldKind, h1, h2, e0, e1, e2, e3, e4, e5]
theorem kd_duration (h : H) : run XP i_span_FieldKind [vs f_duration] h = some (.tup [vi 2, vb true], h) := by
  have h1 := fun h => run_Fields h
  have h2 := fun h => run_Contains h flds f_duration (by decide)
  have h3 : decide (0 ≤ ixT flds f_duration 0) = true := by decide
  rw [h3] at h2
  have e0 : (f_duration.toList == [107, 105, 110, 100]) = false := tl_f rfl
  have e1 : (f_duration.toList == [111, 112, 101, 114, 97, 116, 105, 111, 110]) = false := tl_f rfl
  have e2 : (f_duration.toList == [115, 101, 114, 118, 105, 99, 101]) = false := tl_f rfl
  have e3 : (f_duration.toList == [118, 101, 114, 115, 105, 111, 110]) = false := tl_f rfl
  have e4 : (f_duration.toList == [101, 114, 114, 111, 114]) = false := tl_f rfl
  have e5 : (f_duration.toList == [114, 111, 111, 116]) = false := tl_f rfl
  rw [run_eq, xp_span_FieldKind]
  simp -implicitDefEqProofs [x_span_FieldKind, h1, h2, e0, e1, e2, e3, e4, e5]
theorem kd_end (h : H) : run XP i_span_FieldKind [vs f_end] h = some (.tup [vi 2, vb true], h) := by
  have h1 := fun h => run_Fields h
  have h2 := fun h => run_Contains h flds f_end (by decide)
  have h3 : decide (0 ≤ ixT flds f_end 0) = true := by decide
  rw [h3] at h2
  have e0 : (f_end.toList == [107, 105, 110, 100]) = false := tl_f rfl
  have e1 : (f_end.toList == [111, 112, 101, 114, 97, 116, 105, 111, 110]) = false := tl_f rfl
  have e2 : (f_end.toList == [115, 101, 114, 118, 105, 99, 101]) = false := tl_f rfl
  have e3 : (f_end.toList == [118, 101, 114, 115, 105, 111, 110]) = false := tl_f rfl
  have e4 : (f_end.toList == [101, 114, 114, 111, 114]) = false := tl_f rfl
  have e5 : (f_end.toList == [114, 111, 111, 116]) = false := tl_f rfl
  rw [run_eq, xp_span_FieldKind]
  simp -implicitDefEqProofs [x_span_FieldKind, h1, h2, e0, e1, e2, e3, e4, e5]
theorem kd_error (h : H) : run XP i_span_FieldKind [vs f_error] h = some (.tup [vi 3, vb true], h) := by
  have h1 := fun h => run_Fields h
  have h2 := fun h => run_Contains h flds f_error (by decide)
  have h3 : decide (0 ≤ ixT flds f_error 0) = true := by decide
  rw [h3] at h2
  have e0 : (f_error.toList == [107, 105, 110, 100]) = false := tl_f rfl
  have e1 : (f_error.toList == [111, 112, 101, 114, 97, 116, 105, 111, 110]) = false := tl_f rfl
  have e2 : (f_error.toList == [115, 101, 114, 118, 105, 99, 101]) = false := tl_f rfl
  have e3 : (f_error.toList == [118, 101, 114, 115, 105, 111, 110]) = false := tl_f rfl
  have e4 : (f_error.toList == [101, 114, 114, 111, 114]) = true := tl_t rfl
  rw [run_eq, xp_span_FieldKind]
  simp -implicitDefEqProofs [x_span_FieldKind, h1, h2, e0, e1, e2, e3, e4]
theorem kd_id (h : H) : run XP i_span_FieldKind [vs f_id] h = some (.tup [vi 2, vb true], h) := by
  have h1 := fun h => run_Fields h
  have h2 := fun h => run_Contains h flds f_id (by decide)
  have h3 : decide (0 ≤ ixT flds f_id 0) = true := by decide
  rw [h3] at h2
  have e0 : (f_id.toList == [107, 105, 110, 100]) = false := tl_f rfl
  have e1 : (f_id.toList == [111, 112, 101, 114, 97, 116, 105, 111, 110]) = false := tl_f rfl
  have e2 : (f_id.toList == [115, 101, 114, 118, 105, 99, 101]) = false := tl_f rfl
  have e3 : (f_id.toList == [118, 101, 114, 115, 105, 111, 110]) = false := tl_f rfl
  have e4 : (f_id.toList == [101, 114, 114, 111, 114]) = false := tl_f rfl
  have e5 : (f_id.toList == [114, 111, 111, 116]) = false := tl_f rfl
  rw [run_eq, xp_span_FieldKind]
  simp -implicitDefEqProofs [x_span_FieldKind, h1, h2, e0, e1, e2, e3, e4, e5]
theorem kd_kind (h : H) : run XP i_span_FieldKind [vs f_kind] h = some (.tup [vi 1, vb true], h) := by
  have h1 := fun h => run_Fields h
  have h2 := fun h => run_Contains h flds f_kind (by decide)
  have h3 : decide (0 ≤ ixT flds f_kind 0) = true := by decide
  rw [h3] at h2
  have e0 : (f_kind.toList == [107, 105, 110, 100]) = true := tl_t rfl
  rw [run_eq, xp_span_FieldKind]
  simp -implicitDefEqProofs [x_span_FieldKind, h1, h2, e0]
theorem kd_operation (h : H) : run XP i_span_FieldKind [vs f_operation] h = some (.tup [vi 1, vb true], h) := by
  have h1 := fun h => run_Fields h
  have h2 := fun h => run_Contains h flds f_operation (by decide)
  have h3 : decide (0 ≤ ixT flds f_operation 0) = true := by decide
  rw [h3] at h2
  have e0 : (f_operation.toList == [107, 105, 110, 100]) = false := tl_f rfl
  have e1 : (f_operation.toList == [111, 112, 101, 114, 97, 116, 105, 111, 110]) = true := tl_t rfl
  rw [run_eq, xp_span_FieldKind]
  simp -implicitDefEqProofs [x_span_FieldKind, h1, h2, e0, e1]
theorem kd_parent (h : H) : run XP i_span_FieldKind [vs f_parent] h = some (.tup [vi 2, vb true], h) := by
  have h1 := fun h => run_Fields h
  have h2 := fun h => run_Contains h flds f_parent (by decide)
  have h3 : decide (0 ≤ ixT flds f_parent 0) = true := by decide
  rw [h3] at h2
  have e0 : (f_parent.toList == [107, 105, 110, 100]) = false := tl_f rfl
  have e1 : (f_parent.toList == [111, 112, 101, 114, 97, 116, 105, 111, 110]) = false := tl_f rfl
  have e2 : (f_parent.toList == [115, 101, 114, 118, 105, 99, 101]) = false := tl_f rfl
  have e3 : (f_parent.toList == [118, 101, 114, 115, 105, 111, 110]) = false := tl_f rfl
  have e4 : (f_parent.toList == [101, 114, 114, 111, 114]) = false := tl_f rfl
  have e5 : (f_parent.toList == [114, 111, 111, 116]) = false := tl_f rfl
  rw [run_eq, xp_span_FieldKind]
  simp -implicitDefEqProofs [x_span_FieldKind, h1, h2, e0, e1, e2, e3, e4, e5]
theorem kd_revision (h : H) : run XP i_span_FieldKind [vs f_revision] h = some (.tup [vi 2, vb true], h) := by
  have h1 := fun h => run_Fields h
  have h2 := fun h => run_Contains h flds f_revision (by decide)
  have h3 : decide (0 ≤ ixT flds f_revision 0) = true := by decide
  rw [h3] at h2
  have e0 : (f_revision.toList == [107, 105, 110, 100]) = false := tl_f rfl
  have e1 : (f_revision.toList == [111, 112, 101, 114, 97, 116, 105, 111, 110]) = false := tl_f rfl
  have e2 : (f_revision.toList == [115, 101, 114, 118, 105, 99, 101]) = false := tl_f rfl
  have e3 : (f_revision.toList == [118, 101, 114, 115, 105, 111, 110]) = false := tl_f rfl
  have e4 : (f_revision.toList == [101, 114, 114, 111, 114]) = false := tl_f rfl
  have e5 : (f_revision.toList == [114, 111, 111, 116]) = false := tl_f rfl
  rw [run_eq, xp_span_FieldKind]
  simp -implicitDefEqProofs [x_span_FieldKind, h1, h2, e0, e1, e2, e3, e4, e5]
theorem kd_root (h : H) : run XP i_span_FieldKind [vs f_root] h = some (.tup [vi 3, vb true], h) := by
  have h1 := fun h => run_Fields h
  have h2 := fun h => run_Contains h flds f_root (by decide)
  have h3 : decide (0 ≤ ixT flds f_root 0) = true := by decide
  rw [h3] at h2
  have e0 : (f_root.toList == [107, 105, 110, 100]) = false := tl_f rfl
  have e1 : (f_root.toList == [111, 112, 101, 114, 97, 116, 105, 111, 110]) = false := tl_f rfl
  have e2 : (f_root.toList == [115, 101, 114, 118, 105, 99, 101]) = false := tl_f rfl
  have e3 : (f_root.toList == [118, 101, 114, 115, 105, 111, 110]) = false := tl_f rfl
  have e4 : (f_root.toList == [101, 114, 114, 111, 114]) = false := tl_f rfl
  have e5 : (f_root.toList == [114, 111, 111, 116]) = true := tl_t rfl
  rw [run_eq, xp_span_FieldKind]
  simp -implicitDefEqProofs [x_span_FieldKind, h1, h2, e0, e1, e2, e3, e4, e5]
theorem kd_service (h : H) : run XP i_span_FieldKind [vs f_service] h = some (.tup [vi 1, vb true], h) := by
  have h1 := fun h => run_Fields h
  have h2 := fun h => run_Contains h flds f_service (by decide)
  have h3 : decide (0 ≤ ixT flds f_service 0) = true := by decide
  rw [h3] at h2
  have e0 : (f_service.toList == [107, 105, 110, 100]) = false := tl_f rfl
  have e1 : (f_service.toList == [111, 112, 101, 114, 97, 116, 105, 111, 110]) = false := tl_f rfl
  have e2 : (f_service.toList == [115, 101, 114, 118, 105, 99, 101]) = true := tl_t rfl
  rw [run_eq, xp_span_FieldKind]
  simp -implicitDefEqProofs [x_span_FieldKind, h1, h2, e0, e1, e2]
theorem kd_slot (h : H) : run XP i_span_FieldKind [vs f_slot] h = some (.tup [vi 2, vb true], h) := by
  have h1 := fun h => run_Fields h
  have h2 := fun h => run_Contains h flds f_slot (by decide)
  have h3 : decide (0 ≤ ixT flds f_slot 0) = true := by decide
  rw [h3] at h2
  have e0 : (f_slot.toList == [107, 105, 110, 100]) = false := tl_f rfl
  have e1 : (f_slot.toList == [111, 112, 101, 114, 97, 116, 105, 111, 110]) = false := tl_f rfl
  have e2 : (f_slot.toList == [115, 101, 114, 118, 105, 99, 101]) = false := tl_f rfl
  have e3 : (f_slot.toList == [118, 101, 114, 115, 105, 111, 110]) = false := tl_f rfl
  have e4 : (f_slot.toList == [101, 114, 114, 111, 114]) = false := tl_f rfl
  have e5 : (f_slot.toList == [114, 111, 111, 116]) = false := tl_f rfl
  rw [run_eq, xp_span_FieldKind]
  simp -implicitDefEqProofs [x_span_FieldKind, h1, h2, e0, e1, e2, e3, e4, e5]
theorem kd_start (h : H) : run XP i_span_FieldKind [vs f_start] h = some (.tup [vi 2, vb true], h) := by
  have h1 := fun h => run_Fields h
  have h2 := fun h => run_Contains h flds f_start (by decide)
  have h3 : decide (0 ≤ ixT flds f_start 0) = true := by decide
  rw [h3] at h2
  have e0 : (f_start.toList == [107, 105, 110, 100]) = false := tl_f rfl
  have e1 : (f_start.toList == [111, 112, 101, 114, 97, 116, 105, 111, 110]) = false := tl_f rfl
  have e2 : (f_start.toList == [115, 101, 114, 118, 105, 99, 101]) = false := tl_f rfl
  have e3 : (f_start.toList == [118, 101, 114, 115, 105, 111, 110]) = false := tl_f rfl
  have e4 : (f_start.toList == [101, 114, 114, 111, 114]) = false := tl_f rfl
  have e5 : (f_start.toList == [114, 111, 111, 116]) = false := tl_f rfl
  rw [run_eq, xp_span_FieldKind]
  simp -implicitDefEqProofs [x_span_FieldKind, h1, h2, e0, e1, e2, e3, e4, e5]
theorem kd_trace (h : H) : run XP i_span_FieldKind [vs f_trace] h = some (.tup [vi 2, vb true], h) := by
  have h1 := fun h => run_Fields h
  have h2 := fun h => run_Contains h flds f_trace (by decide)
  have h3 : decide (0 ≤ ixT flds f_trace 0) = true := by decide
  rw [h3] at h2
  have e0 : (f_trace.toList == [107, 105, 110, 100]) = false := tl_f rfl
  have e1 : (f_trace.toList == [111, 112, 101, 114, 97, 116, 105, 111, 110]) = false := tl_f rfl
  have e2 : (f_trace.toList == [115, 101, 114, 118, 105, 99, 101]) = false := tl_f rfl
  have e3 : (f_trace.toList == [118, 101, 114, 115, 105, 111, 110]) = false := tl_f rfl
  have e4 : (f_trace.toList == [101, 114, 114, 111, 114]) = false := tl_f rfl
  have e5 : (f_trace.toList == [114, 111, 111, 116]) = false := tl_f rfl
  rw [run_eq, xp_span_FieldKind]
  simp -implicitDefEqProofs [x_span_FieldKind, h1, h2, e0, e1, e2, e3, e4, e5]
theorem kd_version (h : H) : run XP i_span_FieldKind [vs f_version] h = some (.tup [vi 1, vb true], h) := by
  have h1 := fun h => run_Fields h
  have h2 := fun h => run_Contains h flds f_version (by decide)
  have h3 : decide (0 ≤ ixT flds f_version 0) = true := by decide
  rw [h3] at h2
  have e0 : (f_version.toList == [107, 105, 110, 100]) = false := tl_f rfl
  have e1 : (f_version.toList == [111, 112, 101, 114, 97, 116, 105, 111, 110]) = false := tl_f rfl
  have e2 : (f_version.toList == [115, 101, 114, 118, 105, 99, 101]) = false := tl_f rfl
  have e3 : (f_version.toList == [118, 101, 114, 115, 105, 111, 110]) = true := tl_t rfl
  rw [run_eq, xp_span_FieldKind]
  simp -implicitDefEqProofs [x_span_FieldKind, h1, h2, e0, e1, e2, e3]
theorem nb_clock (h : H) (a : SP) : run XP i_span_View_number [a.v, vs f_clock] h = some (vi (a.clk), h) := by
  have e0 : (f_clock.toList == [99, 108, 111, 99, 107]) = true := tl_t rfl
  rw [run_eq, xp_span_View_number]
  simp -implicitDefEqProofs [x_span_View_number, SP.v, e0]
theorem vl_clock (h : H) (a : SP) : run XP i_span_View_Value [a.v, vs f_clock, vs ⟨#[]⟩] h = some (.tup [.agg [vi 2, vs ⟨#[]⟩, vi (a.clk)], vb true], h) := by
  have h1 := fun h => kd_clock h
  have e0 : (f_clock.toList == [97, 116, 116, 114]) = false := tl_f rfl
  have h2 := fun h => nb_clock h a
  simp only [SP.v] at h2
  rw [run_eq, xp_span_View_Value]
  simp -implicitDefEqProofs [x_span_View_Value, SP.v, h1, e0, h2]
theorem nb_duration (h : H) (a : SP) : run XP i_span_View_number [a.v, vs f_duration] h = some (vi (IntKind.i64.wrap (a.en - a.st)), h) := by
  have e0 : (f_duration.toList == [99, 108, 111, 99, 107]) = false := tl_f rfl
  have e1 : (f_duration.toList == [100, 117, 114, 97, 116, 105, 111, 110]) = true := tl_t rfl
  have h1 := fun h => run_Dur h a
  simp only [SP.v] at h1
  rw [run_eq, xp_span_View_number]
  simp -implicitDefEqProofs [x_span_View_number, SP.v, e0, e1, h1]
theorem vl_duration (h : H) (a : SP) : run XP i_span_View_Value [a.v, vs f_duration, vs ⟨#[]⟩] h = some (.tup [.agg [vi 2, vs ⟨#[]⟩, vi (IntKind.i64.wrap (a.en - a.st))], vb true], h) := by
  have h1 := fun h => kd_duration h
  have e0 : (f_duration.toList == [97, 116, 116, 114]) = false := tl_f rfl
  have h2 := fun h => nb_duration h a
  simp only [SP.v] at h2
  rw [run_eq, xp_span_View_Value]
  simp -implicitDefEqProofs [x_span_View_Value, SP.v, h1, e0, h2]
theorem nb_end (h : H) (a : SP) : run XP i_span_View_number [a.v, vs f_end] h = some (vi (a.en), h) := by
  have e0 : (f_end.toList == [99, 108, 111, 99, 107]) = false := tl_f rfl
  have e1 : (f_end.toList == [100, 117, 114, 97, 116, 105, 111, 110]) = false := tl_f rfl
  have e2 : (f_end.toList == [101, 110, 100]) = true := tl_t rfl
  rw [run_eq, xp_span_View_number]
  simp -implicitDefEqProofs [x_span_View_number, SP.v, e0, e1, e2]
theorem vl_end (h : H) (a : SP) : run XP i_span_View_Value [a.v, vs f_end, vs ⟨#[]⟩] h = some (.tup [.agg [vi 2, vs ⟨#[]⟩, vi (a.en)], vb true], h) := by
  have h1 := fun h => kd_end h
  have e0 : (f_end.toList == [97, 116, 116, 114]) = false := tl_f rfl
  have h2 := fun h => nb_end h a
  simp only [SP.v] at h2
  rw [run_eq, xp_span_View_Value]
  simp -implicitDefEqProofs [x_span_View_Value, SP.v, h1, e0, h2]
theorem vl_error (h : H) (a : SP) : run XP i_span_View_Value [a.v, vs f_error, vs ⟨#[]⟩] h = some (.tup [.agg [vi 3, vs ⟨#[]⟩, vi (flg a.er)], vb true], h) := by
  have h1 := fun h => kd_error h
  have e0 : (f_error.toList == [97, 116, 116, 114]) = false := tl_f rfl
  have d0 : (f_error.toList == [101, 114, 114, 111, 114]) = true := tl_t rfl
  have d1 : (f_error.toList == [114, 111, 111, 116]) = false := tl_f rfl
  have h2 := fun h b => run_number h b
  rw [run_eq, xp_span_View_Value]
  cases her : a.er <;> simp -implicitDefEqProofs [x_span_View_Value, SP.v, h1, e0, d0, d1, h2, her, flg]
theorem nb_id (h : H) (a : SP) : run XP i_span_View_number [a.v, vs f_id] h = some (vi (a.id), h) := by
  have e0 : (f_id.toList == [99, 108, 111, 99, 107]) = false := tl_f rfl
  have e1 : (f_id.toList == [100, 117, 114, 97, 116, 105, 111, 110]) = false := tl_f rfl
  have e2 : (f_id.toList == [101, 110, 100]) = false := tl_f rfl
  have e3 : (f_id.toList == [105, 100]) = true := tl_t rfl
  rw [run_eq, xp_span_View_number]
  simp -implicitDefEqProofs [x_span_View_number, SP.v, e0, e1, e2, e3]
theorem vl_id (h : H) (a : SP) : run XP i_span_View_Value [a.v, vs f_id, vs ⟨#[]⟩] h = some (.tup [.agg [vi 2, vs ⟨#[]⟩, vi (a.id)], vb true], h) := by
  have h1 := fun h => kd_id h
  have e0 : (f_id.toList == [97, 116, 116, 114]) = false := tl_f rfl
  have h2 := fun h => nb_id h a
  simp only [SP.v] at h2
  rw [run_eq, xp_span_View_Value]
  simp -implicitDefEqProofs [x_span_View_Value, SP.v, h1, e0, h2]
theorem tx_kind (h : H) (a : SP) {j : Nat} {q : ByteArray} (hj : kNs[j]? = some q) (hk : a.kind = (j : Int) + 1) : run XP i_span_View_text [a.v, vs f_kind] h = some (vs q, h) := by
  have e0 : (f_kind.toList == [107, 105, 110, 100]) = true := tl_t rfl
  have h1 := fun h => run_KindName h hj
  rw [run_eq, xp_span_View_text]
  simp -implicitDefEqProofs [x_span_View_text, SP.v, e0, h1, hk]
theorem vl_kind (h : H) (a : SP) {j : Nat} {q : ByteArray} (hj : kNs[j]? = some q) (hk : a.kind = (j : Int) + 1) : run XP i_span_View_Value [a.v, vs f_kind, vs ⟨#[]⟩] h = some (.tup [.agg [vi 1, vs q, vi 0], vb true], h) := by
  have h1 := fun h => kd_kind h
  have e0 : (f_kind.toList == [97, 116, 116, 114]) = false := tl_f rfl
  have h2 := fun h => tx_kind h a hj hk
  simp only [SP.v] at h2
  rw [run_eq, xp_span_View_Value]
  simp -implicitDefEqProofs [x_span_View_Value, SP.v, h1, e0, h2]
theorem tx_operation (h : H) (a : SP) : run XP i_span_View_text [a.v, vs f_operation] h = some (vs a.op, h) := by
  have e0 : (f_operation.toList == [107, 105, 110, 100]) = false := tl_f rfl
  have e1 : (f_operation.toList == [111, 112, 101, 114, 97, 116, 105, 111, 110]) = true := tl_t rfl
  rw [run_eq, xp_span_View_text]
  simp -implicitDefEqProofs [x_span_View_text, SP.v, e0, e1]
theorem vl_operation (h : H) (a : SP) : run XP i_span_View_Value [a.v, vs f_operation, vs ⟨#[]⟩] h = some (.tup [.agg [vi 1, vs a.op, vi 0], vb true], h) := by
  have h1 := fun h => kd_operation h
  have e0 : (f_operation.toList == [97, 116, 116, 114]) = false := tl_f rfl
  have h2 := fun h => tx_operation h a
  simp only [SP.v] at h2
  rw [run_eq, xp_span_View_Value]
  simp -implicitDefEqProofs [x_span_View_Value, SP.v, h1, e0, h2]
theorem nb_parent (h : H) (a : SP) : run XP i_span_View_number [a.v, vs f_parent] h = some (vi (a.par), h) := by
  have e0 : (f_parent.toList == [99, 108, 111, 99, 107]) = false := tl_f rfl
  have e1 : (f_parent.toList == [100, 117, 114, 97, 116, 105, 111, 110]) = false := tl_f rfl
  have e2 : (f_parent.toList == [101, 110, 100]) = false := tl_f rfl
  have e3 : (f_parent.toList == [105, 100]) = false := tl_f rfl
  have e4 : (f_parent.toList == [112, 97, 114, 101, 110, 116]) = true := tl_t rfl
  rw [run_eq, xp_span_View_number]
  simp -implicitDefEqProofs [x_span_View_number, SP.v, e0, e1, e2, e3, e4]
theorem vl_parent (h : H) (a : SP) : run XP i_span_View_Value [a.v, vs f_parent, vs ⟨#[]⟩] h = some (.tup [.agg [vi 2, vs ⟨#[]⟩, vi (a.par)], vb true], h) := by
  have h1 := fun h => kd_parent h
  have e0 : (f_parent.toList == [97, 116, 116, 114]) = false := tl_f rfl
  have h2 := fun h => nb_parent h a
  simp only [SP.v] at h2
  rw [run_eq, xp_span_View_Value]
  simp -implicitDefEqProofs [x_span_View_Value, SP.v, h1, e0, h2]
theorem nb_revision (h : H) (a : SP) : run XP i_span_View_number [a.v, vs f_revision] h = some (vi (a.rev), h) := by
  have e0 : (f_revision.toList == [99, 108, 111, 99, 107]) = false := tl_f rfl
  have e1 : (f_revision.toList == [100, 117, 114, 97, 116, 105, 111, 110]) = false := tl_f rfl
  have e2 : (f_revision.toList == [101, 110, 100]) = false := tl_f rfl
  have e3 : (f_revision.toList == [105, 100]) = false := tl_f rfl
  have e4 : (f_revision.toList == [112, 97, 114, 101, 110, 116]) = false := tl_f rfl
  have e5 : (f_revision.toList == [114, 101, 118, 105, 115, 105, 111, 110]) = true := tl_t rfl
  rw [run_eq, xp_span_View_number]
  simp -implicitDefEqProofs [x_span_View_number, SP.v, e0, e1, e2, e3, e4, e5]
theorem vl_revision (h : H) (a : SP) : run XP i_span_View_Value [a.v, vs f_revision, vs ⟨#[]⟩] h = some (.tup [.agg [vi 2, vs ⟨#[]⟩, vi (a.rev)], vb true], h) := by
  have h1 := fun h => kd_revision h
  have e0 : (f_revision.toList == [97, 116, 116, 114]) = false := tl_f rfl
  have h2 := fun h => nb_revision h a
  simp only [SP.v] at h2
  rw [run_eq, xp_span_View_Value]
  simp -implicitDefEqProofs [x_span_View_Value, SP.v, h1, e0, h2]
theorem vl_root (h : H) (a : SP) : run XP i_span_View_Value [a.v, vs f_root, vs ⟨#[]⟩] h = some (.tup [.agg [vi 3, vs ⟨#[]⟩, vi (flg (a.par == 0))], vb true], h) := by
  have h1 := fun h => kd_root h
  have e0 : (f_root.toList == [97, 116, 116, 114]) = false := tl_f rfl
  have d0 : (f_root.toList == [101, 114, 114, 111, 114]) = false := tl_f rfl
  have d1 : (f_root.toList == [114, 111, 111, 116]) = true := tl_t rfl
  have h2 := fun h b => run_number h b
  rw [run_eq, xp_span_View_Value]
  simp -implicitDefEqProofs [x_span_View_Value, SP.v, h1, e0, d0, d1, h2]
theorem tx_service (h : H) (a : SP) : run XP i_span_View_text [a.v, vs f_service] h = some (vs a.sv, h) := by
  have e0 : (f_service.toList == [107, 105, 110, 100]) = false := tl_f rfl
  have e1 : (f_service.toList == [111, 112, 101, 114, 97, 116, 105, 111, 110]) = false := tl_f rfl
  have e2 : (f_service.toList == [115, 101, 114, 118, 105, 99, 101]) = true := tl_t rfl
  rw [run_eq, xp_span_View_text]
  simp -implicitDefEqProofs [x_span_View_text, SP.v, e0, e1, e2]
theorem vl_service (h : H) (a : SP) : run XP i_span_View_Value [a.v, vs f_service, vs ⟨#[]⟩] h = some (.tup [.agg [vi 1, vs a.sv, vi 0], vb true], h) := by
  have h1 := fun h => kd_service h
  have e0 : (f_service.toList == [97, 116, 116, 114]) = false := tl_f rfl
  have h2 := fun h => tx_service h a
  simp only [SP.v] at h2
  rw [run_eq, xp_span_View_Value]
  simp -implicitDefEqProofs [x_span_View_Value, SP.v, h1, e0, h2]
theorem nb_slot (h : H) (a : SP) : run XP i_span_View_number [a.v, vs f_slot] h = some (vi (a.tr.fdiv 1048576), h) := by
  have e0 : (f_slot.toList == [99, 108, 111, 99, 107]) = false := tl_f rfl
  have e1 : (f_slot.toList == [100, 117, 114, 97, 116, 105, 111, 110]) = false := tl_f rfl
  have e2 : (f_slot.toList == [101, 110, 100]) = false := tl_f rfl
  have e3 : (f_slot.toList == [105, 100]) = false := tl_f rfl
  have e4 : (f_slot.toList == [112, 97, 114, 101, 110, 116]) = false := tl_f rfl
  have e5 : (f_slot.toList == [114, 101, 118, 105, 115, 105, 111, 110]) = false := tl_f rfl
  have e6 : (f_slot.toList == [115, 108, 111, 116]) = true := tl_t rfl
  have h1 := fun h => run_Slot h a.tr
  rw [run_eq, xp_span_View_number]
  simp -implicitDefEqProofs [x_span_View_number, SP.v, e0, e1, e2, e3, e4, e5, e6, h1]
theorem vl_slot (h : H) (a : SP) : run XP i_span_View_Value [a.v, vs f_slot, vs ⟨#[]⟩] h = some (.tup [.agg [vi 2, vs ⟨#[]⟩, vi (a.tr.fdiv 1048576)], vb true], h) := by
  have h1 := fun h => kd_slot h
  have e0 : (f_slot.toList == [97, 116, 116, 114]) = false := tl_f rfl
  have h2 := fun h => nb_slot h a
  simp only [SP.v] at h2
  rw [run_eq, xp_span_View_Value]
  simp -implicitDefEqProofs [x_span_View_Value, SP.v, h1, e0, h2]
theorem nb_start (h : H) (a : SP) : run XP i_span_View_number [a.v, vs f_start] h = some (vi (a.st), h) := by
  have e0 : (f_start.toList == [99, 108, 111, 99, 107]) = false := tl_f rfl
  have e1 : (f_start.toList == [100, 117, 114, 97, 116, 105, 111, 110]) = false := tl_f rfl
  have e2 : (f_start.toList == [101, 110, 100]) = false := tl_f rfl
  have e3 : (f_start.toList == [105, 100]) = false := tl_f rfl
  have e4 : (f_start.toList == [112, 97, 114, 101, 110, 116]) = false := tl_f rfl
  have e5 : (f_start.toList == [114, 101, 118, 105, 115, 105, 111, 110]) = false := tl_f rfl
  have e6 : (f_start.toList == [115, 108, 111, 116]) = false := tl_f rfl
  have e7 : (f_start.toList == [115, 116, 97, 114, 116]) = true := tl_t rfl
  rw [run_eq, xp_span_View_number]
  simp -implicitDefEqProofs [x_span_View_number, SP.v, e0, e1, e2, e3, e4, e5, e6, e7]
theorem vl_start (h : H) (a : SP) : run XP i_span_View_Value [a.v, vs f_start, vs ⟨#[]⟩] h = some (.tup [.agg [vi 2, vs ⟨#[]⟩, vi (a.st)], vb true], h) := by
  have h1 := fun h => kd_start h
  have e0 : (f_start.toList == [97, 116, 116, 114]) = false := tl_f rfl
  have h2 := fun h => nb_start h a
  simp only [SP.v] at h2
  rw [run_eq, xp_span_View_Value]
  simp -implicitDefEqProofs [x_span_View_Value, SP.v, h1, e0, h2]
theorem nb_trace (h : H) (a : SP) : run XP i_span_View_number [a.v, vs f_trace] h = some (vi (a.tr), h) := by
  have e0 : (f_trace.toList == [99, 108, 111, 99, 107]) = false := tl_f rfl
  have e1 : (f_trace.toList == [100, 117, 114, 97, 116, 105, 111, 110]) = false := tl_f rfl
  have e2 : (f_trace.toList == [101, 110, 100]) = false := tl_f rfl
  have e3 : (f_trace.toList == [105, 100]) = false := tl_f rfl
  have e4 : (f_trace.toList == [112, 97, 114, 101, 110, 116]) = false := tl_f rfl
  have e5 : (f_trace.toList == [114, 101, 118, 105, 115, 105, 111, 110]) = false := tl_f rfl
  have e6 : (f_trace.toList == [115, 108, 111, 116]) = false := tl_f rfl
  have e7 : (f_trace.toList == [115, 116, 97, 114, 116]) = false := tl_f rfl
  rw [run_eq, xp_span_View_number]
  simp -implicitDefEqProofs [x_span_View_number, SP.v, e0, e1, e2, e3, e4, e5, e6, e7]
theorem vl_trace (h : H) (a : SP) : run XP i_span_View_Value [a.v, vs f_trace, vs ⟨#[]⟩] h = some (.tup [.agg [vi 2, vs ⟨#[]⟩, vi (a.tr)], vb true], h) := by
  have h1 := fun h => kd_trace h
  have e0 : (f_trace.toList == [97, 116, 116, 114]) = false := tl_f rfl
  have h2 := fun h => nb_trace h a
  simp only [SP.v] at h2
  rw [run_eq, xp_span_View_Value]
  simp -implicitDefEqProofs [x_span_View_Value, SP.v, h1, e0, h2]
theorem tx_version (h : H) (a : SP) : run XP i_span_View_text [a.v, vs f_version] h = some (vs a.vr, h) := by
  have e0 : (f_version.toList == [107, 105, 110, 100]) = false := tl_f rfl
  have e1 : (f_version.toList == [111, 112, 101, 114, 97, 116, 105, 111, 110]) = false := tl_f rfl
  have e2 : (f_version.toList == [115, 101, 114, 118, 105, 99, 101]) = false := tl_f rfl
  rw [run_eq, xp_span_View_text]
  simp -implicitDefEqProofs [x_span_View_text, SP.v, e0, e1, e2]
theorem vl_version (h : H) (a : SP) : run XP i_span_View_Value [a.v, vs f_version, vs ⟨#[]⟩] h = some (.tup [.agg [vi 1, vs a.vr, vi 0], vb true], h) := by
  have h1 := fun h => kd_version h
  have e0 : (f_version.toList == [97, 116, 116, 114]) = false := tl_f rfl
  have h2 := fun h => tx_version h a
  simp only [SP.v] at h2
  rw [run_eq, xp_span_View_Value]
  simp -implicitDefEqProofs [x_span_View_Value, SP.v, h1, e0, h2]
end Go.Proofs.Sl

namespace Go.Proofs.Sl
theorem lv_clock (h : H) (a : SP) : run XP i_sleuthlaw11_value [a.v, vs f_clock] h = some (.agg [vi 2, vs ⟨#[]⟩, vi (a.clk)], h) := by
  have q0 : (f_clock == (⟨#[115, 101, 114, 118, 105, 99, 101]⟩ : ByteArray)) = false := by decide
  have q1 : (f_clock == (⟨#[118, 101, 114, 115, 105, 111, 110]⟩ : ByteArray)) = false := by decide
  have q2 : (f_clock == (⟨#[111, 112, 101, 114, 97, 116, 105, 111, 110]⟩ : ByteArray)) = false := by decide
  have e0 : (f_clock.toList == [107, 105, 110, 100]) = false := tl_f rfl
  have e1 : (f_clock.toList == [101, 114, 114, 111, 114]) = false := tl_f rfl
  have e2 : (f_clock.toList == [114, 111, 111, 116]) = false := tl_f rfl
  have r0 : (f_clock == (⟨#[116, 114, 97, 99, 101]⟩ : ByteArray)) = false := by decide
  have r1 : (f_clock == (⟨#[105, 100]⟩ : ByteArray)) = false := by decide
  have r2 : (f_clock == (⟨#[112, 97, 114, 101, 110, 116]⟩ : ByteArray)) = false := by decide
  have r3 : (f_clock == (⟨#[114, 101, 118, 105, 115, 105, 111, 110]⟩ : ByteArray)) = false := by decide
  have r4 : (f_clock == (⟨#[99, 108, 111, 99, 107]⟩ : ByteArray)) = true := by decide
  rw [run_eq, xp_sleuthlaw11_value]
  simp -implicitDefEqProofs [x_sleuthlaw11_value, SP.v, xmput, xmget, mapAt, mapEls, mapPut, mapFind, keyVal, keyEq, V.closed, q0, q1, q2, kp_version_service, kp_operation_service, kp_operation_version, e0, e1, e2, r0, r1, r2, r3, r4, kp_id_trace, kp_parent_trace, kp_parent_id, kp_revision_trace, kp_revision_id, kp_revision_parent, kp_clock_trace, kp_clock_id, kp_clock_parent, kp_clock_revision, kp_start_trace, kp_start_id, kp_start_parent, kp_start_revision, kp_start_clock, kp_end_trace, kp_end_id, kp_end_parent, kp_end_revision, kp_end_clock, kp_end_start, kp_duration_trace, kp_duration_id, kp_duration_parent, kp_duration_revision, kp_duration_clock, kp_duration_start, kp_duration_end, kp_slot_trace, kp_slot_id, kp_slot_parent, kp_slot_revision, kp_slot_clock, kp_slot_start, kp_slot_end, kp_slot_duration]
theorem lv_duration (h : H) (a : SP) : run XP i_sleuthlaw11_value [a.v, vs f_duration] h = some (.agg [vi 2, vs ⟨#[]⟩, vi (IntKind.i64.wrap (a.en - a.st))], h) := by
  have q0 : (f_duration == (⟨#[115, 101, 114, 118, 105, 99, 101]⟩ : ByteArray)) = false := by decide
  have q1 : (f_duration == (⟨#[118, 101, 114, 115, 105, 111, 110]⟩ : ByteArray)) = false := by decide
  have q2 : (f_duration == (⟨#[111, 112, 101, 114, 97, 116, 105, 111, 110]⟩ : ByteArray)) = false := by decide
  have e0 : (f_duration.toList == [107, 105, 110, 100]) = false := tl_f rfl
  have e1 : (f_duration.toList == [101, 114, 114, 111, 114]) = false := tl_f rfl
  have e2 : (f_duration.toList == [114, 111, 111, 116]) = false := tl_f rfl
  have r0 : (f_duration == (⟨#[116, 114, 97, 99, 101]⟩ : ByteArray)) = false := by decide
  have r1 : (f_duration == (⟨#[105, 100]⟩ : ByteArray)) = false := by decide
  have r2 : (f_duration == (⟨#[112, 97, 114, 101, 110, 116]⟩ : ByteArray)) = false := by decide
  have r3 : (f_duration == (⟨#[114, 101, 118, 105, 115, 105, 111, 110]⟩ : ByteArray)) = false := by decide
  have r4 : (f_duration == (⟨#[99, 108, 111, 99, 107]⟩ : ByteArray)) = false := by decide
  have r5 : (f_duration == (⟨#[115, 116, 97, 114, 116]⟩ : ByteArray)) = false := by decide
  have r6 : (f_duration == (⟨#[101, 110, 100]⟩ : ByteArray)) = false := by decide
  have r7 : (f_duration == (⟨#[100, 117, 114, 97, 116, 105, 111, 110]⟩ : ByteArray)) = true := by decide
  rw [run_eq, xp_sleuthlaw11_value]
  simp -implicitDefEqProofs [x_sleuthlaw11_value, SP.v, xmput, xmget, mapAt, mapEls, mapPut, mapFind, keyVal, keyEq, V.closed, q0, q1, q2, kp_version_service, kp_operation_service, kp_operation_version, e0, e1, e2, r0, r1, r2, r3, r4, r5, r6, r7, kp_id_trace, kp_parent_trace, kp_parent_id, kp_revision_trace, kp_revision_id, kp_revision_parent, kp_clock_trace, kp_clock_id, kp_clock_parent, kp_clock_revision, kp_start_trace, kp_start_id, kp_start_parent, kp_start_revision, kp_start_clock, kp_end_trace, kp_end_id, kp_end_parent, kp_end_revision, kp_end_clock, kp_end_start, kp_duration_trace, kp_duration_id, kp_duration_parent, kp_duration_revision, kp_duration_clock, kp_duration_start, kp_duration_end, kp_slot_trace, kp_slot_id, kp_slot_parent, kp_slot_revision, kp_slot_clock, kp_slot_start, kp_slot_end, kp_slot_duration]
theorem lv_end (h : H) (a : SP) : run XP i_sleuthlaw11_value [a.v, vs f_end] h = some (.agg [vi 2, vs ⟨#[]⟩, vi (a.en)], h) := by
  have q0 : (f_end == (⟨#[115, 101, 114, 118, 105, 99, 101]⟩ : ByteArray)) = false := by decide
  have q1 : (f_end == (⟨#[118, 101, 114, 115, 105, 111, 110]⟩ : ByteArray)) = false := by decide
  have q2 : (f_end == (⟨#[111, 112, 101, 114, 97, 116, 105, 111, 110]⟩ : ByteArray)) = false := by decide
  have e0 : (f_end.toList == [107, 105, 110, 100]) = false := tl_f rfl
  have e1 : (f_end.toList == [101, 114, 114, 111, 114]) = false := tl_f rfl
  have e2 : (f_end.toList == [114, 111, 111, 116]) = false := tl_f rfl
  have r0 : (f_end == (⟨#[116, 114, 97, 99, 101]⟩ : ByteArray)) = false := by decide
  have r1 : (f_end == (⟨#[105, 100]⟩ : ByteArray)) = false := by decide
  have r2 : (f_end == (⟨#[112, 97, 114, 101, 110, 116]⟩ : ByteArray)) = false := by decide
  have r3 : (f_end == (⟨#[114, 101, 118, 105, 115, 105, 111, 110]⟩ : ByteArray)) = false := by decide
  have r4 : (f_end == (⟨#[99, 108, 111, 99, 107]⟩ : ByteArray)) = false := by decide
  have r5 : (f_end == (⟨#[115, 116, 97, 114, 116]⟩ : ByteArray)) = false := by decide
  have r6 : (f_end == (⟨#[101, 110, 100]⟩ : ByteArray)) = true := by decide
  rw [run_eq, xp_sleuthlaw11_value]
  simp -implicitDefEqProofs [x_sleuthlaw11_value, SP.v, xmput, xmget, mapAt, mapEls, mapPut, mapFind, keyVal, keyEq, V.closed, q0, q1, q2, kp_version_service, kp_operation_service, kp_operation_version, e0, e1, e2, r0, r1, r2, r3, r4, r5, r6, kp_id_trace, kp_parent_trace, kp_parent_id, kp_revision_trace, kp_revision_id, kp_revision_parent, kp_clock_trace, kp_clock_id, kp_clock_parent, kp_clock_revision, kp_start_trace, kp_start_id, kp_start_parent, kp_start_revision, kp_start_clock, kp_end_trace, kp_end_id, kp_end_parent, kp_end_revision, kp_end_clock, kp_end_start, kp_duration_trace, kp_duration_id, kp_duration_parent, kp_duration_revision, kp_duration_clock, kp_duration_start, kp_duration_end, kp_slot_trace, kp_slot_id, kp_slot_parent, kp_slot_revision, kp_slot_clock, kp_slot_start, kp_slot_end, kp_slot_duration]
theorem lv_error (h : H) (a : SP) : run XP i_sleuthlaw11_value [a.v, vs f_error] h = some (.agg [vi 3, vs ⟨#[]⟩, vi (flg a.er)], h) := by
  have q0 : (f_error == (⟨#[115, 101, 114, 118, 105, 99, 101]⟩ : ByteArray)) = false := by decide
  have q1 : (f_error == (⟨#[118, 101, 114, 115, 105, 111, 110]⟩ : ByteArray)) = false := by decide
  have q2 : (f_error == (⟨#[111, 112, 101, 114, 97, 116, 105, 111, 110]⟩ : ByteArray)) = false := by decide
  have e0 : (f_error.toList == [107, 105, 110, 100]) = false := tl_f rfl
  have e1 : (f_error.toList == [101, 114, 114, 111, 114]) = true := tl_t rfl
  have h2 := fun h b => run_flag h b
  rw [run_eq, xp_sleuthlaw11_value]
  simp -implicitDefEqProofs [x_sleuthlaw11_value, SP.v, xmput, xmget, mapAt, mapEls, mapPut, mapFind, keyVal, keyEq, V.closed, q0, q1, q2, kp_version_service, kp_operation_service, kp_operation_version, e0, e1, h2]
theorem lv_id (h : H) (a : SP) : run XP i_sleuthlaw11_value [a.v, vs f_id] h = some (.agg [vi 2, vs ⟨#[]⟩, vi (a.id)], h) := by
  have q0 : (f_id == (⟨#[115, 101, 114, 118, 105, 99, 101]⟩ : ByteArray)) = false := by decide
  have q1 : (f_id == (⟨#[118, 101, 114, 115, 105, 111, 110]⟩ : ByteArray)) = false := by decide
  have q2 : (f_id == (⟨#[111, 112, 101, 114, 97, 116, 105, 111, 110]⟩ : ByteArray)) = false := by decide
  have e0 : (f_id.toList == [107, 105, 110, 100]) = false := tl_f rfl
  have e1 : (f_id.toList == [101, 114, 114, 111, 114]) = false := tl_f rfl
  have e2 : (f_id.toList == [114, 111, 111, 116]) = false := tl_f rfl
  have r0 : (f_id == (⟨#[116, 114, 97, 99, 101]⟩ : ByteArray)) = false := by decide
  have r1 : (f_id == (⟨#[105, 100]⟩ : ByteArray)) = true := by decide
  rw [run_eq, xp_sleuthlaw11_value]
  simp -implicitDefEqProofs [x_sleuthlaw11_value, SP.v, xmput, xmget, mapAt, mapEls, mapPut, mapFind, keyVal, keyEq, V.closed, q0, q1, q2, kp_version_service, kp_operation_service, kp_operation_version, e0, e1, e2, r0, r1, kp_id_trace, kp_parent_trace, kp_parent_id, kp_revision_trace, kp_revision_id, kp_revision_parent, kp_clock_trace, kp_clock_id, kp_clock_parent, kp_clock_revision, kp_start_trace, kp_start_id, kp_start_parent, kp_start_revision, kp_start_clock, kp_end_trace, kp_end_id, kp_end_parent, kp_end_revision, kp_end_clock, kp_end_start, kp_duration_trace, kp_duration_id, kp_duration_parent, kp_duration_revision, kp_duration_clock, kp_duration_start, kp_duration_end, kp_slot_trace, kp_slot_id, kp_slot_parent, kp_slot_revision, kp_slot_clock, kp_slot_start, kp_slot_end, kp_slot_duration]
theorem lv_kind (h : H) (a : SP) {j : Nat} {q : ByteArray} (hj : kNs[j]? = some q) (hk : a.kind = (j : Int) + 1) : run XP i_sleuthlaw11_value [a.v, vs f_kind] h = some (.agg [vi 1, vs q, vi 0], h) := by
  have q0 : (f_kind == (⟨#[115, 101, 114, 118, 105, 99, 101]⟩ : ByteArray)) = false := by decide
  have q1 : (f_kind == (⟨#[118, 101, 114, 115, 105, 111, 110]⟩ : ByteArray)) = false := by decide
  have q2 : (f_kind == (⟨#[111, 112, 101, 114, 97, 116, 105, 111, 110]⟩ : ByteArray)) = false := by decide
  have e0 : (f_kind.toList == [107, 105, 110, 100]) = true := tl_t rfl
  have h1 := fun h => run_lkinds h
  have hlt : j < 5 := (List.getElem?_eq_some_iff.1 hj).1
  have hw : IntKind.i64.wrap (j : Int) = (j : Int) := wrap_i64 (by omega) (by omega)
  have hv : ∀ h, Rd h 1 (.lst 1 (kNs.map vs)) (kNs.map vs) := fun h => .lst _
  have c3 : (0 : Int) ≤ (j : Int) := by omega
  rw [run_eq, xp_sleuthlaw11_value]
  simp -implicitDefEqProofs [x_sleuthlaw11_value, SP.v, xmput, xmget, mapAt, mapEls, mapPut, mapFind, keyVal, keyEq, V.closed, q0, q1, q2, kp_version_service, kp_operation_service, kp_operation_version, e0, h1, hk, hw, hj, c3, same_self, optEq]
theorem lv_operation (h : H) (a : SP) : run XP i_sleuthlaw11_value [a.v, vs f_operation] h = some (.agg [vi 1, vs a.op, vi 0], h) := by
  have q0 : (f_operation == (⟨#[115, 101, 114, 118, 105, 99, 101]⟩ : ByteArray)) = false := by decide
  have q1 : (f_operation == (⟨#[118, 101, 114, 115, 105, 111, 110]⟩ : ByteArray)) = false := by decide
  have q2 : (f_operation == (⟨#[111, 112, 101, 114, 97, 116, 105, 111, 110]⟩ : ByteArray)) = true := by decide
  rw [run_eq, xp_sleuthlaw11_value]
  simp -implicitDefEqProofs [x_sleuthlaw11_value, SP.v, xmput, xmget, mapAt, mapEls, mapPut, mapFind, keyVal, keyEq, V.closed, q0, q1, q2, kp_version_service, kp_operation_service, kp_operation_version]
theorem lv_parent (h : H) (a : SP) : run XP i_sleuthlaw11_value [a.v, vs f_parent] h = some (.agg [vi 2, vs ⟨#[]⟩, vi (a.par)], h) := by
  have q0 : (f_parent == (⟨#[115, 101, 114, 118, 105, 99, 101]⟩ : ByteArray)) = false := by decide
  have q1 : (f_parent == (⟨#[118, 101, 114, 115, 105, 111, 110]⟩ : ByteArray)) = false := by decide
  have q2 : (f_parent == (⟨#[111, 112, 101, 114, 97, 116, 105, 111, 110]⟩ : ByteArray)) = false := by decide
  have e0 : (f_parent.toList == [107, 105, 110, 100]) = false := tl_f rfl
  have e1 : (f_parent.toList == [101, 114, 114, 111, 114]) = false := tl_f rfl
  have e2 : (f_parent.toList == [114, 111, 111, 116]) = false := tl_f rfl
  have r0 : (f_parent == (⟨#[116, 114, 97, 99, 101]⟩ : ByteArray)) = false := by decide
  have r1 : (f_parent == (⟨#[105, 100]⟩ : ByteArray)) = false := by decide
  have r2 : (f_parent == (⟨#[112, 97, 114, 101, 110, 116]⟩ : ByteArray)) = true := by decide
  rw [run_eq, xp_sleuthlaw11_value]
  simp -implicitDefEqProofs [x_sleuthlaw11_value, SP.v, xmput, xmget, mapAt, mapEls, mapPut, mapFind, keyVal, keyEq, V.closed, q0, q1, q2, kp_version_service, kp_operation_service, kp_operation_version, e0, e1, e2, r0, r1, r2, kp_id_trace, kp_parent_trace, kp_parent_id, kp_revision_trace, kp_revision_id, kp_revision_parent, kp_clock_trace, kp_clock_id, kp_clock_parent, kp_clock_revision, kp_start_trace, kp_start_id, kp_start_parent, kp_start_revision, kp_start_clock, kp_end_trace, kp_end_id, kp_end_parent, kp_end_revision, kp_end_clock, kp_end_start, kp_duration_trace, kp_duration_id, kp_duration_parent, kp_duration_revision, kp_duration_clock, kp_duration_start, kp_duration_end, kp_slot_trace, kp_slot_id, kp_slot_parent, kp_slot_revision, kp_slot_clock, kp_slot_start, kp_slot_end, kp_slot_duration]
theorem lv_revision (h : H) (a : SP) : run XP i_sleuthlaw11_value [a.v, vs f_revision] h = some (.agg [vi 2, vs ⟨#[]⟩, vi (a.rev)], h) := by
  have q0 : (f_revision == (⟨#[115, 101, 114, 118, 105, 99, 101]⟩ : ByteArray)) = false := by decide
  have q1 : (f_revision == (⟨#[118, 101, 114, 115, 105, 111, 110]⟩ : ByteArray)) = false := by decide
  have q2 : (f_revision == (⟨#[111, 112, 101, 114, 97, 116, 105, 111, 110]⟩ : ByteArray)) = false := by decide
  have e0 : (f_revision.toList == [107, 105, 110, 100]) = false := tl_f rfl
  have e1 : (f_revision.toList == [101, 114, 114, 111, 114]) = false := tl_f rfl
  have e2 : (f_revision.toList == [114, 111, 111, 116]) = false := tl_f rfl
  have r0 : (f_revision == (⟨#[116, 114, 97, 99, 101]⟩ : ByteArray)) = false := by decide
  have r1 : (f_revision == (⟨#[105, 100]⟩ : ByteArray)) = false := by decide
  have r2 : (f_revision == (⟨#[112, 97, 114, 101, 110, 116]⟩ : ByteArray)) = false := by decide
  have r3 : (f_revision == (⟨#[114, 101, 118, 105, 115, 105, 111, 110]⟩ : ByteArray)) = true := by decide
  rw [run_eq, xp_sleuthlaw11_value]
  simp -implicitDefEqProofs [x_sleuthlaw11_value, SP.v, xmput, xmget, mapAt, mapEls, mapPut, mapFind, keyVal, keyEq, V.closed, q0, q1, q2, kp_version_service, kp_operation_service, kp_operation_version, e0, e1, e2, r0, r1, r2, r3, kp_id_trace, kp_parent_trace, kp_parent_id, kp_revision_trace, kp_revision_id, kp_revision_parent, kp_clock_trace, kp_clock_id, kp_clock_parent, kp_clock_revision, kp_start_trace, kp_start_id, kp_start_parent, kp_start_revision, kp_start_clock, kp_end_trace, kp_end_id, kp_end_parent, kp_end_revision, kp_end_clock, kp_end_start, kp_duration_trace, kp_duration_id, kp_duration_parent, kp_duration_revision, kp_duration_clock, kp_duration_start, kp_duration_end, kp_slot_trace, kp_slot_id, kp_slot_parent, kp_slot_revision, kp_slot_clock, kp_slot_start, kp_slot_end, kp_slot_duration]
theorem lv_root (h : H) (a : SP) : run XP i_sleuthlaw11_value [a.v, vs f_root] h = some (.agg [vi 3, vs ⟨#[]⟩, vi (flg (a.par == 0))], h) := by
  have q0 : (f_root == (⟨#[115, 101, 114, 118, 105, 99, 101]⟩ : ByteArray)) = false := by decide
  have q1 : (f_root == (⟨#[118, 101, 114, 115, 105, 111, 110]⟩ : ByteArray)) = false := by decide
  have q2 : (f_root == (⟨#[111, 112, 101, 114, 97, 116, 105, 111, 110]⟩ : ByteArray)) = false := by decide
  have e0 : (f_root.toList == [107, 105, 110, 100]) = false := tl_f rfl
  have e1 : (f_root.toList == [101, 114, 114, 111, 114]) = false := tl_f rfl
  have e2 : (f_root.toList == [114, 111, 111, 116]) = true := tl_t rfl
  have h2 := fun h b => run_flag h b
  rw [run_eq, xp_sleuthlaw11_value]
  simp -implicitDefEqProofs [x_sleuthlaw11_value, SP.v, xmput, xmget, mapAt, mapEls, mapPut, mapFind, keyVal, keyEq, V.closed, q0, q1, q2, kp_version_service, kp_operation_service, kp_operation_version, e0, e1, e2, h2]
theorem lv_service (h : H) (a : SP) : run XP i_sleuthlaw11_value [a.v, vs f_service] h = some (.agg [vi 1, vs a.sv, vi 0], h) := by
  have q0 : (f_service == (⟨#[115, 101, 114, 118, 105, 99, 101]⟩ : ByteArray)) = true := by decide
  rw [run_eq, xp_sleuthlaw11_value]
  simp -implicitDefEqProofs [x_sleuthlaw11_value, SP.v, xmput, xmget, mapAt, mapEls, mapPut, mapFind, keyVal, keyEq, V.closed, q0, kp_version_service, kp_operation_service, kp_operation_version]
theorem lv_slot (h : H) (a : SP) : run XP i_sleuthlaw11_value [a.v, vs f_slot] h = some (.agg [vi 2, vs ⟨#[]⟩, vi (IntKind.i64.wrap (a.tr.tdiv 1048576))], h) := by
  have q0 : (f_slot == (⟨#[115, 101, 114, 118, 105, 99, 101]⟩ : ByteArray)) = false := by decide
  have q1 : (f_slot == (⟨#[118, 101, 114, 115, 105, 111, 110]⟩ : ByteArray)) = false := by decide
  have q2 : (f_slot == (⟨#[111, 112, 101, 114, 97, 116, 105, 111, 110]⟩ : ByteArray)) = false := by decide
  have e0 : (f_slot.toList == [107, 105, 110, 100]) = false := tl_f rfl
  have e1 : (f_slot.toList == [101, 114, 114, 111, 114]) = false := tl_f rfl
  have e2 : (f_slot.toList == [114, 111, 111, 116]) = false := tl_f rfl
  have r0 : (f_slot == (⟨#[116, 114, 97, 99, 101]⟩ : ByteArray)) = false := by decide
  have r1 : (f_slot == (⟨#[105, 100]⟩ : ByteArray)) = false := by decide
  have r2 : (f_slot == (⟨#[112, 97, 114, 101, 110, 116]⟩ : ByteArray)) = false := by decide
  have r3 : (f_slot == (⟨#[114, 101, 118, 105, 115, 105, 111, 110]⟩ : ByteArray)) = false := by decide
  have r4 : (f_slot == (⟨#[99, 108, 111, 99, 107]⟩ : ByteArray)) = false := by decide
  have r5 : (f_slot == (⟨#[115, 116, 97, 114, 116]⟩ : ByteArray)) = false := by decide
  have r6 : (f_slot == (⟨#[101, 110, 100]⟩ : ByteArray)) = false := by decide
  have r7 : (f_slot == (⟨#[100, 117, 114, 97, 116, 105, 111, 110]⟩ : ByteArray)) = false := by decide
  have r8 : (f_slot == (⟨#[115, 108, 111, 116]⟩ : ByteArray)) = true := by decide
  rw [run_eq, xp_sleuthlaw11_value]
  simp -implicitDefEqProofs [x_sleuthlaw11_value, SP.v, xmput, xmget, mapAt, mapEls, mapPut, mapFind, keyVal, keyEq, V.closed, q0, q1, q2, kp_version_service, kp_operation_service, kp_operation_version, e0, e1, e2, r0, r1, r2, r3, r4, r5, r6, r7, r8, kp_id_trace, kp_parent_trace, kp_parent_id, kp_revision_trace, kp_revision_id, kp_revision_parent, kp_clock_trace, kp_clock_id, kp_clock_parent, kp_clock_revision, kp_start_trace, kp_start_id, kp_start_parent, kp_start_revision, kp_start_clock, kp_end_trace, kp_end_id, kp_end_parent, kp_end_revision, kp_end_clock, kp_end_start, kp_duration_trace, kp_duration_id, kp_duration_parent, kp_duration_revision, kp_duration_clock, kp_duration_start, kp_duration_end, kp_slot_trace, kp_slot_id, kp_slot_parent, kp_slot_revision, kp_slot_clock, kp_slot_start, kp_slot_end, kp_slot_duration]
theorem lv_start (h : H) (a : SP) : run XP i_sleuthlaw11_value [a.v, vs f_start] h = some (.agg [vi 2, vs ⟨#[]⟩, vi (a.st)], h) := by
  have q0 : (f_start == (⟨#[115, 101, 114, 118, 105, 99, 101]⟩ : ByteArray)) = false := by decide
  have q1 : (f_start == (⟨#[118, 101, 114, 115, 105, 111, 110]⟩ : ByteArray)) = false := by decide
  have q2 : (f_start == (⟨#[111, 112, 101, 114, 97, 116, 105, 111, 110]⟩ : ByteArray)) = false := by decide
  have e0 : (f_start.toList == [107, 105, 110, 100]) = false := tl_f rfl
  have e1 : (f_start.toList == [101, 114, 114, 111, 114]) = false := tl_f rfl
  have e2 : (f_start.toList == [114, 111, 111, 116]) = false := tl_f rfl
  have r0 : (f_start == (⟨#[116, 114, 97, 99, 101]⟩ : ByteArray)) = false := by decide
  have r1 : (f_start == (⟨#[105, 100]⟩ : ByteArray)) = false := by decide
  have r2 : (f_start == (⟨#[112, 97, 114, 101, 110, 116]⟩ : ByteArray)) = false := by decide
  have r3 : (f_start == (⟨#[114, 101, 118, 105, 115, 105, 111, 110]⟩ : ByteArray)) = false := by decide
  have r4 : (f_start == (⟨#[99, 108, 111, 99, 107]⟩ : ByteArray)) = false := by decide
  have r5 : (f_start == (⟨#[115, 116, 97, 114, 116]⟩ : ByteArray)) = true := by decide
  rw [run_eq, xp_sleuthlaw11_value]
  simp -implicitDefEqProofs [x_sleuthlaw11_value, SP.v, xmput, xmget, mapAt, mapEls, mapPut, mapFind, keyVal, keyEq, V.closed, q0, q1, q2, kp_version_service, kp_operation_service, kp_operation_version, e0, e1, e2, r0, r1, r2, r3, r4, r5, kp_id_trace, kp_parent_trace, kp_parent_id, kp_revision_trace, kp_revision_id, kp_revision_parent, kp_clock_trace, kp_clock_id, kp_clock_parent, kp_clock_revision, kp_start_trace, kp_start_id, kp_start_parent, kp_start_revision, kp_start_clock, kp_end_trace, kp_end_id, kp_end_parent, kp_end_revision, kp_end_clock, kp_end_start, kp_duration_trace, kp_duration_id, kp_duration_parent, kp_duration_revision, kp_duration_clock, kp_duration_start, kp_duration_end, kp_slot_trace, kp_slot_id, kp_slot_parent, kp_slot_revision, kp_slot_clock, kp_slot_start, kp_slot_end, kp_slot_duration]
theorem lv_trace (h : H) (a : SP) : run XP i_sleuthlaw11_value [a.v, vs f_trace] h = some (.agg [vi 2, vs ⟨#[]⟩, vi (a.tr)], h) := by
  have q0 : (f_trace == (⟨#[115, 101, 114, 118, 105, 99, 101]⟩ : ByteArray)) = false := by decide
  have q1 : (f_trace == (⟨#[118, 101, 114, 115, 105, 111, 110]⟩ : ByteArray)) = false := by decide
  have q2 : (f_trace == (⟨#[111, 112, 101, 114, 97, 116, 105, 111, 110]⟩ : ByteArray)) = false := by decide
  have e0 : (f_trace.toList == [107, 105, 110, 100]) = false := tl_f rfl
  have e1 : (f_trace.toList == [101, 114, 114, 111, 114]) = false := tl_f rfl
  have e2 : (f_trace.toList == [114, 111, 111, 116]) = false := tl_f rfl
  have r0 : (f_trace == (⟨#[116, 114, 97, 99, 101]⟩ : ByteArray)) = true := by decide
  rw [run_eq, xp_sleuthlaw11_value]
  simp -implicitDefEqProofs [x_sleuthlaw11_value, SP.v, xmput, xmget, mapAt, mapEls, mapPut, mapFind, keyVal, keyEq, V.closed, q0, q1, q2, kp_version_service, kp_operation_service, kp_operation_version, e0, e1, e2, r0, kp_id_trace, kp_parent_trace, kp_parent_id, kp_revision_trace, kp_revision_id, kp_revision_parent, kp_clock_trace, kp_clock_id, kp_clock_parent, kp_clock_revision, kp_start_trace, kp_start_id, kp_start_parent, kp_start_revision, kp_start_clock, kp_end_trace, kp_end_id, kp_end_parent, kp_end_revision, kp_end_clock, kp_end_start, kp_duration_trace, kp_duration_id, kp_duration_parent, kp_duration_revision, kp_duration_clock, kp_duration_start, kp_duration_end, kp_slot_trace, kp_slot_id, kp_slot_parent, kp_slot_revision, kp_slot_clock, kp_slot_start, kp_slot_end, kp_slot_duration]
theorem lv_version (h : H) (a : SP) : run XP i_sleuthlaw11_value [a.v, vs f_version] h = some (.agg [vi 1, vs a.vr, vi 0], h) := by
  have q0 : (f_version == (⟨#[115, 101, 114, 118, 105, 99, 101]⟩ : ByteArray)) = false := by decide
  have q1 : (f_version == (⟨#[118, 101, 114, 115, 105, 111, 110]⟩ : ByteArray)) = true := by decide
  rw [run_eq, xp_sleuthlaw11_value]
  simp -implicitDefEqProofs [x_sleuthlaw11_value, SP.v, xmput, xmget, mapAt, mapEls, mapPut, mapFind, keyVal, keyEq, V.closed, q0, q1, kp_version_service, kp_operation_service, kp_operation_version]
end Go.Proofs.Sl

namespace Go.Proofs.Sl
def isF (s : ByteArray) : Bool := decide (0 ≤ ixT flds s 0)
theorem ixT_mem {s : ByteArray} : ∀ {l : List ByteArray} {k : Nat}, 0 ≤ ixT l s k → s ∈ l
  | [], k, h => by simp [ixT] at h
  | t :: r, k, h => by
    rw [ixT] at h
    by_cases e : s = t
    · simp [e]
    · rw [if_neg e] at h
      exact List.mem_cons_of_mem _ (ixT_mem h)
theorem isF_mem {s : ByteArray} (h : isF s = true) : s ∈ flds := ixT_mem (of_decide_eq_true h)
theorem run_names (h : H) : run XP i_sleuthlaw11_names [] h = some (.lst 1 (flds.map vs), h) := by
  rw [run_eq, xp_sleuthlaw11_names]
  simp -implicitDefEqProofs [x_sleuthlaw11_names, flds, sClock, sDur]
theorem run_isField (h : H) (s : ByteArray) : run XP i_sleuthlaw11_isField [vs s] h = some (vb (isF s), h) := by
  have h1 := fun h => run_names h
  have hv : ∀ h, Rd h 1 (.lst 1 (flds.map vs)) (flds.map vs) := fun h => .lst _
  have hlen : (flds.map vs).length = 15 := rfl
  rw [run_eq, xp_sleuthlaw11_isField]
  simp -implicitDefEqProofs [x_sleuthlaw11_isField, h1]
  refine loop_list flds (fun k s' h' => Sees s' [(0, vs s), (3, .lst 1 (flds.map vs)), (4, vi k)] ∧ h' = h ∧ isF s = decide (0 ≤ ixT (flds.drop k) s k)) ?_ ?_ _ _ ⟨by simp, rfl, rfl⟩
  · rintro B f hB hf k e s' h' he hk ⟨⟨h0, h3, h4, -⟩, rfl, hx⟩ K
    obtain ⟨p, hp, hld⟩ := (hv h').at1 (vs_get he) rfl
    have hlt : (k : Int) < 15 := by have : flds.length = 15 := rfl; omega
    have hb := bl_eq (a := e) (b := s)
    rw [drop_at he, ixT] at hx
    by_cases h0' : e = s
    · have hb' : (e.toList == s.toList) = true := by rw [hb]; simp [h0']
      have hx' : isF s = true := by rw [hx, if_pos h0'.symm]; simp
      simp -implicitDefEqProofs [hB, hf, x_sleuthlaw11_isField_l0, h0, h3, h4, hlen, hlt, hk, hp, hld, hb', hx']
    · have hb' : (e.toList == s.toList) = false := by rw [hb]; simp [h0']
      have hx' : isF s = decide (0 ≤ ixT (flds.drop (k + 1)) s (k + 1)) := by rw [hx, if_neg (Ne.symm h0')]
      simp -implicitDefEqProofs [hB, x_sleuthlaw11_isField_l0, h0, h3, h4, hlen, hlt, hk, hp, hld, hb']
      refine K _ _ ⟨?_, rfl, hx'⟩
      simp [h0, h3, wrap_up (by omega : k < 100000000000)]
  · rintro B hB s' h' ⟨⟨h0, h3, h4, -⟩, rfl, hx⟩
    rw [List.drop_of_length_le (Nat.le_refl _)] at hx
    have hx' : isF s = false := by rw [hx]; rfl
    have : flds.length = 15 := rfl
    rw [this] at h4
    simp -implicitDefEqProofs [hB, x_sleuthlaw11_isField_l0, h0, h3, h4, hlen, hx']
theorem kd_no (h : H) {s : ByteArray} (hs : isF s = false) : run XP i_span_FieldKind [vs s] h = some (.tup [vi 0, vb false], h) := by
  have h1 := fun h => run_Fields h
  have h2 := fun h => run_Contains h flds s (by decide)
  have h3 : decide (0 ≤ ixT flds s 0) = false := hs
  rw [h3] at h2
  rw [run_eq, xp_span_FieldKind]
  simp -implicitDefEqProofs [x_span_FieldKind, h1, h2]
def sAttr : ByteArray := ⟨#[97, 116, 116, 114]⟩
/-- Another string, or a key where none belongs. -/
theorem vl_no (h : H) (a : SP) {s q : ByteArray} {k : Int} {b : Bool} (hs : s ≠ sAttr) (hk : ∀ h, run XP i_span_FieldKind [vs s] h = some (.tup [vi k, vb b], h)) (hb : b = false ∨ q ≠ ⟨#[]⟩) :
    run XP i_span_View_Value [a.v, vs s, vs q] h = some (.tup [.agg [vi 0, vs ⟨#[]⟩, vi 0], vb false], h) := by
  have e0 : (s.toList == [97, 116, 116, 114]) = false := by
    have : (s.toList == sAttr.toList) = false := by rw [bl_eq]; simpa using hs
    rwa [show sAttr.toList = [97, 116, 116, 114] from by rw [ByteArray.toList_eq]; rfl] at this
  rw [run_eq, xp_span_View_Value]
  cases b with
  | false => simp -implicitDefEqProofs [x_span_View_Value, SP.v, e0, hk]
  | true =>
    have hq : q ≠ ⟨#[]⟩ := by simpa using hb
    have e1 : q.toList.isEmpty = false := by rw [isE, decide_eq_false_iff_not]; exact hq
    simp -implicitDefEqProofs [x_span_View_Value, SP.v, e0, hk, e1]
end Go.Proofs.Sl

namespace Go.Proofs.Sl
def bsW (c : Nat → Int) (i j : Nat) : Nat := if h : i < j then (if c ((i + j) / 2) < 0 then bsW c ((i + j) / 2 + 1) j else bsW c i ((i + j) / 2)) else i
termination_by j - i
decreasing_by all_goals omega
def cAt (ats : List AT) (q : ByteArray) (m : Nat) : Int := match ats[m]? with
  | some e => wrd e.key q
  | none => 0
def posA (ats : List AT) (q : ByteArray) : Nat := bsW (cAt ats q) 0 ats.length
def fndA (ats : List AT) (q : ByteArray) : Bool := decide (posA ats q < ats.length) && (cAt ats q (posA ats q) == 0)
theorem run_place1 (h : H) (a : AT) (q : ByteArray) : run XP i_attribute_place_1 [a.v, vs q] h = some (vi (wrd a.key q), h) := by
  have h1 := fun h => run_cmpT h a.key q
  rw [run_eq, xp_attribute_place_1]
  simp -implicitDefEqProofs [x_attribute_place_1, AT.v, h1]
set_option maxHeartbeats 1000000 in
theorem run_BS (h : H) {v : V} {ats : List AT} (q : ByteArray) (hv : Rd h 4 v (ats.map AT.v)) (hl : ats.length ≤ 10000) :
    run XP i_slices_BinarySearchFunc_api_Attr_api_Attr_string [v, vs q, .fn i_attribute_place_1 [] []] h = some (.tup [vi (posA ats q), vb (fndA ats q)], h) := by
  have hL := hv.toL
  have ha0 := hv.arg0
  rw [run_eq, xp_slices_BinarySearchFunc_api_Attr_api_Attr_string]
  simp -implicitDefEqProofs [x_slices_BinarySearchFunc_api_Attr_api_Attr_string, ha0, hL]
  refine loop_ind (fun p : Nat × Nat => p.2 - p.1) (fun p s h' => h' = h ∧ Sees s [(0, v), (1, vs q), (2, .fn i_attribute_place_1 [] []), (8, vi ats.length), (9, vi p.1), (10, vi p.2)] ∧ p.1 ≤ p.2 ∧ p.2 ≤ ats.length ∧ posA ats q = bsW (cAt ats q) p.1 p.2) ?_ (0, ats.length) _ _ ⟨rfl, by simp, Nat.zero_le _, Nat.le_refl _, rfl⟩
  rintro B f hB hf ⟨i, j⟩ s h' ⟨rfl, ⟨g0, g1, g2, g8, g9, g10, -⟩, hij, hjn, hp⟩ K
  simp only at g9 g10 hij hjn hp K
  rw [bsW] at hp
  by_cases c : i < j
  · rw [dif_pos c] at hp
    have c' : (i : Int) < j := by omega
    obtain ⟨m, hm⟩ : ∃ m, m = (i + j) / 2 := ⟨_, rfl⟩
    rw [← hm] at hp
    obtain ⟨e, he⟩ : ∃ e, ats[m]? = some e := ⟨_, List.getElem?_eq_getElem (by omega)⟩
    obtain ⟨p, hpp, hpl⟩ := hv.at (i := m) (e := e.v) (by simp [he])
    have w1 : IntKind.i64.wrap ((i : Int) + j) = (i : Int) + j := wrap_i64 (by omega) (by omega)
    have w2 : IntKind.u64.wrap ((i : Int) + j) = (i : Int) + j := by rw [wrap_u64]; omega
    have w3 : ((i : Int) + j).fdiv (2 ^ min 1 IntKind.u64.bits) = (m : Int) := by
      show ((i : Int) + j).fdiv 2 = _
      rw [Int.fdiv_eq_ediv_of_nonneg _ (by decide)]
      omega
    have w4 : IntKind.i64.wrap (m : Int) = (m : Int) := wrap_i64 (by omega) (by omega)
    have w5 : IntKind.i64.wrap ((m : Int) + 1) = (m : Int) + 1 := wrap_i64 (by omega) (by omega)
    have hc : cAt ats q m = wrd e.key q := by rw [cAt, he]
    have h1 := fun h => run_place1 h e q
    rw [hc] at hp
    generalize wrd e.key q = z at *
    simp only [AT.v, V.cells] at hpl h1
    by_cases hz : z < 0
    · rw [if_pos hz] at hp
      simp -implicitDefEqProofs [hB, x_slices_BinarySearchFunc_api_Attr_api_Attr_string_l0, g0, g1, g2, g8, g9, g10, c, w1, w2, w3, w4, w5, hpp, hpl, h1, hz]
      refine K (m + 1, j) _ _ (by simp only; omega) ⟨rfl, ?_, by simp only; omega, hjn, hp⟩
      simp [g0, g1, g2, g8, g10]
    · rw [if_neg hz] at hp
      simp -implicitDefEqProofs [hB, x_slices_BinarySearchFunc_api_Attr_api_Attr_string_l0, g0, g1, g2, g8, g9, g10, c, w1, w2, w3, w4, hpp, hpl, h1, hz]
      refine K (i, m) _ _ (by simp only; omega) ⟨rfl, ?_, by simp only; omega, by simp only; omega, hp⟩
      simp [g0, g1, g2, g8, g9]
  · rw [dif_neg c] at hp
    by_cases hn : i < ats.length
    · obtain ⟨e, he⟩ : ∃ e, ats[i]? = some e := ⟨_, List.getElem?_eq_getElem hn⟩
      obtain ⟨p, hpp, hpl⟩ := hv.at (i := i) (e := e.v) (by simp [he])
      have hc : cAt ats q i = wrd e.key q := by rw [cAt, he]
      have hfd : fndA ats q = (wrd e.key q == 0) := by rw [fndA, hp, hc]; simp [hn]
      have h1 := fun h => run_place1 h e q
      rw [hp, hfd]
      generalize wrd e.key q = z at *
      simp only [AT.v, V.cells] at hpl h1
      simp -implicitDefEqProofs [hB, hf, x_slices_BinarySearchFunc_api_Attr_api_Attr_string_l0, g0, g1, g2, g8, g9, g10, c, hn, hpp, hpl, h1]
    · have hfd : fndA ats q = false := by rw [fndA, hp]; simp [hn]
      rw [hp, hfd]
      simp -implicitDefEqProofs [hB, hf, x_slices_BinarySearchFunc_api_Attr_api_Attr_string_l0, g0, g1, g2, g8, g9, g10, c, hn]
theorem run_place (h : H) {v : V} {ats : List AT} (q : ByteArray) (hv : Rd h 4 v (ats.map AT.v)) (hl : ats.length ≤ 10000) : run XP i_attribute_place [v, vs q] h = some (.tup [vi (posA ats q), vb (fndA ats q)], h) := by
  have h1 := run_BS h q hv hl
  have ha0 := hv.arg0
  rw [run_eq, xp_attribute_place]
  simp -implicitDefEqProofs [x_attribute_place, ha0, h1]
def getA (ats : List AT) (q : ByteArray) : AV := if fndA ats q = true then (match ats[posA ats q]? with
  | some e => e.val
  | none => ⟨0, ⟨#[]⟩, 0⟩) else ⟨0, ⟨#[]⟩, 0⟩
theorem run_Get (h : H) {v : V} {ats : List AT} (q : ByteArray) (hv : ∀ h, Rd h 4 v (ats.map AT.v)) (hl : ats.length ≤ 10000) : run XP i_attribute_Get [v, vs q] h = some (.tup [(getA ats q).v, vb (fndA ats q)], h) := by
  have h1 := fun h => run_place h q (hv h) hl
  have ha0 := (hv h).arg0
  rw [run_eq, xp_attribute_Get]
  cases hf : fndA ats q with
  | false =>
    rw [getA, hf]
    rw [hf] at h1
    simp -implicitDefEqProofs [x_attribute_Get, ha0, h1, AV.v]
  | true =>
    have hlt : posA ats q < ats.length := by
      have := hf
      simp only [fndA, Bool.and_eq_true, decide_eq_true_eq] at this
      exact this.1
    obtain ⟨e, he⟩ : ∃ e, ats[posA ats q]? = some e := ⟨_, List.getElem?_eq_getElem hlt⟩
    rw [getA, hf, if_pos rfl, he]
    rw [hf] at h1
    generalize posA ats q = p at *
    have hv0 : v = .lst 4 (ats.map AT.v) := by
      have := hv []
      generalize hg : ats.map AT.v = l at this
      cases this with
      | nil =>
        have : ats = [] := by simpa using hg
        rw [this] at hlt
        simp at hlt
      | lst es => rfl
      | ref n z es e => simp at e
    subst hv0
    have hx : (ats.map AT.v)[p]? = some e.v := by simp [he]
    simp -implicitDefEqProofs [x_attribute_Get, h1, he, AV.v, AT.v]
end Go.Proofs.Sl

namespace Go.Proofs.Sl
/-- What a field has, said by the program and by the law. -/
structure FO (a : SP) (f : ByteArray) (x : AV) : Prop where
  vl : ∀ h, run XP i_span_View_Value [a.v, vs f, vs ⟨#[]⟩] h = some (.tup [x.v, vb true], h)
  lv : ∀ h, run XP i_sleuthlaw11_value [a.v, vs f] h = some (x.v, h)
  kd : ∀ h, run XP i_span_FieldKind [vs f] h = some (.tup [vi x.k, vb true], h)
  ck : chkV x = 0
  sz : x.t.size ≤ 9223372036854775807
theorem chk_int {n : Int} (h : -1099511627776 ≤ n ∧ n ≤ 1099511627776) : chkV ⟨2, ⟨#[]⟩, n⟩ = 0 := by
  have : okV 2 ⟨#[]⟩ n = true := by simp [okV, eS, h.1, h.2]
  simp only [chkV]
  rw [this]
  rfl
theorem chk_flg (b : Bool) : chkV ⟨3, ⟨#[]⟩, flg b⟩ = 0 := by cases b <;> decide +kernel
theorem chk_tbl {l : List ByteArray} (hl : ∀ t ∈ l, chkV ⟨1, t, 0⟩ = 0 ∧ t.size ≤ 100) (n : Nat) : chkV ⟨1, tbl l n, 0⟩ = 0 ∧ (tbl l n).size ≤ 100 := by
  have h0 : chkV ⟨1, ⟨#[]⟩, 0⟩ = 0 ∧ (⟨#[]⟩ : ByteArray).size ≤ 100 := by decide +kernel
  rw [tbl, List.getD_eq_getElem?_getD]
  cases e : l[n]? with
  | none => exact h0
  | some t => exact hl t (List.mem_of_getElem? e)
theorem chk_svs : ∀ t ∈ svs, chkV ⟨1, t, 0⟩ = 0 ∧ t.size ≤ 100 := by decide +kernel
theorem chk_vrs : ∀ t ∈ vrs, chkV ⟨1, t, 0⟩ = 0 ∧ t.size ≤ 100 := by decide +kernel
theorem chk_ops : ∀ t ∈ ops, chkV ⟨1, t, 0⟩ = 0 ∧ t.size ≤ 100 := by decide +kernel
theorem chk_kNs : ∀ t ∈ kNs, chkV ⟨1, t, 0⟩ = 0 ∧ t.size ≤ 100 := by decide +kernel
theorem fo_all (m : MK) (hm : m.Ok) : ∀ f ∈ flds, ∃ x, FO m.sp f x := by
  obtain ⟨t, i, p, r, c, k, s, v, o, st, lo, tg, lk, fl⟩ := m
  have hm := hm.a
  simp only [List.mem_cons, List.not_mem_nil, or_false, forall_eq_or_imp, forall_eq] at hm
  obtain ⟨m0, m1, m2, m3, m4, m5, m6, m7, m8, m9, mA, mB, mC⟩ := hm
  generalize ha : MK.sp ⟨t, i, p, r, c, k, s, v, o, st, lo, tg, lk, fl⟩ = a
  have z0 : (⟨#[]⟩ : ByteArray).size ≤ 9223372036854775807 := by decide
  have b1 : a.tr = ((t % 3 * 1048576 + 1 + t / 3 % 4 : Nat) : Int) := by rw [← ha]; rfl
  have b2 : a.id = ((1 + i % 4 : Nat) : Int) := by rw [← ha]; rfl
  have b3 : a.par = ((p % 5 : Nat) : Int) := by rw [← ha]; rfl
  have b4 : a.rev = ((r % 3 : Nat) : Int) := by rw [← ha]; rfl
  have b5 : a.clk = ((1 + c % 3 : Nat) : Int) := by rw [← ha]; rfl
  have b6 : a.kind = ((1 + k % 5 : Nat) : Int) := by rw [← ha]; rfl
  have b7 : a.sv = tbl svs (s % 3) := by rw [← ha]; rfl
  have b8 : a.vr = tbl vrs (v % 3) := by rw [← ha]; rfl
  have b9 : a.op = tbl ops (o % 2) := by rw [← ha]; rfl
  have b10 : a.st = (st : Int) - 50 := by rw [← ha]; rfl
  have b11 : a.en = (st : Int) - 50 + ((lo % 40 : Nat) : Int) := by rw [← ha]; rfl
  have hsl : a.tr.fdiv 1048576 = ((t % 3 : Nat) : Int) := by rw [← ha]; exact MK.slot _
  have hsl2 : IntKind.i64.wrap (a.tr.tdiv 1048576) = ((t % 3 : Nat) : Int) := by
    rw [b1, show (1048576 : Int) = ((1048576 : Nat) : Int) from rfl, tdivN, wrap_i64 (by omega) (by omega)]
    omega
  have hdu : IntKind.i64.wrap (a.en - a.st) = ((lo % 40 : Nat) : Int) := by
    rw [b10, b11, wrap_i64 (by omega) (by omega)]
    omega
  have hsv := chk_tbl chk_svs (s % 3)
  have hvr := chk_tbl chk_vrs (v % 3)
  have hop := chk_tbl chk_ops (o % 2)
  obtain ⟨q, hq⟩ : ∃ q, kNs[k % 5]? = some q := ⟨_, List.getElem?_eq_getElem (by simp only [kNs, List.length_cons, List.length_nil]; omega)⟩
  have hq2 := chk_kNs q (List.mem_of_getElem? hq)
  have hk : a.kind = ((k % 5 : Nat) : Int) + 1 := by rw [b6]; omega
  rw [flds_eq]
  simp only [List.mem_cons, List.not_mem_nil, or_false, forall_eq_or_imp, forall_eq]
  refine ⟨?_, ?_, ?_, ?_, ?_, ?_, ?_, ?_, ?_, ?_, ?_, ?_, ?_, ?_, ?_⟩
  · exact ⟨⟨2, ⟨#[]⟩, a.clk⟩, fun h => vl_clock h a, fun h => lv_clock h a, fun h => kd_clock h, chk_int (by omega), z0⟩
  · exact ⟨⟨2, ⟨#[]⟩, IntKind.i64.wrap (a.en - a.st)⟩, fun h => vl_duration h a, fun h => lv_duration h a, fun h => kd_duration h, chk_int (by rw [hdu]; omega), z0⟩
  · exact ⟨⟨2, ⟨#[]⟩, a.en⟩, fun h => vl_end h a, fun h => lv_end h a, fun h => kd_end h, chk_int (by omega), z0⟩
  · exact ⟨⟨3, ⟨#[]⟩, _⟩, fun h => vl_error h a, fun h => lv_error h a, fun h => kd_error h, chk_flg _, z0⟩
  · exact ⟨⟨2, ⟨#[]⟩, a.id⟩, fun h => vl_id h a, fun h => lv_id h a, fun h => kd_id h, chk_int (by omega), z0⟩
  · exact ⟨⟨1, q, 0⟩, fun h => vl_kind h a hq hk, fun h => lv_kind h a hq hk, fun h => kd_kind h, hq2.1, by have := hq2.2; show q.size ≤ _; omega⟩
  · exact ⟨⟨1, a.op, 0⟩, fun h => vl_operation h a, fun h => lv_operation h a, fun h => kd_operation h, by rw [b9]; exact hop.1, by show a.op.size ≤ _; rw [b9]; have := hop.2; omega⟩
  · exact ⟨⟨2, ⟨#[]⟩, a.par⟩, fun h => vl_parent h a, fun h => lv_parent h a, fun h => kd_parent h, chk_int (by omega), z0⟩
  · exact ⟨⟨2, ⟨#[]⟩, a.rev⟩, fun h => vl_revision h a, fun h => lv_revision h a, fun h => kd_revision h, chk_int (by omega), z0⟩
  · exact ⟨⟨3, ⟨#[]⟩, _⟩, fun h => vl_root h a, fun h => lv_root h a, fun h => kd_root h, chk_flg _, z0⟩
  · exact ⟨⟨1, a.sv, 0⟩, fun h => vl_service h a, fun h => lv_service h a, fun h => kd_service h, by rw [b7]; exact hsv.1, by show a.sv.size ≤ _; rw [b7]; have := hsv.2; omega⟩
  · exact ⟨⟨2, ⟨#[]⟩, a.tr.fdiv 1048576⟩, fun h => vl_slot h a, fun h => by rw [lv_slot h a, hsl2, hsl]; rfl, fun h => kd_slot h, chk_int (by omega), z0⟩
  · exact ⟨⟨2, ⟨#[]⟩, a.st⟩, fun h => vl_start h a, fun h => lv_start h a, fun h => kd_start h, chk_int (by omega), z0⟩
  · exact ⟨⟨2, ⟨#[]⟩, a.tr⟩, fun h => vl_trace h a, fun h => lv_trace h a, fun h => kd_trace h, chk_int (by omega), z0⟩
  · exact ⟨⟨1, a.vr, 0⟩, fun h => vl_version h a, fun h => lv_version h a, fun h => kd_version h, by rw [b8]; exact hvr.1, by show a.vr.size ≤ _; rw [b8]; have := hvr.2; omega⟩
end Go.Proofs.Sl

