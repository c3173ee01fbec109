/- A part of the proof. -/
import Derived.Laws.Strings
import Derived.Sort.AssemblyPlain
import Derived.Test.YtaepkcjcmejfcaaSlS
import Derived.Test.YtaepkcjcmejfcaaSlP
set_option linter.unusedVariables false
set_option linter.unusedSimpArgs false
set_option linter.unnecessarySimpa false
namespace Go.Proofs.Sl

/-! ### Whole numbers -/
theorem wrap_u8 (n : Int) : IntKind.u8.wrap n = n % 256 := rfl
theorem wrap_i64 {n : Int} (h1 : -9223372036854775808 ≤ n) (h2 : n ≤ 9223372036854775807) : IntKind.i64.wrap n = n := by
  have e : IntKind.i64.wrap n = if n % 18446744073709551616 ≥ 9223372036854775808 then n % 18446744073709551616 - 18446744073709551616 else n % 18446744073709551616 := by
    simp [IntKind.wrap, IntKind.bits, IntKind.signed]
  rw [e]
  split <;> omega

/-! ### Bytes -/
/-- k digits to the base 256, the greatest first. -/
def dig (m : Nat) : Nat → List Nat
  | 0 => []
  | k + 1 => m / 256 ^ k % 256 :: dig m k
/-- How many bytes a number has. -/
def blen (m : Nat) : Nat := if h : m = 0 then 0 else blen (m / 256) + 1
termination_by m
decreasing_by omega

theorem blen_zero : blen 0 = 0 := by unfold blen; simp
theorem blen_pos {m : Nat} (h : m ≠ 0) : blen m = blen (m / 256) + 1 := by conv => lhs; unfold blen; simp [h]

/-- A digit, turned over where the number is less than zero. -/
def flipB (neg : Bool) (d : Nat) : UInt8 := UInt8.ofNat (if neg = true then 255 - d else d)
/-- The form of a number. -/
def fNum (n : Int) : List UInt8 := (if n < 0 then UInt8.ofNat (128 - blen n.natAbs) else UInt8.ofNat (128 + blen n.natAbs)) :: (dig n.natAbs (blen n.natAbs)).map (flipB (decide (n < 0)))
/-- An int. -/
def Rng (n : Int) : Prop := -9223372036854775808 ≤ n ∧ n ≤ 9223372036854775807
end Go.Proofs.Sl

namespace Go.Proofs.Sl

/-- The bytes of a text. -/
def bts (s : ByteArray) : List UInt8 := s.data.toList
theorem bts_length (s : ByteArray) : (bts s).length = s.size := by rw [bts, Array.length_toList]; rfl
/-- A list of ints. -/
def il (l : List Int) : List V := l.map vi
/-! ### Values of api's types -/
/-- A value. -/
structure AV where
  k : Int
  t : ByteArray
  n : Int
def AV.v (a : AV) : V := .agg [vi a.k, vs a.t, vi a.n]
structure AV.Ok (a : AV) : Prop where
  k : Rng a.k
  t : a.t.size ≤ 5000
  n : Rng a.n
/-- An attribute. -/
structure AT where
  key : ByteArray
  val : AV
def AT.v (a : AT) : V := .agg [vs a.key, vi a.val.k, vs a.val.t, vi a.val.n]
structure AT.Ok (a : AT) : Prop where
  key : a.key.size ≤ 5000
  val : a.val.Ok
/-- A reference. -/
structure RF where
  t : Int
  i : Int
def RF.v (a : RF) : V := .agg [vi a.t, vi a.i]
structure RF.Ok (a : RF) : Prop where
  t : Rng a.t
  i : Rng a.i
/-- An exchange. -/
structure EX where
  fr : Int
  to : Int
  sent : Int
  rcv : Int
  least : Int
def EX.v (a : EX) : V := .agg [vi a.fr, vi a.to, vi a.sent, vi a.rcv, vi a.least]
structure EX.Ok (a : EX) : Prop where
  fr : Rng a.fr
  to : Rng a.to
  sent : Rng a.sent
  rcv : Rng a.rcv
  least : Rng a.least
/-- A message: its kind, two references, an exchange. -/
structure MS where
  k : Int
  a : RF
  b : RF
  x : EX
def MS.v (a : MS) : V := .agg [vi a.k, vi a.a.t, vi a.a.i, vi a.b.t, vi a.b.i, vi a.x.fr, vi a.x.to, vi a.x.sent, vi a.x.rcv, vi a.x.least]
structure MS.Ok (m : MS) : Prop where
  k : Rng m.k
  a : m.a.Ok
  b : m.b.Ok
  x : m.x.Ok
end Go.Proofs.Sl

namespace Go.Proofs.Sl

end Go.Proofs.Sl

namespace Go.Proofs.Sl

/-- A span. -/
structure SP where
  tr : Int
  id : Int
  par : Int
  rev : Int
  clk : Int
  kind : Int
  sv : ByteArray
  vr : ByteArray
  op : ByteArray
  st : Int
  en : Int
  er : Bool
  ats : List AT
  lks : List RF
  /-- the two slices: nil or not -/
  an : Bool
  ln : Bool
/-- A slice of these elements: nil if so marked. -/
def slc {α : Type} (v : α → V) (l : List α) (n : Bool) : Option (List V) := if n = true then none else some (l.map v)
def SP.v (a : SP) : V := .agg [vi a.tr, vi a.id, vi a.par, vi a.rev, vi a.clk, vi a.kind, vs a.sv, vs a.vr, vs a.op, vi a.st, vi a.en, vb a.er, lv 4 (slc AT.v a.ats a.an), lv 2 (slc RF.v a.lks a.ln)]
structure SP.Ok (a : SP) : Prop where
  n : ∀ n ∈ [a.tr, a.id, a.par, a.rev, a.clk, a.kind, a.st, a.en], Rng n
  sv : a.sv.size ≤ 5000
  vr : a.vr.size ≤ 5000
  op : a.op.size ≤ 5000
  ats : ∀ e ∈ a.ats, e.Ok
  lks : ∀ e ∈ a.lks, e.Ok
  al : a.ats.length ≤ 1000
  ll : a.lks.length ≤ 1000
  an : a.an = true → a.ats = []
  ln : a.ln = true → a.lks = []
theorem slc_getD {α : Type} {v : α → V} {l : List α} {n : Bool} (h : n = true → l = []) : (slc v l n).getD [] = l.map v := by
  cases n with
  | true => rw [h rfl]; rfl
  | false => rfl
end Go.Proofs.Sl

namespace Go.Proofs.Sl

end Go.Proofs.Sl

namespace Go.Proofs.Sl

end Go.Proofs.Sl

namespace Go.Proofs.Sl

/-- A reader: its text, its offset, its first error. -/
def rd (s : ByteArray) (a : Nat) (e : Int) : O := .box false [vs s, vi a, vi e]

end Go.Proofs.Sl

namespace Go.Proofs.Sl

theorem Rng.zero : Rng 0 := ⟨by decide, by decide⟩

section
variable {h t : H} {l : Nat} {s : ByteArray} {a : Nat} {e : Int}
end
end Go.Proofs.Sl

namespace Go.Proofs.Sl
section
variable {h t : H} {l : Nat} {s : ByteArray} {a : Nat} {e : Int}
theorem bone {n : Int} (h1 : 0 < n) (h2 : n < 256) : blen n.natAbs = 1 := by
  have : n.natAbs / 256 = 0 := by omega
  rw [blen_pos (by omega), this, blen_zero]
theorem b3 : fNum 3 = [129, 3] := by
  unfold fNum
  rw [bone (by decide) (by decide)]
  decide +kernel
theorem b1 : fNum 1 = [129, 1] := by
  unfold fNum
  rw [bone (by decide) (by decide)]
  decide +kernel
theorem b0 : fNum 0 = [128] := by
  have : blen (Int.natAbs 0) = 0 := blen_zero
  unfold fNum
  rw [this]
  decide +kernel

end
end Go.Proofs.Sl

namespace Go.Proofs.Sl

/-- At the first place where they differ u has the lesser byte. -/
def Cut (u v : List UInt8) : Prop := ∃ p a b x y, u = p ++ a :: x ∧ v = p ++ b :: y ∧ a < b
theorem Cut.take {u v : List UInt8} (h : Cut u v) : u.take (min u.length v.length) ≠ v.take (min u.length v.length) := by
  obtain ⟨p, a, b, x, y, rfl, rfl, hab⟩ := h
  intro e
  have e1 := congrArg (·[p.length]?) e
  simp only [List.getElem?_take] at e1
  rw [if_pos (by simp), if_pos (by simp)] at e1
  simp at e1
  subst e1
  exact absurd hab (by simp)

theorem toList_ofList (l : List UInt8) : (⟨l.toArray⟩ : ByteArray).toList = l := by
  rw [ByteArray.toList_eq]
theorem size_ofList (l : List UInt8) : (⟨l.toArray⟩ : ByteArray).size = l.length := by
  show l.toArray.size = _
  simp
theorem less_self : ∀ l : List UInt8, Op.bytesLess l l = false
  | [] => rfl
  | a :: l => by simp [Op.bytesLess, less_self l]
end Go.Proofs.Sl

namespace Go.Proofs.Sl

end Go.Proofs.Sl

namespace Go.Proofs.Sl

end Go.Proofs.Sl

namespace Go.Proofs.Sl
end Go.Proofs.Sl

namespace Go.Proofs.Sl
end Go.Proofs.Sl

namespace Go.Proofs.Sl
/-- A text of these bytes. -/
def tx (l : List UInt8) : V := vs ⟨l.toArray⟩
theorem tx_plain (a : List UInt8) : (tx a).plain = true := Eq.trans rfl rfl
theorem lenT_tx (a : List UInt8) : lenT (tx a) = some (vi a.length) := by simp [tx, size_ofList]
theorem eql_tx (a b : List UInt8) : xbin .eql (tx a) (tx b) = some (vb (a == b)) := by simp [tx, strOp, toList_ofList]
theorem neq_tx (a b : List UInt8) : xbin .neq (tx a) (tx b) = some (vb (!(a == b))) := by simp [tx, strOp, toList_ofList]
attribute [simp] lenT_tx eql_tx neq_tx tx_plain
end Go.Proofs.Sl

namespace Go.Proofs.Sl

end Go.Proofs.Sl

namespace Go.Proofs.Sl
/-- A part: what is to be written. -/
structure PT where
  k : Int
  n0 : Int
  n1 : Int
  n2 : Int
  n3 : Int
  n4 : Int
  n5 : Int
  n6 : Int
  n7 : Int
  key : ByteArray
  s : ByteArray
def PT.v (p : PT) : V := .agg [vk .u8 p.k, vi p.n0, vi p.n1, vi p.n2, vi p.n3, vi p.n4, vi p.n5, vi p.n6, vi p.n7, vs p.key, vs p.s]
structure PT.Ok (p : PT) : Prop where
  k0 : 0 ≤ p.k
  k1 : p.k ≤ 255
  n0 : Rng p.n0
  n1 : Rng p.n1
  n2 : Rng p.n2
  n3 : Rng p.n3
  n4 : Rng p.n4
  n5 : Rng p.n5
  n6 : Rng p.n6
  n7 : Rng p.n7
  key : p.key.size ≤ 5000
  s : p.s.size ≤ 5000
def PT.av (p : PT) : AV := ⟨p.n0, p.s, p.n1⟩
def PT.at (p : PT) : AT := ⟨p.key, p.av⟩
def PT.rf (p : PT) : RF := ⟨p.n0, p.n1⟩
def PT.sp (p : PT) : SP := ⟨p.n0, p.n1, p.n2, p.n3, p.n4, p.n5, p.key, p.s, p.key, p.n6, p.n7, decide (p.n0 > 0), [p.at], [p.rf, p.rf], false, false⟩
theorem PT.Ok.av {p : PT} (h : p.Ok) : p.av.Ok := ⟨h.n0, h.s, h.n1⟩
theorem PT.Ok.at {p : PT} (h : p.Ok) : p.at.Ok := ⟨h.key, h.av⟩
theorem PT.Ok.rf {p : PT} (h : p.Ok) : p.rf.Ok := ⟨h.n0, h.n1⟩
theorem PT.Ok.sp {p : PT} (h : p.Ok) : p.sp.Ok where
  n := by
    intro n hn
    simp [PT.sp] at hn
    rcases hn with rfl | rfl | rfl | rfl | rfl | rfl | rfl | rfl
    · exact h.n0
    · exact h.n1
    · exact h.n2
    · exact h.n3
    · exact h.n4
    · exact h.n5
    · exact h.n6
    · exact h.n7
  sv := h.key
  vr := h.s
  op := h.key
  ats := by
    intro e he
    simp [PT.sp] at he
    rw [he]
    exact h.at
  lks := by
    intro e he
    simp [PT.sp] at he
    rw [he]
    exact h.rf
  al := by simp [PT.sp]
  ll := by simp [PT.sp]
  an := by simp [PT.sp]
  ln := by simp [PT.sp]
end Go.Proofs.Sl

namespace Go.Proofs.Sl

section
variable {h t : H} {l : Nat} {s : ByteArray} {a : Nat} {e : Int}
end
end Go.Proofs.Sl

namespace Go.Proofs.Sl

def plains (cs : List V) : Prop := ∀ c ∈ cs, c.plain = true
theorem plains.set {cs : List V} (h : plains cs) (j : Nat) {v : V} (hv : v.plain = true) : plains (cs.set j v) := by
  intro c hc
  rcases List.mem_or_eq_of_mem_set hc with hc | rfl
  · exact h c hc
  · exact hv

section
variable {s : ByteArray}
end
end Go.Proofs.Sl

namespace Go.Proofs.Sl
def AV.z : AV := ⟨0, ⟨#[]⟩, 0⟩
def AT.z : AT := ⟨⟨#[]⟩, AV.z⟩
def RF.z : RF := ⟨0, 0⟩
def EX.z : EX := ⟨0, 0, 0, 0, 0⟩
def MS.z : MS := ⟨0, RF.z, RF.z, EX.z⟩
section
variable {h t : H} {l : Nat} {s : ByteArray} {a : Nat} {e : Int}
end
end Go.Proofs.Sl

namespace Go.Proofs.Sl
section
variable {h t : H} {l : Nat} {s : ByteArray} {a : Nat} {e : Int}
end

theorem closeds_AT : ∀ l : List AT, V.closed.closeds (l.map AT.v) = true
  | [] => rfl
  | x :: l => by simp [AT.v, closeds_AT l]
theorem closeds_RF : ∀ l : List RF, V.closed.closeds (l.map RF.v) = true
  | [] => rfl
  | x :: l => by simp [RF.v, closeds_RF l]
end Go.Proofs.Sl

namespace Go.Proofs.Sl
def SP.z : SP := ⟨0, 0, 0, 0, 0, 0, ⟨#[]⟩, ⟨#[]⟩, ⟨#[]⟩, 0, 0, false, [], [], true, true⟩
section
variable {h t : H} {l : Nat} {s : ByteArray} {a : Nat} {e : Int}

end
end Go.Proofs.Sl

namespace Go.Proofs.Sl
end Go.Proofs.Sl

namespace Go.Proofs.Sl
theorem closeds_SP : ∀ l : List SP, V.closed.closeds (l.map SP.v) = true
  | [] => rfl
  | x :: l => by simp [SP.v, closeds_SP l]
/-- A fragment, a trace. -/
structure FR where
  ag : Int
  sq : Int
  sps : List SP
  exs : List EX
  sn : Bool
  xn : Bool
def FR.v (a : FR) : V := .agg [vi a.ag, vi a.sq, lv 14 (slc SP.v a.sps a.sn), lv 5 (slc EX.v a.exs a.xn)]
structure FR.Ok (a : FR) : Prop where
  ag : Rng a.ag
  sq : Rng a.sq
  sps : ∀ e ∈ a.sps, e.Ok
  exs : ∀ e ∈ a.exs, e.Ok
  sl : a.sps.length ≤ 1000
  xl : a.exs.length ≤ 1000
  sn : a.sn = true → a.sps = []
  xn : a.xn = true → a.exs = []
structure TC where
  id : Int
  wt : Int
  sps : List SP
  sn : Bool
def TC.v (a : TC) : V := .agg [vi a.id, vi a.wt, lv 14 (slc SP.v a.sps a.sn)]
structure TC.Ok (a : TC) : Prop where
  id : Rng a.id
  wt : Rng a.wt
  sps : ∀ e ∈ a.sps, e.Ok
  sl : a.sps.length ≤ 1000
  sn : a.sn = true → a.sps = []
def FR.z : FR := ⟨0, 0, [], [], true, true⟩
def TC.z : TC := ⟨0, 0, [], true⟩

end Go.Proofs.Sl

namespace Go.Proofs.Sl

theorem drop_at {α : Type} {l : List α} {k : Nat} {e : α} (h : l[k]? = some e) : l.drop k = e :: l.drop (k + 1) := by
  obtain ⟨hk, he⟩ := List.getElem?_eq_some_iff.1 h
  rw [List.drop_eq_getElem_cons hk, he]
theorem take_at {α : Type} {l : List α} {k : Nat} {e : α} (h : l[k]? = some e) : l.take (k + 1) = l.take k ++ [e] := by
  rw [List.take_add_one, h]; rfl
theorem wrap_up {k : Nat} (h : k < 100000000000) : IntKind.i64.wrap ((k : Int) + 1) = (k : Int) + 1 := wrap_i64 (by omega) (by omega)
theorem il_at {vs : List Int} {k : Nat} {e : Int} (h : vs[k]? = some e) : (il vs)[k]? = some (vi e) := by simp [il, h]
theorem il_length (vs : List Int) : (il vs).length = vs.length := by simp [il]

end Go.Proofs.Sl

namespace Go.Proofs.Sl
open Go
/-! ### bytesLess is an order -/
theorem less_nil (x : List UInt8) : Op.bytesLess x [] = false := by cases x <;> rfl
theorem less_trans : ∀ {x y z : List UInt8}, Op.bytesLess x y = true → Op.bytesLess y z = true → Op.bytesLess x z = true
  | _, [], _, h, _ => by rw [less_nil] at h; cases h
  | _, _ :: _, [], _, h => by rw [less_nil] at h; cases h
  | [], _ :: _, _ :: _, _, _ => rfl
  | a :: x, b :: y, c :: z, h, k => by
    simp only [Op.bytesLess, Bool.or_eq_true, Bool.and_eq_true, decide_eq_true_eq, beq_iff_eq] at h k ⊢
    rcases h with h | ⟨rfl, h⟩ <;> rcases k with k | ⟨rfl, k⟩
    · exact .inl (UInt8.lt_trans h k)
    · exact .inl h
    · exact .inl k
    · exact .inr ⟨rfl, less_trans h k⟩
theorem less_total : ∀ (x y : List UInt8), Op.bytesLess x y = false → Op.bytesLess y x = false → x = y
  | [], [], _, _ => rfl
  | [], _ :: _, h, _ => by cases h
  | _ :: _, [], _, h => by cases h
  | a :: x, b :: y, h, k => by
    simp only [Op.bytesLess, Bool.or_eq_false_iff, decide_eq_false_iff_not, Bool.and_eq_false_iff, beq_eq_false_iff_ne] at h k
    have hab : a = b := UInt8.le_antisymm (UInt8.not_lt.1 k.1) (UInt8.not_lt.1 h.1)
    subst hab
    rw [less_total x y (by rcases h.2 with h | h; exact absurd rfl h; exact h) (by rcases k.2 with h | h; exact absurd rfl h; exact h)]
theorem less_asymm {x y : List UInt8} (h : Op.bytesLess x y = true) : Op.bytesLess y x = false := by
  cases k : Op.bytesLess y x with
  | false => rfl
  | true => have := less_trans h k; rw [less_self] at this; cases this

/-! ### Three ways -/
def sgn (a b : Int) : Int := if a < b then -1 else if b < a then 1 else 0
def wrd (a b : ByteArray) : Int := if Op.bytesLess a.toList b.toList = true then -1 else if Op.bytesLess b.toList a.toList = true then 1 else 0
/-- The first one that is not 0. -/
def orl : List Int → Int
  | [] => 0
  | n :: l => if n ≠ 0 then n else orl l
theorem orl_append (a b : List Int) : orl (a ++ b) = if orl a ≠ 0 then orl a else orl b := by
  induction a with
  | nil => simp [orl]
  | cons n a ih =>
    simp only [List.cons_append, orl, ih]
    by_cases h : n = 0 <;> simp [h]

/-- A total order, told three ways. -/
structure Cm {α : Type} (f : α → α → Int) : Prop where
  anti : ∀ x y, f y x = -f x y
  trans : ∀ x y z, f x y ≤ 0 → f y z ≤ 0 → f x z ≤ 0
section
variable {α β : Type} {f g : α → α → Int}
theorem Cm.self (c : Cm f) (x : α) : f x x = 0 := by have := c.anti x x; omega
theorem Cm.lt_of_lt_le (c : Cm f) {x y z : α} (h : f x y < 0) (k : f y z ≤ 0) : f x z < 0 := by
  have h1 := c.trans x y z (by omega) k
  rcases Int.lt_or_eq_of_le h1 with h2 | h2
  · exact h2
  · have h3 := c.trans y z x k (by rw [c.anti x z]; omega)
    rw [c.anti x y] at h3
    omega
theorem Cm.lt_of_le_lt (c : Cm f) {x y z : α} (h : f x y ≤ 0) (k : f y z < 0) : f x z < 0 := by
  have h1 := c.trans x y z h (by omega)
  rcases Int.lt_or_eq_of_le h1 with h2 | h2
  · exact h2
  · have h3 := c.trans z x y (by rw [c.anti x z]; omega) h
    rw [c.anti y z] at h3
    omega
theorem Cm.eq_trans (c : Cm f) {x y z : α} (h : f x y = 0) (k : f y z = 0) : f x z = 0 := by
  have h1 := c.trans x y z (by omega) (by omega)
  have h2 := c.trans z y x (by rw [c.anti y z]; omega) (by rw [c.anti x y]; omega)
  rw [c.anti x z] at h2
  omega
theorem Cm.key {f : β → β → Int} (c : Cm f) (k : α → β) : Cm fun x y => f (k x) (k y) := ⟨fun x y => c.anti _ _, fun x y z => c.trans _ _ _⟩
theorem Cm.zero : Cm fun (_ _ : α) => (0 : Int) := ⟨fun _ _ => rfl, fun _ _ _ _ _ => Int.le_refl _⟩
/-- One, then the other one. -/
theorem Cm.lex (c : Cm f) (d : Cm g) : Cm fun x y => if f x y ≠ 0 then f x y else g x y where
  anti := fun x y => by
    rw [c.anti x y, d.anti x y]
    by_cases h : f x y = 0 <;> simp [h]
  trans := fun x y z h k => by
    by_cases h1 : f x y = 0 <;> by_cases h2 : f y z = 0
    · rw [if_neg (by simpa using h1)] at h
      rw [if_neg (by simpa using h2)] at k
      rw [if_neg (by simpa using c.eq_trans h1 h2)]
      exact d.trans _ _ _ h k
    · rw [if_pos h2] at k
      have := c.lt_of_le_lt (x := x) (y := y) (z := z) (by omega) (by omega)
      rw [if_pos (by omega)]
      omega
    · rw [if_pos h1] at h
      have := c.lt_of_lt_le (x := x) (y := y) (z := z) (by omega) (by omega)
      rw [if_pos (by omega)]
      omega
    · rw [if_pos h1] at h
      rw [if_pos h2] at k
      have := c.lt_of_lt_le (x := x) (y := y) (z := z) (by omega) (by omega)
      rw [if_pos (by omega)]
      omega
theorem Cm.orl_nil : Cm fun (_ _ : α) => orl [] := Cm.zero
theorem Cm.orl_cons {fs : List (α → α → Int)} (c : Cm f) (d : Cm fun x y => orl (fs.map fun g => g x y)) : Cm fun x y => orl ((f :: fs).map fun g => g x y) := by
  have := c.lex d
  simpa only [List.map_cons, orl] using this
end
theorem sgn_cm : Cm sgn where
  anti := fun x y => by unfold sgn; split <;> split <;> omega
  trans := fun x y z h k => by unfold sgn at *; split at h <;> split at k <;> (try split at h) <;> (try split at k) <;> split <;> (try split) <;> omega
theorem wrd_cm : Cm wrd where
  anti := fun x y => by
    unfold wrd
    cases h : Op.bytesLess x.toList y.toList <;> cases k : Op.bytesLess y.toList x.toList <;> simp
    have := less_asymm h
    rw [k] at this
    cases this
  trans := fun x y z h k => by
    have key : ∀ a b : ByteArray, wrd a b ≤ 0 ↔ Op.bytesLess b.toList a.toList = false := fun a b => by
      unfold wrd
      cases h : Op.bytesLess a.toList b.toList <;> cases k : Op.bytesLess b.toList a.toList <;> simp
      have := less_asymm h
      rw [k] at this
      cases this
    rw [key] at h k ⊢
    cases e : Op.bytesLess z.toList x.toList with
    | false => rfl
    | true =>
      cases e1 : Op.bytesLess x.toList y.toList with
      | true => rw [less_trans e e1] at k; cases k
      | false =>
        have := less_total _ _ e1 h
        rw [this] at e
        rw [e] at k
        cases k
theorem sgn_zero {a b : Int} : sgn a b = 0 ↔ a = b := by unfold sgn; split <;> (try split) <;> omega
/-- Lists, one element after another; the shorter one comes first. -/
def lexc {α : Type} (f : α → α → Int) : List α → List α → Int
  | [], [] => 0
  | [], _ :: _ => -1
  | _ :: _, [] => 1
  | a :: r, b :: s => if f a b ≠ 0 then f a b else lexc f r s
theorem lexc_anti {α : Type} {f : α → α → Int} (c : Cm f) : ∀ x y : List α, lexc f y x = -lexc f x y
  | [], [] => rfl
  | [], _ :: _ => rfl
  | _ :: _, [] => rfl
  | a :: x, b :: y => by
    simp only [lexc]
    rw [c.anti a b, lexc_anti c x y]
    by_cases h : f a b = 0 <;> simp [h]
theorem lexc_trans {α : Type} {f : α → α → Int} (c : Cm f) : ∀ x y z : List α, lexc f x y ≤ 0 → lexc f y z ≤ 0 → lexc f x z ≤ 0
  | [], _, [], _, _ => by simp [lexc]
  | [], _, _ :: _, _, _ => by simp [lexc]
  | _ :: _, [], _, h, _ => by simp [lexc] at h
  | _, _ :: _, [], _, h => by simp [lexc] at h
  | a :: x, b :: y, d :: z, h, k => by
    simp only [lexc] at h k ⊢
    by_cases h1 : f a b = 0 <;> by_cases h2 : f b d = 0
    · rw [if_neg (by simpa using h1)] at h
      rw [if_neg (by simpa using h2)] at k
      rw [if_neg (by simpa using c.eq_trans h1 h2)]
      exact lexc_trans c _ _ _ h k
    · rw [if_pos h2] at k
      have := c.lt_of_le_lt (x := a) (y := b) (z := d) (by omega) (by omega)
      rw [if_pos (by omega)]
      omega
    · rw [if_pos h1] at h
      have := c.lt_of_lt_le (x := a) (y := b) (z := d) (by omega) (by omega)
      rw [if_pos (by omega)]
      omega
    · rw [if_pos h1] at h
      rw [if_pos h2] at k
      have := c.lt_of_lt_le (x := a) (y := b) (z := d) (by omega) (by omega)
      rw [if_pos (by omega)]
      omega
theorem lexc_cm {α : Type} {f : α → α → Int} (c : Cm f) : Cm (lexc f) := ⟨lexc_anti c, lexc_trans c⟩
/-! ### Records -/
def flg (b : Bool) : Int := if b = true then 1 else 0
def cmpV (a b : AV) : Int := orl [sgn a.k b.k, wrd a.t b.t, sgn a.n b.n]
def cmpA (a b : AT) : Int := orl [wrd a.key b.key, cmpV a.val b.val]
def cmpR (a b : RF) : Int := orl [sgn a.t b.t, sgn a.i b.i]
def cmpS (a b : SP) : Int := orl [sgn a.tr b.tr, sgn a.id b.id, sgn a.rev b.rev, sgn a.par b.par, sgn a.clk b.clk, sgn a.kind b.kind, wrd a.sv b.sv, wrd a.vr b.vr, wrd a.op b.op, sgn a.st b.st, sgn a.en b.en, sgn (flg a.er) (flg b.er),
  lexc cmpA a.ats b.ats, lexc cmpR a.lks b.lks]
theorem cmpV_cm : Cm cmpV := Cm.orl_cons (f := fun a b : AV => sgn a.k b.k) (fs := [fun a b : AV => wrd a.t b.t, fun a b : AV => sgn a.n b.n]) (sgn_cm.key _) (Cm.orl_cons (wrd_cm.key _) (Cm.orl_cons (fs := []) (sgn_cm.key _) Cm.orl_nil))
theorem cmpA_cm : Cm cmpA := Cm.orl_cons (f := fun a b : AT => wrd a.key b.key) (fs := [fun a b : AT => cmpV a.val b.val]) (wrd_cm.key _) (Cm.orl_cons (fs := []) (cmpV_cm.key _) Cm.orl_nil)
theorem cmpR_cm : Cm cmpR := Cm.orl_cons (f := fun a b : RF => sgn a.t b.t) (fs := [fun a b : RF => sgn a.i b.i]) (sgn_cm.key _) (Cm.orl_cons (fs := []) (sgn_cm.key _) Cm.orl_nil)
theorem cmpS_cm : Cm cmpS :=
  Cm.orl_cons (f := fun a b : SP => sgn a.tr b.tr) (fs := [fun a b : SP => sgn a.id b.id, fun a b : SP => sgn a.rev b.rev, fun a b : SP => sgn a.par b.par, fun a b : SP => sgn a.clk b.clk, fun a b : SP => sgn a.kind b.kind, fun a b : SP => wrd a.sv b.sv, fun a b : SP => wrd a.vr b.vr, fun a b : SP => wrd a.op b.op,
    fun a b : SP => sgn a.st b.st, fun a b : SP => sgn a.en b.en, fun a b : SP => sgn (flg a.er) (flg b.er), fun a b : SP => lexc cmpA a.ats b.ats, fun a b : SP => lexc cmpR a.lks b.lks]) (sgn_cm.key _)
  (Cm.orl_cons (sgn_cm.key _) (Cm.orl_cons (sgn_cm.key _) (Cm.orl_cons (sgn_cm.key _) (Cm.orl_cons (sgn_cm.key _) (Cm.orl_cons (sgn_cm.key _) (Cm.orl_cons (wrd_cm.key _) (Cm.orl_cons (wrd_cm.key _) (Cm.orl_cons (wrd_cm.key _)
  (Cm.orl_cons (sgn_cm.key _) (Cm.orl_cons (sgn_cm.key _) (Cm.orl_cons (sgn_cm.key fun a : SP => flg a.er) (Cm.orl_cons ((lexc_cm cmpA_cm).key _) (Cm.orl_cons (fs := []) ((lexc_cm cmpR_cm).key _) Cm.orl_nil)))))))))))))
end Go.Proofs.Sl

namespace Go.Proofs.Sl
open Go
theorem noOwn_nil : noOwn [] = true := Eq.trans rfl rfl
attribute [simp] noOwn_nil
theorem bl_eq {a b : ByteArray} : (a.toList == b.toList) = decide (a = b) := by
  by_cases h : a = b
  · subst h; simp
  · have : a.toList ≠ b.toList := fun e => h (by rw [ByteArray.toList_eq, ByteArray.toList_eq] at e; exact ByteArray.ext (Array.ext' e))
    simp [h, this]
theorem bl_ne {a b : ByteArray} (h : Op.bytesLess a.toList b.toList = true) : ¬ a = b := by
  rintro rfl
  rw [less_self] at h
  cases h
/-- greater: neither less nor equal -/
theorem bl_gt (a b : ByteArray) : (!(Op.bytesLess a.toList b.toList || a.toList == b.toList)) = Op.bytesLess b.toList a.toList := by
  cases h : Op.bytesLess a.toList b.toList with
  | true => simp [less_asymm h]
  | false =>
    cases k : Op.bytesLess b.toList a.toList with
    | true => have := bl_ne k; rw [bl_eq]; simp; exact fun e => this e.symm
    | false => rw [less_total _ _ h k]; simp

theorem bl_eq_of {a b : ByteArray} (h : Op.bytesLess a.toList b.toList = false) : (a.toList == b.toList) = !Op.bytesLess b.toList a.toList := by
  have := bl_gt a b
  rw [h, Bool.false_or] at this
  rw [← this, Bool.not_not]

theorem run_isNaN_i (h : H) (a : Int) : run XP i_cmp_isNaN_int [vi a] h = some (vb false, h) := by
  rw [run_eq, xp_cmp_isNaN_int]
  simp -implicitDefEqProofs [x_cmp_isNaN_int]
theorem run_isNaN_s (h : H) (a : ByteArray) : run XP i_cmp_isNaN_string [vs a] h = some (vb false, h) := by
  rw [run_eq, xp_cmp_isNaN_string]
  simp -implicitDefEqProofs [x_cmp_isNaN_string]
theorem run_cmpI (h : H) (a b : Int) : run XP i_cmp_Compare_int [vi a, vi b] h = some (vi (sgn a b), h) := by
  rw [run_eq, xp_cmp_Compare_int]
  have h1 := run_isNaN_i h a
  have h2 := run_isNaN_i h b
  unfold sgn
  by_cases h3 : a < b
  · simp -implicitDefEqProofs [x_cmp_Compare_int, h1, h2, h3]
  · by_cases h4 : b < a <;> simp -implicitDefEqProofs [x_cmp_Compare_int, h1, h2, h3, h4]
theorem run_cmpT (h : H) (a b : ByteArray) : run XP i_cmp_Compare_string [vs a, vs b] h = some (vi (wrd a b), h) := by
  rw [run_eq, xp_cmp_Compare_string]
  have h1 := run_isNaN_s h a
  have h2 := run_isNaN_s h b
  unfold wrd
  cases h3 : Op.bytesLess a.toList b.toList
  · have h5 := bl_eq_of h3
    cases h4 : Op.bytesLess b.toList a.toList
    · rw [h4, Bool.not_false] at h5
      simp -implicitDefEqProofs [x_cmp_Compare_string, h1, h2, h3, h4, h5]
    · rw [h4, Bool.not_true] at h5
      simp -implicitDefEqProofs [x_cmp_Compare_string, h1, h2, h3, h4, h5]
  · simp -implicitDefEqProofs [x_cmp_Compare_string, h1, h2, h3]
theorem run_sign (h : H) (a b : Int) : run XP i_sleuthlaw11_sign [vi a, vi b] h = some (vi (sgn a b), h) := by
  rw [run_eq, xp_sleuthlaw11_sign]
  unfold sgn
  by_cases h3 : a < b
  · simp -implicitDefEqProofs [x_sleuthlaw11_sign, h3]
  · by_cases h4 : b < a <;> simp -implicitDefEqProofs [x_sleuthlaw11_sign, h3, h4]
theorem run_word (h : H) (a b : ByteArray) : run XP i_sleuthlaw11_word [vs a, vs b] h = some (vi (wrd a b), h) := by
  rw [run_eq, xp_sleuthlaw11_word]
  unfold wrd
  cases h3 : Op.bytesLess a.toList b.toList
  · have h5 := bl_eq_of h3
    cases h4 : Op.bytesLess b.toList a.toList
    · rw [h4, Bool.not_false] at h5
      simp -implicitDefEqProofs [x_sleuthlaw11_word, h3, h4, h5]
    · rw [h4, Bool.not_true] at h5
      simp -implicitDefEqProofs [x_sleuthlaw11_word, h3, h4, h5]
  · simp -implicitDefEqProofs [x_sleuthlaw11_word, h3]
theorem run_number (h : H) (b : Bool) : run XP i_span_number [vb b] h = some (vi (flg b), h) := by
  rw [run_eq, xp_span_number]
  cases b <;> simp -implicitDefEqProofs [x_span_number, flg]
theorem run_flag (h : H) (b : Bool) : run XP i_sleuthlaw11_flag [vb b] h = some (vi (flg b), h) := by
  rw [run_eq, xp_sleuthlaw11_flag]
  cases b <;> simp -implicitDefEqProofs [x_sleuthlaw11_flag, flg]

/-- cmp.Or of numbers. -/
theorem run_Or (h : H) (ns : List Int) (hl : ns.length ≤ 10000) : run XP i_cmp_Or_int [.lst 1 (il ns)] h = some (vi (orl ns), h) := by
  have hv : Rd h 1 (.lst 1 (il ns)) (il ns) := .lst _
  rw [run_eq, xp_cmp_Or_int]
  simp -implicitDefEqProofs [x_cmp_Or_int, il_length]
  refine loop_list ns (fun k s h' => Sees s [(3, vi 0), (6, .lst 1 (il ns)), (7, vi ns.length), (8, vi k)] ∧ h' = h ∧ orl ns = orl (ns.drop k)) ?_ ?_ _ _ ⟨by simp, rfl, rfl⟩
  · rintro B f hB hf k e s h' he hk ⟨⟨h3, h6, h7, h8, -⟩, rfl, hx⟩ K
    obtain ⟨p, hp, hld⟩ := hv.at1 (il_at he) rfl
    have hlt : (k : Int) < ns.length := by omega
    rw [drop_at he, orl] at hx
    by_cases h0 : e = 0
    · rw [if_neg (by simpa using h0)] at hx
      simp -implicitDefEqProofs [hB, x_cmp_Or_int_l0, h3, h6, h7, h8, hlt, hp, hld, h0]
      refine K _ _ ⟨?_, rfl, hx⟩
      simp [h3, h6, h7, wrap_up (by omega : k < 100000000000)]
    · rw [if_pos h0] at hx
      have h0' : (e != 0) = true := by simpa using h0
      simp -implicitDefEqProofs [hB, hf, x_cmp_Or_int_l0, h3, h6, h7, h8, hlt, hp, hld, h0', hx]
  · rintro B hB s h' ⟨⟨h3, h6, h7, h8, -⟩, rfl, hx⟩
    simp -implicitDefEqProofs [hB, x_cmp_Or_int_l0, h3, h7, h8, hx, orl]

theorem il_get {l : List Int} {k : Nat} {e : Int} (h : l[k]? = some e) : ∀ hh, (il l)[k]'hh = vi e := fun hh => by
  have := il_at h
  rw [List.getElem?_eq_getElem hh] at this
  injection this
/-- What is said of two cut lists. -/
theorem lexc_at {α : Type} {f : α → α → Int} {x y : List α} {k : Nat} {a b : α} (ha : x[k]? = some a) (hb : y[k]? = some b) : lexc f (x.drop k) (y.drop k) = if f a b ≠ 0 then f a b else lexc f (x.drop (k + 1)) (y.drop (k + 1)) := by
  rw [drop_at ha, drop_at hb, lexc]
theorem lexc_end {α : Type} {f : α → α → Int} {x y : List α} {k : Nat} {a : α} (ha : x[k]? = some a) (hb : y.length ≤ k) : lexc f (x.drop k) (y.drop k) = 1 := by
  rw [drop_at ha, List.drop_of_length_le hb, lexc]
theorem lexc_last {α : Type} {f : α → α → Int} {x y : List α} : lexc f (x.drop x.length) (y.drop x.length) = if x.length < y.length then -1 else 0 := by
  rw [List.drop_of_length_le (Nat.le_refl _)]
  split
  · rename_i h
    rw [List.drop_eq_getElem_cons h, lexc]
  · rename_i h
    rw [List.drop_of_length_le (by omega), lexc]

/-- slices.Compare of two boxes of numbers. -/
theorem run_sCmp {h : H} {l m : Nat} {z z' : Bool} {xs ys : List Int} (hx : h[l]? = some (.box z (il xs))) (hy : h[m]? = some (.box z' (il ys))) (hn : xs.length = ys.length) (hl : xs.length ≤ 1000) :
    run XP i_slices_Compare_int_int [.bref l xs.length, .bref m ys.length] h = some (vi (lexc sgn xs ys), h) := by
  rw [run_eq, xp_slices_Compare_int_int]
  have hb1 : ∀ l : List Int, (il l).map rdCells = il l := fun l => by simp [il]
  simp -implicitDefEqProofs [x_slices_Compare_int_int, il_length, hx, hy, hb1]
  refine loop_list xs (fun k s h' => Sees s [(0, .bref l xs.length), (1, .bref m ys.length), (9, .bref l xs.length), (10, vi xs.length), (11, vi k)] ∧ h' = h ∧ lexc sgn xs ys = lexc sgn (xs.drop k) (ys.drop k)) ?_ ?_ _ _ ⟨by simp, rfl, rfl⟩
  · rintro B f hB hf k e s h' he hk ⟨⟨h0', h1, h9, h10, h11, -⟩, rfl, hq⟩ K
    have hlt : (k : Int) < xs.length := by omega
    have hky : k < ys.length := by omega
    have hlt2 : ¬ ((ys.length : Int) ≤ k) := by omega
    obtain ⟨e', he'⟩ : ∃ e', ys[k]? = some e' := ⟨_, List.getElem?_eq_getElem hky⟩
    have hc := run_cmpI h' e e'
    have g1 := il_get he
    have g2 := il_get he'
    rw [lexc_at he he'] at hq
    by_cases h0 : sgn e e' = 0
    · rw [if_neg (by simpa using h0)] at hq
      simp -implicitDefEqProofs [hB, x_slices_Compare_int_int_l0, h1, h9, h10, h11, hlt, hlt2, hk, hky, hx, hy, g1, g2, hc, h0, il_length, hb1]
      refine K _ _ ⟨?_, rfl, hq⟩
      simp [h0', h1, h9, h10, wrap_up (by omega : k < 100000000000)]
    · rw [if_pos h0] at hq
      have h0n : (sgn e e' != 0) = true := by simpa using h0
      simp -implicitDefEqProofs [hB, hf, x_slices_Compare_int_int_l0, h1, h9, h10, h11, hlt, hlt2, hk, hky, hx, hy, g1, g2, hc, h0n, hq, il_length, hb1]
  · rintro B hB s h' ⟨⟨h0', h1, h9, h10, h11, -⟩, rfl, hq⟩
    rw [lexc_last, if_neg (by omega)] at hq
    simp -implicitDefEqProofs [hB, x_slices_Compare_int_int_l0, h0', h1, h9, h10, h11, hq, hx, hy, il_length, hn, hb1]
end Go.Proofs.Sl

namespace Go.Proofs.Sl
theorem run_cmpV (h : H) (a b : AV) : run XP i_attribute_CompareValues [a.v, b.v] h = some (vi (cmpV a b), h) := by
  obtain ⟨k, t, n⟩ := a
  obtain ⟨k', t', n'⟩ := b
  rw [run_eq, xp_attribute_CompareValues]
  have h1 := fun h => run_cmpI h k k'
  have h2 := fun h => run_cmpT h t t'
  have h3 := fun h => run_cmpI h n n'
  have h4 := fun h => run_Or h [sgn k k', wrd t t', sgn n n'] (by simp)
  simp only [il, List.map_cons, List.map_nil] at h4
  simp -implicitDefEqProofs [x_attribute_CompareValues, AV.v, h1, h2, h3, h4, same_self, optEq, cmpV]
theorem run_cmpA (h : H) (a b : AT) : run XP i_attribute_CompareAttrs_1 [a.v, b.v] h = some (vi (cmpA a b), h) := by
  obtain ⟨k, v⟩ := a
  obtain ⟨k', v'⟩ := b
  rw [run_eq, xp_attribute_CompareAttrs_1]
  have h1 := fun h => run_cmpT h k k'
  have h2 := fun h => run_cmpV h v v'
  have h4 := fun h => run_Or h [wrd k k', cmpV v v'] (by simp)
  simp only [il, List.map_cons, List.map_nil, AV.v] at h4 h2
  simp -implicitDefEqProofs [x_attribute_CompareAttrs_1, AT.v, h1, h2, h4, same_self, optEq, cmpA]
theorem run_cmpR (h : H) (a b : RF) : run XP i_span_CompareRefs [a.v, b.v] h = some (vi (cmpR a b), h) := by
  obtain ⟨k, v⟩ := a
  obtain ⟨k', v'⟩ := b
  rw [run_eq, xp_span_CompareRefs]
  have h1 := fun h => run_cmpI h k k'
  have h2 := fun h => run_cmpI h v v'
  have h4 := fun h => run_Or h [sgn k k', sgn v v'] (by simp)
  simp only [il, List.map_cons, List.map_nil] at h4
  simp -implicitDefEqProofs [x_span_CompareRefs, RF.v, h1, h2, h4, same_self, optEq, cmpR]
theorem run_refs (h : H) (a b : RF) : run XP i_sleuthlaw11_refs [a.v, b.v] h = some (vi (cmpR a b), h) := by
  obtain ⟨k, v⟩ := a
  obtain ⟨k', v'⟩ := b
  rw [run_eq, xp_sleuthlaw11_refs]
  have h1 := fun h => run_sign h k k'
  have h2 := fun h => run_sign h v v'
  by_cases h0 : sgn k k' = 0
  · simp -implicitDefEqProofs [x_sleuthlaw11_refs, RF.v, h1, h2, cmpR, orl, h0]
  · have h0' : (sgn k k' != 0) = true := by simpa using h0
    simp -implicitDefEqProofs [x_sleuthlaw11_refs, RF.v, h1, h2, cmpR, orl, h0, h0']
end Go.Proofs.Sl

namespace Go.Proofs.Sl

/-- slices.CompareFunc of two lists of AT. -/
theorem run_CFAT {h : H} {v w : V} {xs ys : List AT} (hx : ∀ h, Rd h 4 v (xs.map AT.v)) (hy : ∀ h, Rd h 4 w (ys.map AT.v)) (hl : xs.length ≤ 9223372036854775807) :
    run XP i_slices_CompareFunc_api_Attr_api_Attr_api_Attr_api_Attr [v, w, .fn i_attribute_CompareAttrs_1 [] []] h = some (vi (lexc cmpA xs ys), h) := by
  rw [run_eq, xp_slices_CompareFunc_api_Attr_api_Attr_api_Attr_api_Attr]
  simp -implicitDefEqProofs [x_slices_CompareFunc_api_Attr_api_Attr_api_Attr_api_Attr, (hx _).toL]
  refine loop_list xs (fun k s h' => Sees s [(0, v), (1, w), (2, .fn i_attribute_CompareAttrs_1 [] []), (11, v), (12, vi xs.length), (13, vi k)] ∧ (∃ t, h' = h ++ t) ∧ lexc cmpA xs ys = lexc cmpA (xs.drop k) (ys.drop k)) ?_ ?_ _ _ ⟨by simp, ⟨[], by simp⟩, rfl⟩
  · rintro B f hB hf k e s h' he hk ⟨⟨h0, h1, h2, h11, h12, h13, -⟩, ⟨t, rfl⟩, hq⟩ K
    have hlt : (k : Int) < xs.length := by omega
    obtain ⟨p, hp, hld⟩ := (hx (h ++ t)).at (i := k) (e := e.v) (by simp [he])
    have hw : IntKind.i64.wrap ((k : Int) + 1) = (k : Int) + 1 := wrap_i64 (by omega) (by omega)
    by_cases hky : k < ys.length
    · have hlt2 : ¬ ((ys.length : Int) ≤ k) := by omega
      obtain ⟨e', he'⟩ : ∃ e', ys[k]? = some e' := ⟨_, List.getElem?_eq_getElem hky⟩
      obtain ⟨p', hp', hld'⟩ := (hy (h ++ (t ++ [.box false e.v.cells]))).at (i := k) (e := e'.v) (by simp [he'])
      have hc := fun h => run_cmpA h e e'
      rw [lexc_at he he'] at hq
      simp only [AT.v, V.cells] at hld hld' hc hp'
      by_cases hz : cmpA e e' = 0
      · rw [if_neg (by simpa using hz)] at hq
        simp -implicitDefEqProofs [hB, x_slices_CompareFunc_api_Attr_api_Attr_api_Attr_api_Attr_l0, h0, h1, h2, h11, h12, h13, hlt, hlt2, hk, (hy _).toL, hp, hld, hp', hld', hc, hz]
        refine K _ _ ⟨?_, ⟨_, rfl⟩, hq⟩
        simp [h0, h1, h2, h11, h12, hw]
      · rw [if_pos hz] at hq
        have hz' : (cmpA e e' != 0) = true := by simpa using hz
        simp -implicitDefEqProofs [hB, hf, x_slices_CompareFunc_api_Attr_api_Attr_api_Attr_api_Attr_l0, h0, h1, h2, h11, h12, h13, hlt, hlt2, hk, (hy _).toL, hp, hld, hp', hld', hc, hz', hq]
    · have hlt2 : ((ys.length : Int) ≤ k) := by omega
      rw [lexc_end he (by omega)] at hq
      simp only [AT.v, V.cells] at hld
      simp -implicitDefEqProofs [hB, hf, x_slices_CompareFunc_api_Attr_api_Attr_api_Attr_api_Attr_l0, h0, h1, h2, h11, h12, h13, hlt, hlt2, hk, (hy _).toL, hp, hld, hq]
  · rintro B hB s h' ⟨⟨h0, h1, h2, h11, h12, h13, -⟩, ⟨t, rfl⟩, hq⟩
    rw [lexc_last] at hq
    by_cases hlt : xs.length < ys.length
    · rw [if_pos hlt] at hq
      simp -implicitDefEqProofs [hB, x_slices_CompareFunc_api_Attr_api_Attr_api_Attr_api_Attr_l0, h0, h1, h11, h12, h13, hq, (hx _).toL, (hy _).toL, hlt]
    · rw [if_neg hlt] at hq
      simp -implicitDefEqProofs [hB, x_slices_CompareFunc_api_Attr_api_Attr_api_Attr_api_Attr_l0, h0, h1, h11, h12, h13, hq, (hx _).toL, (hy _).toL, hlt]

/-- slices.CompareFunc of two lists of RF. -/
theorem run_CFRF {h : H} {v w : V} {xs ys : List RF} (hx : ∀ h, Rd h 2 v (xs.map RF.v)) (hy : ∀ h, Rd h 2 w (ys.map RF.v)) (hl : xs.length ≤ 9223372036854775807) :
    run XP i_slices_CompareFunc_api_Ref_api_Ref_api_Ref_api_Ref [v, w, .fn i_span_CompareRefs [] []] h = some (vi (lexc cmpR xs ys), h) := by
  rw [run_eq, xp_slices_CompareFunc_api_Ref_api_Ref_api_Ref_api_Ref]
  simp -implicitDefEqProofs [x_slices_CompareFunc_api_Ref_api_Ref_api_Ref_api_Ref, (hx _).toL]
  refine loop_list xs (fun k s h' => Sees s [(0, v), (1, w), (2, .fn i_span_CompareRefs [] []), (11, v), (12, vi xs.length), (13, vi k)] ∧ (∃ t, h' = h ++ t) ∧ lexc cmpR xs ys = lexc cmpR (xs.drop k) (ys.drop k)) ?_ ?_ _ _ ⟨by simp, ⟨[], by simp⟩, rfl⟩
  · rintro B f hB hf k e s h' he hk ⟨⟨h0, h1, h2, h11, h12, h13, -⟩, ⟨t, rfl⟩, hq⟩ K
    have hlt : (k : Int) < xs.length := by omega
    obtain ⟨p, hp, hld⟩ := (hx (h ++ t)).at (i := k) (e := e.v) (by simp [he])
    have hw : IntKind.i64.wrap ((k : Int) + 1) = (k : Int) + 1 := wrap_i64 (by omega) (by omega)
    by_cases hky : k < ys.length
    · have hlt2 : ¬ ((ys.length : Int) ≤ k) := by omega
      obtain ⟨e', he'⟩ : ∃ e', ys[k]? = some e' := ⟨_, List.getElem?_eq_getElem hky⟩
      obtain ⟨p', hp', hld'⟩ := (hy (h ++ (t ++ [.box false e.v.cells]))).at (i := k) (e := e'.v) (by simp [he'])
      have hc := fun h => run_cmpR h e e'
      rw [lexc_at he he'] at hq
      simp only [RF.v, V.cells] at hld hld' hc hp'
      by_cases hz : cmpR e e' = 0
      · rw [if_neg (by simpa using hz)] at hq
        simp -implicitDefEqProofs [hB, x_slices_CompareFunc_api_Ref_api_Ref_api_Ref_api_Ref_l0, h0, h1, h2, h11, h12, h13, hlt, hlt2, hk, (hy _).toL, hp, hld, hp', hld', hc, hz]
        refine K _ _ ⟨?_, ⟨_, rfl⟩, hq⟩
        simp [h0, h1, h2, h11, h12, hw]
      · rw [if_pos hz] at hq
        have hz' : (cmpR e e' != 0) = true := by simpa using hz
        simp -implicitDefEqProofs [hB, hf, x_slices_CompareFunc_api_Ref_api_Ref_api_Ref_api_Ref_l0, h0, h1, h2, h11, h12, h13, hlt, hlt2, hk, (hy _).toL, hp, hld, hp', hld', hc, hz', hq]
    · have hlt2 : ((ys.length : Int) ≤ k) := by omega
      rw [lexc_end he (by omega)] at hq
      simp only [RF.v, V.cells] at hld
      simp -implicitDefEqProofs [hB, hf, x_slices_CompareFunc_api_Ref_api_Ref_api_Ref_api_Ref_l0, h0, h1, h2, h11, h12, h13, hlt, hlt2, hk, (hy _).toL, hp, hld, hq]
  · rintro B hB s h' ⟨⟨h0, h1, h2, h11, h12, h13, -⟩, ⟨t, rfl⟩, hq⟩
    rw [lexc_last] at hq
    by_cases hlt : xs.length < ys.length
    · rw [if_pos hlt] at hq
      simp -implicitDefEqProofs [hB, x_slices_CompareFunc_api_Ref_api_Ref_api_Ref_api_Ref_l0, h0, h1, h11, h12, h13, hq, (hx _).toL, (hy _).toL, hlt]
    · rw [if_neg hlt] at hq
      simp -implicitDefEqProofs [hB, x_slices_CompareFunc_api_Ref_api_Ref_api_Ref_api_Ref_l0, h0, h1, h11, h12, h13, hq, (hx _).toL, (hy _).toL, hlt]
end Go.Proofs.Sl

namespace Go.Proofs.Sl
structure SP.Len (a : SP) : Prop where
  al : a.ats.length ≤ 9223372036854775807
  ll : a.lks.length ≤ 9223372036854775807
  an : a.an = true → a.ats = []
  ln : a.ln = true → a.lks = []
theorem rd_slc {α : Type} (h : H) (k : Nat) (v : α → V) {l : List α} {n : Bool} (hn : n = true → l = []) : Rd h k (lv k (slc v l n)) (l.map v) := by
  have := Rd.lv h k (slc v l n)
  rwa [slc_getD hn] at this
theorem orl6 (a b c d e f : Int) (l : List Int) : orl (orl [a, b, c, d, e, f] :: l) = orl (a :: b :: c :: d :: e :: f :: l) := by
  have := orl_append [a, b, c, d, e, f] l
  simp only [List.cons_append, List.nil_append] at this
  rw [this]
  simp only [orl]
theorem lexc6 (a b c d e f a' b' c' d' e' f' : Int) : lexc sgn [a, b, c, d, e, f] [a', b', c', d', e', f'] = orl [sgn a a', sgn b b', sgn c c', sgn d d', sgn e e', sgn f f'] := by
  simp only [lexc, orl]
theorem flg_sub (a b : Bool) : IntKind.i64.wrap (flg a - flg b) = sgn (flg a) (flg b) := by cases a <;> cases b <;> rfl

theorem run_cmpS (h : H) {a b : SP} (ha : a.Len) (hb : b.Len) : run XP i_span_Compare [a.v, b.v] h = some (vi (cmpS a b), h) := by
  obtain ⟨q1, q2, q3, q4⟩ := ha
  obtain ⟨r1, r2, r3, r4⟩ := hb
  obtain ⟨tr, id, par, rev, clk, kind, sv, vr, op, st, en, er, ats, lks, an, ln⟩ := a
  obtain ⟨tr', id', par', rev', clk', kind', sv', vr', op', st', en', er', ats', lks', an', ln'⟩ := b
  simp only at q1 q2 q3 q4 r1 r2 r3 r4
  have cA := fun h => run_CFAT (h := h) (fun h => rd_slc h 4 AT.v q3) (fun h => rd_slc h 4 AT.v r3) q1
  have cR := fun h => run_CFRF (h := h) (fun h => rd_slc h 2 RF.v q4) (fun h => rd_slc h 2 RF.v r4) q2
  have h1 := fun h => run_cmpT h sv sv'
  have h2 := fun h => run_cmpT h vr vr'
  have h3 := fun h => run_cmpT h op op'
  have h4 := fun h => run_cmpI h st st'
  have h5 := fun h => run_cmpI h en en'
  have h6 := fun h => run_number h er
  have h7 := fun h => run_number h er'
  have h8 := fun h => run_Or h [orl [sgn tr tr', sgn id id', sgn rev rev', sgn par par', sgn clk clk', sgn kind kind'], wrd sv sv', wrd vr vr', wrd op op', sgn st st', sgn en en', sgn (flg er) (flg er'), lexc cmpA ats ats', lexc cmpR lks lks'] (by simp)
  have h9 : ∀ (h : H) (t1 t2 : H) (z z' : Bool), run XP i_slices_Compare_int_int [.bref (h.length + 2) 6, .bref (h.length + 3) 6] (h ++ [t1.headD .dead, t2.headD .dead, .box z [vi tr, vi id, vi rev, vi par, vi clk, vi kind], .box z' [vi tr', vi id', vi rev', vi par', vi clk', vi kind']]) =
      some (vi (orl [sgn tr tr', sgn id id', sgn rev rev', sgn par par', sgn clk clk', sgn kind kind']), h ++ [t1.headD .dead, t2.headD .dead, .box z [vi tr, vi id, vi rev, vi par, vi clk, vi kind], .box z' [vi tr', vi id', vi rev', vi par', vi clk', vi kind']]) := by
    intro h t1 t2 z z'
    have := run_sCmp (h := h ++ [t1.headD .dead, t2.headD .dead, .box z [vi tr, vi id, vi rev, vi par, vi clk, vi kind], .box z' [vi tr', vi id', vi rev', vi par', vi clk', vi kind']]) (l := h.length + 2) (m := h.length + 3) (z := z) (z' := z') (xs := [tr, id, rev, par, clk, kind]) (ys := [tr', id', rev', par', clk', kind']) (by simp [il]) (by simp [il]) rfl (by simp)
    rw [lexc6] at this
    exact this
  have h9' := fun a b => h9 h [a] [b] false false
  simp only [List.headD] at h9'
  simp only [il, List.map_cons, List.map_nil] at h8
  have hcA : ∀ h, run XP i_attribute_CompareAttrs [lv 4 (slc AT.v ats an), lv 4 (slc AT.v ats' an')] h = some (vi (lexc cmpA ats ats'), h) := by
    intro h
    rw [run_eq, xp_attribute_CompareAttrs]
    simp -implicitDefEqProofs [x_attribute_CompareAttrs, cA, (rd_slc h 4 AT.v q3).arg0, (rd_slc h 4 AT.v r3).arg0]
  rw [run_eq, xp_span_Compare]
  simp -implicitDefEqProofs [x_span_Compare, SP.v, h1, h2, h3, h4, h5, h6, h7, h8, h9', cR, hcA, flg_sub, (fun h => (rd_slc h 4 AT.v q3).arg0), (fun h => (rd_slc h 4 AT.v r3).arg0), (fun h => (rd_slc h 2 RF.v q4).arg0), (fun h => (rd_slc h 2 RF.v r4).arg0), same_self, optEq, cmpS, orl6]
end Go.Proofs.Sl

namespace Go.Proofs.Sl
theorem run_RefOf (h : H) (a : SP) : run XP i_span_RefOf [a.v] h = some (RF.v ⟨a.tr, a.id⟩, h) := by
  rw [run_eq, xp_span_RefOf]
  simp -implicitDefEqProofs [x_span_RefOf, SP.v, RF.v]
theorem run_Equal (h : H) {a b : SP} (ha : a.Len) (hb : b.Len) : run XP i_span_Equal [a.v, b.v] h = some (vb (cmpS a b == 0), h) := by
  have hc := fun h => run_cmpS h ha hb
  simp only [SP.v] at hc
  rw [run_eq, xp_span_Equal]
  simp -implicitDefEqProofs [x_span_Equal, SP.v, hc]
theorem wide_AT : ∀ l : List AT, wide 4 (l.map AT.v) = true
  | [] => rfl
  | a :: l => by simp only [List.map_cons, wide, wide_AT l, Bool.and_true]; rfl
theorem wide_RF : ∀ l : List RF, wide 2 (l.map RF.v) = true
  | [] => rfl
  | a :: l => by simp only [List.map_cons, wide, wide_RF l, Bool.and_true]; rfl
theorem wide_SP1 (a : SP) : wide 14 [a.v] = true := by
  have h : ∀ (k : Nat) (o : Option (List V)), (lv k o).cell = true := fun k o => by cases o <;> rfl
  simp only [wide, SP.v, V.cells, List.length_cons, List.length_nil, cellsOk, h, Bool.and_true]
  rfl
theorem wide_SP : ∀ l : List SP, wide 14 (l.map SP.v) = true
  | [] => rfl
  | a :: l => by
    have h := wide_SP1 a
    simp only [wide, Bool.and_true] at h
    simp only [List.map_cons, wide, h, wide_SP l, Bool.and_self]
/-- A list that has been made. -/
def ov (k : Nat) : Option (List V) → V
  | none => vnil
  | some es => .own k es
theorem ov_res0 (k : Nat) (o : Option (List V)) : res0 (ov k o) = lv k o := by cases o <;> rfl
theorem run_CloneA (h : H) {l : List AT} {n : Bool} (hn : n = true → l = []) (hl : l.length ≤ 2932031007402) : run XP i_slices_Clone_api_Attr_api_Attr [lv 4 (slc AT.v l n)] h = some (ov 4 (slc AT.v l n), h) := by
  rw [run_eq, xp_slices_Clone_api_Attr_api_Attr]
  have h1 := wide_AT l
  have h2 := closeds_AT l
  cases n with
  | true =>
    rw [hn rfl]
    simp -implicitDefEqProofs [x_slices_Clone_api_Attr_api_Attr, slc, lv, ov]
  | false => simp -implicitDefEqProofs [x_slices_Clone_api_Attr_api_Attr, slc, lv, ov, h1, h2, hl]
theorem run_CloneR (h : H) {l : List RF} {n : Bool} (hn : n = true → l = []) (hl : l.length ≤ 8796093022208) : run XP i_slices_Clone_api_Ref_api_Ref [lv 2 (slc RF.v l n)] h = some (ov 2 (slc RF.v l n), h) := by
  rw [run_eq, xp_slices_Clone_api_Ref_api_Ref]
  have h1 := wide_RF l
  have h2 := closeds_RF l
  cases n with
  | true =>
    rw [hn rfl]
    simp -implicitDefEqProofs [x_slices_Clone_api_Ref_api_Ref, slc, lv, ov]
  | false => simp -implicitDefEqProofs [x_slices_Clone_api_Ref_api_Ref, slc, lv, ov, h1, h2, hl]
/-- Lists that may be copied. -/
structure SP.Sm (a : SP) : Prop where
  al : a.ats.length ≤ 2000000000000
  ll : a.lks.length ≤ 2000000000000
  an : a.an = true → a.ats = []
  ln : a.ln = true → a.lks = []
theorem SP.Sm.len {a : SP} (h : a.Sm) : a.Len := ⟨by have := h.al; omega, by have := h.ll; omega, h.an, h.ln⟩
theorem run_copied (h : H) {a : SP} (ha : a.Sm) : run XP i_span_copied [a.v] h = some (a.v, h) := by
  have h1 := fun h => run_CloneA h ha.an (by have := ha.al; omega)
  have h2 := fun h => run_CloneR h ha.ln (by have := ha.ll; omega)
  rw [run_eq, xp_span_copied]
  simp -implicitDefEqProofs [x_span_copied, SP.v, h1, h2, ov_res0, same_self, optEq]
end Go.Proofs.Sl

namespace Go.Proofs.Sl
def selA (p : Nat → Bool) : Nat → List SP → List SP
  | _, [] => []
  | k, e :: r => if p k = true then e :: selA p (k + 1) r else selA p (k + 1) r
/-- A list that grows in a variable: where it lies. -/
def OutV (x : V) (h : H) (b k : Nat) (es : List V) : Prop := (es = [] ∧ x = vnil) ∨ ∃ q, es ≠ [] ∧ b ≤ q ∧ x = .ref q es.length ∧ h[q]? = some (.arr false k es)
theorem OutV.app {x : V} {h : H} {b k : Nat} {es : List V} (o : OutV x h b k es) (t : H) : OutV x (h ++ t) b k es := by
  rcases o with o | ⟨q, h0, h1, h2, h3⟩
  · exact .inl o
  · exact .inr ⟨q, h0, h1, h2, by rw [List.getElem?_append_left (List.getElem?_eq_some_iff.1 h3).1]; exact h3⟩
/-- Something is appended. -/
theorem OutV.grow {x : V} {h : H} {b k lim : Nat} {es : List V} (o : OutV x h b k es) {e : V} (hb : b ≤ h.length) (hw : wide k [e] = true) (hc : V.closed.closeds [e] = true) (hl : es.length + 1 ≤ lim) :
    ∃ x' h', xappend h k lim x (.lst k [e]) = some (x', h') ∧ OutV x' h' b k (es ++ [e]) ∧ h'.take b = h.take b ∧ b ≤ h'.length := by
  have ea : appEls h (.lst k [e]) = some [e] := rfl
  rcases o with ⟨rfl, rfl⟩ | ⟨q, h0, h1, rfl, h3⟩
  · have hl' : 1 ≤ lim := by simpa using hl
    refine ⟨.ref h.length 1, h ++ [.arr false k [e]], ?_, .inr ⟨h.length, by simp, hb, rfl, by simp⟩, by rw [List.take_append_of_le_length hb], by simp; omega⟩
    simp only [xappend, ea, ob_some, hw, hc, and_self, if_true, List.length_cons, List.length_nil, Nat.zero_add, Nat.one_ne_zero, if_false, hl']
  · have hq := (List.getElem?_eq_some_iff.1 h3).1
    refine ⟨.ref q (es.length + 1), h.set q (.arr false k (es ++ [e])), ?_, .inr ⟨q, by simp, h1, by simp, by rw [List.getElem?_set_self hq]⟩, ?_, by simpa using hb⟩
    · have : arrN h q es.length = some (false, k, es) := by simp [arrN, arrAt, h3, ob_some]
      simp only [xappend, ea, ob_some, hw, hc, and_self, if_true, this, List.length_cons, List.length_nil, Nat.zero_add, true_and, hl]
    · rw [List.take_set, List.set_eq_of_length_le (by simp; omega)]
theorem OutV.ret {x : V} {h : H} {b k : Nat} {es : List V} (o : OutV x h b k es) (hc : V.closed.closeds es = true) : retV b h .v x [] = some (if es = [] then vnil else .own k es, []) := by
  rcases o with ⟨rfl, rfl⟩ | ⟨q, h0, h1, rfl, h3⟩
  · simp
  · have : arrN h q es.length = some (false, k, es) := by simp [arrN, arrAt, h3, ob_some]
    rw [if_neg h0]
    show (if q < b then _ else ob (arrN h q es.length) _) = _
    rw [if_neg (by omega), this, ob_some, if_pos hc]
    rfl
theorem take_app_of {b t : H} {h : H} (h0 : h.take b.length = b) (hl : b.length ≤ h.length) (t : H) : (h ++ t).take b.length = b := by rw [List.take_append_of_le_length hl, h0]

theorem run_chosen {h : H} {v : V} {es : List SP} (hv : ∀ t, Rd (h ++ t) 14 v (es.map SP.v)) (hs : ∀ e ∈ es, e.Sm) (hl : es.length ≤ 100000) {f : Nat} {b : List V} (hb0 : arg0s b = some b) {p : Nat → Bool} (hp : ∀ k t, k < es.length → run XP f (vi k :: b) (h ++ t) = some (vb (p k), h ++ t)) :
    run XP i_span_chosen [v, .fn f [] b] h = some (if selA p 0 es = [] then vnil else .own 14 ((selA p 0 es).map SP.v), h) := by
  have hv0 := hv []
  rw [List.append_nil] at hv0
  rw [run_eq, xp_span_chosen]
  simp -implicitDefEqProofs [x_span_chosen, hv0.toL]
  refine loop_list es (fun k s h' => ∃ t pre, Sees s [(1, .fn f [] b), (8, v), (9, vi es.length), (10, vi k)] ∧ h' = h ++ t ∧ OutV (s 5) h' h.length 14 (pre.map SP.v) ∧ pre ++ selA p k (es.drop k) = selA p 0 es ∧ pre.length ≤ k) ?_ ?_ _ _
    ⟨[], [], by simp, by simp, .inl ⟨rfl, by simp⟩, rfl, by simp⟩
  · rintro B f' hB hf k e s h' he hk ⟨t, pre, ⟨h1, h8, h9, h10, -⟩, rfl, ho, hx, hpl⟩ K
    have hlt : (k : Int) < es.length := by omega
    obtain ⟨q, hq, hld⟩ := (hv t).at (i := k) (e := e.v) (by simp [he])
    have hw : IntKind.i64.wrap ((k : Int) + 1) = (k : Int) + 1 := wrap_i64 (by omega) (by omega)
    have hsm := hs e (List.mem_of_getElem? he)
    have hcp := fun h => run_copied h hsm
    have hpk := fun t => hp k t hk
    have hw1 := wide_SP1 e
    have hc1 : V.closed.closeds [e.v] = true := closeds_SP [e]
    rw [drop_at he, selA] at hx
    obtain ⟨x', h'', hap, ho', htk, hbl⟩ := (ho.app [.box false e.v.cells]).grow (lim := 837723144972) (by simp) hw1 hc1 (by simp; omega)
    simp only [SP.v, V.cells] at hld hcp hap hw1 hc1
    rw [List.append_assoc] at hap
    cases hb : p k with
    | false =>
      rw [hb, if_neg (by simp)] at hx
      simp -implicitDefEqProofs [hB, x_span_chosen_l0, h1, h8, h9, h10, hlt, hq, hld, hb0, hpk, hb]
      refine K _ _ ⟨t ++ [.box false e.v.cells], pre, ?_, ?_, ?_, hx, by omega⟩
      · simp [h1, h8, h9, hw]
      · simp [SP.v]
      · have := ho.app [.box false e.v.cells]
        simpa [SP.v] using this
    | true =>
      rw [hb, if_pos rfl] at hx
      have htk' : ∃ t', h'' = h ++ t' := ⟨h''.drop h.length, by
        have := List.take_append_drop h.length h''
        rw [htk] at this
        rw [List.append_assoc, List.take_left] at this
        exact this.symm⟩
      obtain ⟨t', rfl⟩ := htk'
      simp -implicitDefEqProofs [hB, x_span_chosen_l0, h1, h8, h9, h10, hlt, hq, hld, hb0, hpk, hb, hcp, hap]
      refine K _ _ ⟨t', pre ++ [e], ?_, rfl, ?_, by simpa using hx, by simp; omega⟩
      · simp [h1, h8, h9, hw]
      · simpa using ho'
  · rintro B hB s h' ⟨t, pre, ⟨h1, h8, h9, h10, -⟩, rfl, ho, hx, -⟩
    rw [List.drop_of_length_le (Nat.le_refl _), selA, List.append_nil] at hx
    subst hx
    have hr := ho.ret (closeds_SP _)
    simp -implicitDefEqProofs [hB, x_span_chosen_l0, h1, h8, h9, h10]
    simp only [hr]
    simp
end Go.Proofs.Sl

namespace Go.Proofs.Sl
def cptA : SP → List SP → List SP
  | _, [] => []
  | a, b :: r => if cmpS b a = 0 then cptA b r else b :: cptA b r
def cpt : List SP → List SP
  | [] => []
  | a :: r => a :: cptA a r
def zSP : V := .agg [.s (.int .i64 0), .s (.int .i64 0), .s (.int .i64 0), .s (.int .i64 0), .s (.int .i64 0), .s (.int .i64 0), .s (.string ⟨#[]⟩), .s (.string ⟨#[]⟩), .s (.string ⟨#[]⟩), .s (.int .i64 0), .s (.int .i64 0), .s (.bool false), .s (.slice none 0 0), .s (.slice none 0 0)]
theorem closeds_app (a b : List V) : V.closed.closeds (a ++ b) = (V.closed.closeds a && V.closed.closeds b) := by
  induction a with
  | nil => rfl
  | cons x a ih => simp only [List.cons_append, V.closed.closeds, ih, Bool.and_assoc]
theorem closeds_rep (n : Nat) : V.closed.closeds (List.replicate n zSP) = true := by
  induction n with
  | zero => rfl
  | succ n ih => simp only [List.replicate_succ, V.closed.closeds, ih, Bool.and_true]; rfl

theorem SP_cells (a : SP) : a.v.cells.length = 14 ∧ cellsOk a.v.cells = true := by
  have := wide_SP1 a
  simp only [wide, Bool.and_true, Bool.and_eq_true, beq_iff_eq] at this
  exact this
theorem putEl_SP (a b : SP) : putEl 0 a.v.cells b.v = a.v := rfl
theorem keep0s_SP (a : SP) : keep0s a.v.cells = some a.v.cells := by
  have h1 : ∀ (k : Nat) (o : Option (List V)), frz0 (lv k o) = some (lv k o) := fun k o => by cases o <;> rfl
  simp [SP.v, V.cells, keep0s, h1]
theorem xstore_SP {base : Nat} {h : H} {l n i : Nat} {ws : List SP} (e : h[l]? = some (.arr false 14 (ws.map SP.v))) (hn : ws.length = n) (hi : i < n) (a : SP) :
    xstore base h 14 (.eptr l n i 0) a.v = some (h.set l (.arr false 14 ((ws.set i a).map SP.v))) := by
  have h1 : arrN h l n = some (false, 14, ws.map SP.v) := by simp [arrN, arrAt, e, ob_some, hn]
  obtain ⟨w, hw⟩ : ∃ w, ws[i]? = some w := ⟨_, List.getElem?_eq_getElem (by omega)⟩
  have h2 : (ws.map SP.v)[i]? = some w.v := by rw [List.getElem?_map, hw]; rfl
  have h3 : V.closed.closeds a.v.cells = true := by
    have := closeds_SP [a]
    simp only [List.map_cons, List.map_nil, V.closed.closeds, Bool.and_true] at this
    exact this
  have h4 : cellsOk a.v.cells = true := (SP_cells a).2
  rw [xstore_eptr, if_pos (SP_cells a).1, h1, ob_some]
  simp only [Bool.false_eq_true, if_false, h2, ob_some, keep0s_SP, h3, h4, and_true]
  rw [if_pos (by rw [(SP_cells w).1]; exact Nat.le_refl _), putEl_SP, List.map_set]
theorem xload_SP {h : H} {l n i : Nat} {z : Bool} {ws : List SP} (e : h[l]? = some (.arr z 14 (ws.map SP.v))) (hn : ws.length = n) {a : SP} (hi : ws[i]? = some a) : xload h 14 true (.eptr l n i 0) = some a.v := by
  have h1 : arrN h l n = some (z, 14, ws.map SP.v) := by simp [arrN, arrAt, e, ob_some, hn]
  have h2 : (ws.map SP.v)[i]? = some a.v := by rw [List.getElem?_map, hi]; rfl
  rw [xload_eptr, h1, ob_some]
  simp only [h2, ob_some]
  rfl
theorem toL_winL {h : H} {l n a b : Nat} {z : Bool} {ws : List V} (e : h[l]? = some (.arr z 14 ws)) (hn : ws.length = n) (hb : b ≤ n) : V.toL h (.win l n a b) = some ((ws.take b).drop a) := by
  show (match h[l]? with
    | some (.arr _ _ es) => if es.length = n ∧ b ≤ n then some ((es.take b).drop a) else none
    | _ => none) = _
  rw [e]
  exact if_pos ⟨hn, hb⟩
theorem iaddr_win {h : H} {l n a b i : Nat} {z : Bool} {ws : List V} (e : h[l]? = some (.arr z 14 ws)) (hn : ws.length = n) (hi : a + i < b) (hb : b ≤ n) : iaddrV h 14 (.win l n a b) i = some (.eptr l n (a + i) 0) := by
  rw [iaddrV_win]
  have h1 : arrN h l n = some (z, 14, ws) := by simp [arrN, arrAt, e, ob_some, hn]
  rw [h1, ob_some, if_pos ⟨hi, hb, rfl⟩]
theorem iaddr_ref {h : H} {l n i : Nat} {z : Bool} {ws : List V} (e : h[l]? = some (.arr z 14 ws)) (hn : ws.length = n) (hi : i < n) : iaddrV h 14 (.ref l n) i = some (.eptr l n i 0) := by
  have h1 : arrN h l n = some (z, 14, ws) := by simp [arrN, arrAt, e, ob_some, hn]
  rw [iaddrV_ref, h1, ob_some, if_pos ⟨hi, rfl⟩]
theorem list_set_same' {h : H} {l : Nat} {o : O} (e : h[l]? = some o) : h.set l o = h := by
  apply List.ext_getElem?
  intro i
  rw [List.getElem?_set]
  split
  · rename_i hi
    subst hi
    have := (List.getElem?_eq_some_iff.1 e).1
    rw [if_pos this, e]
  · rfl
theorem cptA_end {a : SP} : cptA a [] = [] := rfl

theorem cpt_start (es : List SP) (a : SP) (ha : es[1 - 1]? = some a) : cpt es = es.take 1 ++ cptA a (es.drop 1) := by
  cases es with
  | nil => simp at ha
  | cons x r =>
    simp only [Nat.sub_self, List.getElem?_cons_zero, Option.some.injEq] at ha
    subst ha
    rfl
theorem run_Compact {h : H} {l : Nat} {es : List SP} (he : h[l]? = some (.arr false 14 (es.map SP.v))) (hs : ∀ e ∈ es, e.Sm) (hn : es.length ≤ 100000) :
    ∃ r, run XP i_slices_CompactFunc_api_Span_api_Span [.ref l es.length, .fn i_span_Equal [] []] h = some r ∧ ((r = (.ref l es.length, h) ∧ cpt es = es) ∨ ∃ o, r = (.lst 14 ((cpt es).map SP.v), h.set l o)) := by
  have hl : l < h.length := (List.getElem?_eq_some_iff.1 he).1
  have hset : ∀ o : O, (h.set l o)[l]? = some o := fun o => List.getElem?_set_self hl
  have hlen : (es.map SP.v).length = es.length := by simp
  have htoL : V.toL h (.ref l es.length) = some (es.map SP.v) := by simp [he]
  by_cases h2 : es.length < 2
  · refine ⟨_, ?_, .inl ⟨rfl, ?_⟩⟩
    · have h2i : (es.length : Int) < 2 := by omega
      rw [run_eq, xp_slices_CompactFunc_api_Span_api_Span]
      simp -implicitDefEqProofs [x_slices_CompactFunc_api_Span_api_Span, htoL, h2i, hl]
    · cases es with
      | nil => rfl
      | cons a r => cases r with
        | nil => rfl
        | cons b r => simp at h2; omega
  · have h2' : ¬ ((es.length : Int) < 2) := by omega
    suffices key : ∃ r, ((r = (.ref l es.length, h) ∧ cpt es = es) ∨ ∃ o, r = (.lst 14 ((cpt es).map SP.v), h.set l o)) ∧ run XP i_slices_CompactFunc_api_Span_api_Span [.ref l es.length, .fn i_span_Equal [] []] h = some r by
      obtain ⟨r, h3, h4⟩ := key
      exact ⟨r, h4, h3⟩
    -- which of the two it will be
    obtain ⟨r, hr, hr1, hr2⟩ : ∃ r, ((r = (V.ref l es.length, h) ∧ cpt es = es) ∨ ∃ o, r = (.lst 14 ((cpt es).map SP.v), h.set l o)) ∧ (cpt es = es → r = (.ref l es.length, h)) ∧
        (cpt es ≠ es → r = (.lst 14 ((cpt es).map SP.v), h.set l (.arr true 14 ((cpt es).map SP.v ++ List.replicate (es.length - (cpt es).length) zSP)))) := by
      by_cases hc : cpt es = es
      · exact ⟨_, .inl ⟨rfl, hc⟩, fun _ => rfl, fun h => absurd hc h⟩
      · exact ⟨_, .inr ⟨_, rfl⟩, fun h => absurd h hc, fun _ => rfl⟩
    refine ⟨r, hr, ?_⟩
    rw [run_eq, xp_slices_CompactFunc_api_Span_api_Span]
    simp -implicitDefEqProofs [x_slices_CompactFunc_api_Span_api_Span, htoL, h2']
    refine loop_ind (σ := Nat) (fun k => es.length - k) (fun k s h' => Sees s [(0, .ref l es.length), (1, .fn i_span_Equal [] []), (5, vi k)] ∧ h' = h ∧ 1 ≤ k ∧ k ≤ es.length ∧ ∀ a, es[k - 1]? = some a → cpt es = es.take k ++ cptA a (es.drop k)) ?_ 1 _ _
      ⟨by simp, rfl, Nat.le_refl _, by omega, cpt_start es⟩
    rintro B f hB hf k s h' ⟨⟨h0, h1, h5, -⟩, rfl, hk1, hkn, hinv⟩ K
    obtain ⟨a, ha⟩ : ∃ a, es[k - 1]? = some a := ⟨_, List.getElem?_eq_getElem (by omega)⟩
    have hx := hinv a ha
    have hw : IntKind.i64.wrap ((k : Int) + 1) = (k : Int) + 1 := wrap_i64 (by omega) (by omega)
    by_cases hlt : k < es.length
    · have hlti : (k : Int) < es.length := by omega
      obtain ⟨e, hek⟩ : ∃ e, es[k]? = some e := ⟨_, List.getElem?_eq_getElem hlt⟩
      have hw1 : IntKind.i64.wrap ((k : Int) - 1) = ((k - 1 : Nat) : Int) := by rw [wrap_i64 (by omega) (by omega)]; omega
      have ld1 := xload_SP he rfl hek
      have ld2 := xload_SP he rfl ha
      have hE := run_Equal h' (hs e (List.mem_of_getElem? hek)).len (hs a (List.mem_of_getElem? ha)).len
      have hp1 : k - 1 < es.length := by omega
      have hf1 : frz0 e.v = some e.v := rfl
      have ia1 := iaddr_ref he hlen hlt
      have ia2 := iaddr_ref he hlen hp1
      have ar1 : ∀ a : SP, arg0 a.v = some a.v := fun _ => rfl
      rw [drop_at hek, cptA] at hx
      by_cases hc : cmpS e a = 0
      · rw [if_pos hc] at hx
        have hc' : (cmpS e a == 0) = true := by simpa using hc
        have hsame : h'.set l (.arr false 14 (es.map SP.v)) = h' := list_set_same' he
        have hke : k ≤ es.length := by omega
        simp -implicitDefEqProofs [hB, hf, x_slices_CompactFunc_api_Span_api_Span_l1, h0, h1, h5, htoL, hlt, hw1, ia1, ia2, ld1, ld2, hE, hc', ar1, he, hke]
        refine loop_ind (σ := Nat) (fun j => es.length - j) (fun j s h'' => ∃ (ws out : List SP), Sees s [(0, .ref l es.length), (1, .fn i_span_Equal [] []), (5, vi out.length), (6, .win l es.length k es.length), (7, vi j)] ∧ h'' = h'.set l (.arr false 14 (ws.map SP.v)) ∧
          ws.length = es.length ∧ ws.take out.length = out ∧ out.length + 1 ≤ k + j ∧ (∀ i, k + j ≤ i + 1 → ws[i]? = es[i]?) ∧ (∀ b, es[k + j - 1]? = some b → cpt es = out ++ cptA b (es.drop (k + j))) ∧ 1 ≤ j ∧ k + j ≤ es.length) ?_ 1 _ _
          ⟨es, es.take k, by simp [Nat.min_eq_left hke, h0, h1, h5], hsame.symm, rfl, by simp, by simp; omega, fun _ _ => rfl, fun b hb => ?_, Nat.le_refl _, hlt⟩
        · rintro B2 f2 hB2 hf2 j s2 h2 ⟨ws, out, ⟨z0, z1, z5, z6, z7, -⟩, rfl, hwl, hwo, hol, hwe, hwc, hj1, hjn⟩ K2
          have hH := hset (.arr false 14 (ws.map SP.v))
          have hwl' : (ws.map SP.v).length = es.length := by simp [hwl]
          have htw := toL_winL hH hwl' (a := k) (Nat.le_refl es.length)
          have hlw : (((ws.map SP.v).take es.length).drop k).length = es.length - k := by simp [hwl]
          have hmn : out.length < es.length := by omega
          by_cases hjl : k + j < es.length
          · have hjlt : (j : Int) < ((es.length - k : Nat) : Int) := by omega
            have hw2 : IntKind.i64.wrap ((j : Int) - 1) = ((j - 1 : Nat) : Int) := by rw [wrap_i64 (by omega) (by omega)]; omega
            have hw3 : IntKind.i64.wrap ((j : Int) + 1) = (j : Int) + 1 := wrap_i64 (by omega) (by omega)
            have hw4 : IntKind.i64.wrap ((out.length : Int) + 1) = (out.length : Int) + 1 := wrap_i64 (by omega) (by omega)
            obtain ⟨e1, he1⟩ : ∃ e1, es[k + j]? = some e1 := ⟨_, List.getElem?_eq_getElem hjl⟩
            obtain ⟨e0, he0⟩ : ∃ e0, es[k + j - 1]? = some e0 := ⟨_, List.getElem?_eq_getElem (by omega)⟩
            have hj0 : k + (j - 1) = k + j - 1 := by omega
            have w1 : ws[k + j]? = some e1 := by rw [hwe _ (by omega), he1]
            have w0 : ws[k + (j - 1)]? = some e0 := by rw [hj0, hwe _ (by omega), he0]
            have ib1 := iaddr_win hH hwl' hjl (Nat.le_refl _)
            have ib0 := iaddr_win hH hwl' (a := k) (i := j - 1) (b := es.length) (by omega) (Nat.le_refl _)
            have ib2 := iaddr_ref hH hwl' hmn
            have lb1 := xload_SP hH hwl w1
            have lb0 := xload_SP hH hwl w0
            have hE2 := run_Equal (h'.set l (.arr false 14 (ws.map SP.v))) (hs e1 (List.mem_of_getElem? he1)).len (hs e0 (List.mem_of_getElem? he0)).len
            have hcc := hwc e0 he0
            rw [drop_at he1, cptA] at hcc
            by_cases hd : cmpS e1 e0 = 0
            · rw [if_pos hd] at hcc
              have hd' : (cmpS e1 e0 == 0) = true := by simpa using hd
              simp -implicitDefEqProofs [hB2, x_slices_CompactFunc_api_Span_api_Span_l0, z0, z1, z5, z6, z7, htw, hlw, hjlt, hw2, ib1, ib0, lb1, lb0, hE2, hd', ar1]
              refine K2 (j + 1) _ _ (by omega) ⟨ws, out, ?_, rfl, hwl, hwo, by omega, fun i hi => hwe i (by omega), fun b hb => ?_, by omega, by omega⟩
              · simp [z0, z1, z5, z6, hw3]
              · rw [show k + (j + 1) - 1 = k + j by omega, he1] at hb
                injection hb with hb
                subst hb
                exact hcc
            · rw [if_neg hd] at hcc
              have hd' : (cmpS e1 e0 == 0) = false := by simpa using hd
              have sb := xstore_SP (base := h'.length) hH hwl hmn e1
              simp -implicitDefEqProofs [hB2, x_slices_CompactFunc_api_Span_api_Span_l0, z0, z1, z5, z6, z7, htw, hlw, hjlt, hw2, ib1, ib0, ib2, lb1, lb0, hE2, hd', ar1, sb]
              refine K2 (j + 1) _ _ (by omega) ⟨ws.set out.length e1, out ++ [e1], ?_, by rw [List.map_set], by simp [hwl], ?_, by simp; omega, fun i hi => ?_, fun b hb => ?_, by omega, by omega⟩
              · simp [z0, z1, z6, hw3, hw4]
              · rw [List.length_append, List.length_singleton, List.take_add_one, List.take_set, List.set_eq_of_length_le (by simp; omega), hwo, List.getElem?_set_self (by omega)]
                rfl
              · rw [List.getElem?_set_ne (by omega)]
                exact hwe i (by omega)
              · rw [show k + (j + 1) - 1 = k + j by omega, he1] at hb
                injection hb with hb
                subst hb
                rw [hcc]
                simp
                rfl
          · have hjn' : k + j = es.length := by omega
            have hjlt : ¬ ((j : Int) < ((es.length - k : Nat) : Int)) := by omega
            obtain ⟨e0, he0⟩ : ∃ e0, es[k + j - 1]? = some e0 := ⟨_, List.getElem?_eq_getElem (by omega)⟩
            have hcc := hwc e0 he0
            rw [hjn', List.drop_of_length_le (Nat.le_refl _), cptA_end, List.append_nil] at hcc
            subst hcc
            have hrr := hr2 (fun h => by rw [h] at hmn; omega)
            subst hrr
            have hmle : (cpt es).length ≤ es.length := by omega
            simp -implicitDefEqProofs [hB2, hf2, x_slices_CompactFunc_api_Span_api_Span_l0, z0, z1, z5, z6, z7, htw, hlw, hjlt, hH, hwl, hmle, hset]
            have htk : (ws.map SP.v).take (cpt es).length = (cpt es).map SP.v := by rw [← List.map_take, hwo]
            rw [htk]
            refine ⟨?_, ?_⟩
            · have h1 := closeds_app ((cpt es).map SP.v) (List.replicate (es.length - (cpt es).length) zSP)
              rw [closeds_SP, closeds_rep, Bool.and_self] at h1
              exact h1
            · rw [hf]
              simp -implicitDefEqProofs [zSP]
        · rw [Nat.add_sub_cancel, hek] at hb
          injection hb with hb
          subst hb
          exact hx
      · rw [if_neg hc] at hx
        have hc' : (cmpS e a == 0) = false := by simpa using hc
        simp -implicitDefEqProofs [hB, x_slices_CompactFunc_api_Span_api_Span_l1, h0, h1, h5, htoL, hlt, hw1, ia1, ia2, ld1, ld2, hE, hc', ar1]
        refine K (k + 1) _ _ (by omega) ⟨?_, rfl, by omega, hlt, fun b hb => ?_⟩
        · simp [h0, h1, hw]
        · rw [Nat.add_sub_cancel, hek] at hb
          injection hb with hb
          subst hb
          rw [hx, take_at hek]
          simp
    · obtain rfl : k = es.length := by omega
      rw [List.drop_of_length_le (Nat.le_refl _), cptA_end, List.append_nil, List.take_length] at hx
      have := hr1 hx
      subst this
      simp -implicitDefEqProofs [hB, hf, x_slices_CompactFunc_api_Span_api_Span_l1, h0, h1, h5, htoL, hl]
end Go.Proofs.Sl

namespace Go.Proofs.Sl
/-! ### What the sort gives, by numbers -/
theorem permSort_ok {n : Nat} {c : Nat → Nat → Int} (hO : Go.Sort.SWO (cmpLt n c)) : (permSort n c).Perm (List.range n) ∧ (permSort n c).Pairwise fun a b => ¬ c b a < 0 := by
  unfold permSort
  by_cases h0 : n = 0
  · subst h0; simp
  · rw [if_neg h0]
    have hd : (Array.range n).size = n := by simp
    have hps := Go.Sort.pdq_sorts (cmpLt n c) hO (Array.range n) 0 n (bitLenN n) true true (Nat.zero_le _) (by rw [hd]; exact Nat.le_refl _) (Or.inl rfl)
    generalize Go.Sort.pdq (cmpLt n c) (Array.range n) 0 n (bitLenN n) true true = dd at hps
    obtain ⟨⟨hs1, _, hp⟩, hs2⟩ := hps
    rw [hd] at hs1
    have e1 : (dd.extract 0 n).toList = dd.toList := by
      rw [Array.toList_extract, List.extract_eq_take_drop, List.drop_zero, Nat.sub_zero, List.take_of_length_le (by rw [Array.length_toList, hs1]; exact Nat.le_refl _)]
    have e2 : ((Array.range n).extract 0 n).toList = List.range n := by
      rw [Array.toList_extract, List.extract_eq_take_drop]
      simp
    rw [e1, e2] at hp
    refine ⟨hp, ?_⟩
    have hmem : ∀ i, i < n → dd[i]! < n := fun i hi => by
      have : dd[i]! ∈ dd.toList := by
        rw [getElem!_pos dd i (by omega)]
        exact Array.mem_toList_iff.2 (Array.getElem_mem _)
      exact List.mem_range.1 (hp.mem_iff.1 this)
    rw [List.pairwise_iff_getElem]
    intro i j hi hj hij
    rw [Array.length_toList] at hi hj
    have := hs2 i j (Nat.zero_le _) hij (by omega)
    have h1 := hmem i (by omega)
    have h2 := hmem j (by omega)
    simp only [cmpLt, decide_eq_false_iff_not] at this
    rw [show clampI n dd[j]! = dd[j]! by simp [clampI, h2], show clampI n dd[i]! = dd[i]! by simp [clampI, h1], getElem!_pos dd i (by omega), getElem!_pos dd j (by omega)] at this
    simpa using this

def cI (l : List SP) (i j : Nat) : Int := cmpS (l.getD i SP.z) (l.getD j SP.z)
def srt (l : List SP) : List SP := (permSort l.length (cI l)).map fun i => l.getD i SP.z
theorem cI_swo (l : List SP) : Go.Sort.SWO (cmpLt l.length (cI l)) where
  irrefl := fun x => by simp [cmpLt, cI, cmpS_cm.self]
  trans := fun x y z h k => by
    simp only [cmpLt, decide_eq_true_eq] at h k ⊢
    simp only [cI] at h k ⊢
    exact cmpS_cm.lt_of_lt_le h (by omega)
  ntrans := fun x y z h k => by
    simp only [cmpLt, decide_eq_false_iff_not] at h k ⊢
    simp only [cI] at h k ⊢
    generalize l.getD (clampI l.length x) SP.z = a at *
    generalize l.getD (clampI l.length y) SP.z = b at *
    generalize l.getD (clampI l.length z) SP.z = c at *
    have h1 := cmpS_cm.anti a b
    have h2 := cmpS_cm.anti b c
    have h3 := cmpS_cm.anti a c
    have := cmpS_cm.trans c b a (by omega) (by omega)
    omega
theorem range_getD (l : List SP) : (List.range l.length).map (fun i => l.getD i SP.z) = l := by
  apply List.ext_getElem
  · simp
  · intro i h1 h2
    simp at h1
    simp [h1]
theorem srt_perm (l : List SP) : (srt l).Perm l := by
  have := ((permSort_ok (cI_swo l)).1).map fun i => l.getD i SP.z
  rw [range_getD] at this
  exact this
theorem srt_sorted (l : List SP) : (srt l).Pairwise fun a b => cmpS a b ≤ 0 := by
  have := (permSort_ok (cI_swo l)).2
  rw [srt, List.pairwise_map]
  refine this.imp fun {a b} h => ?_
  simp only [cI] at h
  have := cmpS_cm.anti (l.getD a SP.z) (l.getD b SP.z)
  omega
theorem srt_length (l : List SP) : (srt l).length = l.length := (srt_perm l).length_eq
theorem srt_mem {l : List SP} {a : SP} : a ∈ srt l ↔ a ∈ l := (srt_perm l).mem_iff
theorem srt_pick (l : List SP) : pickEs (l.map SP.v) (permSort l.length (cI l)) = (srt l).map SP.v := by
  unfold pickEs srt
  rw [List.map_map]
  apply List.map_congr_left
  intro i hi
  have : i < l.length := List.mem_range.1 ((permSort_ok (cI_swo l)).1.mem_iff.1 hi)
  simp [this]

/-! ### The functions -/
theorem run_nat {f : Nat} {F : XF} {k : NK} (e : XP f = some F) (hk : F.nat = some k) (args : List V) (h : H) : run XP f args h = xnat (run XP) args h k := by
  rw [run_eq, e, ob_some]
  unfold xfun
  rw [hk]
theorem allAgg_SP : ∀ l : List SP, allAgg (l.map SP.v) = true
  | [] => rfl
  | a :: l => allAgg_SP l
theorem run_sortNil (h : H) (f : V) : run XP i_slices_SortFunc_api_Span_api_Span [vnil, f] h = some (.tup [], h) := by
  rw [run_nat xp_slices_SortFunc_api_Span_api_Span rfl]
  rfl
theorem run_sort {h : H} {l : Nat} {es : List SP} (he : h[l]? = some (.arr false 14 (es.map SP.v))) (hs : ∀ e ∈ es, e.Sm) (hn : es.length ≤ 100000) :
    run XP i_slices_SortFunc_api_Span_api_Span [.ref l es.length, .fn i_span_Compare [] []] h = some (.tup [], h.set l (.arr false 14 ((srt es).map SP.v))) := by
  rw [run_nat xp_slices_SortFunc_api_Span_api_Span rfl]
  simp only [xnat]
  rw [xsort_ref]
  refine ⟨es.map SP.v, cI es, he, by simp, by omega, closeds_SP es, rfl, rfl, ⟨rfl, allAgg_SP es⟩, ⟨?_, by simpa using cI_swo es⟩, by rw [srt_pick]⟩
  intro i j x y hx hy
  rw [List.getElem?_map] at hx hy
  obtain ⟨a, ha, rfl⟩ : ∃ a, es[i]? = some a ∧ a.v = x := by simpa using hx
  obtain ⟨b, hb, rfl⟩ : ∃ a, es[j]? = some a ∧ a.v = y := by simpa using hy
  have := run_cmpS [] (hs a (List.mem_of_getElem? ha)).len (hs b (List.mem_of_getElem? hb)).len
  simp only [List.nil_append, List.append_nil]
  rw [this]
  simp [cI, ha, hb]
/-- What stands in the variable that the iterator has captured. -/
def LV (v : V) (es : List SP) : Prop := (es = [] ∧ v = vnil) ∨ v = .lst 14 (es.map SP.v)
theorem run_appendSeq {h : H} {v : V} {es : List SP} (hv : LV v es) (hn : es.length ≤ 100000) : run XP i_slices_AppendSeq_api_Span_api_Span [vnil, .fn i_slices_Values_api_Span_api_Span_1 [] [.fptr (.agg [v]) 0]] h = some (if es = [] then vnil else .own 14 (es.map SP.v), h) := by
  rw [run_nat xp_slices_AppendSeq_api_Span_api_Span rfl]
  simp only [xnat]
  rcases hv with ⟨rfl, rfl⟩ | rfl
  · rfl
  · show (if _ then _ else _) = _
    rw [if_pos ⟨rfl, rfl, by simp; omega, wide_SP es, closeds_SP es, allAgg_SP es⟩]
    cases es with
    | nil => rfl
    | cons a r => rfl
theorem run_collect {h : H} {v : V} {es : List SP} (hv : LV v es) (hn : es.length ≤ 100000) : run XP i_slices_Collect_api_Span [.fn i_slices_Values_api_Span_api_Span_1 [] [.fptr (.agg [v]) 0]] h = some (if es = [] then vnil else .own 14 (es.map SP.v), h) := by
  have h1 := fun h => run_appendSeq (h := h) hv hn
  have h2 := closeds_SP es
  rw [run_eq, xp_slices_Collect_api_Span]
  by_cases he : es = []
  · simp -implicitDefEqProofs [x_slices_Collect_api_Span, h1, he]
  · simp -implicitDefEqProofs [x_slices_Collect_api_Span, h1, he, h2]
theorem run_sorted {h : H} {v : V} {es : List SP} (hv : LV v es) (hs : ∀ e ∈ es, e.Sm) (hn : es.length ≤ 100000) :
    run XP i_slices_SortedFunc_api_Span [.fn i_slices_Values_api_Span_api_Span_1 [] [.fptr (.agg [v]) 0], .fn i_span_Compare [] []] h = some (if es = [] then vnil else .own 14 ((srt es).map SP.v), h) := by
  have h1 := fun h => run_collect (h := h) hv hn
  have h2 := closeds_SP (srt es)
  have h4 := srt_length es
  rw [run_eq, xp_slices_SortedFunc_api_Span]
  by_cases he : es = []
  · have h3 := fun h => run_sortNil h (.fn i_span_Compare [] [])
    simp -implicitDefEqProofs [x_slices_SortedFunc_api_Span, h1, he, h3]
  · have h3 := run_sort (h := h ++ [.arr false 14 (es.map SP.v)]) (l := h.length) (by simp) hs hn
    simp -implicitDefEqProofs [x_slices_SortedFunc_api_Span, h1, he, h2, h3, h4]
end Go.Proofs.Sl

namespace Go.Proofs.Sl
/-- A list of spans, nil where there are none. -/
def nl (es : List SP) : V := if es = [] then vnil else .lst 14 (es.map SP.v)
theorem nl_LV (es : List SP) : LV (nl es) es := by
  unfold nl
  split
  · rename_i h; exact .inl ⟨h, rfl⟩
  · exact .inr rfl
theorem LV.rd {v : V} {es : List SP} (l : LV v es) (h : H) : Rd h 14 v (es.map SP.v) := by
  rcases l with ⟨rfl, rfl⟩ | rfl
  · exact .nil
  · exact .lst _
theorem cpt_nil {es : List SP} : cpt es = [] ↔ es = [] := by cases es <;> simp [cpt]
theorem cptA_sub : ∀ (r : List SP) (a : SP), (cptA a r).Sublist r
  | [], a => List.Sublist.slnil
  | b :: r, a => by
    rw [cptA]
    split
    · exact (cptA_sub r b).cons b
    · exact (cptA_sub r b).cons_cons b
theorem cpt_sub : ∀ es : List SP, (cpt es).Sublist es
  | [] => List.Sublist.slnil
  | a :: r => (cptA_sub r a).cons_cons a
/-- The set, as a list. -/
def dst (es : List SP) : List SP := cpt (srt es)
theorem dst_nil {es : List SP} : dst es = [] ↔ es = [] := by
  unfold dst
  rw [cpt_nil]
  constructor
  · intro h
    have := srt_length es
    rw [h] at this
    exact List.eq_nil_of_length_eq_zero this.symm
  · rintro rfl
    rfl
theorem dst_mem {es : List SP} {a : SP} (h : a ∈ dst es) : a ∈ es := srt_mem.1 ((cpt_sub _).subset h)
theorem dst_length (es : List SP) : (dst es).length ≤ es.length := by
  have := (cpt_sub (srt es)).length_le
  rw [srt_length] at this
  exact this

theorem run_Values {h : H} {v : V} {es : List SP} (hv : LV v es) : run XP i_slices_Values_api_Span_api_Span [v] h = some (.fn i_slices_Values_api_Span_api_Span_1 [] [.fptr (.agg [v]) 0], h) := by
  rw [run_eq, xp_slices_Values_api_Span_api_Span]
  rcases hv with ⟨rfl, rfl⟩ | rfl <;> simp -implicitDefEqProofs [x_slices_Values_api_Span_api_Span, V.closed]
/-- An array that is looked at is frozen. -/
theorem run_ValuesR {h : H} {l : Nat} {z : Bool} {es : List SP} (he : h[l]? = some (.arr z 14 (es.map SP.v))) :
    run XP i_slices_Values_api_Span_api_Span [.ref l es.length] h = some (.fn i_slices_Values_api_Span_api_Span_1 [] [.fptr (.agg [.lst 14 (es.map SP.v)]) 0], h.set l (.arr true 14 (es.map SP.v))) := by
  have h1 := closeds_SP es
  rw [run_eq, xp_slices_Values_api_Span_api_Span]
  have hl : (h.set l (O.arr true 14 (es.map SP.v))).length = h.length := by simp
  simp -implicitDefEqProofs [x_slices_Values_api_Span_api_Span, V.closed, he, h1]
theorem run_CompactNil (h : H) : run XP i_slices_CompactFunc_api_Span_api_Span [vnil, .fn i_span_Equal [] []] h = some (vnil, h) := by
  rw [run_eq, xp_slices_CompactFunc_api_Span_api_Span]
  simp -implicitDefEqProofs [x_slices_CompactFunc_api_Span_api_Span]
/-- The code behind slices.Values. -/
theorem run_set {h h2 : H} {v v2 : V} {es : List SP} (hv : LV v2 es) (h1 : arg0 v = some v) (hval : run XP i_slices_Values_api_Span_api_Span [v] h = some (.fn i_slices_Values_api_Span_api_Span_1 [] [.fptr (.agg [v2]) 0], h2)) (hl2 : h2.length = h.length) (hs : ∀ e ∈ es, e.Sm) (hn : es.length ≤ 100000) :
    ∃ R, run XP i_span_set [v] h = some (R, h2) ∧ res0 R = nl (dst es) := by
  have hS := fun h => run_sorted (h := h) hv hs hn
  have htk : h2.take h.length = h2 := List.take_of_length_le (by omega)
  by_cases he : es = []
  · subst he
    refine ⟨vnil, ?_, by rw [show dst [] = [] from rfl]; rfl⟩
    have hC := run_CompactNil
    rw [run_eq, xp_span_set]
    simp -implicitDefEqProofs [x_span_set, h1, hval, hS, hC, htk]
  · have hlen := srt_length es
    obtain ⟨r, hr, hc⟩ := run_Compact (h := h2 ++ [.arr false 14 ((srt es).map SP.v)]) (l := h2.length) (es := srt es) (by simp) (fun e he => hs e (srt_mem.1 he)) (by omega)
    rw [hlen] at hr hc
    have hd : dst es ≠ [] := fun h => he (dst_nil.1 h)
    have hcl := closeds_SP (srt es)
    have hnl : ¬ h2.length < h.length := by omega
    have htk3 : (h2 ++ [O.arr false 14 ((srt es).map SP.v)]).take h.length = h2 := by rw [← hl2]; simp
    rcases hc with ⟨rfl, hcc⟩ | ⟨o, rfl⟩
    · refine ⟨.own 14 ((srt es).map SP.v), ?_, by rw [nl, if_neg hd]; show V.lst 14 _ = V.lst 14 ((cpt (srt es)).map SP.v); rw [hcc]⟩
      rw [run_eq, xp_span_set]
      simp -implicitDefEqProofs [x_span_set, h1, hval, hS, he, hr, htk, htk3, hcl, hlen, hnl]
    · refine ⟨.lst 14 ((dst es).map SP.v), ?_, by rw [nl, if_neg hd]; rfl⟩
      rw [run_eq, xp_span_set]
      have htk2 : (h2 ++ [o]).take h.length = h2 := by rw [← hl2]; simp
      simp -implicitDefEqProofs [x_span_set, h1, hval, hS, he, hr, htk2, hcl, hlen, dst]
/-! ### Set -/
theorem selA_all (es : List SP) : ∀ k, selA (fun _ => true) k es = es := by
  induction es with
  | nil => exact fun _ => rfl
  | cons a r ih => intro k; rw [selA, if_pos rfl, ih]
theorem run_Set1 (h : H) (k : Nat) : run XP i_span_Set_1 [vi k] h = some (vb true, h) := by
  rw [run_eq, xp_span_Set_1]
  simp -implicitDefEqProofs [x_span_Set_1]
theorem nl_res (es : List SP) : res0 (if es = [] then vnil else V.own 14 (es.map SP.v)) = nl es := by
  unfold nl
  split <;> rfl
theorem nl_arg0 (es : List SP) : arg0 (nl es) = some (nl es) := by unfold nl; split <;> rfl
theorem nl_ret (b : Nat) (h : H) (es : List SP) (t : List O) : retV b h .v (nl es) t = some (nl es, t) := by unfold nl; split <;> simp
theorem nl_rdCell (l o : Nat) (es : List SP) : rdCell l o (nl es) = nl es := by unfold nl; split <;> rfl
theorem nl_cells (es : List SP) : (nl es).cells = [nl es] := by unfold nl; split <;> rfl
theorem nl_res0 (es : List SP) : res0 (nl es) = nl es := by unfold nl; split <;> rfl
theorem nl_stNew (base l : Nat) (h : H) (es : List SP) : stNew base l (nl es) h = some (nl es, h) := by
  unfold nl
  split <;> exact if_pos (.inr (Nat.zero_le _))
theorem run_Set {h h2 : H} {v v2 : V} {es : List SP} (hv : LV v2 es) (h1 : arg0 v = some v) (hval : run XP i_slices_Values_api_Span_api_Span [v] h = some (.fn i_slices_Values_api_Span_api_Span_1 [] [.fptr (.agg [v2]) 0], h2)) (hl2 : h2.length = h.length) (hs : ∀ e ∈ es, e.Sm) (hn : es.length ≤ 100000) :
    run XP i_span_Set [v] h = some (nl (dst es), h2) := by
  obtain ⟨R, hR, hR0⟩ := run_set hv h1 hval hl2 hs hn
  have htk : h2.take h.length = h2 := List.take_of_length_le (by omega)
  have hC := run_chosen (h := h2) (v := nl (dst es)) (es := dst es) (fun t => (nl_LV _).rd _) (fun e he => hs e (dst_mem he)) (by have := dst_length es; omega) (f := i_span_Set_1) (b := []) rfl (p := fun _ => true) (fun k t _ => run_Set1 _ k)
  rw [selA_all] at hC
  rw [run_eq, xp_span_Set]
  simp -implicitDefEqProofs [x_span_Set, h1, hR, hR0, nl_arg0, hC, nl_res, nl_ret, htk]

/-! ### Winners -/
/-- The last one of each identity. -/
def winL : List SP → List SP
  | [] => []
  | [a] => [a]
  | a :: b :: r => if a.tr = b.tr ∧ a.id = b.id then winL (b :: r) else a :: winL (b :: r)
def pW (D : List SP) (k : Nat) : Bool := k + 1 == D.length || !((D.getD (k + 1) SP.z).tr == (D.getD k SP.z).tr && (D.getD (k + 1) SP.z).id == (D.getD k SP.z).id)
theorem winL_sel (D : List SP) : ∀ (r : List SP) (k : Nat), D.drop k = r → selA (pW D) k r = winL r
  | [], k, _ => rfl
  | [a], k, h => by
    have hk : k + 1 = D.length := by
      have := congrArg List.length h
      rw [List.length_drop] at this
      simp at this
      omega
    simp [selA, pW, hk, winL]
  | a :: b :: r, k, h => by
    have h1 : D.drop (k + 1) = b :: r := by rw [← List.tail_drop, h]; rfl
    have e1 : D.getD k SP.z = a := by
      have := congrArg (fun l => l[0]?) h
      simp at this
      simp [this]
    have e2 : D.getD (k + 1) SP.z = b := by
      have := congrArg (fun l => l[0]?) h1
      simp at this
      simp [this]
    have hk : ¬ k + 1 = D.length := by
      intro hk
      rw [List.drop_of_length_le (by omega)] at h1
      cases h1
    rw [selA, winL_sel D (b :: r) (k + 1) h1, winL]
    have hp : pW D k = !(b.tr == a.tr && b.id == a.id) := by simp only [pW, e1, e2]; simp [hk]
    rw [hp]
    by_cases hc : a.tr = b.tr ∧ a.id = b.id
    · rw [if_pos hc, if_neg (by simp [hc.1, hc.2])]
    · rw [if_neg hc, if_pos]
      simp only [Bool.not_eq_true', Bool.and_eq_false_iff, beq_eq_false_iff_ne]
      by_cases h1 : a.tr = b.tr
      · exact .inr fun h2 => hc ⟨h1, h2.symm⟩
      · exact .inl fun h2 => h1 h2.symm
theorem nl_at {D : List SP} {k : Nat} {a : SP} (ha : D[k]? = some a) (h : H) : iaddrV h 14 (nl D) k = some (.fptr a.v 0) := by
  have : D ≠ [] := by rintro rfl; simp at ha
  rw [nl, if_neg this]
  have h2 : (D.map SP.v)[k]? = some a.v := by rw [List.getElem?_map, ha]; rfl
  rw [iaddrV_lst, if_pos rfl, h2, ob_some]
theorem run_Win1 {h : H} {l : Nat} {z : Bool} {D : List SP} (hl : h[l]? = some (.box z [nl D])) {k : Nat} (hk : k < D.length) (hn : D.length ≤ 100000) : run XP i_span_Winners_1 [vi k, .ptr l 0] h = some (vb (pW D k), h) := by
  have hw : IntKind.i64.wrap ((k : Int) + 1) = (k : Int) + 1 := wrap_i64 (by omega) (by omega)
  have hL := ((nl_LV D).rd h).toL
  have h0k : (0 : Int) ≤ (k : Int) + 1 := by omega
  obtain ⟨a, ha⟩ : ∃ a, D[k]? = some a := ⟨_, List.getElem?_eq_getElem hk⟩
  have i1 := nl_at ha h
  have d1 : D.getD k SP.z = a := by simp [ha]
  rw [run_eq, xp_span_Winners_1]
  by_cases hk1 : k + 1 = D.length
  · have hb : ((k : Int) + 1 == (D.length : Int)) = true := by rw [← hk1]; simp
    have hp : pW D k = true := by simp [pW, hk1]
    simp -implicitDefEqProofs [x_span_Winners_1, hl, nl_rdCell, hw, hL, hb, hp, same_self, optEq]
  · have hb : ((k : Int) + 1 == (D.length : Int)) = false := by simp; omega
    obtain ⟨b, hb2⟩ : ∃ b, D[k + 1]? = some b := ⟨_, List.getElem?_eq_getElem (by omega)⟩
    have i2 := nl_at hb2 h
    have d2 : D.getD (k + 1) SP.z = b := by simp [hb2]
    have r1 := fun h => run_RefOf h a
    have r2 := fun h => run_RefOf h b
    have hp : pW D k = !(b.tr == a.tr && b.id == a.id) := by simp only [pW, d1, d2]; simp [hk1]
    simp only [SP.v, RF.v] at r1 r2 i1 i2
    rw [hp]
    simp -implicitDefEqProofs [x_span_Winners_1, hl, nl_rdCell, hw, hL, hb, same_self, optEq, i1, i2, r1, r2, h0k]
def wns (es : List SP) : List SP := winL (dst es)
theorem run_Winners {h h2 : H} {v v2 : V} {es : List SP} (hv : LV v2 es) (h1 : arg0 v = some v) (hval : run XP i_slices_Values_api_Span_api_Span [v] h = some (.fn i_slices_Values_api_Span_api_Span_1 [] [.fptr (.agg [v2]) 0], h2)) (hl2 : h2.length = h.length) (hs : ∀ e ∈ es, e.Sm) (hn : es.length ≤ 100000) :
    run XP i_span_Winners [v] h = some (nl (wns es), h2) := by
  obtain ⟨R, hR, hR0⟩ := run_set hv h1 hval hl2 hs hn
  have htk : h2.take h.length = h2 := List.take_of_length_le (by omega)
  have hdl := dst_length es
  have hC := run_chosen (h := h2 ++ [.box false [nl (dst es)]]) (v := nl (dst es)) (es := dst es) (fun t => (nl_LV _).rd _) (fun e he => hs e (dst_mem he)) (by omega) (f := i_span_Winners_1) (b := [.ptr h2.length 0]) rfl (p := pW (dst es))
    (fun k t hk => run_Win1 (z := false) (by rw [List.append_assoc, at_app0]; rfl) hk (by omega))
  rw [winL_sel (dst es) (dst es) 0 rfl] at hC
  have hh : h2.length = h.length := hl2
  rw [run_eq, xp_span_Winners]
  have htk2 : ∀ x : O, (h2 ++ [x]).take h.length = h2 := fun x => by rw [← hl2]; simp
  simp -implicitDefEqProofs [x_span_Winners, h1, hR, hR0, nl_arg0, nl_cells, nl_stNew, nl_rdCell, hC, nl_res, nl_ret, htk2, wns]
end Go.Proofs.Sl

namespace Go.Proofs.Sl
def wthn (lo hi : Int) : List UInt8 → Bool
  | [] => true
  | b :: l => if (b.toNat : Int) < lo ∨ hi < (b.toNat : Int) then false else wthn lo hi l
theorem bts_get {s : ByteArray} {k : Nat} {c : UInt8} (h : (bts s)[k]? = some c) : s.data[k]? = some c := by simpa [bts] using h
theorem run_within (h : H) (s : ByteArray) (lo hi : Int) (hs : s.size ≤ 9223372036854775807) : run XP i_attribute_within [vs s, vk .u8 lo, vk .u8 hi] h = some (vb (wthn lo hi (bts s)), h) := by
  have hlen := bts_length s
  rw [run_eq, xp_attribute_within]
  simp -implicitDefEqProofs [x_attribute_within]
  refine loop_list (bts s) (fun k s' h' => Sees s' [(0, vs s), (1, vk .u8 lo), (2, vk .u8 hi), (9, vi s.size), (10, vi k)] ∧ h' = h ∧ wthn lo hi (bts s) = wthn lo hi ((bts s).drop k)) ?_ ?_ _ _ ⟨by simp, rfl, rfl⟩
  · rintro B f hB hf k c s' h' he hk ⟨⟨h0, h1, h2, h9, h10, -⟩, rfl, hx⟩ K
    have hlt : (k : Int) < s.size := by omega
    have hw : IntKind.i64.wrap ((k : Int) + 1) = (k : Int) + 1 := wrap_i64 (by omega) (by omega)
    have hd := bts_get he
    rw [drop_at he, wthn] at hx
    by_cases c1 : (c.toNat : Int) < lo
    · rw [if_pos (.inl c1)] at hx
      simp -implicitDefEqProofs [hB, hf, x_attribute_within_l0, h0, h1, h2, h9, h10, hlt, hd, c1, hx]
    · by_cases c2 : hi < (c.toNat : Int)
      · rw [if_pos (.inr c2)] at hx
        simp -implicitDefEqProofs [hB, hf, x_attribute_within_l0, h0, h1, h2, h9, h10, hlt, hd, c1, c2, hx]
      · rw [if_neg (by omega)] at hx
        simp -implicitDefEqProofs [hB, x_attribute_within_l0, h0, h1, h2, h9, h10, hlt, hd, c1, c2]
        refine K _ _ ⟨?_, rfl, hx⟩
        simp [h0, h1, h2, h9, hw]
  · rintro B hB s' h' ⟨⟨h0, h1, h2, h9, h10, -⟩, rfl, hx⟩
    rw [hlen] at h10
    rw [hlen, List.drop_of_length_le (by omega), wthn] at hx
    simp -implicitDefEqProofs [hB, x_attribute_within_l0, h0, h1, h2, h9, h10, hx]

def eS : ByteArray := ⟨#[]⟩
def isNm (s : ByteArray) : Bool := !(decide (s = eS)) && (decide (s.size ≤ 64) && wthn 33 126 (bts s))
theorem isE (s : ByteArray) : s.toList.isEmpty = decide (s = eS) := by
  have := bl_eq (a := s) (b := eS)
  rw [← this]
  have h : eS.toList = [] := by rw [ByteArray.toList_eq]; rfl
  rw [h]
  cases s.toList <;> rfl
theorem run_IsName (h : H) (s : ByteArray) (hs : s.size ≤ 9223372036854775807) : run XP i_attribute_IsName [vs s] h = some (vb (isNm s), h) := by
  have h1 := fun h => run_within h s 33 126 hs
  have h2 := isE s
  rw [run_eq, xp_attribute_IsName]
  unfold isNm
  by_cases c1 : s = eS
  · have h3 : s.toList.isEmpty = true := by rw [h2]; simp [c1]
    rw [show decide (s = eS) = true by simp [c1]]
    simp only [Bool.not_true, Bool.false_and]
    simp -implicitDefEqProofs [x_attribute_IsName, h3]
  · have h3 : s.toList.isEmpty = false := by rw [h2]; simp [c1]
    rw [show decide (s = eS) = false by simp [c1]]
    simp only [Bool.not_false, Bool.true_and]
    by_cases c2 : s.size ≤ 64
    · have c2' : (s.size : Int) ≤ 64 := by omega
      simp -implicitDefEqProofs [x_attribute_IsName, h3, c2, c2', h1]
    · have c2' : ¬ (s.size : Int) ≤ 64 := by omega
      simp -implicitDefEqProofs [x_attribute_IsName, h3, c2, c2']
/-! ### Values -/
def fin5 (sz : Nat) (ok : Bool) : Int := if 4096 < sz then 5 else if ok = true then 0 else 3
def okV (k : Int) (t : ByteArray) (n : Int) : Bool := if k = 1 then wthn 32 126 (bts t) && decide (n = 0) else if k = 2 then decide (t = eS) && (decide (-1099511627776 ≤ n) && decide (n ≤ 1099511627776)) else decide (t = eS) && (decide (n = 0) || decide (n = 1))
def chkV (v : AV) : Int := if v.k = 1 ∨ v.k = 2 ∨ v.k = 3 then fin5 v.t.size (okV v.k v.t v.n) else 12
theorem run_CheckValue (h : H) (v : AV) (hs : v.t.size ≤ 9223372036854775807) : run XP i_attribute_CheckValue [v.v] h = some (vi (chkV v), h) := by
  obtain ⟨k, t, n⟩ := v
  simp only at hs
  have h1 := fun h => run_within h t 32 126 hs
  rw [run_eq, xp_attribute_CheckValue]
  by_cases hl : 4096 < t.size
  · have hl' : (4096 : Int) < t.size := by omega
    by_cases k1 : k = 1
    · cases hw : wthn 32 126 (bts t)
      · simp -implicitDefEqProofs [x_attribute_CheckValue, AV.v, h1, chkV, fin5, okV, hl, hl', k1, hw]
      · by_cases n0 : n = 0
        · simp -implicitDefEqProofs [x_attribute_CheckValue, AV.v, h1, chkV, fin5, okV, hl, hl', k1, hw, n0]
        · have n0' : (n == 0) = false := by simpa using n0
          simp -implicitDefEqProofs [x_attribute_CheckValue, AV.v, h1, chkV, fin5, okV, hl, hl', k1, hw, n0, n0']
    · have k1' : (k == 1) = false := by simpa using k1
      by_cases k2 : k = 2
      · by_cases te : t = eS
        · have te' : t.toList.isEmpty = true := by rw [isE]; simp [te]
          have teP : t = eS ↔ True := iff_true_intro te
          by_cases n1 : -1099511627776 ≤ n
          · by_cases n2 : n ≤ 1099511627776
            · simp -implicitDefEqProofs [x_attribute_CheckValue, AV.v, h1, chkV, fin5, okV, hl, hl', k1, k1', k2, te', teP, n1, n2]
            · simp -implicitDefEqProofs [x_attribute_CheckValue, AV.v, h1, chkV, fin5, okV, hl, hl', k1, k1', k2, te', teP, n1, n2]
          · simp -implicitDefEqProofs [x_attribute_CheckValue, AV.v, h1, chkV, fin5, okV, hl, hl', k1, k1', k2, te', teP, n1]
        · have te' : t.toList.isEmpty = false := by rw [isE]; simp [te]
          have teP : t = eS ↔ False := iff_false_intro te
          simp -implicitDefEqProofs [x_attribute_CheckValue, AV.v, h1, chkV, fin5, okV, hl, hl', k1, k1', k2, te', teP]
      · have k2' : (k == 2) = false := by simpa using k2
        by_cases k3 : k = 3
        · by_cases te : t = eS
          · have te' : t.toList.isEmpty = true := by rw [isE]; simp [te]
            have teP : t = eS ↔ True := iff_true_intro te
            by_cases n0 : n = 0
            · simp -implicitDefEqProofs [x_attribute_CheckValue, AV.v, h1, chkV, fin5, okV, hl, hl', k1, k1', k2, k2', k3, te', teP, n0]
            · have n0' : (n == 0) = false := by simpa using n0
              by_cases n1 : n = 1
              · simp -implicitDefEqProofs [x_attribute_CheckValue, AV.v, h1, chkV, fin5, okV, hl, hl', k1, k1', k2, k2', k3, te', teP, n0, n0', n1]
              · have n1' : (n == 1) = false := by simpa using n1
                simp -implicitDefEqProofs [x_attribute_CheckValue, AV.v, h1, chkV, fin5, okV, hl, hl', k1, k1', k2, k2', k3, te', teP, n0, n0', n1, n1']
          · have te' : t.toList.isEmpty = false := by rw [isE]; simp [te]
            have teP : t = eS ↔ False := iff_false_intro te
            simp -implicitDefEqProofs [x_attribute_CheckValue, AV.v, h1, chkV, fin5, okV, hl, hl', k1, k1', k2, k2', k3, te', teP]
        · have k3' : (k == 3) = false := by simpa using k3
          simp -implicitDefEqProofs [x_attribute_CheckValue, AV.v, h1, chkV, fin5, okV, hl, hl', k1, k1', k2, k2', k3, k3']
  · have hl' : ¬ ((4096 : Int) < t.size) := by omega
    by_cases k1 : k = 1
    · cases hw : wthn 32 126 (bts t)
      · simp -implicitDefEqProofs [x_attribute_CheckValue, AV.v, h1, chkV, fin5, okV, hl, hl', k1, hw]
      · by_cases n0 : n = 0
        · simp -implicitDefEqProofs [x_attribute_CheckValue, AV.v, h1, chkV, fin5, okV, hl, hl', k1, hw, n0]
        · have n0' : (n == 0) = false := by simpa using n0
          simp -implicitDefEqProofs [x_attribute_CheckValue, AV.v, h1, chkV, fin5, okV, hl, hl', k1, hw, n0, n0']
    · have k1' : (k == 1) = false := by simpa using k1
      by_cases k2 : k = 2
      · by_cases te : t = eS
        · have te' : t.toList.isEmpty = true := by rw [isE]; simp [te]
          have teP : t = eS ↔ True := iff_true_intro te
          by_cases n1 : -1099511627776 ≤ n
          · by_cases n2 : n ≤ 1099511627776
            · simp -implicitDefEqProofs [x_attribute_CheckValue, AV.v, h1, chkV, fin5, okV, hl, hl', k1, k1', k2, te', teP, n1, n2]
            · simp -implicitDefEqProofs [x_attribute_CheckValue, AV.v, h1, chkV, fin5, okV, hl, hl', k1, k1', k2, te', teP, n1, n2]
          · simp -implicitDefEqProofs [x_attribute_CheckValue, AV.v, h1, chkV, fin5, okV, hl, hl', k1, k1', k2, te', teP, n1]
        · have te' : t.toList.isEmpty = false := by rw [isE]; simp [te]
          have teP : t = eS ↔ False := iff_false_intro te
          simp -implicitDefEqProofs [x_attribute_CheckValue, AV.v, h1, chkV, fin5, okV, hl, hl', k1, k1', k2, te', teP]
      · have k2' : (k == 2) = false := by simpa using k2
        by_cases k3 : k = 3
        · by_cases te : t = eS
          · have te' : t.toList.isEmpty = true := by rw [isE]; simp [te]
            have teP : t = eS ↔ True := iff_true_intro te
            by_cases n0 : n = 0
            · simp -implicitDefEqProofs [x_attribute_CheckValue, AV.v, h1, chkV, fin5, okV, hl, hl', k1, k1', k2, k2', k3, te', teP, n0]
            · have n0' : (n == 0) = false := by simpa using n0
              by_cases n1 : n = 1
              · simp -implicitDefEqProofs [x_attribute_CheckValue, AV.v, h1, chkV, fin5, okV, hl, hl', k1, k1', k2, k2', k3, te', teP, n0, n0', n1]
              · have n1' : (n == 1) = false := by simpa using n1
                simp -implicitDefEqProofs [x_attribute_CheckValue, AV.v, h1, chkV, fin5, okV, hl, hl', k1, k1', k2, k2', k3, te', teP, n0, n0', n1, n1']
          · have te' : t.toList.isEmpty = false := by rw [isE]; simp [te]
            have teP : t = eS ↔ False := iff_false_intro te
            simp -implicitDefEqProofs [x_attribute_CheckValue, AV.v, h1, chkV, fin5, okV, hl, hl', k1, k1', k2, k2', k3, te', teP]
        · have k3' : (k == 3) = false := by simpa using k3
          simp -implicitDefEqProofs [x_attribute_CheckValue, AV.v, h1, chkV, fin5, okV, hl, hl', k1, k1', k2, k2', k3, k3']
end Go.Proofs.Sl

namespace Go.Proofs.Sl
theorem run_OrE (h : H) (ns : List Int) (hl : ns.length ≤ 10000) : run XP i_cmp_Or_api_Errno [.lst 1 (il ns)] h = some (vi (orl ns), h) := by
  have hv : Rd h 1 (.lst 1 (il ns)) (il ns) := .lst _
  rw [run_eq, xp_cmp_Or_api_Errno]
  simp -implicitDefEqProofs [x_cmp_Or_api_Errno, il_length]
  refine loop_list ns (fun k s h' => Sees s [(3, vi 0), (6, .lst 1 (il ns)), (7, vi ns.length), (8, vi k)] ∧ h' = h ∧ orl ns = orl (ns.drop k)) ?_ ?_ _ _ ⟨by simp, rfl, rfl⟩
  · rintro B f hB hf k e s h' he hk ⟨⟨h3, h6, h7, h8, -⟩, rfl, hx⟩ K
    obtain ⟨p, hp, hld⟩ := hv.at1 (il_at he) rfl
    have hlt : (k : Int) < ns.length := by omega
    rw [drop_at he, orl] at hx
    by_cases h0 : e = 0
    · rw [if_neg (by simpa using h0)] at hx
      simp -implicitDefEqProofs [hB, x_cmp_Or_api_Errno_l0, h3, h6, h7, h8, hlt, hp, hld, h0]
      refine K _ _ ⟨?_, rfl, hx⟩
      simp [h3, h6, h7, wrap_up (by omega : k < 100000000000)]
    · rw [if_pos h0] at hx
      have h0' : (e != 0) = true := by simpa using h0
      simp -implicitDefEqProofs [hB, hf, x_cmp_Or_api_Errno_l0, h3, h6, h7, h8, hlt, hp, hld, h0', hx]
  · rintro B hB s h' ⟨⟨h3, h6, h7, h8, -⟩, rfl, hx⟩
    simp -implicitDefEqProofs [hB, x_cmp_Or_api_Errno_l0, h3, h7, h8, hx, orl]
def rngd (n lo hi : Int) : Bool := decide (lo ≤ n) && decide (n ≤ hi)
theorem run_badId (h : H) (n : Int) : run XP i_span_badId [vi n] h = some (vb (!rngd n 1 1099511627776), h) := by
  rw [run_eq, xp_span_badId]
  unfold rngd
  by_cases c1 : 1 ≤ n
  · have c1' : ¬ n < 1 := by omega
    by_cases c2 : n ≤ 1099511627776
    · have c2' : ¬ 1099511627776 < n := by omega
      simp -implicitDefEqProofs [x_span_badId, c1, c2, c1', c2']
    · have c2' : 1099511627776 < n := by omega
      simp -implicitDefEqProofs [x_span_badId, c1, c2, c1', c2']
  · have c1' : n < 1 := by omega
    simp -implicitDefEqProofs [x_span_badId, c1, c1']

def leqT (a b : ByteArray) : Bool := Op.bytesLess a.toList b.toList || a.toList == b.toList
def chkAs : Option AT → List AT → Int
  | _, [] => 0
  | p, a :: r => if isNm a.key = false then 11 else if (match p with
      | none => false
      | some q => leqT a.key q.key) = true then 8 else if chkV a.val ≠ 0 then chkV a.val else chkAs (some a) r
theorem chkAs_nil (p : Option AT) : chkAs p [] = 0 := by rw [chkAs]
theorem chkAs_cons (p : Option AT) (a : AT) (r : List AT) : chkAs p (a :: r) = if isNm a.key = false then 11 else if (match p with
      | none => false
      | some q => leqT a.key q.key) = true then 8 else if chkV a.val ≠ 0 then chkV a.val else chkAs (some a) r := by cases p <;> rfl
def chkAL (l : List AT) : Int := if 32 < l.length then 6 else chkAs none l
/-- The one ahead. -/
def prevA {α : Type} (l : List α) (k : Nat) : Option α := if k = 0 then none else l[k - 1]?
theorem prevA_up {α : Type} {l : List α} {k : Nat} {a : α} (h : l[k]? = some a) : prevA l (k + 1) = some a := by simp [prevA, h]
structure AT.Sz (a : AT) : Prop where
  key : a.key.size ≤ 9223372036854775807
  t : a.val.t.size ≤ 9223372036854775807

theorem lv_fptr {α : Type} {f : α → V} {l : List α} {n : Bool} (hn : n = true → l = []) {i : Nat} {a : α} (ha : l[i]? = some a) (h : H) (k : Nat) : iaddrV h k (lv k (slc f l n)) i = some (.fptr (f a) 0) := by
  cases n with
  | true => rw [hn rfl] at ha; simp at ha
  | false =>
    show iaddrV h k (.lst k (l.map f)) i = _
    have : (l.map f)[i]? = some (f a) := by rw [List.getElem?_map, ha]; rfl
    rw [iaddrV_lst, if_pos rfl, this, ob_some]
theorem run_CheckAttrs {h : H} {l : List AT} {n : Bool} (hn : n = true → l = []) (hs : ∀ a ∈ l, a.Sz) : run XP i_attribute_CheckAttrs [lv 4 (slc AT.v l n)] h = some (vi (chkAL l), h) := by
  have hv := fun h => rd_slc h 4 AT.v hn
  obtain ⟨v, hvv⟩ : ∃ v, v = lv 4 (slc AT.v l n) := ⟨_, rfl⟩
  rw [← hvv] at hv ⊢
  rw [run_eq, xp_attribute_CheckAttrs]
  by_cases hl : 32 < l.length
  · have hl' : (32 : Int) < l.length := by omega
    simp -implicitDefEqProofs [x_attribute_CheckAttrs, (hv _).toL, hl, hl', chkAL]
  · have hl' : ¬ (32 : Int) < l.length := by omega
    rw [chkAL, if_neg hl]
    simp -implicitDefEqProofs [x_attribute_CheckAttrs, (hv _).toL, hl, hl']
    refine loop_list l (fun k s h' => Sees s [(0, v), (9, v), (10, vi l.length), (11, vi k)] ∧ (∃ t, h' = h ++ t) ∧ chkAs none l = chkAs (prevA l k) (l.drop k)) ?_ ?_ _ _ ⟨by simp, ⟨[], by simp⟩, rfl⟩
    · rintro B f hB hf k e s h' he hk ⟨⟨h0, h9, h10, h11, -⟩, ⟨t, rfl⟩, hx⟩ K
      have hlt : (k : Int) < l.length := by omega
      obtain ⟨p, hp, hld⟩ := (hv (h ++ t)).at (i := k) (e := e.v) (by simp [he])
      have hw : IntKind.i64.wrap ((k : Int) + 1) = (k : Int) + 1 := wrap_i64 (by omega) (by omega)
      have hsz := hs e (List.mem_of_getElem? he)
      have hN := fun h => run_IsName h e.key hsz.key
      have hV := fun h => run_CheckValue h e.val hsz.t
      simp only [AT.v, AV.v, V.cells] at hld hV
      rw [drop_at he, chkAs_cons] at hx
      cases hnm : isNm e.key with
      | false =>
        rw [if_pos hnm] at hx
        simp -implicitDefEqProofs [hB, hf, x_attribute_CheckAttrs_l0, h0, h9, h10, h11, hlt, hp, hld, hN, hnm, hx]
      | true =>
        rw [if_neg (by simp [hnm])] at hx
        by_cases hk0 : k = 0
        · subst hk0
          simp only [prevA, if_true, Bool.false_eq_true, if_false] at hx
          by_cases hz : chkV e.val = 0
          · rw [if_neg (by simpa using hz)] at hx
            simp -implicitDefEqProofs [hB, x_attribute_CheckAttrs_l0, h0, h9, h10, h11, hk, hp, hld, hN, hnm, hV, hz]
            refine K _ _ ⟨?_, ⟨_, rfl⟩, by rw [prevA_up he]; exact hx⟩
            simpa [h0, h9, h10] using hw
          · rw [if_pos hz] at hx
            have hz' : (chkV e.val != 0) = true := by simpa using hz
            simp -implicitDefEqProofs [hB, hf, x_attribute_CheckAttrs_l0, h0, h9, h10, h11, hk, hp, hld, hN, hnm, hV, hz', hx]
        · obtain ⟨q, hq⟩ : ∃ q, l[k - 1]? = some q := ⟨_, List.getElem?_eq_getElem (by omega)⟩
          have hp2 := lv_fptr (f := AT.v) hn hq (h ++ (t ++ [.box false e.v.cells])) 4
          rw [← hvv] at hp2
          have hw1 : IntKind.i64.wrap ((k : Int) - 1) = ((k - 1 : Nat) : Int) := by rw [wrap_i64 (by omega) (by omega)]; omega
          have hk0' : (0 : Int) < k := by omega
          have hk0n : 0 < k := by omega
          simp only [AT.v, V.cells] at hp2
          have hpv : prevA l k = some q := by simp [prevA, hk0, hq]
          rw [hpv] at hx
          replace hx : chkAs none l = if leqT e.key q.key = true then 8 else if chkV e.val ≠ 0 then chkV e.val else chkAs (some e) (l.drop (k + 1)) := hx
          cases hle0 : leqT e.key q.key with
          | true =>
            rw [if_pos hle0] at hx
            have hle : (Op.bytesLess e.key.toList q.key.toList || e.key.toList == q.key.toList) = true := hle0
            simp -implicitDefEqProofs [hB, hf, x_attribute_CheckAttrs_l0, h0, h9, h10, h11, hlt, hp, hld, hN, hnm, hk0', hk0n, hw1, hp2, hle, hx]
          | false =>
            rw [if_neg (by simp [hle0])] at hx
            have hle : (Op.bytesLess e.key.toList q.key.toList || e.key.toList == q.key.toList) = false := hle0
            by_cases hz : chkV e.val = 0
            · rw [if_neg (by simpa using hz)] at hx
              simp -implicitDefEqProofs [hB, x_attribute_CheckAttrs_l0, h0, h9, h10, h11, hlt, hp, hld, hN, hnm, hk0', hk0n, hw1, hp2, hle, hV, hz]
              refine K _ _ ⟨?_, ⟨_, rfl⟩, by rw [prevA_up he]; exact hx⟩
              simp [h0, h9, h10, hw]
            · rw [if_pos hz] at hx
              have hz' : (chkV e.val != 0) = true := by simpa using hz
              simp -implicitDefEqProofs [hB, hf, x_attribute_CheckAttrs_l0, h0, h9, h10, h11, hlt, hp, hld, hN, hnm, hk0', hk0n, hw1, hp2, hle, hV, hz', hx]
    · rintro B hB s h' ⟨⟨h0, h9, h10, h11, -⟩, ⟨t, rfl⟩, hx⟩
      rw [List.drop_of_length_le (Nat.le_refl _), chkAs_nil] at hx
      simp -implicitDefEqProofs [hB, x_attribute_CheckAttrs_l0, h0, h9, h10, h11, hx]
/-! ### Links -/
def okR (r : RF) : Bool := rngd r.t 1 1099511627776 && rngd r.i 1 1099511627776
def chkLs : Option RF → List RF → Int
  | _, [] => 0
  | p, r :: l => if okR r = false then 2 else if (match p with
      | none => false
      | some q => decide (0 ≤ cmpR q r)) = true then 8 else chkLs (some r) l
theorem chkLs_nil (p : Option RF) : chkLs p [] = 0 := by rw [chkLs]
theorem chkLs_cons (p : Option RF) (r : RF) (l : List RF) : chkLs p (r :: l) = if okR r = false then 2 else if (match p with
      | none => false
      | some q => decide (0 ≤ cmpR q r)) = true then 8 else chkLs (some r) l := by cases p <;> rfl
def chkLL (l : List RF) : Int := if 16 < l.length then 6 else chkLs none l
theorem run_checkLinks {h : H} {l : List RF} {n : Bool} (hn : n = true → l = []) : run XP i_span_checkLinks [lv 2 (slc RF.v l n)] h = some (vi (chkLL l), h) := by
  have hv := fun h => rd_slc h 2 RF.v hn
  obtain ⟨v, hvv⟩ : ∃ v, v = lv 2 (slc RF.v l n) := ⟨_, rfl⟩
  rw [← hvv] at hv ⊢
  rw [run_eq, xp_span_checkLinks]
  by_cases hl : 16 < l.length
  · have hl' : (16 : Int) < l.length := by omega
    simp -implicitDefEqProofs [x_span_checkLinks, (hv _).toL, hl, hl', chkLL]
  · have hl' : ¬ (16 : Int) < l.length := by omega
    rw [chkLL, if_neg hl]
    simp -implicitDefEqProofs [x_span_checkLinks, (hv _).toL, hl, hl']
    refine loop_list l (fun k s h' => Sees s [(0, v), (8, v), (9, vi l.length), (10, vi k)] ∧ (∃ t, h' = h ++ t) ∧ chkLs none l = chkLs (prevA l k) (l.drop k)) ?_ ?_ _ _ ⟨by simp, ⟨[], by simp⟩, rfl⟩
    · rintro B f hB hf k e s h' he hk ⟨⟨h0, h8, h9, h10, -⟩, ⟨t, rfl⟩, hx⟩ K
      have hlt : (k : Int) < l.length := by omega
      have hp := lv_fptr (f := RF.v) hn he (h ++ t) 2
      rw [← hvv] at hp
      have hw : IntKind.i64.wrap ((k : Int) + 1) = (k : Int) + 1 := wrap_i64 (by omega) (by omega)
      have b1 := fun h => run_badId h e.t
      have b2 := fun h => run_badId h e.i
      simp only [RF.v] at hp
      rw [drop_at he, chkLs_cons] at hx
      cases r1 : rngd e.t 1 1099511627776 with
      | false =>
        rw [if_pos (by simp [okR, r1])] at hx
        simp -implicitDefEqProofs [hB, hf, x_span_checkLinks_l0, h0, h8, h9, h10, hlt, hk, hp, b1, r1, hx]
      | true =>
        cases r2 : rngd e.i 1 1099511627776 with
        | false =>
          rw [if_pos (by simp [okR, r2])] at hx
          simp -implicitDefEqProofs [hB, hf, x_span_checkLinks_l0, h0, h8, h9, h10, hlt, hk, hp, b1, b2, r1, r2, hx]
        | true =>
          rw [if_neg (by simp [okR, r1, r2])] at hx
          by_cases hk0 : k = 0
          · subst hk0
            simp only [prevA, if_true, Bool.false_eq_true, if_false] at hx
            simp -implicitDefEqProofs [hB, x_span_checkLinks_l0, h0, h8, h9, h10, hk, hp, b1, b2, r1, r2]
            refine K _ _ ⟨?_, ⟨_, rfl⟩, by rw [prevA_up he]; exact hx⟩
            simpa [h0, h8, h9] using hw
          · obtain ⟨q, hq⟩ : ∃ q, l[k - 1]? = some q := ⟨_, List.getElem?_eq_getElem (by omega)⟩
            have hp2 := lv_fptr (f := RF.v) hn hq (h ++ (t ++ [.box false e.v.cells])) 2
            rw [← hvv] at hp2
            have hw1 : IntKind.i64.wrap ((k : Int) - 1) = ((k - 1 : Nat) : Int) := by rw [wrap_i64 (by omega) (by omega)]; omega
            have hk0' : (0 : Int) < k := by omega
            have hk0n : 0 < k := by omega
            have hc := fun h => run_cmpR h q e
            simp only [RF.v, V.cells] at hp2 hc
            have hpv : prevA l k = some q := by simp [prevA, hk0, hq]
            rw [hpv] at hx
            replace hx : chkLs none l = if decide (0 ≤ cmpR q e) = true then 8 else chkLs (some e) (l.drop (k + 1)) := hx
            by_cases hle : 0 ≤ cmpR q e
            · rw [if_pos (by simpa using hle)] at hx
              simp -implicitDefEqProofs [hB, hf, x_span_checkLinks_l0, h0, h8, h9, h10, hlt, hk, hp, b1, b2, r1, r2, hk0', hk0n, hw1, hp2, hc, hle, hx]
            · rw [if_neg (by simpa using hle)] at hx
              simp -implicitDefEqProofs [hB, x_span_checkLinks_l0, h0, h8, h9, h10, hlt, hk, hp, b1, b2, r1, r2, hk0', hk0n, hw1, hp2, hc, hle]
              refine K _ _ ⟨?_, ⟨_, rfl⟩, by rw [prevA_up he]; exact hx⟩
              simp [h0, h8, h9, hw]
    · rintro B hB s h' ⟨⟨h0, h8, h9, h10, -⟩, ⟨t, rfl⟩, hx⟩
      rw [List.drop_of_length_le (Nat.le_refl _), chkLs_nil] at hx
      simp -implicitDefEqProofs [hB, x_span_checkLinks_l0, h0, h8, h9, h10, hx]
end Go.Proofs.Sl

namespace Go.Proofs.Sl
theorem rngd_iff {n lo hi : Int} : rngd n lo hi = true ↔ lo ≤ n ∧ n ≤ hi := by simp [rngd]
def chkSp (a : SP) : Int :=
  if (rngd a.tr 1 1099511627776 && (rngd a.id 1 1099511627776 && (rngd a.par 0 1099511627776 && (rngd a.rev 0 1048576 && rngd a.clk 1 1048576)))) = false then 2
  else if rngd a.kind 1 5 = false then 12
  else if (isNm a.sv && (isNm a.op && (decide (a.vr = eS) || isNm a.vr))) = false then 11
  else if (rngd a.st (-1099511627776) 1099511627776 && rngd a.en (-1099511627776) 1099511627776) = false then 32
  else if a.en < a.st then 8
  else if 1099511627776 < a.en - a.st then 32
  else orl [chkAL a.ats, chkLL a.lks]
structure SP.Sz (a : SP) : Prop where
  sv : a.sv.size ≤ 9223372036854775807
  vr : a.vr.size ≤ 9223372036854775807
  op : a.op.size ≤ 9223372036854775807
  ats : ∀ e ∈ a.ats, e.Sz
  an : a.an = true → a.ats = []
  ln : a.ln = true → a.lks = []
/-- No version, or a name. -/
theorem vcase (vr : ByteArray) (h : (decide (vr = eS) || isNm vr) = true) : (vr.toList.isEmpty = true ∧ True) ∨ (vr.toList.isEmpty = false ∧ isNm vr = true) := by
  by_cases e : vr = eS
  · exact .inl ⟨by rw [isE]; simp [e], trivial⟩
  · exact .inr ⟨by rw [isE]; simp [e], by simpa [e] using h⟩
theorem run_Check (h : H) {a : SP} (ha : a.Sz) : run XP i_span_Check [a.v] h = some (vi (chkSp a), h) := by
  obtain ⟨q1, q2, q3, q4, q5, q6⟩ := ha
  obtain ⟨tr, id, par, rev, clk, kind, sv, vr, op, st, en, er, ats, lks, an, ln⟩ := a
  simp only at q1 q2 q3 q4 q5 q6
  have i1 := fun h => run_IsName h sv q1
  have i2 := fun h => run_IsName h vr q2
  have i3 := fun h => run_IsName h op q3
  have ca := fun h => run_CheckAttrs (h := h) q5 q4
  have aa := (rd_slc h 4 AT.v q5).arg0
  have ab := (rd_slc h 2 RF.v q6).arg0
  have b1 := fun h => run_badId h tr
  have b2 := fun h => run_badId h id
  have cl := fun h => run_checkLinks (h := h) q6
  have co := fun h => run_OrE h [chkAL ats, chkLL lks] (by simp)
  simp only [il, List.map_cons, List.map_nil] at co
  rw [run_eq]
  cases r_tr : rngd tr 1 1099511627776
  · (rw [xp_span_Check]; simp -implicitDefEqProofs [x_span_Check, SP.v, chkSp, i1, i2, i3, b1, b2, r_tr])
  ·
    cases r_id : rngd id 1 1099511627776
    · (rw [xp_span_Check]; simp -implicitDefEqProofs [x_span_Check, SP.v, chkSp, i1, i2, i3, b1, b2, r_tr, r_id])
    ·
      by_cases c_par : par < 0
      · have r_par : rngd par 0 1099511627776 = false := by simp [rngd]; omega
        (rw [xp_span_Check]; simp -implicitDefEqProofs [x_span_Check, SP.v, chkSp, i1, i2, i3, b1, b2, r_tr, r_id, c_par, r_par])
      ·
        by_cases d_par : 1099511627776 < par
        · have r_par : rngd par 0 1099511627776 = false := by simp [rngd]; omega
          (rw [xp_span_Check]; simp -implicitDefEqProofs [x_span_Check, SP.v, chkSp, i1, i2, i3, b1, b2, r_tr, r_id, c_par, d_par, r_par])
        ·
          have r_par : rngd par 0 1099511627776 = true := by simp [rngd]; omega
          by_cases c_rev : rev < 0
          · have r_rev : rngd rev 0 1048576 = false := by simp [rngd]; omega
            (rw [xp_span_Check]; simp -implicitDefEqProofs [x_span_Check, SP.v, chkSp, i1, i2, i3, b1, b2, r_tr, r_id, c_par, d_par, r_par, c_rev, r_rev])
          ·
            by_cases d_rev : 1048576 < rev
            · have r_rev : rngd rev 0 1048576 = false := by simp [rngd]; omega
              (rw [xp_span_Check]; simp -implicitDefEqProofs [x_span_Check, SP.v, chkSp, i1, i2, i3, b1, b2, r_tr, r_id, c_par, d_par, r_par, c_rev, d_rev, r_rev])
            ·
              have r_rev : rngd rev 0 1048576 = true := by simp [rngd]; omega
              by_cases c_clk : clk < 1
              · have r_clk : rngd clk 1 1048576 = false := by simp [rngd]; omega
                (rw [xp_span_Check]; simp -implicitDefEqProofs [x_span_Check, SP.v, chkSp, i1, i2, i3, b1, b2, r_tr, r_id, c_par, d_par, r_par, c_rev, d_rev, r_rev, c_clk, r_clk])
              ·
                by_cases d_clk : 1048576 < clk
                · have r_clk : rngd clk 1 1048576 = false := by simp [rngd]; omega
                  (rw [xp_span_Check]; simp -implicitDefEqProofs [x_span_Check, SP.v, chkSp, i1, i2, i3, b1, b2, r_tr, r_id, c_par, d_par, r_par, c_rev, d_rev, r_rev, c_clk, d_clk, r_clk])
                ·
                  have r_clk : rngd clk 1 1048576 = true := by simp [rngd]; omega
                  by_cases c_kind : kind < 1
                  · have r_kind : rngd kind 1 5 = false := by simp [rngd]; omega
                    (rw [xp_span_Check]; simp -implicitDefEqProofs [x_span_Check, SP.v, chkSp, i1, i2, i3, b1, b2, r_tr, r_id, c_par, d_par, r_par, c_rev, d_rev, r_rev, c_clk, d_clk, r_clk, c_kind, r_kind])
                  ·
                    by_cases d_kind : 5 < kind
                    · have r_kind : rngd kind 1 5 = false := by simp [rngd]; omega
                      (rw [xp_span_Check]; simp -implicitDefEqProofs [x_span_Check, SP.v, chkSp, i1, i2, i3, b1, b2, r_tr, r_id, c_par, d_par, r_par, c_rev, d_rev, r_rev, c_clk, d_clk, r_clk, c_kind, d_kind, r_kind])
                    ·
                      have r_kind : rngd kind 1 5 = true := by simp [rngd]; omega
                      cases n_sv : isNm sv
                      · (rw [xp_span_Check]; simp -implicitDefEqProofs [x_span_Check, SP.v, chkSp, i1, i2, i3, b1, b2, r_tr, r_id, c_par, d_par, r_par, c_rev, d_rev, r_rev, c_clk, d_clk, r_clk, c_kind, d_kind, r_kind, n_sv])
                      ·
                        cases n_op : isNm op
                        · (rw [xp_span_Check]; simp -implicitDefEqProofs [x_span_Check, SP.v, chkSp, i1, i2, i3, b1, b2, r_tr, r_id, c_par, d_par, r_par, c_rev, d_rev, r_rev, c_clk, d_clk, r_clk, c_kind, d_kind, r_kind, n_sv, n_op])
                        ·
                          have tail : ∀ (q : Bool), q = (decide (vr = eS) || isNm vr) → q = true → ob (XP i_span_Check) (fun F => xfun (run XP) loopW F [SP.v ⟨tr, id, par, rev, clk, kind, sv, vr, op, st, en, er, ats, lks, an, ln⟩] h) = some (vi (chkSp ⟨tr, id, par, rev, clk, kind, sv, vr, op, st, en, er, ats, lks, an, ln⟩), h) := by
                            intro q hq hq1
                            rw [hq1] at hq
                            replace hq := hq.symm
                            rcases vcase vr hq with ⟨v1, v2⟩ | ⟨v1, v2⟩
                            all_goals
                              by_cases o1 : en < st
                              · have o3 : ¬ st < en := by omega
                                by_cases t1 : en < -1099511627776
                                · have r_en : rngd en (-1099511627776) 1099511627776 = false := by (cases h : rngd en (-1099511627776) 1099511627776; rfl; have := rngd_iff.1 h; omega)
                                  (rw [xp_span_Check]; simp -implicitDefEqProofs [x_span_Check, SP.v, chkSp, i1, i2, i3, b1, b2, r_tr, r_id, c_par, d_par, r_par, c_rev, d_rev, r_rev, c_clk, d_clk, r_clk, c_kind, d_kind, r_kind, n_sv, n_op, hq, v1, v2, o1, o3, t1, r_en, Bool.and_false])
                                · by_cases t2 : 1099511627776 < st
                                  · have r_st : rngd st (-1099511627776) 1099511627776 = false := by (cases h : rngd st (-1099511627776) 1099511627776; rfl; have := rngd_iff.1 h; omega)
                                    (rw [xp_span_Check]; simp -implicitDefEqProofs [x_span_Check, SP.v, chkSp, i1, i2, i3, b1, b2, r_tr, r_id, c_par, d_par, r_par, c_rev, d_rev, r_rev, c_clk, d_clk, r_clk, c_kind, d_kind, r_kind, n_sv, n_op, hq, v1, v2, o1, o3, t1, t2, r_st])
                                  · have r_st : rngd st (-1099511627776) 1099511627776 = true := rngd_iff.2 (by omega)
                                    have r_en : rngd en (-1099511627776) 1099511627776 = true := rngd_iff.2 (by omega)
                                    (rw [xp_span_Check]; simp -implicitDefEqProofs [x_span_Check, SP.v, chkSp, i1, i2, i3, b1, b2, r_tr, r_id, c_par, d_par, r_par, c_rev, d_rev, r_rev, c_clk, d_clk, r_clk, c_kind, d_kind, r_kind, n_sv, n_op, hq, v1, v2, o1, o3, t1, t2, r_st, r_en])
                              · have hmx : (if st < en then en else st) = en := by split <;> omega
                                by_cases t1 : st < -1099511627776
                                · have r_st : rngd st (-1099511627776) 1099511627776 = false := by (cases h : rngd st (-1099511627776) 1099511627776; rfl; have := rngd_iff.1 h; omega)
                                  (rw [xp_span_Check]; simp -implicitDefEqProofs [x_span_Check, SP.v, chkSp, i1, i2, i3, b1, b2, r_tr, r_id, c_par, d_par, r_par, c_rev, d_rev, r_rev, c_clk, d_clk, r_clk, c_kind, d_kind, r_kind, n_sv, n_op, hq, v1, v2, o1, hmx, t1, r_st])
                                · by_cases t2 : 1099511627776 < en
                                  · have r_en : rngd en (-1099511627776) 1099511627776 = false := by (cases h : rngd en (-1099511627776) 1099511627776; rfl; have := rngd_iff.1 h; omega)
                                    (rw [xp_span_Check]; simp -implicitDefEqProofs [x_span_Check, SP.v, chkSp, i1, i2, i3, b1, b2, r_tr, r_id, c_par, d_par, r_par, c_rev, d_rev, r_rev, c_clk, d_clk, r_clk, c_kind, d_kind, r_kind, n_sv, n_op, hq, v1, v2, o1, hmx, t1, t2, r_en, Bool.and_false])
                                  · have r_st : rngd st (-1099511627776) 1099511627776 = true := rngd_iff.2 (by omega)
                                    have r_en : rngd en (-1099511627776) 1099511627776 = true := rngd_iff.2 (by omega)
                                    have hw : IntKind.i64.wrap (en - st) = en - st := wrap_i64 (by omega) (by omega)
                                    by_cases o2 : 1099511627776 < en - st
                                    · (rw [xp_span_Check]; simp -implicitDefEqProofs [x_span_Check, SP.v, chkSp, i1, i2, i3, b1, b2, r_tr, r_id, c_par, d_par, r_par, c_rev, d_rev, r_rev, c_clk, d_clk, r_clk, c_kind, d_kind, r_kind, n_sv, n_op, hq, v1, v2, o1, hmx, t1, t2, r_st, r_en, hw, o2])
                                    ·
                                      rw [xp_span_Check]; simp -implicitDefEqProofs [x_span_Check, SP.v, chkSp, i1, i2, i3, b1, b2, ca, cl, co, aa, ab, same_self, optEq, r_tr, r_id, c_par, d_par, r_par, c_rev, d_rev, r_rev, c_clk, d_clk, r_clk, c_kind, d_kind, r_kind, n_sv, n_op, hq, v1, v2, o1, hmx, t1, t2, r_st, r_en, hw, o2]
                          by_cases e_vr : vr = eS
                          · exact tail _ rfl (by simp [e_vr])
                          · cases n_vr : isNm vr
                            · have e_vr' : vr.toList.isEmpty = false := by rw [isE]; simp [e_vr]
                              have hq : (decide (vr = eS) || isNm vr) = false := by simp [e_vr, n_vr]
                              (rw [xp_span_Check]; simp -implicitDefEqProofs [x_span_Check, SP.v, chkSp, i1, i2, i3, b1, b2, r_tr, r_id, c_par, d_par, r_par, c_rev, d_rev, r_rev, c_clk, d_clk, r_clk, c_kind, d_kind, r_kind, n_sv, n_op, e_vr', e_vr, n_vr, hq])
                            · exact tail _ rfl (by simp [n_vr])
end Go.Proofs.Sl

namespace Go.Proofs.Sl
theorem lv_rdCell (l o k : Nat) (x : Option (List V)) : rdCell l o (lv k x) = lv k x := by cases x <;> rfl
end Go.Proofs.Sl

namespace Go.Proofs.Sl
def ixT : List ByteArray → ByteArray → Nat → Int
  | [], _, _ => -1
  | t :: r, s, k => if s = t then k else ixT r s (k + 1)
theorem vs_get {ss : List ByteArray} {k : Nat} {e : ByteArray} (h : ss[k]? = some e) : (ss.map vs)[k]? = some (vs e) := by simp [h]
theorem run_Index (h : H) (ss : List ByteArray) (s : ByteArray) (hl : ss.length ≤ 10000) : run XP i_slices_Index_string_string [.lst 1 (ss.map vs), vs s] h = some (vi (ixT ss s 0), h) := by
  have hv : Rd h 1 (.lst 1 (ss.map vs)) (ss.map vs) := .lst _
  rw [run_eq, xp_slices_Index_string_string]
  simp -implicitDefEqProofs [x_slices_Index_string_string]
  refine loop_list ss (fun k s' h' => Sees s' [(0, .lst 1 (ss.map vs)), (1, vs s), (7, vi ss.length), (8, vi k)] ∧ h' = h ∧ ixT ss s 0 = ixT (ss.drop k) s k) ?_ ?_ _ _ ⟨by simp, rfl, rfl⟩
  · rintro B f hB hf k e s' h' he hk ⟨⟨h0, h1, h7, h8, -⟩, rfl, hx⟩ K
    obtain ⟨p, hp, hld⟩ := hv.at1 (vs_get he) rfl
    have hlt : (k : Int) < ss.length := by omega
    rw [drop_at he, ixT] at hx
    have hb := bl_eq (a := s) (b := e)
    by_cases h0' : s = e
    · rw [if_pos h0'] at hx
      have hb' : (s.toList == e.toList) = true := by rw [hb]; simp [h0']
      simp -implicitDefEqProofs [hB, hf, x_slices_Index_string_string_l0, h0, h1, h7, h8, hlt, hk, hp, hld, hb', hx]
    · rw [if_neg h0'] at hx
      have hb' : (s.toList == e.toList) = false := by rw [hb]; simp [h0']
      simp -implicitDefEqProofs [hB, x_slices_Index_string_string_l0, h0, h1, h7, h8, hlt, hk, hp, hld, hb']
      refine K _ _ ⟨?_, rfl, hx⟩
      simp [h0, h1, h7, wrap_up (by omega : k < 100000000000)]
  · rintro B hB s' h' ⟨⟨h0, h1, h7, h8, -⟩, rfl, hx⟩
    rw [List.drop_of_length_le (Nat.le_refl _), ixT] at hx
    simp -implicitDefEqProofs [hB, x_slices_Index_string_string_l0, h0, h1, h7, h8, hx]
theorem run_Contains (h : H) (ss : List ByteArray) (s : ByteArray) (hl : ss.length ≤ 10000) : run XP i_slices_Contains_string_string [.lst 1 (ss.map vs), vs s] h = some (vb (decide (0 ≤ ixT ss s 0)), h) := by
  have h1 := fun h => run_Index h ss s hl
  rw [run_eq, xp_slices_Contains_string_string]
  simp -implicitDefEqProofs [x_slices_Contains_string_string, h1]
def sClock : ByteArray := ⟨#[99, 108, 111, 99, 107]⟩
def sDur : ByteArray := ⟨#[100, 117, 114, 97, 116, 105, 111, 110]⟩
def flds : List ByteArray := [sClock, sDur, ⟨#[101, 110, 100]⟩, ⟨#[101, 114, 114, 111, 114]⟩, ⟨#[105, 100]⟩, ⟨#[107, 105, 110, 100]⟩, ⟨#[111, 112, 101, 114, 97, 116, 105, 111, 110]⟩, ⟨#[112, 97, 114, 101, 110, 116]⟩, ⟨#[114, 101, 118, 105, 115, 105, 111, 110]⟩, ⟨#[114, 111, 111, 116]⟩,
  ⟨#[115, 101, 114, 118, 105, 99, 101]⟩, ⟨#[115, 108, 111, 116]⟩, ⟨#[115, 116, 97, 114, 116]⟩, ⟨#[116, 114, 97, 99, 101]⟩, ⟨#[118, 101, 114, 115, 105, 111, 110]⟩]
theorem run_Fields (h : H) : run XP i_span_Fields [] h = some (.lst 1 (flds.map vs), h) := by
  rw [run_eq, xp_span_Fields]
  simp -implicitDefEqProofs [x_span_Fields, flds, sClock, sDur]
theorem run_Slot (h : H) (n : Int) : run XP i_span_Slot [vi n] h = some (vi (n.fdiv 1048576), h) := by
  rw [run_eq, xp_span_Slot]
  simp -implicitDefEqProofs [x_span_Slot, xbin_shr]
  rfl
theorem run_Part (h : H) (n : Int) : run XP i_span_Partition [vi n] h = some (vi ((n.fdiv 1048576).fdiv 16), h) := by
  have h1 := fun h => run_Slot h n
  rw [run_eq, xp_span_Partition]
  simp -implicitDefEqProofs [x_span_Partition, h1, xbin_shr]
  rfl
theorem run_Dur (h : H) (a : SP) : run XP i_span_Duration [a.v] h = some (vi (IntKind.i64.wrap (a.en - a.st)), h) := by
  rw [run_eq, xp_span_Duration]
  simp -implicitDefEqProofs [x_span_Duration, SP.v]
/-! ### The examples -/
theorem sDur_ne {l : List UInt8} (h : ([100, 117, 114, 97, 116, 105, 111, 110] == l) = false) : (sDur.toList == l) = false := by
  rw [ByteArray.toList_eq]
  exact h
theorem run_KindDur (h : H) : run XP i_span_FieldKind [vs sDur] h = some (.tup [vi 2, vb true], h) := by
  have h1 := fun h => run_Fields h
  have h2 := fun h => run_Contains h flds sDur (by decide)
  have h3 : ixT flds sDur 0 = 1 := by decide
  rw [h3] at h2
  have e1 := sDur_ne (l := [107, 105, 110, 100]) rfl
  have e2 := sDur_ne (l := [111, 112, 101, 114, 97, 116, 105, 111, 110]) rfl
  have e3 := sDur_ne (l := [115, 101, 114, 118, 105, 99, 101]) rfl
  have e4 := sDur_ne (l := [118, 101, 114, 115, 105, 111, 110]) rfl
  have e5 := sDur_ne (l := [101, 114, 114, 111, 114]) rfl
  have e6 := sDur_ne (l := [114, 111, 111, 116]) rfl
  rw [run_eq, xp_span_FieldKind]
  simp -implicitDefEqProofs [x_span_FieldKind, h1, h2, e1, e2, e3, e4, e5, e6]
theorem run_numDur (h : H) (a : SP) : run XP i_span_View_number [a.v, vs sDur] h = some (vi (IntKind.i64.wrap (a.en - a.st)), h) := by
  have h1 := fun h => run_Dur h a
  have e1 := sDur_ne (l := [99, 108, 111, 99, 107]) rfl
  have e2 : (sDur.toList == [100, 117, 114, 97, 116, 105, 111, 110]) = true := by rw [ByteArray.toList_eq]; rfl
  simp only [SP.v] at h1
  rw [run_eq, xp_span_View_number]
  simp -implicitDefEqProofs [x_span_View_number, SP.v, h1, e1, e2]
theorem run_valDur (h : H) (a : SP) : run XP i_span_View_Value [a.v, vs sDur, vs ⟨#[]⟩] h = some (.tup [.agg [vi 2, vs ⟨#[]⟩, vi (IntKind.i64.wrap (a.en - a.st))], vb true], h) := by
  have h1 := fun h => run_KindDur h
  have h2 := fun h => run_numDur h a
  have e1 := sDur_ne (l := [97, 116, 116, 114]) rfl
  simp only [SP.v] at h2
  rw [run_eq, xp_span_View_Value]
  simp -implicitDefEqProofs [x_span_View_Value, SP.v, h1, h2, e1]
def exA : SP := ⟨1, 2, 0, 1, 1, 3, ⟨#[115]⟩, ⟨#[]⟩, ⟨#[111]⟩, 4, 9, false, [], [], true, true⟩
def exB : SP := ⟨1, 2, 0, 0, 1, 3, ⟨#[115]⟩, ⟨#[]⟩, ⟨#[111]⟩, 4, 12, false, [], [], true, true⟩
theorem exBA : wns [exB, exA] = [exA] := by
  have c1 : cmpS exA exB = 1 := by decide +kernel
  have hs : srt [exB, exA] = [exB, exA] := by
    have hp := srt_perm [exB, exA]
    have ho := srt_sorted [exB, exA]
    generalize srt [exB, exA] = l at hp ho
    match l, hp.length_eq with
    | [x, y], _ =>
      have hx : x ∈ [exB, exA] := hp.mem_iff.1 (by simp)
      simp only [List.mem_cons, List.not_mem_nil, or_false] at hx
      rcases hx with rfl | rfl
      · have := List.Perm.cons_inv hp
        rw [List.perm_singleton] at this
        injection this with this
        rw [this]
      · have h2 : [exA, y].Perm [exA, exB] := hp.trans (List.Perm.swap exA exB [])
        have := List.Perm.cons_inv h2
        rw [List.perm_singleton] at this
        injection this with this
        subst this
        simp only [List.pairwise_cons, List.mem_singleton, forall_eq] at ho
        rw [c1] at ho
        exact absurd ho.1 (by decide)
  have h2 : cpt [exB, exA] = [exB, exA] := by simp [cpt, cptA, c1]
  rw [wns, dst, hs, h2]
  simp [winL, exA, exB]
theorem chk_exA : chkSp exA = 0 := by decide +kernel
theorem known11 (h : H) : run XP i_sleuthlaw11_known [] h = some (vb true, h) := by
  have sA : exA.Sm := ⟨by decide, by decide, fun _ => rfl, fun _ => rfl⟩
  have sB : exB.Sm := ⟨by decide, by decide, fun _ => rfl, fun _ => rfl⟩
  have hW : ∀ h, run XP i_span_Winners [.lst 14 [V.agg [vi 1, vi 2, vi 0, vi 0, vi 1, vi 3, vs ⟨#[115]⟩, vs ⟨#[]⟩, vs ⟨#[111]⟩, vi 4, vi 12, vb false, vnil, vnil], V.agg [vi 1, vi 2, vi 0, vi 1, vi 1, vi 3, vs ⟨#[115]⟩, vs ⟨#[]⟩, vs ⟨#[111]⟩, vi 4, vi 9, vb false, vnil, vnil]]] h = some (.lst 14 [V.agg [vi 1, vi 2, vi 0, vi 1, vi 1, vi 3, vs ⟨#[115]⟩, vs ⟨#[]⟩, vs ⟨#[111]⟩, vi 4, vi 9, vb false, vnil, vnil]], h) := fun h => by
    have := run_Winners (h := h) (h2 := h) (v := .lst 14 [exB.v, exA.v]) (es := [exB, exA]) (.inr rfl) rfl (run_Values (es := [exB, exA]) (.inr rfl)) rfl (by simp [sA, sB]) (by simp)
    rw [exBA] at this
    exact this
  have hV : ∀ h, run XP i_span_View_Value [V.agg [vi 1, vi 2, vi 0, vi 1, vi 1, vi 3, vs ⟨#[115]⟩, vs ⟨#[]⟩, vs ⟨#[111]⟩, vi 4, vi 9, vb false, vnil, vnil], vs ⟨#[100, 117, 114, 97, 116, 105, 111, 110]⟩, vs ⟨#[]⟩] h = some (.tup [.agg [vi 2, vs ⟨#[]⟩, vi 5], vb true], h) := fun h => run_valDur h exA
  have hC : ∀ h, run XP i_span_Check [V.agg [vi 1, vi 2, vi 0, vi 1, vi 1, vi 3, vs ⟨#[115]⟩, vs ⟨#[]⟩, vs ⟨#[111]⟩, vi 4, vi 9, vb false, vnil, vnil]] h = some (vi 0, h) := fun h => by
    have := run_Check h (a := exA) ⟨by decide, by decide, by decide, by simp [exA], fun _ => rfl, fun _ => rfl⟩
    rw [chk_exA] at this
    exact this
  have hP : ∀ h, run XP i_span_Partition [vi 16777216] h = some (vi 1, h) := fun h => run_Part h 16777216
  have hF := fun h => run_Fields h
  have hfl : (flds.map vs).length = 15 := rfl
  generalize flds.map vs = fl at hF hfl
  have hbe : ((⟨#[]⟩ : ByteArray) == ⟨#[]⟩) = true := by decide
  rw [run_eq, xp_sleuthlaw11_known]
  simp -implicitDefEqProofs [x_sleuthlaw11_known, hW, hV, hC, hP, hF, hfl, hbe]
end Go.Proofs.Sl

namespace Go.Proofs.Sl
def att4 (x y : AT) : List Int := [wrd x.key y.key, sgn x.val.k y.val.k, wrd x.val.t y.val.t, sgn x.val.n y.val.n]
def zipA : List AT → List AT → List Int
  | x :: xs, y :: ys => att4 x y ++ zipA xs ys
  | _, _ => []
def zipR : List RF → List RF → List Int
  | x :: xs, y :: ys => cmpR x y :: zipR xs ys
  | _, _ => []
theorem zipA_up : ∀ {xs ys : List AT} {k : Nat} {x y : AT}, xs[k]? = some x → ys[k]? = some y → zipA (xs.take (k + 1)) (ys.take (k + 1)) = zipA (xs.take k) (ys.take k) ++ att4 x y
  | [], _, _, _, _, h, _ => by simp at h
  | _ :: _, [], _, _, _, _, h => by simp at h
  | a :: xs, b :: ys, 0, x, y, h, k => by
    simp only [List.getElem?_cons_zero, Option.some.injEq] at h k
    subst h k
    simp [zipA]
  | a :: xs, b :: ys, n + 1, x, y, h, k => by
    simp only [List.getElem?_cons_succ] at h k
    simp only [List.take_succ_cons, zipA, zipA_up h k, List.append_assoc]
theorem zipR_up : ∀ {xs ys : List RF} {k : Nat} {x y : RF}, xs[k]? = some x → ys[k]? = some y → zipR (xs.take (k + 1)) (ys.take (k + 1)) = zipR (xs.take k) (ys.take k) ++ [cmpR x y]
  | [], _, _, _, _, h, _ => by simp at h
  | _ :: _, [], _, _, _, _, h => by simp at h
  | a :: xs, b :: ys, 0, x, y, h, k => by
    simp only [List.getElem?_cons_zero, Option.some.injEq] at h k
    subst h k
    simp [zipR]
  | a :: xs, b :: ys, n + 1, x, y, h, k => by
    simp only [List.getElem?_cons_succ] at h k
    simp only [List.take_succ_cons, zipR, zipR_up h k, List.cons_append]
theorem zipA_min : ∀ (xs ys : List AT), zipA (xs.take (min xs.length ys.length)) (ys.take (min xs.length ys.length)) = zipA xs ys
  | [], _ => by simp [zipA]
  | _ :: _, [] => by simp [zipA]
  | a :: xs, b :: ys => by
    simp only [List.length_cons, Nat.add_min_add_right, List.take_succ_cons, zipA, zipA_min xs ys]
theorem zipR_min : ∀ (xs ys : List RF), zipR (xs.take (min xs.length ys.length)) (ys.take (min xs.length ys.length)) = zipR xs ys
  | [], _ => by simp [zipR]
  | _ :: _, [] => by simp [zipR]
  | a :: xs, b :: ys => by
    simp only [List.length_cons, Nat.add_min_add_right, List.take_succ_cons, zipR, zipR_min xs ys]
theorem sgn_succ (n m : Nat) : sgn ((n + 1 : Nat) : Int) ((m + 1 : Nat) : Int) = sgn n m := by
  have e : ∀ a b : Nat, (((a + 1 : Nat) : Int) < ((b + 1 : Nat) : Int)) = ((a : Int) < b) := fun a b => propext (by omega)
  simp only [sgn, e]
theorem orl_att4 (x y : AT) : orl (att4 x y) = cmpA x y := by
  simp only [att4, cmpA, cmpV, orl]
  by_cases h1 : wrd x.key y.key = 0 <;> by_cases h2 : sgn x.val.k y.val.k = 0 <;> by_cases h3 : wrd x.val.t y.val.t = 0 <;> by_cases h4 : sgn x.val.n y.val.n = 0 <;> simp [h1, h2, h3, h4]
theorem orl_zipA : ∀ (xs ys : List AT), orl (zipA xs ys ++ [sgn xs.length ys.length]) = lexc cmpA xs ys
  | [], [] => rfl
  | [], _ :: ys => by simp [zipA, lexc, orl, sgn] <;> omega
  | _ :: xs, [] => by simp [zipA, lexc, orl, sgn] <;> omega
  | a :: xs, b :: ys => by
    simp only [zipA, List.append_assoc, List.length_cons, sgn_succ, lexc]
    rw [orl_append, orl_att4, orl_zipA xs ys]
theorem orl_zipR : ∀ (xs ys : List RF), orl (zipR xs ys ++ [sgn xs.length ys.length]) = lexc cmpR xs ys
  | [], [] => rfl
  | [], _ :: ys => by simp [zipR, lexc, orl, sgn] <;> omega
  | _ :: xs, [] => by simp [zipR, lexc, orl, sgn] <;> omega
  | a :: xs, b :: ys => by
    simp only [zipR, List.cons_append, List.length_cons, sgn_succ, lexc]
    rw [show cmpR a b :: (zipR xs ys ++ [sgn xs.length ys.length]) = [cmpR a b] ++ (zipR xs ys ++ [sgn xs.length ys.length]) from rfl, orl_append, orl_zipR xs ys]
    simp only [orl]
    by_cases h : cmpR a b = 0 <;> simp [h]
def sp12 (a b : SP) : List Int := [sgn a.tr b.tr, sgn a.id b.id, sgn a.rev b.rev, sgn a.par b.par, sgn a.clk b.clk, sgn a.kind b.kind, wrd a.sv b.sv, wrd a.vr b.vr, wrd a.op b.op, sgn a.st b.st, sgn a.en b.en, sgn (flg a.er) (flg b.er)]
theorem cmpS_flat (a b : SP) : cmpS a b = orl (sp12 a b ++ (zipA a.ats b.ats ++ [sgn a.ats.length b.ats.length] ++ (zipR a.lks b.lks ++ [sgn a.lks.length b.lks.length]))) := by
  have h1 := orl_append (sp12 a b) [lexc cmpA a.ats b.ats, lexc cmpR a.lks b.lks]
  have h2 : cmpS a b = orl (sp12 a b ++ [lexc cmpA a.ats b.ats, lexc cmpR a.lks b.lks]) := rfl
  rw [h2, h1, orl_append, orl_append, orl_zipA, orl_zipR]
  simp only [orl]
  by_cases h : lexc cmpR a.lks b.lks = 0 <;> simp [h]
theorem zipA_len : ∀ (xs ys : List AT), (zipA xs ys).length = 4 * min xs.length ys.length
  | [], _ => by simp [zipA]
  | _ :: _, [] => by simp [zipA]
  | a :: xs, b :: ys => by simp [zipA, att4, zipA_len xs ys, Nat.add_min_add_right]; omega
theorem zipR_len : ∀ (xs ys : List RF), (zipR xs ys).length = min xs.length ys.length
  | [], _ => by simp [zipR]
  | _ :: _, [] => by simp [zipR]
  | a :: xs, b :: ys => by simp [zipR, zipR_len xs ys, Nat.add_min_add_right]
theorem il_append (a b : List Int) : il (a ++ b) = il a ++ il b := by simp [il]
theorem wide_il1 : ∀ l : List Int, wide 1 (il l) = true
  | [] => rfl
  | n :: l => by
    have := wide_il1 l
    simp only [il] at this
    simp only [il, List.map_cons, wide, this, Bool.and_true]
    rfl
theorem closeds_il1 : ∀ l : List Int, V.closed.closeds (il l) = true
  | [] => rfl
  | n :: l => by
    have := closeds_il1 l
    simp only [il] at this
    simp only [il, List.map_cons, V.closed.closeds, this, Bool.and_true]
    rfl
/-- Where the two spans and the list lie. -/
structure At3 (h : H) (n : Nat) (ca cb : List V) (ns : List Int) : Prop where
  a : h[n]? = some (.box false ca)
  b : h[n + 1]? = some (.box false cb)
  l : h[n + 2]? = some (.arr false 1 (il ns))
theorem At3.app {h : H} {n : Nat} {ca cb : List V} {ns : List Int} (A : At3 h n ca cb ns) (t : H) : At3 (h ++ t) n ca cb ns := by
  have := (List.getElem?_eq_some_iff.1 A.l).1
  exact ⟨by rw [List.getElem?_append_left (by omega)]; exact A.a, by rw [List.getElem?_append_left (by omega)]; exact A.b, by rw [List.getElem?_append_left (by omega)]; exact A.l⟩
theorem At3.set {h : H} {n : Nat} {ca cb : List V} {ns : List Int} (A : At3 h n ca cb ns) (ms : List Int) : At3 (h.set (n + 2) (.arr false 1 (il ms))) n ca cb ms := by
  have := (List.getElem?_eq_some_iff.1 A.l).1
  exact ⟨by rw [List.getElem?_set_ne (by omega)]; exact A.a, by rw [List.getElem?_set_ne (by omega)]; exact A.b, by rw [List.getElem?_set_self this]⟩
theorem At3.len {h : H} {n : Nat} {ca cb : List V} {ns : List Int} (A : At3 h n ca cb ns) : n + 2 < h.length := (List.getElem?_eq_some_iff.1 A.l).1
theorem At3.grow {h : H} {n : Nat} {ca cb : List V} {ns : List Int} (A : At3 h n ca cb ns) (ms : List Int) (hl : ns.length + ms.length ≤ 17592186044416) : xappend h 1 17592186044416 (.ref (n + 2) ns.length) (.lst 1 (il ms)) = some (.ref (n + 2) (ns ++ ms).length, h.set (n + 2) (.arr false 1 (il (ns ++ ms)))) := by
  have h1 : arrN h (n + 2) ns.length = some (false, 1, il ns) := by simp [arrN, arrAt, A.l, ob_some, il_length]
  have ea : appEls h (.lst 1 (il ms)) = some (il ms) := rfl
  have hl' : ns.length + (il ms).length ≤ 17592186044416 := by rw [il_length]; exact hl
  simp only [xappend, ea, ob_some, wide_il1, closeds_il1, and_self, if_true, h1, true_and, hl, il_append, List.length_append, il_length]
theorem At3.takeSet {h : H} {n : Nat} (o : O) (hn : h.length ≥ n) : (h.set (n + 2) o).take n = h.take n := by rw [List.take_set, List.set_eq_of_length_le (by simp; omega)]
end Go.Proofs.Sl

namespace Go.Proofs.Sl
theorem xread_iaddr (s : Sl) (h : H) (k : Nat) (x i : Opd) : xread s h (.iaddr k x i) = ob (asNat (i.ev s)) fun i => iaddrV h k (x.ev s) i := Eq.trans rfl rfl
theorem xread_load (s : Sl) (h : H) (n : Nat) (g : Bool) (x : Opd) : xread s h (.load n g x) = xload h n g (x.ev s) := Eq.trans rfl rfl
theorem xread_len (s : Sl) (h : H) (x : Opd) : xread s h (.len false x) = ob ((x.ev s).toL h) fun es => some (vi es.length) := Eq.trans rfl rfl
section
variable {H0 : H} {n base : Nat} {ca cb : List V} {f : Ex × St → Option (V × H)} {w : Option (V × H)} {ns : List Int}
set_option maxHeartbeats 1000000 in
theorem cmp_l0 {xs ys : List AT} {p q : Bool} (hp : p = true → xs = []) (hq : q = true → ys = []) (ca12 : ca[12]? = some (lv 4 (slc AT.v xs p))) (cb12 : cb[12]? = some (lv 4 (slc AT.v ys q))) (hx : xs.length ≤ 1000) (hy : ys.length ≤ 1000) (hn : ns.length ≤ 1000)
    (A0 : At3 H0 n ca cb ns) (hb : base ≤ n)
    (hend : ∀ s h', s 2 = .ptr n 0 → s 3 = .ptr (n + 1) 0 → At3 h' n ca cb (ns ++ zipA xs ys) → s 5 = .ref (n + 2) (ns ++ zipA xs ys).length → h'.take n = H0.take n → f (.exit 0, ⟨s, h'⟩) = w)
    (s0 : Sl) (h2 : s0 2 = .ptr n 0) (h3 : s0 3 = .ptr (n + 1) 0) (h5 : s0 5 = .ref (n + 2) ns.length) (h6 : s0 6 = vi 0) :
    ob (loopW (xcode (run XP) loopW base x_sleuthlaw11_compare_l0) ⟨s0, H0⟩) f = w := by
  have t1 : (slc AT.v xs p).getD [] = xs.map AT.v := slc_getD hp
  have t2 : (slc AT.v ys q).getD [] = ys.map AT.v := slc_getD hq
  have rl := fun l o (k : Nat) (x : Option (List V)) => lv_rdCell l o k x
  refine loop_up (min xs.length ys.length) (fun k s h' => Sees s [(2, .ptr n 0), (3, .ptr (n + 1) 0), (6, vi k), (5, .ref (n + 2) (ns ++ zipA (xs.take k) (ys.take k)).length)] ∧ At3 h' n ca cb (ns ++ zipA (xs.take k) (ys.take k)) ∧ h'.take n = H0.take n) ?_ ?_ _ _
    ⟨by simp [h2, h3, h5, h6, zipA], by simpa [zipA] using A0, rfl⟩
  · rintro B f2 hB hf k s h' hk ⟨⟨h2, h3, h6, h5, -⟩, A, htk⟩ K
    have hk1 : k < xs.length := by omega
    have hk2 : k < ys.length := by omega
    obtain ⟨e, he⟩ : ∃ e, xs[k]? = some e := ⟨_, List.getElem?_eq_getElem hk1⟩
    obtain ⟨d, hd⟩ : ∃ d, ys[k]? = some d := ⟨_, List.getElem?_eq_getElem hk2⟩
    have i1 := fun H => lv_fptr (f := AT.v) hp he H 4
    have i2 := fun H => lv_fptr (f := AT.v) hq hd H 4
    have hw : IntKind.i64.wrap ((k : Int) + 1) = (k : Int) + 1 := wrap_i64 (by omega) (by omega)
    have hl1 := zipA_len (xs.take k) (ys.take k)
    rw [List.length_take, List.length_take] at hl1
    have hap := (A.app [.box false e.v.cells, .box false d.v.cells]).grow (att4 e d) (by rw [List.length_append, hl1]; simp [att4]; omega)
    have Aa := fun t => (A.app t).a
    have Ab := fun t => (A.app t).b
    have A1 := A.a
    have A2 := A.b
    have w1 := fun h => run_word h e.key d.key
    have w2 := fun h => run_sign h e.val.k d.val.k
    have w3 := fun h => run_word h e.val.t d.val.t
    have w4 := fun h => run_sign h e.val.n d.val.n
    have hz := zipA_up he hd
    have hlen : (ns ++ zipA (xs.take k) (ys.take k)) ++ att4 e d = ns ++ zipA (xs.take (k + 1)) (ys.take (k + 1)) := by rw [hz, List.append_assoc]
    have A' := (A.app [.box false e.v.cells, .box false d.v.cells]).set (ns ++ zipA (xs.take (k + 1)) (ys.take (k + 1)))
    have hn2 := A.len
    rw [hlen] at hap
    have htk2 := At3.takeSet (h := h' ++ [.box false e.v.cells, .box false d.v.cells]) (n := n) (.arr false 1 (il (ns ++ zipA (xs.take (k + 1)) (ys.take (k + 1))))) (by simp; omega)
    rw [List.take_append_of_le_length (by omega), htk] at htk2
    generalize (ns ++ zipA (xs.take k) (ys.take k)).length = L at h5 hap
    generalize hms : ns ++ zipA (xs.take (k + 1)) (ys.take (k + 1)) = ms at hap A' htk2 K
    simp only [AT.v, V.cells, att4, il, List.map_cons, List.map_nil] at i1 i2 hap A' htk2
    simp -implicitDefEqProofs [-xread, xread_iaddr, xread_load, xread_len, hB, x_sleuthlaw11_compare_l0, h2, h3, h5, h6, A1, A2, Aa, Ab, ca12, cb12, rl, t1, t2, hk1, hk2, i1, i2, w1, w2, w3, w4, hap, same_self, optEq]
    refine K _ _ ⟨?_, A', htk2⟩
    simp [h2, h3, hw, hms]
  · rintro B hB s h' ⟨⟨h2, h3, h6, h5, -⟩, A, htk⟩
    have A1 := A.a
    have A2 := A.b
    rw [zipA_min] at A h5
    by_cases hm : xs.length ≤ ys.length
    · rw [Nat.min_eq_left hm] at h6
      simp -implicitDefEqProofs [hB, x_sleuthlaw11_compare_l0, h2, h3, h6, A1, A2, ca12, cb12, rl, t1, t2]
      exact hend _ _ (by simp [h2]) (by simp [h3]) A (by simpa using h5) htk
    · rw [Nat.min_eq_right (by omega)] at h6
      have hlt : ys.length < xs.length := by omega
      simp -implicitDefEqProofs [hB, x_sleuthlaw11_compare_l0, h2, h3, h6, A1, A2, ca12, cb12, rl, t1, t2, hlt]
      exact hend _ _ (by simp [h2]) (by simp [h3]) A (by simpa using h5) htk
theorem cmp_l1 {xs ys : List RF} {p q : Bool} (hp : p = true → xs = []) (hq : q = true → ys = []) (ca13 : ca[13]? = some (lv 2 (slc RF.v xs p))) (cb13 : cb[13]? = some (lv 2 (slc RF.v ys q))) (hx : xs.length ≤ 1000) (hy : ys.length ≤ 1000) (hn : ns.length ≤ 10000)
    (A0 : At3 H0 n ca cb ns) (hb : base ≤ n)
    (hend : ∀ s h', s 2 = .ptr n 0 → s 3 = .ptr (n + 1) 0 → At3 h' n ca cb (ns ++ zipR xs ys) → s 5 = .ref (n + 2) (ns ++ zipR xs ys).length → h'.take n = H0.take n → f (.exit 2, ⟨s, h'⟩) = w)
    (s0 : Sl) (h2 : s0 2 = .ptr n 0) (h3 : s0 3 = .ptr (n + 1) 0) (h5 : s0 5 = .ref (n + 2) ns.length) (h9 : s0 9 = vi 0) :
    ob (loopW (xcode (run XP) loopW base x_sleuthlaw11_compare_l1) ⟨s0, H0⟩) f = w := by
  have t1 : (slc RF.v xs p).getD [] = xs.map RF.v := slc_getD hp
  have t2 : (slc RF.v ys q).getD [] = ys.map RF.v := slc_getD hq
  have rl := fun l o (k : Nat) (x : Option (List V)) => lv_rdCell l o k x
  refine loop_up (min xs.length ys.length) (fun k s h' => Sees s [(2, .ptr n 0), (3, .ptr (n + 1) 0), (9, vi k), (5, .ref (n + 2) (ns ++ zipR (xs.take k) (ys.take k)).length)] ∧ At3 h' n ca cb (ns ++ zipR (xs.take k) (ys.take k)) ∧ h'.take n = H0.take n) ?_ ?_ _ _
    ⟨by simp [h2, h3, h5, h9, zipR], by simpa [zipR] using A0, rfl⟩
  · rintro B f2 hB hf k s h' hk ⟨⟨h2, h3, h9, h5, -⟩, A, htk⟩ K
    have hk1 : k < xs.length := by omega
    have hk2 : k < ys.length := by omega
    obtain ⟨e, he⟩ : ∃ e, xs[k]? = some e := ⟨_, List.getElem?_eq_getElem hk1⟩
    obtain ⟨d, hd⟩ : ∃ d, ys[k]? = some d := ⟨_, List.getElem?_eq_getElem hk2⟩
    have i1 := fun H => lv_fptr (f := RF.v) hp he H 2
    have i2 := fun H => lv_fptr (f := RF.v) hq hd H 2
    have hw : IntKind.i64.wrap ((k : Int) + 1) = (k : Int) + 1 := wrap_i64 (by omega) (by omega)
    have hl1 := zipR_len (xs.take k) (ys.take k)
    rw [List.length_take, List.length_take] at hl1
    have hap := A.grow [cmpR e d] (by rw [List.length_append, hl1]; simp; omega)
    have A1 := A.a
    have A2 := A.b
    have w1 := fun h => run_refs h e d
    have hz := zipR_up he hd
    have hlen : (ns ++ zipR (xs.take k) (ys.take k)) ++ [cmpR e d] = ns ++ zipR (xs.take (k + 1)) (ys.take (k + 1)) := by rw [hz, List.append_assoc]
    have A' := A.set (ns ++ zipR (xs.take (k + 1)) (ys.take (k + 1)))
    have hn2 := A.len
    rw [hlen] at hap
    have htk2 := At3.takeSet (h := h') (n := n) (.arr false 1 (il (ns ++ zipR (xs.take (k + 1)) (ys.take (k + 1))))) (by omega)
    rw [htk] at htk2
    generalize (ns ++ zipR (xs.take k) (ys.take k)).length = L at h5 hap
    generalize hms : ns ++ zipR (xs.take (k + 1)) (ys.take (k + 1)) = ms at hap A' htk2 K
    simp only [RF.v, V.cells, il, List.map_cons, List.map_nil] at i1 i2 hap A' htk2 w1
    simp -implicitDefEqProofs [-xread, xread_iaddr, xread_load, xread_len, hB, x_sleuthlaw11_compare_l1, h2, h3, h5, h9, A1, A2, ca13, cb13, rl, t1, t2, hk1, hk2, i1, i2, w1, hap, same_self, optEq]
    refine K _ _ ⟨?_, A', htk2⟩
    simp [h2, h3, hw, hms]
  · rintro B hB s h' ⟨⟨h2, h3, h9, h5, -⟩, A, htk⟩
    have A1 := A.a
    have A2 := A.b
    rw [zipR_min] at A h5
    by_cases hm : xs.length ≤ ys.length
    · rw [Nat.min_eq_left hm] at h9
      simp -implicitDefEqProofs [hB, x_sleuthlaw11_compare_l1, h2, h3, h9, A1, A2, ca13, cb13, rl, t1, t2]
      exact hend _ _ (by simp [h2]) (by simp [h3]) A (by simpa using h5) htk
    · rw [Nat.min_eq_right (by omega)] at h9
      have hlt : ys.length < xs.length := by omega
      simp -implicitDefEqProofs [hB, x_sleuthlaw11_compare_l1, h2, h3, h9, A1, A2, ca13, cb13, rl, t1, t2, hlt]
      exact hend _ _ (by simp [h2]) (by simp [h3]) A (by simpa using h5) htk
theorem cmp_l2 (A : At3 H0 n ca cb ns) (hl : ns.length ≤ 100000) (hret : ∀ s, s 4 = vi (orl ns) → f (.ret, ⟨s, H0⟩) = w) (hend : orl ns = 0 → ∀ s, f (.exit 4, ⟨s, H0⟩) = w) (s0 : Sl) (h5 : s0 5 = .ref (n + 2) ns.length) (h10 : s0 10 = vi 0) :
    ob (loopW (xcode (run XP) loopW base x_sleuthlaw11_compare_l2) ⟨s0, H0⟩) f = w := by
  have hv : Rd H0 1 (.ref (n + 2) ns.length) (il ns) := by
    have := Rd.ref (n + 2) false (il ns) A.l
    rwa [il_length] at this
  have htl := hv.toL
  refine loop_list ns (fun k s h' => Sees s [(5, .ref (n + 2) ns.length), (10, vi k)] ∧ h' = H0 ∧ orl ns = orl (ns.drop k)) ?_ ?_ _ _ ⟨by simp [h5, h10], rfl, rfl⟩
  · rintro B f2 hB hf k e s h' he hk ⟨⟨h5, h10, -⟩, rfl, hx⟩ K
    obtain ⟨p, hp, hld⟩ := hv.at1 (il_at he) rfl
    have hlt : (k : Int) < ns.length := by omega
    rw [drop_at he, orl] at hx
    by_cases h0 : e = 0
    · rw [if_neg (by simpa using h0)] at hx
      simp -implicitDefEqProofs [hB, x_sleuthlaw11_compare_l2, h5, h10, htl, il_length, hlt, hk, hp, hld, h0]
      refine K _ _ ⟨?_, rfl, hx⟩
      simp [h5, wrap_up (by omega : k < 100000000000)]
    · rw [if_pos h0] at hx
      rw [hx] at hret
      have h0' : (e != 0) = true := by simpa using h0
      simp -implicitDefEqProofs [hB, hf, x_sleuthlaw11_compare_l2, h5, h10, htl, il_length, hlt, hk, hp, hld, h0', hret]
  · rintro B hB s h' ⟨⟨h5, h10, -⟩, rfl, hx⟩
    rw [List.drop_of_length_le (Nat.le_refl _), orl] at hx
    simp -implicitDefEqProofs [hB, x_sleuthlaw11_compare_l2, h5, h10, htl, il_length, hend hx]
end
theorem run_lcmp (h : H) {a b : SP} (ha1 : a.an = true → a.ats = []) (ha2 : a.ln = true → a.lks = []) (hb1 : b.an = true → b.ats = []) (hb2 : b.ln = true → b.lks = []) (la1 : a.ats.length ≤ 1000) (la2 : a.lks.length ≤ 1000) (lb1 : b.ats.length ≤ 1000) (lb2 : b.lks.length ≤ 1000) :
    run XP i_sleuthlaw11_compare [a.v, b.v] h = some (vi (cmpS a b), h) := by
  have hfl := cmpS_flat a b
  have zl := zipA_len a.ats b.ats
  have zr := zipR_len a.lks b.lks
  obtain ⟨tr, id, par, rev, clk, kind, sv, vr, op, st, en, er, ats, lks, an, ln⟩ := a
  obtain ⟨tr', id', par', rev', clk', kind', sv', vr', op', st', en', er', ats', lks', an', ln'⟩ := b
  simp only at ha1 ha2 hb1 hb2 la1 la2 lb1 lb2 zl zr
  have s0 := fun h => run_sign h tr tr'
  have s1 := fun h => run_sign h id id'
  have s2 := fun h => run_sign h rev rev'
  have s3 := fun h => run_sign h par par'
  have s4 := fun h => run_sign h clk clk'
  have s5 := fun h => run_sign h kind kind'
  have s6 := fun h => run_word h sv sv'
  have s7 := fun h => run_word h vr vr'
  have s8 := fun h => run_word h op op'
  have s9 := fun h => run_sign h st st'
  have s10 := fun h => run_sign h en en'
  have f1 := fun h => run_flag h er
  have f2 := fun h => run_flag h er'
  have s11 := fun h => run_sign h (flg er) (flg er')
  have t1 : (slc AT.v ats an).getD [] = ats.map AT.v := slc_getD ha1
  have t2 : (slc AT.v ats' an').getD [] = ats'.map AT.v := slc_getD hb1
  have t3 : (slc RF.v lks ln).getD [] = lks.map RF.v := slc_getD ha2
  have t4 : (slc RF.v lks' ln').getD [] = lks'.map RF.v := slc_getD hb2
  have rl := fun l o (k : Nat) (x : Option (List V)) => lv_rdCell l o k x
  have sA := fun h => run_sign h (ats.length : Int) (ats'.length : Int)
  have sR := fun h => run_sign h (lks.length : Int) (lks'.length : Int)
  rw [run_eq, xp_sleuthlaw11_compare]
  have q12 : sp12 ⟨tr, id, par, rev, clk, kind, sv, vr, op, st, en, er, ats, lks, an, ln⟩ ⟨tr', id', par', rev', clk', kind', sv', vr', op', st', en', er', ats', lks', an', ln'⟩ = [sgn tr tr', sgn id id', sgn rev rev', sgn par par', sgn clk clk', sgn kind kind', wrd sv sv', wrd vr vr', wrd op op', sgn st st', sgn en en', sgn (flg er) (flg er')] := rfl
  rw [q12] at hfl
  simp only at hfl
  generalize cmpS _ _ = R at hfl ⊢
  simp -implicitDefEqProofs [x_sleuthlaw11_compare, SP.v, s0, s1, s2, s3, s4, s5, s6, s7, s8, s9, s10, f1, f2, s11, same_self, optEq]
  refine cmp_l0 (ca := [vi tr, vi id, vi par, vi rev, vi clk, vi kind, vs sv, vs vr, vs op, vi st, vi en, vb er, lv 4 (slc AT.v ats an), lv 2 (slc RF.v lks ln)]) (cb := [vi tr', vi id', vi par', vi rev', vi clk', vi kind', vs sv', vs vr', vs op', vi st', vi en', vb er', lv 4 (slc AT.v ats' an'), lv 2 (slc RF.v lks' ln')]) (ns := [sgn tr tr', sgn id id', sgn rev rev', sgn par par', sgn clk clk', sgn kind kind', wrd sv sv', wrd vr vr', wrd op op', sgn st st', sgn en en', sgn (flg er) (flg er')]) (p := an) (q := an') ha1 hb1 rfl rfl la1 lb1 (by simp) ⟨by simp, by simp, by simp [il]⟩ (Nat.le_refl _) ?_ _ (by simp) (by simp) (by simp) (by simp)
  have hn12 : [sgn tr tr', sgn id id', sgn rev rev', sgn par par', sgn clk clk', sgn kind kind', wrd sv sv', wrd vr vr', wrd op op', sgn st st', sgn en en', sgn (flg er) (flg er')].length = 12 := rfl
  generalize [sgn tr tr', sgn id id', sgn rev rev', sgn par par', sgn clk clk', sgn kind kind', wrd sv sv', wrd vr vr', wrd op op', sgn st st', sgn en en', sgn (flg er) (flg er')] = n12 at hn12 hfl ⊢
  rintro p1 h1 g2 g3 A1 g5 k1
  rw [List.take_left] at k1
  generalize hz1 : zipA ats ats' = z1 at zl A1 g5 hfl
  have a1 := A1.a
  have a2 := A1.b
  have ap1 := A1.grow [sgn ats.length ats'.length] (by simp [hn12, zl]; omega)
  have B1 := A1.set ((n12 ++ z1) ++ [sgn ats.length ats'.length])
  have k2 := At3.takeSet (h := h1) (n := h.length) (.arr false 1 (il ((n12 ++ z1) ++ [sgn ats.length ats'.length]))) (by have := A1.len; omega)
  rw [k1] at k2
  have hm2 : ((n12 ++ z1) ++ [sgn (ats.length : Int) (ats'.length : Int)]).length ≤ 10000 := by simp [hn12, zl]; omega
  generalize hm : (n12 ++ z1) ++ [sgn (ats.length : Int) (ats'.length : Int)] = m2 at ap1 B1 k2 hm2
  generalize (n12 ++ z1).length = L1 at g5 ap1
  generalize hh2 : h1.set (h.length + 2) (.arr false 1 (il m2)) = h2 at ap1 B1 k2
  simp only [il, List.map_cons, List.map_nil] at ap1
  simp -implicitDefEqProofs [g2, g3, g5, a1, a2, rl, t1, t2, sA, ap1]
  refine cmp_l1 (ca := [vi tr, vi id, vi par, vi rev, vi clk, vi kind, vs sv, vs vr, vs op, vi st, vi en, vb er, lv 4 (slc AT.v ats an), lv 2 (slc RF.v lks ln)]) (cb := [vi tr', vi id', vi par', vi rev', vi clk', vi kind', vs sv', vs vr', vs op', vi st', vi en', vb er', lv 4 (slc AT.v ats' an'), lv 2 (slc RF.v lks' ln')]) (ns := m2) (p := ln) (q := ln') ha2 hb2 rfl rfl la2 lb2 hm2 B1 (Nat.le_refl _) ?_ _ (by simp [g2]) (by simp [g3]) (by simp) (by simp)
  rintro p3 h3 e2 e3 A3 e5 k3
  rw [k2] at k3
  generalize hz2 : zipR lks lks' = z2 at zr A3 e5 hfl
  have a3 := A3.a
  have a4 := A3.b
  have ap3 := A3.grow [sgn lks.length lks'.length] (by simp [zr]; omega)
  have B3 := A3.set ((m2 ++ z2) ++ [sgn lks.length lks'.length])
  have k4 := At3.takeSet (h := h3) (n := h.length) (.arr false 1 (il ((m2 ++ z2) ++ [sgn lks.length lks'.length]))) (by have := A3.len; omega)
  rw [k3] at k4
  have hm4 : ((m2 ++ z2) ++ [sgn (lks.length : Int) (lks'.length : Int)]).length ≤ 100000 := by simp [zr]; omega
  have hor : R = orl ((m2 ++ z2) ++ [sgn (lks.length : Int) (lks'.length : Int)]) := by rw [hfl, ← hm]; simp only [List.append_assoc]
  rw [hor]
  clear hfl hor
  generalize hm' : (m2 ++ z2) ++ [sgn (lks.length : Int) (lks'.length : Int)] = m4 at ap3 B3 k4 hm4 ⊢
  generalize (m2 ++ z2).length = L3 at e5 ap3
  generalize hh4 : h3.set (h.length + 2) (.arr false 1 (il m4)) = h4 at ap3 B3 k4
  simp only [il, List.map_cons, List.map_nil] at ap3
  simp -implicitDefEqProofs [e2, e3, e5, a3, a4, rl, t3, t4, sR, ap3]
  refine cmp_l2 B3 hm4 ?_ ?_ _ (by simp) (by simp)
  · intro s hs
    simp -implicitDefEqProofs [hs, k4]
  · intro hz s
    simp -implicitDefEqProofs [hz, k4]
end Go.Proofs.Sl

namespace Go.Proofs.Sl
abbrev v8 (n : Nat) : V := .s (.int .u8 (n : Int))
structure MK where
  t : Nat
  i : Nat
  p : Nat
  r : Nat
  c : Nat
  k : Nat
  s : Nat
  v : Nat
  o : Nat
  st : Nat
  lo : Nat
  tg : Nat
  lk : Nat
  fl : Bool
def MK.val (m : MK) : V := .agg [v8 m.t, v8 m.i, v8 m.p, v8 m.r, v8 m.c, v8 m.k, v8 m.s, v8 m.v, v8 m.o, v8 m.st, v8 m.lo, v8 m.tg, v8 m.lk, vb m.fl]
structure MK.Ok (m : MK) : Prop where
  a : ∀ n ∈ [m.t, m.i, m.p, m.r, m.c, m.k, m.s, m.v, m.o, m.st, m.lo, m.tg, m.lk], n < 256
def svs : List ByteArray := [⟨#[97, 112, 105]⟩, ⟨#[100, 98]⟩, ⟨#[119, 101, 98]⟩]
def vrs : List ByteArray := [⟨#[]⟩, ⟨#[118, 49]⟩, ⟨#[118, 50]⟩]
def ops : List ByteArray := [⟨#[103, 101, 116]⟩, ⟨#[112, 117, 116]⟩]
def zns : List ByteArray := [⟨#[97]⟩, ⟨#[98]⟩, ⟨#[119, 101, 115, 116, 32, 49]⟩]
/-- The attributes of a mark, before they are cut. -/
def mats (b : Nat) (n : Int) (z : ByteArray) : List AT := [⟨⟨#[111, 107]⟩, ⟨3, ⟨#[]⟩, b⟩⟩, ⟨⟨#[115, 105, 122, 101]⟩, ⟨2, ⟨#[]⟩, n⟩⟩, ⟨⟨#[122, 111, 110, 101]⟩, ⟨1, z, 0⟩⟩]
def mlks : Nat → Int → Int → List RF
  | 0, _, _ => []
  | 1, t, i => [⟨t, i⟩]
  | _, t, i => [⟨t, i⟩, ⟨t, i + 1⟩]
def tbl (l : List ByteArray) (n : Nat) : ByteArray := l.getD n ⟨#[]⟩
def MK.sp (m : MK) : SP := ⟨((m.t % 3 * 1048576 + 1 + m.t / 3 % 4 : Nat) : Int), ((1 + m.i % 4 : Nat) : Int), ((m.p % 5 : Nat) : Int), ((m.r % 3 : Nat) : Int), ((1 + m.c % 3 : Nat) : Int), ((1 + m.k % 5 : Nat) : Int), tbl svs (m.s % 3), tbl vrs (m.v % 3), tbl ops (m.o % 2), (m.st : Int) - 50, (m.st : Int) - 50 + ((m.lo % 40 : Nat) : Int), m.fl,
  (mats (m.tg / 4 % 2) ((m.tg : Int) - 60) (tbl zns (m.tg / 8 % 3))).take (m.tg % 4), mlks (m.lk % 3) ((1 + m.lk / 3 % 5 : Nat) : Int) ((1 + m.lk / 15 % 5 : Nat) : Int), false, m.lk % 3 == 0⟩
theorem tmodN (a b : Nat) : (a : Int).tmod (b : Int) = ((a % b : Nat) : Int) := rfl
theorem tdivN (a b : Nat) : (a : Int).tdiv (b : Int) = ((a / b : Nat) : Int) := rfl
theorem w8 {n : Nat} (h : n < 256) : IntKind.u8.wrap (n : Int) = (n : Int) := by rw [wrap_u8]; omega
theorem w64 {n : Int} (h : -1000000000 ≤ n ∧ n ≤ 1000000000) : IntKind.i64.wrap n = n := wrap_i64 (by omega) (by omega)
theorem tbl_at {l : List ByteArray} {n : Nat} (h : n < l.length) : (l.map vs)[n]? = some (vs (tbl l n)) := by
  simp [tbl, h]
/-- The links. -/
def lcell (cs : List V) (nl : Nat) (a b : Int) : List V := if nl = 0 then cs else cs.set 13 (.own 2 ((mlks nl a b).map RF.v))
theorem span_l0 {h : H} {base : Nat} {mc rs cs : List V} {f : Ex × St → Option (V × H)} {w : Option (V × H)} {lk nl b3 a9 b4 aA : Nat}
    (c12 : mc[12]? = some (v8 lk)) (c13 : cs[13]? = some vnil) (hb : base ≤ h.length)
    (eH : (lk : Int).tmod 3 = (nl : Int)) (eI : (lk : Int).tdiv 3 = (b3 : Int)) (eJ : (b3 : Int).tmod 5 = (a9 : Int)) (eK : (lk : Int).tdiv 15 = (b4 : Int)) (eL : (b4 : Int).tmod 5 = (aA : Int))
    (hv : ∀ n ∈ [b3, b4, a9, aA, nl], n < 256) (hnl : nl = 0 ∨ nl = 1 ∨ nl = 2)
    (hend : ∀ s ds, s 2 = .ptr (h.length + 1) 0 → s 3 = .ptr (h.length + 2) 0 → f (.exit 0, ⟨s, h ++ (.box false mc :: .box false rs :: .box false (lcell cs nl (1 + (a9 : Int)) (1 + (aA : Int))) :: ds)⟩) = w)
    (s0 : Sl) (h1 : s0 1 = .ptr h.length 0) (h2 : s0 2 = .ptr (h.length + 1) 0) (h3 : s0 3 = .ptr (h.length + 2) 0) (h5 : s0 5 = vi 0) :
    ob (loopW (xcode (run XP) loopW base x_sleuthlaw11_Span_l0) ⟨s0, h ++ [.box false mc, .box false rs, .box false cs]⟩) f = w := by
  simp only [List.mem_cons, List.not_mem_nil, or_false, forall_eq_or_imp, forall_eq] at hv
  obtain ⟨g0, g1, g2, g3, g4⟩ := hv
  have w3 := w8 g0
  have w4 := w8 g1
  have xC : IntKind.i64.wrap (a9 : Int) = a9 := w64 (by omega)
  have xD : IntKind.i64.wrap (aA : Int) = aA := w64 (by omega)
  have xH : IntKind.i64.wrap (1 + (a9 : Int)) = 1 + a9 := w64 (by omega)
  have xI : IntKind.i64.wrap (1 + (aA : Int)) = 1 + aA := w64 (by omega)
  have xJ : IntKind.i64.wrap (1 + (aA : Int) + 1) = 1 + aA + 1 := w64 (by omega)
  have y0 : IntKind.i64.wrap 0 = 0 := by decide
  have y1 : IntKind.i64.wrap 1 = 1 := by decide
  have y2 : IntKind.i64.wrap 2 = 2 := by decide
  have hcl : 13 < cs.length := (List.getElem?_eq_some_iff.1 c13).1
  have hb2 : base ≤ h.length + 2 := by omega
  generalize hB : xcode (run XP) loopW base x_sleuthlaw11_Span_l0 = B
  have step : ∀ st, B st = xcode (run XP) loopW base x_sleuthlaw11_Span_l0 st := fun st => by rw [hB]
  rw [loopW_cps]
  rcases hnl with rfl | rfl | rfl
  · simp -implicitDefEqProofs [step, x_sleuthlaw11_Span_l0, h1, h2, h3, h5, c12, c13, eH, y0]
    exact hend _ [] (by simp [h2]) (by simp [h3])
  · simp -implicitDefEqProofs [step, x_sleuthlaw11_Span_l0, h1, h2, h3, h5, c12, c13, eH, eI, eJ, eK, eL, w3, w4, xC, xD, xH, xI, y0, y1, hb2]
    rw [loopW_cps]
    simp -implicitDefEqProofs [step, x_sleuthlaw11_Span_l0, h1, h2, h3, c12, eH, y1]
    exact hend _ [.dead] (by simp [h2]) (by simp [h3])
  · simp -implicitDefEqProofs [step, x_sleuthlaw11_Span_l0, h1, h2, h3, h5, c12, c13, eH, eI, eJ, eK, eL, w3, w4, xC, xD, xH, xI, y0, y1, y2, hb2]
    rw [loopW_cps]
    simp -implicitDefEqProofs [step, x_sleuthlaw11_Span_l0, h1, h2, h3, c12, hcl, eH, eI, eJ, eK, eL, w3, w4, xC, xD, xH, xI, xJ, y1, y2, hb2]
    rw [loopW_cps]
    simp -implicitDefEqProofs [step, x_sleuthlaw11_Span_l0, h1, h2, h3, c12, eH, y2]
    exact hend _ [.dead] (by simp [h2]) (by simp [h3])
set_option maxHeartbeats 2000000 in
theorem run_Span_aux (h : H) (t i p r c k s v o st lo tg lk : Nat) (fl : Bool) (a0 b0 a1 a2 a3 a4 a5 a6 is iv io a7 b1 a8 b2 iz nt nl b3 a9 b4 aA : Nat) (sv vr op zn : ByteArray)
    (e0 : (t : Int).tmod 3 = (a0 : Int)) (e1 : (t : Int).tdiv 3 = (b0 : Int)) (e2 : (b0 : Int).tmod 4 = (a1 : Int)) (e3 : (i : Int).tmod 4 = (a2 : Int)) (e4 : (p : Int).tmod 5 = (a3 : Int)) (e5 : (r : Int).tmod 3 = (a4 : Int)) (e6 : (c : Int).tmod 3 = (a5 : Int)) (e7 : (k : Int).tmod 5 = (a6 : Int))
    (e8 : (s : Int).tmod 3 = (is : Int)) (e9 : (v : Int).tmod 3 = (iv : Int)) (eA : (o : Int).tmod 2 = (io : Int)) (eB : (lo : Int).tmod 40 = (a7 : Int)) (eC : (tg : Int).tdiv 4 = (b1 : Int)) (eD : (b1 : Int).tmod 2 = (a8 : Int)) (eE : (tg : Int).tdiv 8 = (b2 : Int)) (eF : (b2 : Int).tmod 3 = (iz : Int)) (eG : (tg : Int).tmod 4 = (nt : Int))
    (eH : (lk : Int).tmod 3 = (nl : Int)) (eI : (lk : Int).tdiv 3 = (b3 : Int)) (eJ : (b3 : Int).tmod 5 = (a9 : Int)) (eK : (lk : Int).tdiv 15 = (b4 : Int)) (eL : (b4 : Int).tmod 5 = (aA : Int))
    (hv : ∀ n ∈ [b0, st, b1, tg, b2, b3, b4, a0, a1, a2, a3, a4, a5, a6, a7, a8, a9, aA, nl], n < 256) (hnt : nt ≤ 3) (hnl : nl = 0 ∨ nl = 1 ∨ nl = 2)
    (s1 : (svs.map vs)[is]? = some (vs sv)) (s2 : (vrs.map vs)[iv]? = some (vs vr)) (s3 : (ops.map vs)[io]? = some (vs op)) (s4 : (zns.map vs)[iz]? = some (vs zn)) :
    run XP i_sleuthlaw11_Span [.agg [v8 t, v8 i, v8 p, v8 r, v8 c, v8 k, v8 s, v8 v, v8 o, v8 st, v8 lo, v8 tg, v8 lk, vb fl]] h =
      some (SP.v ⟨(a0 : Int) * 1048576 + 1 + a1, 1 + (a2 : Int), a3, a4, 1 + (a5 : Int), 1 + (a6 : Int), sv, vr, op, (st : Int) - 50, (st : Int) - 50 + a7, fl, (mats a8 ((tg : Int) - 60) zn).take nt, mlks nl (1 + (a9 : Int)) (1 + (aA : Int)), false, nl == 0⟩, h) := by
  simp only [List.mem_cons, List.not_mem_nil, or_false, forall_eq_or_imp, forall_eq] at hv
  obtain ⟨g0, g1, g2, g3, g4, g5, g6, g7, g8, g9, gA, gB, gC, gD, gE, gF, gG, gH, gI⟩ := hv
  have w0 := w8 g0
  have w1 := w8 g2
  have w2 := w8 g4
  have w3 := w8 g5
  have w4 := w8 g6
  have x0 : IntKind.i64.wrap (a0 : Int) = a0 := w64 (by omega)
  have x1 : IntKind.i64.wrap ((a0 : Int) * 2 ^ min 20 IntKind.i64.bits) = (a0 : Int) * 1048576 := w64 (n := (a0 : Int) * 1048576) (by omega)
  have x2 : IntKind.i64.wrap ((a0 : Int) * 1048576 + 1) = (a0 : Int) * 1048576 + 1 := w64 (by omega)
  have x3 : IntKind.i64.wrap ((a0 : Int) * 1048576 + 1 + a1) = (a0 : Int) * 1048576 + 1 + a1 := w64 (by omega)
  have x4 : IntKind.i64.wrap (a1 : Int) = a1 := w64 (by omega)
  have x5 : IntKind.i64.wrap (a2 : Int) = a2 := w64 (by omega)
  have x6 : IntKind.i64.wrap (a3 : Int) = a3 := w64 (by omega)
  have x7 : IntKind.i64.wrap (a4 : Int) = a4 := w64 (by omega)
  have x8 : IntKind.i64.wrap (a5 : Int) = a5 := w64 (by omega)
  have x9 : IntKind.i64.wrap (a6 : Int) = a6 := w64 (by omega)
  have xA : IntKind.i64.wrap (a7 : Int) = a7 := w64 (by omega)
  have xB : IntKind.i64.wrap (a8 : Int) = a8 := w64 (by omega)
  have xC : IntKind.i64.wrap (a9 : Int) = a9 := w64 (by omega)
  have xD : IntKind.i64.wrap (aA : Int) = aA := w64 (by omega)
  have xE : IntKind.i64.wrap (1 + (a2 : Int)) = 1 + a2 := w64 (by omega)
  have xF : IntKind.i64.wrap (1 + (a5 : Int)) = 1 + a5 := w64 (by omega)
  have xG : IntKind.i64.wrap (1 + (a6 : Int)) = 1 + a6 := w64 (by omega)
  have xH : IntKind.i64.wrap (1 + (a9 : Int)) = 1 + a9 := w64 (by omega)
  have xI : IntKind.i64.wrap (1 + (aA : Int)) = 1 + aA := w64 (by omega)
  have xJ : IntKind.i64.wrap (1 + (aA : Int) + 1) = 1 + aA + 1 := w64 (by omega)
  have xK : IntKind.i64.wrap (st : Int) = st := w64 (by omega)
  have xL : IntKind.i64.wrap ((st : Int) - 50) = (st : Int) - 50 := w64 (by omega)
  have xM : IntKind.i64.wrap ((st : Int) - 50 + a7) = (st : Int) - 50 + a7 := w64 (by omega)
  have xN : IntKind.i64.wrap (tg : Int) = tg := w64 (by omega)
  have xO : IntKind.i64.wrap ((tg : Int) - 60) = (tg : Int) - 60 := w64 (by omega)
  have xP : IntKind.i64.wrap (nl : Int) = nl := w64 (by omega)
  simp only [svs, vrs, ops, zns, List.map_cons, List.map_nil] at s1 s2 s3 s4
  rw [run_eq, xp_sleuthlaw11_Span]
  have hl := fun mc rs cs f w c12 c13 hend s0 => span_l0 (h := h) (base := h.length) (mc := mc) (rs := rs) (cs := cs) (f := f) (w := w) (lk := lk) (nl := nl) c12 c13 (Nat.le_refl _) eH eI eJ eK eL (by simp; omega) hnl hend s0
  simp -implicitDefEqProofs [x_sleuthlaw11_Span, e0, e1, e2, e3, e4, e5, e6, e7, e8, e9, eA, eB, eC, eD, eE, eF, eG, eH, eI, eJ, eK, eL, w0, w1, w2, w3, w4, x0, x1, x2, x3, x4, x5, x6, x7, x8, x9, xA, xB, xC, xD, xE, xF, xG, xH, xI, xJ, xK, xL, xM, xN, xO, xP, s1, s2, s3, s4, hnt]
  refine hl _ _ _ _ _ rfl rfl ?_ _ ?_ ?_ ?_ ?_
  · intro s ds g2 g3
    have hml : mlks nl (1 + (a9 : Int)) (1 + (aA : Int)) = [] ↔ nl = 0 := by rcases hnl with rfl | rfl | rfl <;> simp [mlks]
    by_cases hn0 : nl = 0
    · subst hn0
      simp -implicitDefEqProofs [lcell, g2, g3, SP.v, slc, mlks]
      exact ⟨rfl, rfl⟩
    · simp -implicitDefEqProofs [lcell, g2, g3, SP.v, slc, hn0]
      exact ⟨rfl, rfl⟩
  all_goals simp
end Go.Proofs.Sl

namespace Go.Proofs.Sl
theorem run_Span {h : H} {m : MK} (hm : m.Ok) : run XP i_sleuthlaw11_Span [m.val] h = some (m.sp.v, h) := by
  obtain ⟨t, i, p, r, c, k, s, v, o, st, lo, tg, lk, fl⟩ := m
  have hm := hm.a
  simp only [List.mem_cons, List.not_mem_nil, or_false, forall_eq_or_imp, forall_eq] at hm
  obtain ⟨m0, m1, m2, m3, m4, m5, m6, m7, m8, m9, mA, mB, mC⟩ := hm
  have := run_Span_aux h t i p r c k s v o st lo tg lk fl (t % 3) (t / 3) (t / 3 % 4) (i % 4) (p % 5) (r % 3) (c % 3) (k % 5) (s % 3) (v % 3) (o % 2) (lo % 40) (tg / 4) (tg / 4 % 2) (tg / 8) (tg / 8 % 3) (tg % 4) (lk % 3) (lk / 3) (lk / 3 % 5) (lk / 15) (lk / 15 % 5)
    (tbl svs (s % 3)) (tbl vrs (v % 3)) (tbl ops (o % 2)) (tbl zns (tg / 8 % 3))
    (tmodN _ _) (tdivN _ _) (tmodN _ _) (tmodN _ _) (tmodN _ _) (tmodN _ _) (tmodN _ _) (tmodN _ _) (tmodN _ _) (tmodN _ _) (tmodN _ _) (tmodN _ _) (tdivN _ _) (tmodN _ _) (tdivN _ _) (tmodN _ _) (tmodN _ _) (tmodN _ _) (tdivN _ _) (tmodN _ _) (tdivN _ _) (tmodN _ _)
    (by simp only [List.mem_cons, List.not_mem_nil, or_false, forall_eq_or_imp, forall_eq]; omega) (by omega) (by omega)
    (tbl_at (by simp only [svs, List.length_cons, List.length_nil]; omega)) (tbl_at (by simp only [vrs, List.length_cons, List.length_nil]; omega)) (tbl_at (by simp only [ops, List.length_cons, List.length_nil]; omega)) (tbl_at (by simp only [zns, List.length_cons, List.length_nil]; omega))
  have hsp : MK.sp ⟨t, i, p, r, c, k, s, v, o, st, lo, tg, lk, fl⟩ = (⟨((t % 3 : Nat) : Int) * 1048576 + 1 + ((t / 3 % 4 : Nat) : Int), 1 + ((i % 4 : Nat) : Int), ((p % 5 : Nat) : Int), ((r % 3 : Nat) : Int), 1 + ((c % 3 : Nat) : Int), 1 + ((k % 5 : Nat) : Int), tbl svs (s % 3), tbl vrs (v % 3), tbl ops (o % 2), (st : Int) - 50, (st : Int) - 50 + ((lo % 40 : Nat) : Int), fl,
      (mats (tg / 4 % 2) ((tg : Int) - 60) (tbl zns (tg / 8 % 3))).take (tg % 4), mlks (lk % 3) (1 + ((lk / 3 % 5 : Nat) : Int)) (1 + ((lk / 15 % 5 : Nat) : Int)), false, lk % 3 == 0⟩ : SP) := by
    simp only [MK.sp, Int.natCast_add, Int.natCast_mul]
    rfl
  rw [hsp]
  exact this
theorem MK.len (m : MK) : m.sp.ats.length ≤ 3 ∧ m.sp.lks.length ≤ 2 := by
  refine ⟨?_, ?_⟩
  · show ((mats _ _ _).take _).length ≤ 3
    rw [List.length_take]
    exact Nat.min_le_right _ _
  · show (mlks (m.lk % 3) _ _).length ≤ 2
    have : m.lk % 3 = 0 ∨ m.lk % 3 = 1 ∨ m.lk % 3 = 2 := by omega
    rcases this with h | h | h <;> rw [h] <;> simp [mlks]
theorem MK.an (m : MK) : m.sp.an = true → m.sp.ats = [] := fun h => by cases h
theorem MK.ln (m : MK) : m.sp.ln = true → m.sp.lks = [] := fun h => by
  have h0 : m.lk % 3 = 0 := by simpa [MK.sp] using h
  show mlks (m.lk % 3) _ _ = []
  rw [h0, mlks]
theorem MK.sm (m : MK) : m.sp.Sm := ⟨by have := m.len.1; omega, by have := m.len.2; omega, m.an, m.ln⟩
end Go.Proofs.Sl

namespace Go.Proofs.Sl
/-- What a function returns that has built a list. -/
def ow (es : List SP) : V := if es = [] then vnil else .own 14 (es.map SP.v)
theorem ow_res0 (es : List SP) : res0 (ow es) = nl es := nl_res es
def sps (ms : List MK) : List SP := (ms.take 12).map MK.sp
theorem sps_len (ms : List MK) : (sps ms).length ≤ 12 := by
  rw [sps, List.length_map, List.length_take]
  exact Nat.min_le_left _ _
/-- Few attributes and links. -/
structure SP.Ti (a : SP) : Prop where
  al : a.ats.length ≤ 1000
  ll : a.lks.length ≤ 1000
  an : a.an = true → a.ats = []
  ln : a.ln = true → a.lks = []
theorem SP.Ti.sm {a : SP} (h : a.Ti) : a.Sm := ⟨by have := h.al; omega, by have := h.ll; omega, h.an, h.ln⟩
theorem MK.ti (m : MK) : m.sp.Ti := ⟨by have := m.len.1; omega, by have := m.len.2; omega, m.an, m.ln⟩
theorem sps_ti {ms : List MK} {a : SP} (h : a ∈ sps ms) : a.Ti := by
  obtain ⟨m, -, rfl⟩ := List.mem_map.1 h
  exact m.ti
theorem tail_of {h h2 : H} (htk : h2.take h.length = h) : ∃ t, h2 = h ++ t := ⟨h2.drop h.length, by
  have := List.take_append_drop h.length h2
  rw [htk] at this
  exact this.symm⟩
theorem run_Spans {h : H} {v : V} {ms : List MK} (hv : ∀ t, Rd (h ++ t) 14 v (ms.map MK.val)) (hm : ∀ m ∈ ms, m.Ok) : run XP i_sleuthlaw11_Spans [v] h = some (ow (sps ms), h) := by
  have ha0 := (hv []).arg0
  rw [run_eq, xp_sleuthlaw11_Spans]
  simp -implicitDefEqProofs [x_sleuthlaw11_Spans, ha0]
  refine loop_up (min ms.length 12) (fun k s h' => ∃ t, Sees s [(0, v), (4, vi k)] ∧ h' = h ++ t ∧ OutV (s 3) h' h.length 14 (((ms.take k).map MK.sp).map SP.v)) ?_ ?_ _ _
    ⟨[], by simp, by simp, .inl ⟨rfl, by simp⟩⟩
  · rintro B f' hB hf k s h' hk ⟨t, ⟨h0, h4, -⟩, rfl, ho⟩ K
    have hk1 : k < ms.length := by omega
    have hk2 : (k : Int) < 12 := by omega
    obtain ⟨m, hm1⟩ : ∃ m, ms[k]? = some m := ⟨_, List.getElem?_eq_getElem hk1⟩
    have htl := (hv t).toL
    obtain ⟨q, hq, hld⟩ := (hv t).at (i := k) (e := m.val) (by simp [hm1])
    have hw : IntKind.i64.wrap ((k : Int) + 1) = (k : Int) + 1 := wrap_i64 (by omega) (by omega)
    have hS := fun h => run_Span (h := h) (hm m (List.mem_of_getElem? hm1))
    have hw1 := wide_SP1 m.sp
    have hc1 : V.closed.closeds [m.sp.v] = true := closeds_SP [m.sp]
    have hlen : (((ms.take k).map MK.sp).map SP.v).length + 1 ≤ 837723144972 := by simp; omega
    obtain ⟨x', h'', hap, ho', htk, hbl⟩ := ho.grow (lim := 837723144972) (by simp) hw1 hc1 hlen
    rw [List.take_left] at htk
    obtain ⟨t', rfl⟩ := tail_of htk
    have htake : ((ms.take k).map MK.sp).map SP.v ++ [m.sp.v] = ((ms.take (k + 1)).map MK.sp).map SP.v := by rw [List.take_add_one, hm1]; simp
    rw [htake] at ho'
    simp only [SP.v, V.cells, MK.val] at hld hS hap hw1 hc1
    simp -implicitDefEqProofs [hB, x_sleuthlaw11_Spans_l0, h0, h4, htl, hk1, hk2, hq, hld, hS, hap]
    refine K _ _ ⟨t', ?_, rfl, ?_⟩
    · simp [h0, hw]
    · simpa using ho'
  · rintro B hB s h' ⟨t, ⟨h0, h4, -⟩, rfl, ho⟩
    have htl := (hv t).toL
    have hr := ho.ret (closeds_SP _)
    have e : (ms.take (min ms.length 12)).map MK.sp = sps ms := by
      rw [sps]
      by_cases hx : ms.length ≤ 12
      · rw [Nat.min_eq_left hx, List.take_of_length_le (Nat.le_refl _), List.take_of_length_le hx]
      · rw [Nat.min_eq_right (by omega)]
    rw [e] at hr
    have e2 : (if (sps ms).map SP.v = [] then vnil else V.own 14 ((sps ms).map SP.v)) = ow (sps ms) := by
      unfold ow
      by_cases hx : sps ms = []
      · rw [hx]; rfl
      · rw [if_neg hx, if_neg (by simpa using hx)]
    rw [e2] at hr
    by_cases hx : ms.length ≤ 12
    · rw [Nat.min_eq_left hx] at h4
      simp -implicitDefEqProofs [hB, x_sleuthlaw11_Spans_l0, h0, h4, htl]
      simp only [hr]
      simp
    · rw [Nat.min_eq_right (by omega)] at h4
      have hlt : (12 : Int) < ms.length := by omega
      simp -implicitDefEqProofs [hB, x_sleuthlaw11_Spans_l0, h0, h4, htl, hlt]
      simp only [hr]
      simp
/-! ### The same records -/
def sameL : List SP → List SP → Bool
  | [], [] => true
  | a :: x, b :: y => cmpS a b == 0 && sameL x y
  | _, _ => false
theorem sameL_len : ∀ {x y : List SP}, sameL x y = true → x.length = y.length
  | [], [], _ => rfl
  | a :: x, b :: y, h => by
    rw [sameL, Bool.and_eq_true] at h
    rw [List.length_cons, List.length_cons, sameL_len h.2]
  | [], b :: y, h => by simp [sameL] at h
  | a :: x, [], h => by simp [sameL] at h
theorem run_same {h : H} {v w : V} {xs ys : List SP} (hv : Rd h 14 v (xs.map SP.v)) (hw : Rd h 14 w (ys.map SP.v)) (hx : ∀ e ∈ xs, e.Ti) (hy : ∀ e ∈ ys, e.Ti) (hl : xs.length ≤ 100000) : run XP i_sleuthlaw11_same [v, w] h = some (vb (sameL xs ys), h) := by
  have hla := hv.toL
  have hlb := hw.toL
  have ha0 := hv.arg0
  have hb0 := hw.arg0
  rw [run_eq, xp_sleuthlaw11_same]
  by_cases hn : xs.length = ys.length
  · have hn' : ((xs.length : Int) != (ys.length : Int)) = false := by rw [hn]; simp
    simp -implicitDefEqProofs [x_sleuthlaw11_same, ha0, hb0, hla, hlb, hn']
    refine loop_list xs (fun k s h' => Sees s [(0, v), (1, w), (5, vi k)] ∧ h' = h ∧ sameL xs ys = sameL (xs.drop k) (ys.drop k)) ?_ ?_ _ _ ⟨by simp, rfl, rfl⟩
    · rintro B f' hB hf k e s h' he hk ⟨⟨h0, h1, h5, -⟩, rfl, hs⟩ K
      have hlt : (k : Int) < xs.length := by omega
      obtain ⟨d, hd⟩ : ∃ d, ys[k]? = some d := ⟨_, List.getElem?_eq_getElem (by omega)⟩
      obtain ⟨p, hp, hpl⟩ := hv.at (i := k) (e := e.v) (by simp [he])
      obtain ⟨q, hq, hql⟩ := hw.at (i := k) (e := d.v) (by simp [hd])
      have t1 := hx e (List.mem_of_getElem? he)
      have t2 := hy d (List.mem_of_getElem? hd)
      have hc := fun h => run_lcmp h t1.an t1.ln t2.an t2.ln t1.al t1.ll t2.al t2.ll
      have hwk : IntKind.i64.wrap ((k : Int) + 1) = (k : Int) + 1 := wrap_i64 (by omega) (by omega)
      rw [drop_at he, drop_at hd, sameL] at hs
      generalize cmpS e d = z at hc hs
      simp only [SP.v, V.cells] at hpl hql hc
      by_cases hz : z = 0
      · subst hz
        rw [show ((0 : Int) == 0) = true from rfl, Bool.true_and] at hs
        simp -implicitDefEqProofs [hB, x_sleuthlaw11_same_l0, h0, h1, h5, hla, hlt, hp, hq, hpl, hql, hc]
        refine K _ _ ⟨?_, rfl, hs⟩
        simp [h0, h1, hwk]
      · have hz1 : (z == 0) = false := by simpa using hz
        have hz2 : (z != 0) = true := by simpa using hz
        rw [hz1, Bool.false_and] at hs
        simp -implicitDefEqProofs [hB, hf, x_sleuthlaw11_same_l0, h0, h1, h5, hla, hlt, hp, hq, hpl, hql, hc, hz2, hs]
    · rintro B hB s h' ⟨⟨h0, h1, h5, -⟩, rfl, hs⟩
      rw [List.drop_of_length_le (Nat.le_refl _), List.drop_of_length_le (by omega), sameL] at hs
      simp -implicitDefEqProofs [hB, x_sleuthlaw11_same_l0, h0, h1, h5, hla, hs]
  · have hn' : ((xs.length : Int) != (ys.length : Int)) = true := by simp; omega
    have : sameL xs ys = false := by
      cases hs : sameL xs ys with
      | false => rfl
      | true => exact absurd (sameL_len hs) hn
    simp -implicitDefEqProofs [x_sleuthlaw11_same, ha0, hb0, hla, hlb, hn', this]
end Go.Proofs.Sl

namespace Go.Proofs.Sl
end Go.Proofs.Sl

namespace Go.Proofs.Sl
theorem take_up {h h2 : H} (htk : h2.take h.length = h) : h.length ≤ h2.length := by
  have := congrArg List.length htk
  rw [List.length_take] at this
  omega
theorem take_add {h h2 : H} (htk : h2.take h.length = h) (t : H) : (h2 ++ t).take h.length = h := take_app_of (t := t) htk (take_up htk) t
theorem OutV.rd {x : V} {h : H} {b k : Nat} {es : List V} (o : OutV x h b k es) : Rd h k x es := by
  rcases o with ⟨rfl, rfl⟩ | ⟨q, _, _, rfl, h3⟩
  · exact .nil
  · exact .ref q false es h3
/-- Something is appended to the array that was built last. -/
theorem app_last {h : H} {lim : Nat} {es ys : List V} {y : V} {n : Nat} (hn : es.length = n) (ey : appEls (h ++ [.arr false 14 es]) y = some ys) (hw : wide 14 ys = true) (hc : V.closed.closeds ys = true) (hl : es.length + ys.length ≤ lim) :
    xappend (h ++ [.arr false 14 es]) 14 lim (.ref h.length n) y = some (.ref h.length (n + ys.length), h ++ [.arr false 14 (es ++ ys)]) := by
  subst hn
  rw [xappend_ref, ey, ob_some, if_pos ⟨hw, hc⟩]
  simp [hl]
end Go.Proofs.Sl

namespace Go.Proofs.Sl
theorem ow_map (es : List SP) : (if es.map SP.v = [] then vnil else V.own 14 (es.map SP.v)) = ow es := by
  unfold ow
  by_cases hx : es = []
  · rw [hx]; rfl
  · rw [if_neg hx, if_neg (by simpa using hx)]
theorem winL_sub : ∀ es : List SP, (winL es).Sublist es
  | [] => List.Sublist.slnil
  | [a] => List.Sublist.refl _
  | a :: b :: r => by
    rw [winL]
    split
    · exact (winL_sub (b :: r)).cons a
    · exact (winL_sub (b :: r)).cons_cons a
end Go.Proofs.Sl

namespace Go.Proofs.Sl
theorem run_Grow0 (h : H) : run XP i_slices_Grow_api_Span_api_Span [vnil, vi 0] h = some (vnil, h) := by
  rw [run_nat xp_slices_Grow_api_Span_api_Span rfl]
  rfl
theorem run_GrowN (h : H) {n : Int} (h0 : 0 < n) (hn : n ≤ 100000) : run XP i_slices_Grow_api_Span_api_Span [vnil, vi n] h = some (.own 14 [], h) := by
  rw [run_nat xp_slices_Grow_api_Span_api_Span rfl]
  show (if 0 < n ∧ n ≤ (837723144972 : Nat) then some (V.own 14 [], h) else if n = 0 then some (vnil, h) else none) = _
  rw [if_pos ⟨h0, by omega⟩]
theorem nl_plain (es : List SP) : (nl es).plain = true := by unfold nl; split <;> simp
theorem flat_up {xs : List (List SP)} {k : Nat} {e : List SP} (h : xs[k]? = some e) : (xs.take (k + 1)).flatten = (xs.take k).flatten ++ e := by
  rw [List.take_add_one, h]
  simp
theorem flat_le {xs : List (List SP)} (k : Nat) : (xs.take k).flatten.length ≤ xs.flatten.length := by
  have := congrArg (fun l : List (List SP) => l.flatten.length) (List.take_append_drop k xs)
  simp only [List.flatten_append, List.length_append] at this
  omega
set_option maxHeartbeats 2000000 in
theorem run_Concat (h : H) (xs : List (List SP)) (hn : xs.length ≤ 1000) (hl : xs.flatten.length ≤ 100000) : run XP i_slices_Concat_api_Span_api_Span [.lst 1 (xs.map nl)] h = some (ow xs.flatten, h) := by
  have at1 : ∀ {k : Nat} {e : List SP} (he : xs[k]? = some e) (h : H), ∃ p, iaddrV h 1 (.lst 1 (xs.map nl)) k = some p ∧ xload h 1 false p = some (nl e) := fun {k e} he h =>
    (Rd.lst (h := h) (k := 1) (xs.map nl)).at1 (by simp [he]) (nl_plain e)
  rw [run_eq, xp_slices_Concat_api_Span_api_Span]
  simp -implicitDefEqProofs [x_slices_Concat_api_Span_api_Span]
  refine loop_list xs (fun k s h' => Sees s [(0, .lst 1 (xs.map nl)), (3, vi ((xs.take k).flatten.length : Int)), (9, .lst 1 (xs.map nl)), (10, vi xs.length), (11, vi k)] ∧ h' = h) ?_ ?_ _ _ ⟨by simp, rfl⟩
  · rintro B f' hB hf k e s h' he hk ⟨⟨h0, h3, h9, h10, h11, -⟩, rfl⟩ K
    have hlt : (k : Int) < xs.length := by omega
    obtain ⟨p, hp, hpl⟩ := at1 he h'
    have hL := ((nl_LV e).rd h').toL
    have hfu := congrArg List.length (flat_up he)
    rw [List.length_append] at hfu
    have hfl := flat_le (xs := xs) (k + 1)
    have hw : IntKind.i64.wrap ((k : Int) + 1) = (k : Int) + 1 := wrap_i64 (by omega) (by omega)
    have hw2 : IntKind.i64.wrap (((xs.take k).flatten.length : Int) + e.length) = ((xs.take (k + 1)).flatten.length : Int) := by rw [wrap_i64 (by omega) (by omega)]; omega
    have hng : ¬ ((xs.take (k + 1)).flatten.length : Int) < 0 := by omega
    generalize (xs.take (k + 1)).flatten.length = m at *
    generalize (xs.take k).flatten.length = m0 at *
    simp -implicitDefEqProofs [hB, x_slices_Concat_api_Span_api_Span_l0, h0, h3, h9, h10, h11, hlt, hp, hpl, hL, hw2, hng]
    refine K _ _ ⟨?_, rfl⟩
    simp [h0, h9, h10, hw]
  · rintro B hB s h' ⟨⟨h0, h3, h9, h10, h11, -⟩, rfl⟩
    rw [List.take_of_length_le (Nat.le_refl _)] at h3
    by_cases hz : xs.flatten = []
    · have g0 := run_Grow0
      rw [hz] at h3
      simp -implicitDefEqProofs [hB, x_slices_Concat_api_Span_api_Span_l0, h0, h3, h9, h10, h11, g0]
      refine loop_list xs (fun k s h'' => Sees s [(6, vnil), (25, .lst 1 (xs.map nl)), (26, vi xs.length), (27, vi k)] ∧ h'' = h') ?_ ?_ _ _ ⟨by simp, rfl⟩
      · rintro B f' hB hf k e s h' he hk ⟨⟨h6, h25, h26, h27, -⟩, rfl⟩ K
        have hlt : (k : Int) < xs.length := by omega
        obtain ⟨p, hp, hpl⟩ := at1 he h'
        have hw : IntKind.i64.wrap ((k : Int) + 1) = (k : Int) + 1 := wrap_i64 (by omega) (by omega)
        have hee : e = [] := by
          have := List.flatten_eq_nil_iff.1 hz e (List.mem_of_getElem? he)
          exact this
        subst hee
        rw [show nl [] = vnil from rfl] at hpl
        simp -implicitDefEqProofs [hB, x_slices_Concat_api_Span_api_Span_l1, h6, h25, h26, h27, hlt, hp, hpl]
        refine K _ _ ⟨?_, rfl⟩
        simp [h25, h26, hw]
      · rintro B hB s h' ⟨⟨h6, h25, h26, h27, -⟩, rfl⟩
        simp -implicitDefEqProofs [hB, x_slices_Concat_api_Span_api_Span_l1, h6, h25, h26, h27, hz, ow]
    · have hpos : 0 < xs.flatten.length := List.length_pos_iff.2 hz
      have g0 := fun h => run_GrowN h (n := (xs.flatten.length : Int)) (by omega) (by omega)
      generalize hN : (xs.flatten.length : Int) = N at *
      simp -implicitDefEqProofs [hB, x_slices_Concat_api_Span_api_Span_l0, h0, h3, h9, h10, h11, g0]
      refine loop_list xs (fun k s h'' => Sees s [(6, .ref h'.length (xs.take k).flatten.length), (25, .lst 1 (xs.map nl)), (26, vi xs.length), (27, vi k)] ∧ h'' = h' ++ [.arr false 14 ((xs.take k).flatten.map SP.v)]) ?_ ?_ _ _ ⟨by simp, by simp⟩
      · rintro B f' hB hf k e s h'' he hk ⟨⟨h6, h25, h26, h27, -⟩, rfl⟩ K
        have hlt : (k : Int) < xs.length := by omega
        obtain ⟨p, hp, hpl⟩ := at1 he (h' ++ [.arr false 14 ((xs.take k).flatten.map SP.v)])
        have hw : IntKind.i64.wrap ((k : Int) + 1) = (k : Int) + 1 := wrap_i64 (by omega) (by omega)
        have hfu := flat_up he
        have hfl := flat_le (xs := xs) (k + 1)
        rw [hfu, List.length_append] at hfl
        have A := app_last (h := h') (lim := 837723144972) (es := (xs.take k).flatten.map SP.v) (n := (xs.take k).flatten.length) (List.length_map _) ((nl_LV e).rd _).appEls (wide_SP e) (closeds_SP e) (by simp only [List.length_map]; omega)
        rw [← List.map_append, ← hfu] at A
        have hln : (xs.take k).flatten.length + (e.map SP.v).length = (xs.take (k + 1)).flatten.length := by rw [hfu, List.length_append, List.length_map]
        rw [hln] at A
        generalize (xs.take (k + 1)).flatten = m at *
        generalize (xs.take k).flatten = m0 at *
        simp -implicitDefEqProofs [-xappend_ref, hB, x_slices_Concat_api_Span_api_Span_l1, h6, h25, h26, h27, hlt, hp, hpl, A]
        refine K _ _ ⟨?_, rfl⟩
        simp [h25, h26, hw]
      · rintro B hB s h'' ⟨⟨h6, h25, h26, h27, -⟩, rfl⟩
        rw [List.take_of_length_le (Nat.le_refl _)] at h6
        have e5 := closeds_SP xs.flatten
        have ho : OutV (.ref h'.length xs.flatten.length) (h' ++ [.arr false 14 (xs.flatten.map SP.v)]) h'.length 14 (xs.flatten.map SP.v) :=
          .inr ⟨h'.length, by simpa using hz, Nat.le_refl _, by rw [List.length_map], by simp⟩
        have hr := ho.ret e5
        rw [ow_map] at hr
        rw [List.take_of_length_le (Nat.le_refl _)]
        generalize xs.flatten = m at *
        simp -implicitDefEqProofs [hB, x_slices_Concat_api_Span_api_Span_l1, h6, h25, h26, h27]
        exact ⟨e5, by rw [ow, if_neg hz]⟩
theorem run_Union (h : H) {a b : List SP} (ha : ∀ e ∈ a, e.Sm) (hb : ∀ e ∈ b, e.Sm) (la : a.length ≤ 1000) (lb : b.length ≤ 1000) : run XP i_span_Union [nl a, nl b] h = some (nl (dst (a ++ b)), h) := by
  have hc := fun h => run_Concat h [a, b] (by simp) (by simp; omega)
  have hm : ∀ e ∈ a ++ b, e.Sm := fun e he => by
    rcases List.mem_append.1 he with he | he
    · exact ha e he
    · exact hb e he
  have hs := fun h => run_Set (h := h) (h2 := h) (nl_LV (a ++ b)) (nl_arg0 _) (run_Values (nl_LV (a ++ b))) rfl hm (by simp; omega)
  simp only [List.map_cons, List.map_nil, List.flatten_cons, List.flatten_nil, List.append_nil] at hc
  have n1 := nl_plain a
  have n2 := nl_plain b
  rw [run_eq, xp_span_Union]
  simp -implicitDefEqProofs [x_span_Union, nl_arg0, hc, hs, ow_res0, nl_ret, nl_res0, n1, n2]
end Go.Proofs.Sl

namespace Go.Proofs.Sl
def Str (l : List SP) : Prop := l.Pairwise fun a b => cmpS a b < 0
def Ins (x y : List SP) : Prop := ∀ a ∈ x, ∃ b ∈ y, cmpS a b = 0
def Alk (x y : List SP) : Prop := Ins x y ∧ Ins y x
theorem cz (a : SP) : cmpS a a = 0 := cmpS_cm.self a
theorem csym {a b : SP} (h : cmpS a b = 0) : cmpS b a = 0 := by rw [cmpS_cm.anti]; omega
theorem clt {a b c : SP} (h : cmpS a b < 0) (k : cmpS b c ≤ 0) : cmpS a c < 0 := cmpS_cm.lt_of_lt_le h k
theorem cle {a b c : SP} (h : cmpS a b ≤ 0) (k : cmpS b c ≤ 0) : cmpS a c ≤ 0 := cmpS_cm.trans _ _ _ h k
theorem Ins.of_sub {x y : List SP} (h : ∀ a ∈ x, a ∈ y) : Ins x y := fun a ha => ⟨a, h a ha, cz a⟩
theorem Ins.trans {x y z : List SP} (h : Ins x y) (k : Ins y z) : Ins x z := fun a ha => by
  obtain ⟨b, hb, e⟩ := h a ha
  obtain ⟨c, hc, e2⟩ := k b hb
  exact ⟨c, hc, cmpS_cm.eq_trans e e2⟩
theorem Alk.symm {x y : List SP} (h : Alk x y) : Alk y x := ⟨h.2, h.1⟩
theorem Alk.trans {x y z : List SP} (h : Alk x y) (k : Alk y z) : Alk x z := ⟨h.1.trans k.1, k.2.trans h.2⟩
theorem Alk.of_mem {x y : List SP} (h : ∀ a, a ∈ x ↔ a ∈ y) : Alk x y := ⟨Ins.of_sub fun a => (h a).1, Ins.of_sub fun a => (h a).2⟩
theorem same_of : ∀ {x y : List SP}, Str x → Str y → Alk x y → sameL x y = true
  | [], [], _, _, _ => rfl
  | [], b :: y, _, _, h => by obtain ⟨a, ha, _⟩ := h.2 b (by simp); cases ha
  | a :: x, [], _, _, h => by obtain ⟨b, hb, _⟩ := h.1 a (by simp); cases hb
  | a :: x, b :: y, hx, hy, h => by
    obtain ⟨hx1, hx2⟩ := List.pairwise_cons.1 hx
    obtain ⟨hy1, hy2⟩ := List.pairwise_cons.1 hy
    have hab : cmpS a b = 0 := by
      obtain ⟨b', hb', e1⟩ := h.1 a (by simp)
      obtain ⟨a', ha', e2⟩ := h.2 b (by simp)
      rcases List.mem_cons.1 hb' with rfl | hb'
      · exact e1
      · rcases List.mem_cons.1 ha' with rfl | ha'
        · exact csym e2
        · have l1 := hy1 b' hb'
          have l2 := hx1 a' ha'
          have l3 := clt l1 (by rw [csym e1]; exact Int.le_refl _)
          have l4 := clt l3 (Int.le_of_lt l2)
          have l5 := csym e2
          rw [cmpS_cm.anti] at l5
          omega
    rw [sameL, hab, same_of hx2 hy2]
    · rfl
    · refine ⟨fun c hc => ?_, fun c hc => ?_⟩
      · obtain ⟨d, hd, e⟩ := h.1 c (List.mem_cons_of_mem _ hc)
        rcases List.mem_cons.1 hd with rfl | hd
        · have := hx1 c hc
          have e3 := cmpS_cm.eq_trans hab (csym e)
          omega
        · exact ⟨d, hd, e⟩
      · obtain ⟨d, hd, e⟩ := h.2 c (List.mem_cons_of_mem _ hc)
        rcases List.mem_cons.1 hd with rfl | hd
        · have := hy1 c hc
          have e3 := cmpS_cm.eq_trans (csym hab) (csym e)
          omega
        · exact ⟨d, hd, e⟩
/-! ### span.Set -/
theorem cptA_mem : ∀ (r : List SP) (a : SP), ∀ c ∈ r, ∃ d ∈ a :: cptA a r, cmpS c d = 0
  | [], a, c, h => by cases h
  | b :: r, a, c, h => by
    rw [cptA]
    have ih := cptA_mem r b
    by_cases e : cmpS b a = 0
    · rw [if_pos e]
      rcases List.mem_cons.1 h with rfl | h
      · exact ⟨a, by simp, e⟩
      · obtain ⟨d, hd, e2⟩ := ih c h
        rcases List.mem_cons.1 hd with rfl | hd
        · exact ⟨a, by simp, cmpS_cm.eq_trans e2 e⟩
        · exact ⟨d, List.mem_cons_of_mem _ hd, e2⟩
    · rw [if_neg e]
      rcases List.mem_cons.1 h with rfl | h
      · exact ⟨c, by simp, cz c⟩
      · obtain ⟨d, hd, e2⟩ := ih c h
        exact ⟨d, List.mem_cons_of_mem _ hd, e2⟩
theorem cptA_str : ∀ (r : List SP) (a : SP), (a :: r).Pairwise (fun a b => cmpS a b ≤ 0) → Str (a :: cptA a r)
  | [], a, h => List.pairwise_singleton _ _
  | b :: r, a, h => by
    obtain ⟨h1, h2⟩ := List.pairwise_cons.1 h
    have ih := cptA_str r b h2
    obtain ⟨i1, i2⟩ := List.pairwise_cons.1 ih
    have hab := h1 b (by simp)
    rw [cptA]
    by_cases e : cmpS b a = 0
    · rw [if_pos e]
      refine List.pairwise_cons.2 ⟨fun c hc => ?_, i2⟩
      have := i1 c hc
      exact cmpS_cm.lt_of_le_lt hab this
    · rw [if_neg e]
      refine List.pairwise_cons.2 ⟨fun c hc => ?_, ih⟩
      have hlt : cmpS a b < 0 := by
        rcases Int.lt_or_eq_of_le hab with q | q
        · exact q
        · exact absurd (csym q) e
      rcases List.mem_cons.1 hc with rfl | hc
      · exact hlt
      · exact clt hlt (Int.le_of_lt (i1 c hc))
theorem dst_str (es : List SP) : Str (dst es) := by
  have h := srt_sorted es
  unfold dst
  match srt es, h with
  | [], _ => exact List.Pairwise.nil
  | a :: r, h => exact cptA_str r a h
theorem dst_alk (es : List SP) : Alk (dst es) es := by
  refine ⟨Ins.of_sub fun a => dst_mem, fun c hc => ?_⟩
  have hc := srt_mem.2 hc
  unfold dst
  generalize srt es = l at *
  match l, hc with
  | a :: r, hc =>
    rcases List.mem_cons.1 hc with rfl | hc
    · exact ⟨c, by simp [cpt], cz c⟩
    · obtain ⟨d, hd, e⟩ := cptA_mem r a c hc
      exact ⟨d, hd, e⟩
/-! ### The law's set -/
/-! ### Winners -/
def Idn (a b : SP) : Prop := a.tr = b.tr ∧ a.id = b.id
theorem cmp_id {a b : SP} (h : cmpS a b ≤ 0) : a.tr < b.tr ∨ (a.tr = b.tr ∧ a.id ≤ b.id) := by
  obtain ⟨t, e⟩ : ∃ t, cmpS a b = orl (sgn a.tr b.tr :: sgn a.id b.id :: t) := ⟨_, rfl⟩
  rw [e, orl, orl] at h
  clear e
  have q1 := sgn_zero (a := a.tr) (b := b.tr)
  have q2 := sgn_zero (a := a.id) (b := b.id)
  unfold sgn at q1 q2 h
  by_cases c1 : a.tr < b.tr
  · exact .inl c1
  · by_cases c2 : b.tr < a.tr
    · simp [c1, c2] at h
    · have e1 : a.tr = b.tr := by omega
      by_cases c3 : b.id < a.id
      · have c4 : ¬ a.id < b.id := by omega
        simp [c1, c2, c3, c4] at h
      · exact .inr ⟨e1, by omega⟩
theorem cmp_idn {a b : SP} (h : cmpS a b = 0) : Idn a b := by
  have h1 := cmp_id (Int.le_of_eq h)
  have h2 := cmp_id (Int.le_of_eq (csym h))
  exact ⟨by omega, by omega⟩
theorem idn_mid {a b c : SP} (h : cmpS a b ≤ 0) (k : cmpS b c ≤ 0) (i : Idn a c) : Idn a b := by
  have h1 := cmp_id h
  have h2 := cmp_id k
  obtain ⟨i1, i2⟩ := i
  exact ⟨by omega, by omega⟩
theorem Idn.symm {a b : SP} (h : Idn a b) : Idn b a := ⟨h.1.symm, h.2.symm⟩
theorem Idn.trans {a b c : SP} (h : Idn a b) (k : Idn b c) : Idn a c := ⟨h.1.trans k.1, h.2.trans k.2⟩
/-- The last one of its identity. -/
def Lst (D : List SP) (x : SP) : Prop := ∀ y ∈ D, Idn y x → cmpS y x ≤ 0
theorem winL_lst : ∀ {D : List SP}, Str D → ∀ x ∈ winL D, Lst D x
  | [], _, x, h => by cases h
  | [a], _, x, h => by
    have : x = a := by simpa [winL] using h
    subst this
    intro y hy _
    have : y = x := by simpa using hy
    subst this
    rw [cz]
    exact Int.le_refl _
  | a :: b :: r, hs, x, h => by
    obtain ⟨h1, h2⟩ := List.pairwise_cons.1 hs
    rw [winL] at h
    intro y hy hi
    by_cases c : a.tr = b.tr ∧ a.id = b.id
    · rw [if_pos c] at h
      rcases List.mem_cons.1 hy with rfl | hy
      · exact Int.le_of_lt (h1 x ((winL_sub _).subset h))
      · exact winL_lst h2 x h y hy hi
    · rw [if_neg c] at h
      rcases List.mem_cons.1 h with rfl | _
      · rcases List.mem_cons.1 hy with rfl | hy
        · rw [cz]; exact Int.le_refl _
        · exfalso
          have hb : Idn x b := by
            rcases List.mem_cons.1 hy with rfl | hy
            · exact hi.symm
            · exact idn_mid (Int.le_of_lt (h1 b (by simp))) (Int.le_of_lt ((List.pairwise_cons.1 h2).1 y hy)) hi.symm
          exact c hb
      · rename_i hx
        rcases List.mem_cons.1 hy with rfl | hy
        · exact Int.le_of_lt (h1 x ((winL_sub _).subset hx))
        · exact winL_lst h2 x hx y hy hi
theorem lst_winL : ∀ {D : List SP}, Str D → ∀ x ∈ D, Lst D x → x ∈ winL D
  | [a], _, x, h, _ => by simpa [winL] using h
  | a :: b :: r, hs, x, h, hl => by
    obtain ⟨h1, h2⟩ := List.pairwise_cons.1 hs
    rw [winL]
    have hsub : x ∈ b :: r → x ∈ winL (b :: r) := fun hx => lst_winL h2 x hx fun y hy => hl y (List.mem_cons_of_mem _ hy)
    by_cases c : a.tr = b.tr ∧ a.id = b.id
    · rw [if_pos c]
      rcases List.mem_cons.1 h with rfl | h
      · have q := hl b (by simp) ⟨c.1.symm, c.2.symm⟩
        have q2 := h1 b (by simp)
        rw [cmpS_cm.anti] at q
        omega
      · exact hsub h
    · rw [if_neg c]
      rcases List.mem_cons.1 h with rfl | h
      · simp
      · exact List.mem_cons_of_mem _ (hsub h)
theorem winL_has : ∀ {D : List SP}, Str D → ∀ y ∈ D, ∃ w ∈ winL D, Idn y w ∧ cmpS y w ≤ 0
  | [a], _, y, h => ⟨a, by simp [winL], by
      have : y = a := by simpa using h
      subst this
      exact ⟨⟨rfl, rfl⟩, by rw [cz]; exact Int.le_refl _⟩⟩
  | a :: b :: r, hs, y, h => by
    obtain ⟨h1, h2⟩ := List.pairwise_cons.1 hs
    rw [winL]
    by_cases c : a.tr = b.tr ∧ a.id = b.id
    · rw [if_pos c]
      rcases List.mem_cons.1 h with rfl | h
      · obtain ⟨w, hw, i, e⟩ := winL_has h2 b (by simp)
        exact ⟨w, hw, Idn.trans c i, cle (Int.le_of_lt (h1 b (by simp))) e⟩
      · exact winL_has h2 y h
    · rw [if_neg c]
      rcases List.mem_cons.1 h with rfl | h
      · exact ⟨y, by simp, ⟨rfl, rfl⟩, by rw [cz]; exact Int.le_refl _⟩
      · obtain ⟨w, hw, q⟩ := winL_has h2 y h
        exact ⟨w, List.mem_cons_of_mem _ hw, q⟩
theorem winL_str {D : List SP} (h : Str D) : Str (winL D) := List.Pairwise.sublist (winL_sub D) h
/-- A record that is in the set, and the last one of its identity there. -/
theorem winL_ins {D E : List SP} (hE : Str E) {x : SP} (hx : Ins [x] E) (hl : Lst E x) : ∃ y ∈ winL E, cmpS x y = 0 := by
  obtain ⟨y, hy, e⟩ := hx x (by simp)
  refine ⟨y, lst_winL hE y hy fun z hz hi => ?_, e⟩
  have := hl z hz (hi.trans (cmp_idn (csym e)))
  exact cle this (Int.le_of_eq e)
theorem Lst.ins {D E : List SP} (h : Ins E D) {x : SP} (hl : Lst D x) : Lst E x := fun z hz hi => by
  obtain ⟨z', hz', e⟩ := h z hz
  exact cle (Int.le_of_eq e) (hl z' hz' ((cmp_idn (csym e)).trans hi))
theorem winL_ins2 {D E : List SP} (hD : Str D) (hE : Str E) (h : Alk D E) : Ins (winL D) (winL E) := fun x hx =>
  winL_ins (D := D) hE (fun a ha => by
    have : a = x := by simpa using ha
    subst this
    exact h.1 a ((winL_sub D).subset hx)) ((winL_lst hD x hx).ins h.2)
theorem winL_alk {D E : List SP} (hD : Str D) (hE : Str E) (h : Alk D E) : Alk (winL D) (winL E) := ⟨winL_ins2 hD hE h, winL_ins2 hE hD h.symm⟩
/-- The winners of the winners of two parts. -/
theorem wns_parts (a b : List SP) : Alk (wns (wns a ++ wns b)) (wns (a ++ b)) := by
  have hw : ∀ {l : List SP} {x : SP}, x ∈ wns l → x ∈ l := fun h => dst_mem ((winL_sub _).subset h)
  have hp : ∀ x ∈ wns a ++ wns b, x ∈ a ++ b := fun x hx => by
    rcases List.mem_append.1 hx with hx | hx
    · exact List.mem_append.2 (.inl (hw hx))
    · exact List.mem_append.2 (.inr (hw hx))
  have hmax : ∀ y ∈ a ++ b, ∃ w ∈ wns a ++ wns b, Idn y w ∧ cmpS y w ≤ 0 := fun y hy => by
    have one : ∀ l : List SP, y ∈ l → ∃ w ∈ wns l, Idn y w ∧ cmpS y w ≤ 0 := fun l hyl => by
      obtain ⟨y', hy', e⟩ := (dst_alk l).2 y hyl
      obtain ⟨w, hw1, i, q⟩ := winL_has (dst_str l) y' hy'
      exact ⟨w, hw1, (cmp_idn e).trans i, cle (Int.le_of_eq e) q⟩
    rcases List.mem_append.1 hy with hy | hy
    · obtain ⟨w, h1, h2⟩ := one a hy
      exact ⟨w, List.mem_append.2 (.inl h1), h2⟩
    · obtain ⟨w, h1, h2⟩ := one b hy
      exact ⟨w, List.mem_append.2 (.inr h1), h2⟩
  have d1 := dst_alk (wns a ++ wns b)
  have d2 := dst_alk (a ++ b)
  refine ⟨fun x hx => ?_, fun x hx => ?_⟩
  · have l1 := winL_lst (dst_str _) x hx
    have m1 : x ∈ wns a ++ wns b := hw hx
    have l2 : Lst (wns a ++ wns b) x := l1.ins d1.2
    refine winL_ins (D := []) (dst_str _) (fun c hc => ?_) (Lst.ins d2.1 fun y hy hi => ?_)
    · have : c = x := by simpa using hc
      subst this
      exact d2.2 c (hp c m1)
    · obtain ⟨w, hw1, i, q⟩ := hmax y hy
      exact cle q (l2 w hw1 (i.symm.trans hi))
  · have l1 := winL_lst (dst_str _) x hx
    have m1 : x ∈ a ++ b := hw hx
    have l2 : Lst (a ++ b) x := l1.ins d2.2
    refine winL_ins (D := []) (dst_str _) (fun c hc => ?_) (Lst.ins d1.1 fun y hy hi => l2 y (hp y hy) hi)
    have : c = x := by simpa using hc
    subst this
    obtain ⟨w, hw1, i, q⟩ := hmax c m1
    have q2 := l2 w (hp w hw1) i.symm
    obtain ⟨w', hw', e⟩ := d1.2 w hw1
    refine ⟨w', hw', cmpS_cm.eq_trans ?_ e⟩
    rw [cmpS_cm.anti] at q2
    omega
end Go.Proofs.Sl

namespace Go.Proofs.Sl
theorem sm_app {a b : List SP} (ha : ∀ e ∈ a, e.Ti) (hb : ∀ e ∈ b, e.Ti) : ∀ e ∈ a ++ b, e.Ti := fun e he => by
  rcases List.mem_append.1 he with he | he
  · exact ha e he
  · exact hb e he
theorem ti_sm {a : List SP} (ha : ∀ e ∈ a, e.Ti) : ∀ e ∈ a, e.Sm := fun e he => (ha e he).sm
theorem call_Winners (h : H) {a : List SP} (ha : ∀ e ∈ a, e.Ti) (hl : a.length ≤ 1000) : run XP i_span_Winners [nl a] h = some (nl (wns a), h) :=
  run_Winners (nl_LV a) (nl_arg0 a) (run_Values (nl_LV a)) rfl (ti_sm ha) (by omega)
theorem call_same (h : H) {a b : List SP} (ha : ∀ e ∈ a, e.Ti) (hb : ∀ e ∈ b, e.Ti) (hl : a.length ≤ 1000) (s1 : Str a) (s2 : Str b) (k : Alk a b) : run XP i_sleuthlaw11_same [nl a, nl b] h = some (vb true, h) := by
  rw [run_same ((nl_LV a).rd h) ((nl_LV b).rd h) ha hb (by omega), same_of s1 s2 k]
theorem dst_ti {a : List SP} (ha : ∀ e ∈ a, e.Ti) : ∀ e ∈ dst a, e.Ti := fun e he => ha e (dst_mem he)
theorem winL_ti {a : List SP} (ha : ∀ e ∈ a, e.Ti) : ∀ e ∈ winL a, e.Ti := fun e he => ha e ((winL_sub a).subset he)
theorem winL_len (a : List SP) : (winL a).length ≤ a.length := (winL_sub a).length_le
/-- Two lists in a new array. -/
theorem app_two (h : H) (a b : List SP) (hl : a.length ≤ 1000) (hl2 : b.length ≤ 1000) :
    xappend (h ++ [.arr false 14 []]) 14 837723144972 (.ref h.length 0) (nl a) = some (.ref h.length a.length, h ++ [.arr false 14 (a.map SP.v)]) ∧
    xappend (h ++ [.arr false 14 (a.map SP.v)]) 14 837723144972 (.ref h.length a.length) (nl b) = some (.ref h.length (a ++ b).length, h ++ [.arr false 14 ((a ++ b).map SP.v)]) := by
  have A := app_last (h := h) (lim := 837723144972) (es := []) (n := 0) rfl ((nl_LV a).rd _).appEls (wide_SP a) (closeds_SP a) (by simp only [List.length_nil, List.length_map]; omega)
  have B := app_last (h := h) (lim := 837723144972) (es := a.map SP.v) (n := a.length) (List.length_map _) ((nl_LV b).rd _).appEls (wide_SP b) (closeds_SP b) (by simp only [List.length_map]; omega)
  rw [List.nil_append, Nat.zero_add, List.length_map] at A
  rw [← List.map_append, List.length_map, ← List.length_append] at B
  exact ⟨A, B⟩
end Go.Proofs.Sl

namespace Go.Proofs.Sl
theorem OutV.growL {x : V} {h : H} {b k lim : Nat} {es ys : List V} (o : OutV x h b k es) (hy : ys ≠ []) (hb : b ≤ h.length) (hw : wide k ys = true) (hc : V.closed.closeds ys = true) (hl : es.length + ys.length ≤ lim) :
    ∃ x' h', xappend h k lim x (.lst k ys) = some (x', h') ∧ OutV x' h' b k (es ++ ys) ∧ h'.take b = h.take b ∧ b ≤ h'.length := by
  have ea : appEls h (.lst k ys) = some ys := rfl
  have hy' : ys.length ≠ 0 := by simpa using hy
  rcases o with ⟨rfl, rfl⟩ | ⟨q, h0, h1, rfl, h3⟩
  · have hl' : ys.length ≤ lim := by simpa using hl
    refine ⟨.ref h.length ys.length, h ++ [.arr false k ys], ?_, .inr ⟨h.length, by simpa using hy, hb, rfl, by simp⟩, by rw [List.take_append_of_le_length hb], by simp; omega⟩
    simp only [xappend, ea, ob_some, hw, hc, and_self, if_true, hy', if_false, hl']
  · have hq := (List.getElem?_eq_some_iff.1 h3).1
    refine ⟨.ref q (es.length + ys.length), h.set q (.arr false k (es ++ ys)), ?_, .inr ⟨q, by simp [hy], h1, by simp, by rw [List.getElem?_set_self hq]⟩, ?_, by simpa using hb⟩
    · have : arrN h q es.length = some (false, k, es) := by simp [arrN, arrAt, h3, ob_some]
      simp only [xappend, ea, ob_some, hw, hc, and_self, if_true, this, true_and, hl]
    · rw [List.take_set, List.set_eq_of_length_le (by simp; omega)]
def dup : List SP → List SP
  | [] => []
  | a :: r => a :: a :: dup r
theorem dup_mem {a : SP} : ∀ {l : List SP}, a ∈ dup l ↔ a ∈ l
  | [] => Iff.rfl
  | b :: r => by simp [dup, dup_mem (l := r)]
theorem dup_len : ∀ l : List SP, (dup l).length = 2 * l.length
  | [] => rfl
  | b :: r => by simp only [dup, List.length_cons, dup_len r]; omega
theorem dup_app : ∀ (l : List SP) (a : SP), dup (l ++ [a]) = dup l ++ [a, a]
  | [], a => rfl
  | b :: r, a => by simp [dup, dup_app r a]
/-- From the last one to the first. -/
def bck (b : List SP) (j : Nat) : List SP := dup (b.reverse.take j)
theorem bck_up {b : List SP} {j : Nat} {e : SP} (h : b.reverse[j]? = some e) : bck b (j + 1) = bck b j ++ [e, e] := by
  rw [bck, List.take_add_one, h]
  exact dup_app _ _
theorem bck_mem {a : SP} {b : List SP} : a ∈ bck b b.length ↔ a ∈ b := by
  rw [bck, List.take_of_length_le (by simp), dup_mem, List.mem_reverse]
set_option maxHeartbeats 1000000 in
theorem orderless_l0 {H0 : H} {base : Nat} {f : Ex × St → Option (V × H)} {w : Option (V × H)} {u : V} {b : List SP} (hl : b.length ≤ 1000) (hb : base ≤ H0.length)
    (hend : ∀ s h' x, s 5 = u → s 6 = nl b → s 7 = x → OutV x h' H0.length 14 ((bck b b.length).map SP.v) → h'.take H0.length = H0 → f (.exit 0, ⟨s, h'⟩) = w)
    (s0 : Sl) (g5 : s0 5 = u) (g6 : s0 6 = nl b) (g7 : s0 7 = vnil) (g8 : s0 8 = vi ((b.length : Int) - 1)) :
    ob (loopW (xcode (run XP) loopW base x_sleuthlaw11_SpanOrderless_l0) ⟨s0, H0⟩) f = w := by
  refine loop_up b.length (fun j s h' => Sees s [(5, u), (6, nl b), (8, vi ((b.length : Int) - 1 - j))] ∧ h'.take H0.length = H0 ∧ OutV (s 7) h' H0.length 14 ((bck b j).map SP.v)) ?_ ?_ _ _
    ⟨by simp [g5, g6, g8], by simp, .inl ⟨rfl, g7⟩⟩
  · rintro B f2 hB hf j s h' hj ⟨⟨h5, h6, h8, -⟩, htk, ho⟩ K
    obtain ⟨m, hm⟩ : ∃ m : Nat, m = b.length - 1 - j := ⟨_, rfl⟩
    have e8 : (b.length : Int) - 1 - j = (m : Int) := by omega
    obtain ⟨e, he⟩ : ∃ e, b[m]? = some e := ⟨_, List.getElem?_eq_getElem (by omega)⟩
    have her : b.reverse[j]? = some e := by rw [List.getElem?_reverse hj, ← hm, he]
    have hup := bck_up her
    have i1 := fun h => nl_at he h
    have hw : IntKind.i64.wrap ((m : Int) - 1) = (b.length : Int) - 1 - ((j + 1 : Nat) : Int) := by rw [wrap_i64 (by omega) (by omega)]; omega
    have hlen : ((bck b j).map SP.v).length + 2 ≤ 837723144972 := by
      rw [List.length_map, bck, dup_len, List.length_take]
      omega
    have hw2 : wide 14 [e.v, e.v] = true := wide_SP [e, e]
    have hc2 : V.closed.closeds [e.v, e.v] = true := closeds_SP [e, e]
    obtain ⟨x', h'', hap, ho', htk2, hbl⟩ := ho.growL (lim := 837723144972) (ys := [e.v, e.v]) (by simp) (take_up htk) hw2 hc2 hlen
    rw [htk] at htk2
    rw [show (bck b j).map SP.v ++ [e.v, e.v] = (bck b (j + 1)).map SP.v from by rw [hup]; simp] at ho'
    rw [e8] at h8
    have hge : (0 : Int) ≤ (m : Int) := by omega
    generalize hxx : s 7 = x at *
    simp only [SP.v, V.cells] at i1 hap
    simp -implicitDefEqProofs [-xread, xread_iaddr, xread_load, xread_len, hB, x_sleuthlaw11_SpanOrderless_l0, h5, h6, h8, hxx, i1, hap, hge, same_self, optEq]
    refine K _ _ ⟨?_, htk2, ?_⟩
    · simp [h5, h6, hw]
    · simpa using ho'
  · rintro B hB s h' ⟨⟨h5, h6, h8, -⟩, htk, ho⟩
    have e8 : (b.length : Int) - 1 - (b.length : Int) = -1 := by omega
    rw [e8] at h8
    simp -implicitDefEqProofs [hB, x_sleuthlaw11_SpanOrderless_l0, h5, h6, h8]
    exact hend _ _ (s 7) (by simp [h5]) (by simp [h6]) (by simp) ho htk
/-- Two lists in a new array, wherever they lie. -/
theorem app_twoR (h : H) {y1 y2 : V} {a b : List SP} (e1 : appEls (h ++ [.arr false 14 []]) y1 = some (a.map SP.v)) (e2 : appEls (h ++ [.arr false 14 (a.map SP.v)]) y2 = some (b.map SP.v)) (hl : a.length ≤ 1000) (hl2 : b.length ≤ 1000) :
    xappend (h ++ [.arr false 14 []]) 14 837723144972 (.ref h.length 0) y1 = some (.ref h.length a.length, h ++ [.arr false 14 (a.map SP.v)]) ∧
    xappend (h ++ [.arr false 14 (a.map SP.v)]) 14 837723144972 (.ref h.length a.length) y2 = some (.ref h.length (a ++ b).length, h ++ [.arr false 14 ((a ++ b).map SP.v)]) := by
  have A := app_last (h := h) (lim := 837723144972) (es := []) (n := 0) rfl e1 (wide_SP a) (closeds_SP a) (by simp only [List.length_nil, List.length_map]; omega)
  have B := app_last (h := h) (lim := 837723144972) (es := a.map SP.v) (n := a.length) (List.length_map _) e2 (wide_SP b) (closeds_SP b) (by simp only [List.length_map]; omega)
  rw [List.nil_append, Nat.zero_add, List.length_map] at A
  rw [← List.map_append, List.length_map, ← List.length_append] at B
  exact ⟨A, B⟩
theorem rW {H0 : H} {l : Nat} {es : List SP} {z : Bool} (he : H0[l]? = some (.arr z 14 (es.map SP.v))) (hs : ∀ e ∈ es, e.Ti) (hl : es.length ≤ 1000) : run XP i_span_Winners [.ref l es.length] H0 = some (nl (wns es), H0.set l (.arr true 14 (es.map SP.v))) :=
  run_Winners (.inr rfl) rfl (run_ValuesR he) (by simp) (ti_sm hs) (by omega)
theorem rS {H0 : H} {l : Nat} {es : List SP} {z : Bool} (he : H0[l]? = some (.arr z 14 (es.map SP.v))) (hs : ∀ e ∈ es, e.Ti) (hl : es.length ≤ 1000) : run XP i_span_Set [.ref l es.length] H0 = some (nl (dst es), H0.set l (.arr true 14 (es.map SP.v))) :=
  run_Set (.inr rfl) rfl (run_ValuesR he) (by simp) (ti_sm hs) (by omega)
/-- What the law's last part sees: three lists, whole or frozen. -/
theorem three {h : H} {A B C : List SP} (tA : ∀ e ∈ A, e.Ti) (tB : ∀ e ∈ B, e.Ti) (tC : ∀ e ∈ C, e.Ti) (lA : A.length ≤ 1000) (lB : B.length ≤ 1000) (lC : C.length ≤ 1000) (za zb zc : Bool) :
    let K := fun za zb zc => h ++ [O.arr za 14 (A.map SP.v), .arr zb 14 (B.map SP.v), .arr zc 14 (C.map SP.v)]
    run XP i_span_Set [.ref h.length A.length] (K za zb zc) = some (nl (dst A), K true zb zc) ∧
    run XP i_span_Set [.ref (h.length + 1) B.length] (K za zb zc) = some (nl (dst B), K za true zc) ∧
    run XP i_span_Winners [.ref h.length A.length] (K za zb zc) = some (nl (wns A), K true zb zc) ∧
    run XP i_span_Winners [.ref (h.length + 1) B.length] (K za zb zc) = some (nl (wns B), K za true zc) ∧
    run XP i_span_Winners [.ref (h.length + 2) C.length] (K za zb zc) = some (nl (wns C), K za zb true) := by
  have k0 : (h ++ [O.arr za 14 (A.map SP.v), .arr zb 14 (B.map SP.v), .arr zc 14 (C.map SP.v)])[h.length]? = some (.arr za 14 (A.map SP.v)) := by simp
  have k1 : (h ++ [O.arr za 14 (A.map SP.v), .arr zb 14 (B.map SP.v), .arr zc 14 (C.map SP.v)])[h.length + 1]? = some (.arr zb 14 (B.map SP.v)) := by simp
  have k2 : (h ++ [O.arr za 14 (A.map SP.v), .arr zb 14 (B.map SP.v), .arr zc 14 (C.map SP.v)])[h.length + 2]? = some (.arr zc 14 (C.map SP.v)) := by simp
  refine ⟨?_, ?_, ?_, ?_, ?_⟩
  · rw [rS k0 tA lA]; simp
  · rw [rS k1 tB lB]; simp
  · rw [rW k0 tA lA]; simp
  · rw [rW k1 tB lB]; simp
  · rw [rW k2 tC lC]; simp
theorem wns_str (l : List SP) : Str (wns l) := winL_str (dst_str l)
theorem wns_ti {a : List SP} (ha : ∀ e ∈ a, e.Ti) : ∀ e ∈ wns a, e.Ti := winL_ti (dst_ti ha)
theorem wns_len (a : List SP) : (wns a).length ≤ a.length := Nat.le_trans (winL_len _) (dst_length a)
theorem dst_alk2 {a b : List SP} (h : Alk a b) : Alk (dst a) (dst b) := (dst_alk a).trans (h.trans (dst_alk b).symm)
theorem wns_alk {a b : List SP} (h : Alk a b) : Alk (wns a) (wns b) := winL_alk (dst_str a) (dst_str b) (dst_alk2 h)
set_option maxHeartbeats 4000000 in
theorem orderless_law (h : H) {v w : V} {ms ns : List MK} (hv : ∀ t, Rd (h ++ t) 14 v (ms.map MK.val)) (hw : ∀ t, Rd (h ++ t) 14 w (ns.map MK.val)) (hm : ∀ m ∈ ms, m.Ok) (hn : ∀ m ∈ ns, m.Ok) : run XP i_sleuthlaw11_SpanOrderless [v, w] h = some (vb true, h) := by
  have hk := known11
  have f0 := run_Spans hv hm
  have f1 := run_Spans hw hn
  have av := (hv []).arg0
  have aw := (hw []).arg0
  have la := sps_len ms
  have lb := sps_len ns
  have ta : ∀ e ∈ sps ms, e.Ti := fun e => sps_ti
  have tb : ∀ e ∈ sps ns, e.Ti := fun e => sps_ti
  generalize sps ms = a at *
  generalize sps ns = b at *
  have hL := fun h => ((nl_LV b).rd h).toL
  have hwb : IntKind.i64.wrap ((b.length : Int) - 1) = (b.length : Int) - 1 := wrap_i64 (by omega) (by omega)
  have hl0 := fun f w u hend s0 => orderless_l0 (H0 := h) (base := h.length) (f := f) (w := w) (u := u) (b := b) (by omega) (Nat.le_refl _) hend s0
  have tab := sm_app ta tb
  have tbk : ∀ e ∈ bck b b.length, e.Ti := fun e he => tb e (bck_mem.1 he)
  have tt := sm_app tbk ta
  have tp := sm_app (wns_ti ta) (wns_ti tb)
  have lbk : (bck b b.length).length ≤ 24 := by
    rw [bck, dup_len, List.length_take]
    omega
  have lwa := wns_len a
  have lwb := wns_len b
  have lab : (a ++ b).length ≤ 100 := by rw [List.length_append]; omega
  have ltt : (bck b b.length ++ a).length ≤ 100 := by rw [List.length_append]; omega
  have ltp : (wns a ++ wns b).length ≤ 100 := by rw [List.length_append]; omega
  have g1 := fun h => call_Winners h ta (by omega)
  have g2 := fun h => call_Winners h tb (by omega)
  have g3 := fun h => run_Union h (ti_sm ta) (ti_sm tb) (by omega) (by omega)
  have g4 := fun h => run_Union h (ti_sm tb) (ti_sm ta) (by omega) (by omega)
  have d1 := dst_length (a ++ b)
  have d2 := dst_length (b ++ a)
  have d3 := wns_len (a ++ b)
  have d4 := wns_len (wns a ++ wns b)
  have gd := fun h => call_Winners h (dst_ti tab) (by omega)
  have m1 : Alk (a ++ b) (bck b b.length ++ a) := Alk.of_mem fun x => by rw [List.mem_append, List.mem_append, bck_mem]; exact Or.comm
  have m2 : Alk (a ++ b) (b ++ a) := Alk.of_mem fun x => by rw [List.mem_append, List.mem_append]; exact Or.comm
  have q1 := fun h => call_same h (dst_ti tab) (dst_ti tt) (by omega) (dst_str _) (dst_str _) (dst_alk2 m1)
  have q2 := fun h => call_same h (wns_ti tab) (wns_ti tt) (by omega) (wns_str _) (wns_str _) (wns_alk m1)
  have q3 := fun h => call_same h (wns_ti tp) (wns_ti tab) (by omega) (wns_str _) (wns_str _) (wns_parts a b)
  have q4 := fun h => call_same h (dst_ti tab) (dst_ti (sm_app tb ta)) (by omega) (dst_str _) (dst_str _) (dst_alk2 m2)
  have q5 := fun h => call_same h (wns_ti (dst_ti tab)) (wns_ti tab) (by have := wns_len (dst (a ++ b)); omega) (wns_str _) (wns_str _) (wns_alk (dst_alk (a ++ b)))
  rw [run_eq, xp_sleuthlaw11_SpanOrderless]
  simp -implicitDefEqProofs [x_sleuthlaw11_SpanOrderless, av, aw, f0, f1, ow_res0, nl_res0, nl_arg0, hL, hwb]
  refine hl0 _ _ (nl a) ?_ _ ?_ ?_ ?_ ?_
  · intro s h' x g5 g6 g7 ho htk
    have hxr : ∀ t, appEls (h' ++ t) x = some ((bck b b.length).map SP.v) := fun t => (ho.rd.app t).appEls
    obtain ⟨p1, p2⟩ := app_two h' a b (by omega) (by omega)
    obtain ⟨p3, p4⟩ := app_twoR (h' ++ [.arr false 14 ((a ++ b).map SP.v)]) (y1 := x) (y2 := nl a) (a := bck b b.length) (b := a) (by rw [List.append_assoc]; exact hxr _) ((nl_LV a).rd _).appEls (by omega) (by omega)
    obtain ⟨p5, p6⟩ := app_two ((h' ++ [.arr false 14 ((a ++ b).map SP.v)]) ++ [.arr false 14 ((bck b b.length ++ a).map SP.v)]) (wns a) (wns b) (by omega) (by omega)
    have k3 := fun za zb zc => three (h := h') tab tt tp (by omega) (by omega) (by omega) za zb zc
    have k1 := fun za zb zc => (k3 za zb zc).1
    have k2 := fun za zb zc => (k3 za zb zc).2.1
    have k4 := fun za zb zc => (k3 za zb zc).2.2.1
    have k5 := fun za zb zc => (k3 za zb zc).2.2.2.1
    have k6 := fun za zb zc => (k3 za zb zc).2.2.2.2
    have htk3 := fun t => take_add htk t
    simp only [List.append_assoc, List.cons_append, List.nil_append, List.length_append, List.length_cons, List.length_nil, Nat.zero_add, Nat.add_assoc, Nat.reduceAdd] at p1 p2 p3 p4 p5 p6 k1 k2 k4 k5 k6
    clear k3 hl0 ho hv hw
    generalize (a ++ b).map SP.v = X1 at *
    generalize (bck b b.length ++ a).map SP.v = X2 at *
    generalize (wns a ++ wns b).map SP.v = X3 at *
    generalize (bck b b.length).map SP.v = X4 at *
    generalize wns (wns a ++ wns b) = y1 at *
    generalize wns (bck b b.length ++ a) = y2 at *
    generalize dst (bck b b.length ++ a) = y3 at *
    generalize wns (dst (a ++ b)) = y4 at *
    generalize wns (a ++ b) = y5 at *
    generalize dst (a ++ b) = y6 at *
    generalize dst (b ++ a) = y7 at *
    generalize (bck b b.length).length + a.length = n2 at *
    generalize (wns a).length + (wns b).length = n3 at *
    generalize a.length + b.length = n1 at *
    simp -implicitDefEqProofs [-xappend_ref, -xappend_nil, g5, g6, g7, nl_res0, nl_arg0, p1, p2, p3, p4, p5, p6, k1, k2, k4, k5, k6, hk, g1, g2, g3, g4, gd, q1, q2, q3, q4, q5, htk3]
  all_goals simp
end Go.Proofs.Sl

