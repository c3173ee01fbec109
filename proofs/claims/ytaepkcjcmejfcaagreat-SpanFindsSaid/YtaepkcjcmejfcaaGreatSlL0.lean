/- A part of the proof. -/
import Derived.Laws.Strings
import Derived.Sort.AssemblyPlain
import Derived.Test.YtaepkcjcmejfcaaGreatSlS
import Derived.Test.YtaepkcjcmejfcaaGreatSlP
set_option linter.unusedVariables false
set_option linter.unusedSimpArgs false
set_option linter.unnecessarySimpa false
namespace Go.Proofs.Sl
theorem zcgk_ (n : Int) : IntKind.u8.wrap n = n % 256 := rfl
theorem zaq_ {n : Int} (h1 : -9223372036854775808 ≤ n) (h2 : n ≤ 9223372036854775807) : IntKind.i64.wrap n = n := by
  have e : IntKind.i64.wrap n = if n % 18446744073709551616 ≥ 9223372036854775808 then n % 18446744073709551616 - 18446744073709551616 else n % 18446744073709551616 := by
    simp [IntKind.wrap, IntKind.bits, IntKind.signed]
  rw [e]
  split <;> omega
def dig (m : Nat) : Nat → List Nat
  | 0 => []
  | k + 1 => m / 256 ^ k % 256 :: dig m k
def blen (m : Nat) : Nat := if h : m = 0 then 0 else blen (m / 256) + 1
termination_by m
decreasing_by omega
theorem zxq_ : blen 0 = 0 := by unfold blen; simp
theorem zcgl_ {m : Nat} (h : m ≠ 0) : blen m = blen (m / 256) + 1 := by conv => lhs; unfold blen; simp [h]
def flipB (neg : Bool) (d : Nat) : UInt8 := UInt8.ofNat (if neg = true then 255 - d else d)
def fNum (n : Int) : List UInt8 := (if n < 0 then UInt8.ofNat (128 - blen n.natAbs) else UInt8.ofNat (128 + blen n.natAbs)) :: (dig n.natAbs (blen n.natAbs)).map (flipB (decide (n < 0)))
def Rng (n : Int) : Prop := -9223372036854775808 ≤ n ∧ n ≤ 9223372036854775807
end Go.Proofs.Sl
namespace Go.Proofs.Sl
def bts (s : ByteArray) : List UInt8 := s.data.toList
theorem zcgm_ (s : ByteArray) : (bts s).length = s.size := by rw [bts, Array.length_toList]; rfl
def il (l : List Int) : List V := l.map vi
structure AV where
  k : Int
  t : ByteArray
  n : Int
def AV.v (a : AV) : V := .agg [vi a.k, vs a.t, vi a.n]
structure AV.Ok (a : AV) : Prop where
  k : Rng a.k
  t : a.t.size ≤ 5000
  n : Rng a.n
structure AT where
  key : ByteArray
  val : AV
def AT.v (a : AT) : V := .agg [vs a.key, vi a.val.k, vs a.val.t, vi a.val.n]
structure AT.Ok (a : AT) : Prop where
  key : a.key.size ≤ 5000
  val : a.val.Ok
structure RF where
  t : Int
  i : Int
def RF.v (a : RF) : V := .agg [vi a.t, vi a.i]
structure RF.Ok (a : RF) : Prop where
  t : Rng a.t
  i : Rng a.i
structure EX where
  fr : Int
  to : Int
  sent : Int
  rcv : Int
  least : Int
def EX.v (a : EX) : V := .agg [vi a.fr, vi a.to, vi a.sent, vi a.rcv, vi a.least]
structure EX.Ok (a : EX) : Prop where
  fr : Rng a.fr
  to : Rng a.to
  sent : Rng a.sent
  rcv : Rng a.rcv
  least : Rng a.least
structure MS where
  k : Int
  a : RF
  b : RF
  x : EX
def MS.v (a : MS) : V := .agg [vi a.k, vi a.a.t, vi a.a.i, vi a.b.t, vi a.b.i, vi a.x.fr, vi a.x.to, vi a.x.sent, vi a.x.rcv, vi a.x.least]
structure MS.Ok (m : MS) : Prop where
  k : Rng m.k
  a : m.a.Ok
  b : m.b.Ok
  x : m.x.Ok
end Go.Proofs.Sl
namespace Go.Proofs.Sl
end Go.Proofs.Sl
namespace Go.Proofs.Sl
structure SP where
  tr : Int
  id : Int
  par : Int
  rev : Int
  clk : Int
  kind : Int
  sv : ByteArray
  vr : ByteArray
  op : ByteArray
  st : Int
  en : Int
  er : Bool
  ats : List AT
  lks : List RF
  an : Bool
  ln : Bool
def slc {α : Type} (v : α → V) (l : List α) (n : Bool) : Option (List V) := if n = true then none else some (l.map v)
def SP.v (a : SP) : V := .agg [vi a.tr, vi a.id, vi a.par, vi a.rev, vi a.clk, vi a.kind, vs a.sv, vs a.vr, vs a.op, vi a.st, vi a.en, vb a.er, lv 4 (slc AT.v a.ats a.an), lv 2 (slc RF.v a.lks a.ln)]
structure SP.Ok (a : SP) : Prop where
  n : ∀ n ∈ [a.tr, a.id, a.par, a.rev, a.clk, a.kind, a.st, a.en], Rng n
  sv : a.sv.size ≤ 5000
  vr : a.vr.size ≤ 5000
  op : a.op.size ≤ 5000
  ats : ∀ e ∈ a.ats, e.Ok
  lks : ∀ e ∈ a.lks, e.Ok
  al : a.ats.length ≤ 1000
  ll : a.lks.length ≤ 1000
  an : a.an = true → a.ats = []
  ln : a.ln = true → a.lks = []
theorem zcz_ {α : Type} {v : α → V} {l : List α} {n : Bool} (h : n = true → l = []) : (slc v l n).getD [] = l.map v := by
  cases n with
  | true => rw [h rfl]; rfl
  | false => rfl
end Go.Proofs.Sl
namespace Go.Proofs.Sl
end Go.Proofs.Sl
namespace Go.Proofs.Sl
end Go.Proofs.Sl
namespace Go.Proofs.Sl
def rd (s : ByteArray) (a : Nat) (e : Int) : O := .box false [vs s, vi a, vi e]
end Go.Proofs.Sl
namespace Go.Proofs.Sl
theorem Rng.zero : Rng 0 := ⟨by decide, by decide⟩
section
variable {h t : H} {l : Nat} {s : ByteArray} {a : Nat} {e : Int}
end
end Go.Proofs.Sl
namespace Go.Proofs.Sl
section
variable {h t : H} {l : Nat} {s : ByteArray} {a : Nat} {e : Int}
theorem bone {n : Int} (h1 : 0 < n) (h2 : n < 256) : blen n.natAbs = 1 := by
  have : n.natAbs / 256 = 0 := by omega
  rw [zcgl_ (by omega), this, zxq_]
theorem b3 : fNum 3 = [129, 3] := by
  unfold fNum
  rw [bone (by decide) (by decide)]
  decide +kernel
theorem b1 : fNum 1 = [129, 1] := by
  unfold fNum
  rw [bone (by decide) (by decide)]
  decide +kernel
theorem b0 : fNum 0 = [128] := by
  have : blen (Int.natAbs 0) = 0 := zxq_
  unfold fNum
  rw [this]
  decide +kernel
end
end Go.Proofs.Sl
namespace Go.Proofs.Sl
def Cut (u v : List UInt8) : Prop := ∃ p a b x y, u = p ++ a :: x ∧ v = p ++ b :: y ∧ a < b
theorem Cut.take {u v : List UInt8} (h : Cut u v) : u.take (min u.length v.length) ≠ v.take (min u.length v.length) := by
  obtain ⟨p, a, b, x, y, rfl, rfl, hab⟩ := h
  intro e
  have e1 := congrArg (·[p.length]?) e
  simp only [List.getElem?_take] at e1
  rw [if_pos (by simp), if_pos (by simp)] at e1
  simp at e1
  subst e1
  exact absurd hab (by simp)
theorem zxr_ (l : List UInt8) : (⟨l.toArray⟩ : ByteArray).toList = l := by
  rw [ByteArray.toList_eq]
theorem zcgn_ (l : List UInt8) : (⟨l.toArray⟩ : ByteArray).size = l.length := by
  show l.toArray.size = _
  simp
theorem zrm_ : ∀ l : List UInt8, Op.bytesLess l l = false
  | [] => rfl
  | a :: l => by simp [Op.bytesLess, zrm_ l]
end Go.Proofs.Sl
namespace Go.Proofs.Sl
open Go
theorem zxs_ (x : List UInt8) : Op.bytesLess x [] = false := by cases x <;> rfl
theorem zrn_ : ∀ {x y z : List UInt8}, Op.bytesLess x y = true → Op.bytesLess y z = true → Op.bytesLess x z = true
  | _, [], _, h, _ => by rw [zxs_] at h; cases h
  | _, _ :: _, [], _, h => by rw [zxs_] at h; cases h
  | [], _ :: _, _ :: _, _, _ => rfl
  | a :: x, b :: y, c :: z, h, k => by
    simp only [Op.bytesLess, Bool.or_eq_true, Bool.and_eq_true, decide_eq_true_eq, beq_iff_eq] at h k ⊢
    rcases h with h | ⟨rfl, h⟩ <;> rcases k with k | ⟨rfl, k⟩
    · exact .inl (UInt8.lt_trans h k)
    · exact .inl h
    · exact .inl k
    · exact .inr ⟨rfl, zrn_ h k⟩
theorem zro_ : ∀ (x y : List UInt8), Op.bytesLess x y = false → Op.bytesLess y x = false → x = y
  | [], [], _, _ => rfl
  | [], _ :: _, h, _ => by cases h
  | _ :: _, [], _, h => by cases h
  | a :: x, b :: y, h, k => by
    simp only [Op.bytesLess, Bool.or_eq_false_iff, decide_eq_false_iff_not, Bool.and_eq_false_iff, beq_eq_false_iff_ne] at h k
    have hab : a = b := UInt8.le_antisymm (UInt8.not_lt.1 k.1) (UInt8.not_lt.1 h.1)
    subst hab
    rw [zro_ x y (by rcases h.2 with h | h; exact absurd rfl h; exact h) (by rcases k.2 with h | h; exact absurd rfl h; exact h)]
theorem zrp_ {x y : List UInt8} (h : Op.bytesLess x y = true) : Op.bytesLess y x = false := by
  cases k : Op.bytesLess y x with
  | false => rfl
  | true => have := zrn_ h k; rw [zrm_] at this; cases this
def sgn (a b : Int) : Int := if a < b then -1 else if b < a then 1 else 0
def wrd (a b : ByteArray) : Int := if Op.bytesLess a.toList b.toList = true then -1 else if Op.bytesLess b.toList a.toList = true then 1 else 0
def orl : List Int → Int
  | [] => 0
  | n :: l => if n ≠ 0 then n else orl l
theorem zhb_ (a b : List Int) : orl (a ++ b) = if orl a ≠ 0 then orl a else orl b := by
  induction a with
  | nil => simp [orl]
  | cons n a ih =>
    simp only [List.cons_append, orl, ih]
    by_cases h : n = 0 <;> simp [h]
structure Cm {α : Type} (f : α → α → Int) : Prop where
  anti : ∀ x y, f y x = -f x y
  trans : ∀ x y z, f x y ≤ 0 → f y z ≤ 0 → f x z ≤ 0
section
variable {α β : Type} {f g : α → α → Int}
theorem Cm.self (c : Cm f) (x : α) : f x x = 0 := by have := c.anti x x; omega
theorem Cm.lt_of_lt_le (c : Cm f) {x y z : α} (h : f x y < 0) (k : f y z ≤ 0) : f x z < 0 := by
  have h1 := c.trans x y z (by omega) k
  rcases Int.lt_or_eq_of_le h1 with h2 | h2
  · exact h2
  · have h3 := c.trans y z x k (by rw [c.anti x z]; omega)
    rw [c.anti x y] at h3
    omega
theorem Cm.lt_of_le_lt (c : Cm f) {x y z : α} (h : f x y ≤ 0) (k : f y z < 0) : f x z < 0 := by
  have h1 := c.trans x y z h (by omega)
  rcases Int.lt_or_eq_of_le h1 with h2 | h2
  · exact h2
  · have h3 := c.trans z x y (by rw [c.anti x z]; omega) h
    rw [c.anti y z] at h3
    omega
theorem Cm.eq_trans (c : Cm f) {x y z : α} (h : f x y = 0) (k : f y z = 0) : f x z = 0 := by
  have h1 := c.trans x y z (by omega) (by omega)
  have h2 := c.trans z y x (by rw [c.anti y z]; omega) (by rw [c.anti x y]; omega)
  rw [c.anti x z] at h2
  omega
theorem Cm.key {f : β → β → Int} (c : Cm f) (k : α → β) : Cm fun x y => f (k x) (k y) := ⟨fun x y => c.anti _ _, fun x y z => c.trans _ _ _⟩
theorem Cm.zero : Cm fun (_ _ : α) => (0 : Int) := ⟨fun _ _ => rfl, fun _ _ _ _ _ => Int.le_refl _⟩
theorem Cm.lex (c : Cm f) (d : Cm g) : Cm fun x y => if f x y ≠ 0 then f x y else g x y where
  anti := fun x y => by
    rw [c.anti x y, d.anti x y]
    by_cases h : f x y = 0 <;> simp [h]
  trans := fun x y z h k => by
    by_cases h1 : f x y = 0 <;> by_cases h2 : f y z = 0
    · rw [if_neg (by simpa using h1)] at h
      rw [if_neg (by simpa using h2)] at k
      rw [if_neg (by simpa using c.eq_trans h1 h2)]
      exact d.trans _ _ _ h k
    · rw [if_pos h2] at k
      have := c.lt_of_le_lt (x := x) (y := y) (z := z) (by omega) (by omega)
      rw [if_pos (by omega)]
      omega
    · rw [if_pos h1] at h
      have := c.lt_of_lt_le (x := x) (y := y) (z := z) (by omega) (by omega)
      rw [if_pos (by omega)]
      omega
    · rw [if_pos h1] at h
      rw [if_pos h2] at k
      have := c.lt_of_lt_le (x := x) (y := y) (z := z) (by omega) (by omega)
      rw [if_pos (by omega)]
      omega
theorem Cm.orl_nil : Cm fun (_ _ : α) => orl [] := Cm.zero
theorem Cm.orl_cons {fs : List (α → α → Int)} (c : Cm f) (d : Cm fun x y => orl (fs.map fun g => g x y)) : Cm fun x y => orl ((f :: fs).map fun g => g x y) := by
  have := c.lex d
  simpa only [List.map_cons, orl] using this
end
theorem sgn_cm : Cm sgn where
  anti := fun x y => by unfold sgn; split <;> split <;> omega
  trans := fun x y z h k => by unfold sgn at *; split at h <;> split at k <;> (try split at h) <;> (try split at k) <;> split <;> (try split) <;> omega
theorem wrd_cm : Cm wrd where
  anti := fun x y => by
    unfold wrd
    cases h : Op.bytesLess x.toList y.toList <;> cases k : Op.bytesLess y.toList x.toList <;> simp
    have := zrp_ h
    rw [k] at this
    cases this
  trans := fun x y z h k => by
    have key : ∀ a b : ByteArray, wrd a b ≤ 0 ↔ Op.bytesLess b.toList a.toList = false := fun a b => by
      unfold wrd
      cases h : Op.bytesLess a.toList b.toList <;> cases k : Op.bytesLess b.toList a.toList <;> simp
      have := zrp_ h
      rw [k] at this
      cases this
    rw [key] at h k ⊢
    cases e : Op.bytesLess z.toList x.toList with
    | false => rfl
    | true =>
      cases e1 : Op.bytesLess x.toList y.toList with
      | true => rw [zrn_ e e1] at k; cases k
      | false =>
        have := zro_ _ _ e1 h
        rw [this] at e
        rw [e] at k
        cases k
theorem zxt_ {a b : Int} : sgn a b = 0 ↔ a = b := by unfold sgn; split <;> (try split) <;> omega
def lexc {α : Type} (f : α → α → Int) : List α → List α → Int
  | [], [] => 0
  | [], _ :: _ => -1
  | _ :: _, [] => 1
  | a :: r, b :: s => if f a b ≠ 0 then f a b else lexc f r s
theorem zxu_ {α : Type} {f : α → α → Int} (c : Cm f) : ∀ x y : List α, lexc f y x = -lexc f x y
  | [], [] => rfl
  | [], _ :: _ => rfl
  | _ :: _, [] => rfl
  | a :: x, b :: y => by
    simp only [lexc]
    rw [c.anti a b, zxu_ c x y]
    by_cases h : f a b = 0 <;> simp [h]
theorem zxv_ {α : Type} {f : α → α → Int} (c : Cm f) : ∀ x y z : List α, lexc f x y ≤ 0 → lexc f y z ≤ 0 → lexc f x z ≤ 0
  | [], _, [], _, _ => by simp [lexc]
  | [], _, _ :: _, _, _ => by simp [lexc]
  | _ :: _, [], _, h, _ => by simp [lexc] at h
  | _, _ :: _, [], _, h => by simp [lexc] at h
  | a :: x, b :: y, d :: z, h, k => by
    simp only [lexc] at h k ⊢
    by_cases h1 : f a b = 0 <;> by_cases h2 : f b d = 0
    · rw [if_neg (by simpa using h1)] at h
      rw [if_neg (by simpa using h2)] at k
      rw [if_neg (by simpa using c.eq_trans h1 h2)]
      exact zxv_ c _ _ _ h k
    · rw [if_pos h2] at k
      have := c.lt_of_le_lt (x := a) (y := b) (z := d) (by omega) (by omega)
      rw [if_pos (by omega)]
      omega
    · rw [if_pos h1] at h
      have := c.lt_of_lt_le (x := a) (y := b) (z := d) (by omega) (by omega)
      rw [if_pos (by omega)]
      omega
    · rw [if_pos h1] at h
      rw [if_pos h2] at k
      have := c.lt_of_lt_le (x := a) (y := b) (z := d) (by omega) (by omega)
      rw [if_pos (by omega)]
      omega
theorem zxw_ {α : Type} {f : α → α → Int} (c : Cm f) : Cm (lexc f) := ⟨zxu_ c, zxv_ c⟩
def flg (b : Bool) : Int := if b = true then 1 else 0
def cmpV (a b : AV) : Int := orl [sgn a.k b.k, wrd a.t b.t, sgn a.n b.n]
def cmpA (a b : AT) : Int := orl [wrd a.key b.key, cmpV a.val b.val]
def cmpR (a b : RF) : Int := orl [sgn a.t b.t, sgn a.i b.i]
def cmpS (a b : SP) : Int := orl [sgn a.tr b.tr, sgn a.id b.id, sgn a.rev b.rev, sgn a.par b.par, sgn a.clk b.clk, sgn a.kind b.kind, wrd a.sv b.sv, wrd a.vr b.vr, wrd a.op b.op, sgn a.st b.st, sgn a.en b.en, sgn (flg a.er) (flg b.er),
  lexc cmpA a.ats b.ats, lexc cmpR a.lks b.lks]
theorem zcgo_ : Cm cmpV := Cm.orl_cons (f := fun a b : AV => sgn a.k b.k) (fs := [fun a b : AV => wrd a.t b.t, fun a b : AV => sgn a.n b.n]) (sgn_cm.key _) (Cm.orl_cons (wrd_cm.key _) (Cm.orl_cons (fs := []) (sgn_cm.key _) Cm.orl_nil))
theorem zcgp_ : Cm cmpA := Cm.orl_cons (f := fun a b : AT => wrd a.key b.key) (fs := [fun a b : AT => cmpV a.val b.val]) (wrd_cm.key _) (Cm.orl_cons (fs := []) (zcgo_.key _) Cm.orl_nil)
theorem zcgq_ : Cm cmpR := Cm.orl_cons (f := fun a b : RF => sgn a.t b.t) (fs := [fun a b : RF => sgn a.i b.i]) (sgn_cm.key _) (Cm.orl_cons (fs := []) (sgn_cm.key _) Cm.orl_nil)
theorem zbb_ : Cm cmpS :=
  Cm.orl_cons (f := fun a b : SP => sgn a.tr b.tr) (fs := [fun a b : SP => sgn a.id b.id, fun a b : SP => sgn a.rev b.rev, fun a b : SP => sgn a.par b.par, fun a b : SP => sgn a.clk b.clk, fun a b : SP => sgn a.kind b.kind, fun a b : SP => wrd a.sv b.sv, fun a b : SP => wrd a.vr b.vr, fun a b : SP => wrd a.op b.op,
    fun a b : SP => sgn a.st b.st, fun a b : SP => sgn a.en b.en, fun a b : SP => sgn (flg a.er) (flg b.er), fun a b : SP => lexc cmpA a.ats b.ats, fun a b : SP => lexc cmpR a.lks b.lks]) (sgn_cm.key _)
  (Cm.orl_cons (sgn_cm.key _) (Cm.orl_cons (sgn_cm.key _) (Cm.orl_cons (sgn_cm.key _) (Cm.orl_cons (sgn_cm.key _) (Cm.orl_cons (sgn_cm.key _) (Cm.orl_cons (wrd_cm.key _) (Cm.orl_cons (wrd_cm.key _) (Cm.orl_cons (wrd_cm.key _)
  (Cm.orl_cons (sgn_cm.key _) (Cm.orl_cons (sgn_cm.key _) (Cm.orl_cons (sgn_cm.key fun a : SP => flg a.er) (Cm.orl_cons ((zxw_ zcgp_).key _) (Cm.orl_cons (fs := []) ((zxw_ zcgq_).key _) Cm.orl_nil)))))))))))))
end Go.Proofs.Sl
namespace Go.Proofs.Sl
end Go.Proofs.Sl
namespace Go.Proofs.Sl
end Go.Proofs.Sl
namespace Go.Proofs.Sl
end Go.Proofs.Sl
namespace Go.Proofs.Sl
def tx (l : List UInt8) : V := vs ⟨l.toArray⟩
theorem zcgr_ (a : List UInt8) : (tx a).plain = true := Eq.trans rfl rfl
theorem zcgs_ (a : List UInt8) : lenT (tx a) = some (vi a.length) := by simp [tx, zcgn_]
theorem eql_tx (a b : List UInt8) : xbin .eql (tx a) (tx b) = some (vb (a == b)) := by simp [tx, strOp, zxr_]
theorem neq_tx (a b : List UInt8) : xbin .neq (tx a) (tx b) = some (vb (!(a == b))) := by simp [tx, strOp, zxr_]
attribute [simp] zcgs_ eql_tx neq_tx zcgr_
end Go.Proofs.Sl
namespace Go.Proofs.Sl
end Go.Proofs.Sl
namespace Go.Proofs.Sl
structure PT where
  k : Int
  n0 : Int
  n1 : Int
  n2 : Int
  n3 : Int
  n4 : Int
  n5 : Int
  n6 : Int
  n7 : Int
  key : ByteArray
  s : ByteArray
def PT.v (p : PT) : V := .agg [vk .u8 p.k, vi p.n0, vi p.n1, vi p.n2, vi p.n3, vi p.n4, vi p.n5, vi p.n6, vi p.n7, vs p.key, vs p.s]
structure PT.Ok (p : PT) : Prop where
  k0 : 0 ≤ p.k
  k1 : p.k ≤ 255
  n0 : Rng p.n0
  n1 : Rng p.n1
  n2 : Rng p.n2
  n3 : Rng p.n3
  n4 : Rng p.n4
  n5 : Rng p.n5
  n6 : Rng p.n6
  n7 : Rng p.n7
  key : p.key.size ≤ 5000
  s : p.s.size ≤ 5000
def PT.av (p : PT) : AV := ⟨p.n0, p.s, p.n1⟩
def PT.at (p : PT) : AT := ⟨p.key, p.av⟩
def PT.rf (p : PT) : RF := ⟨p.n0, p.n1⟩
def PT.ex (p : PT) : EX := ⟨p.n0, p.n1, p.n2, p.n3, p.n4⟩
def PT.sp (p : PT) : SP := ⟨p.n0, p.n1, p.n2, p.n3, p.n4, p.n5, p.key, p.s, p.key, p.n6, p.n7, decide (p.n0 > 0), [p.at], [p.rf, p.rf], false, false⟩
theorem PT.Ok.av {p : PT} (h : p.Ok) : p.av.Ok := ⟨h.n0, h.s, h.n1⟩
theorem PT.Ok.at {p : PT} (h : p.Ok) : p.at.Ok := ⟨h.key, h.av⟩
theorem PT.Ok.rf {p : PT} (h : p.Ok) : p.rf.Ok := ⟨h.n0, h.n1⟩
theorem PT.Ok.ex {p : PT} (h : p.Ok) : p.ex.Ok := ⟨h.n0, h.n1, h.n2, h.n3, h.n4⟩
theorem PT.Ok.sp {p : PT} (h : p.Ok) : p.sp.Ok where
  n := by
    intro n hn
    simp [PT.sp] at hn
    rcases hn with rfl | rfl | rfl | rfl | rfl | rfl | rfl | rfl
    · exact h.n0
    · exact h.n1
    · exact h.n2
    · exact h.n3
    · exact h.n4
    · exact h.n5
    · exact h.n6
    · exact h.n7
  sv := h.key
  vr := h.s
  op := h.key
  ats := by
    intro e he
    simp [PT.sp] at he
    rw [he]
    exact h.at
  lks := by
    intro e he
    simp [PT.sp] at he
    rw [he]
    exact h.rf
  al := by simp [PT.sp]
  ll := by simp [PT.sp]
  an := by simp [PT.sp]
  ln := by simp [PT.sp]
end Go.Proofs.Sl
namespace Go.Proofs.Sl
section
variable {h t : H} {l : Nat} {s : ByteArray} {a : Nat} {e : Int}
end
end Go.Proofs.Sl
namespace Go.Proofs.Sl
def plains (cs : List V) : Prop := ∀ c ∈ cs, c.plain = true
theorem plains.set {cs : List V} (h : plains cs) (j : Nat) {v : V} (hv : v.plain = true) : plains (cs.set j v) := by
  intro c hc
  rcases List.mem_or_eq_of_mem_set hc with hc | rfl
  · exact h c hc
  · exact hv
section
variable {s : ByteArray}
end
end Go.Proofs.Sl
namespace Go.Proofs.Sl
def AV.z : AV := ⟨0, ⟨#[]⟩, 0⟩
def AT.z : AT := ⟨⟨#[]⟩, AV.z⟩
def RF.z : RF := ⟨0, 0⟩
def EX.z : EX := ⟨0, 0, 0, 0, 0⟩
def MS.z : MS := ⟨0, RF.z, RF.z, EX.z⟩
section
variable {h t : H} {l : Nat} {s : ByteArray} {a : Nat} {e : Int}
end
end Go.Proofs.Sl
namespace Go.Proofs.Sl
section
variable {h t : H} {l : Nat} {s : ByteArray} {a : Nat} {e : Int}
end
theorem zxx_ : ∀ l : List AT, V.closed.closeds (l.map AT.v) = true
  | [] => rfl
  | x :: l => by simp [AT.v, zxx_ l]
theorem zxy_ : ∀ l : List RF, V.closed.closeds (l.map RF.v) = true
  | [] => rfl
  | x :: l => by simp [RF.v, zxy_ l]
end Go.Proofs.Sl
namespace Go.Proofs.Sl
def SP.z : SP := ⟨0, 0, 0, 0, 0, 0, ⟨#[]⟩, ⟨#[]⟩, ⟨#[]⟩, 0, 0, false, [], [], true, true⟩
section
variable {h t : H} {l : Nat} {s : ByteArray} {a : Nat} {e : Int}
end
end Go.Proofs.Sl
namespace Go.Proofs.Sl
end Go.Proofs.Sl
namespace Go.Proofs.Sl
theorem zav_ : ∀ l : List SP, V.closed.closeds (l.map SP.v) = true
  | [] => rfl
  | x :: l => by simp [SP.v, zav_ l]
structure FR where
  ag : Int
  sq : Int
  sps : List SP
  exs : List EX
  sn : Bool
  xn : Bool
def FR.v (a : FR) : V := .agg [vi a.ag, vi a.sq, lv 14 (slc SP.v a.sps a.sn), lv 5 (slc EX.v a.exs a.xn)]
structure FR.Ok (a : FR) : Prop where
  ag : Rng a.ag
  sq : Rng a.sq
  sps : ∀ e ∈ a.sps, e.Ok
  exs : ∀ e ∈ a.exs, e.Ok
  sl : a.sps.length ≤ 1000
  xl : a.exs.length ≤ 1000
  sn : a.sn = true → a.sps = []
  xn : a.xn = true → a.exs = []
structure TC where
  id : Int
  wt : Int
  sps : List SP
  sn : Bool
def TC.v (a : TC) : V := .agg [vi a.id, vi a.wt, lv 14 (slc SP.v a.sps a.sn)]
structure TC.Ok (a : TC) : Prop where
  id : Rng a.id
  wt : Rng a.wt
  sps : ∀ e ∈ a.sps, e.Ok
  sl : a.sps.length ≤ 1000
  sn : a.sn = true → a.sps = []
def FR.z : FR := ⟨0, 0, [], [], true, true⟩
def TC.z : TC := ⟨0, 0, [], true⟩
end Go.Proofs.Sl
namespace Go.Proofs.Sl
theorem zbh_ {α : Type} {l : List α} {k : Nat} {e : α} (h : l[k]? = some e) : l.drop k = e :: l.drop (k + 1) := by
  obtain ⟨hk, he⟩ := List.getElem?_eq_some_iff.1 h
  rw [List.drop_eq_getElem_cons hk, he]
theorem zcgt_ {α : Type} {l : List α} {k : Nat} {e : α} (h : l[k]? = some e) : l.take (k + 1) = l.take k ++ [e] := by
  rw [List.take_add_one, h]; rfl
theorem zct_ {k : Nat} (h : k < 100000000000) : IntKind.i64.wrap ((k : Int) + 1) = (k : Int) + 1 := zaq_ (by omega) (by omega)
theorem il_at {vs : List Int} {k : Nat} {e : Int} (h : vs[k]? = some e) : (il vs)[k]? = some (vi e) := by simp [il, h]
theorem zby_ (vs : List Int) : (il vs).length = vs.length := by simp [il]
end Go.Proofs.Sl
namespace Go.Proofs.Sl
open Go
theorem zcgu_ : noOwn [] = true := Eq.trans rfl rfl
attribute [simp] zcgu_
theorem bl_eq {a b : ByteArray} : (a.toList == b.toList) = decide (a = b) := by
  by_cases h : a = b
  · subst h; simp
  · have : a.toList ≠ b.toList := fun e => h (by rw [ByteArray.toList_eq, ByteArray.toList_eq] at e; exact ByteArray.ext (Array.ext' e))
    simp [h, this]
theorem bl_ne {a b : ByteArray} (h : Op.bytesLess a.toList b.toList = true) : ¬ a = b := by
  rintro rfl
  rw [zrm_] at h
  cases h
theorem bl_gt (a b : ByteArray) : (!(Op.bytesLess a.toList b.toList || a.toList == b.toList)) = Op.bytesLess b.toList a.toList := by
  cases h : Op.bytesLess a.toList b.toList with
  | true => simp [zrp_ h]
  | false =>
    cases k : Op.bytesLess b.toList a.toList with
    | true => have := bl_ne k; rw [bl_eq]; simp; exact fun e => this e.symm
    | false => rw [zro_ _ _ h k]; simp
theorem zxz_ {a b : ByteArray} (h : Op.bytesLess a.toList b.toList = false) : (a.toList == b.toList) = !Op.bytesLess b.toList a.toList := by
  have := bl_gt a b
  rw [h, Bool.false_or] at this
  rw [← this, Bool.not_not]
theorem zya_ (h : H) (a : Int) : run XP zmc_ [vi a] h = some (vb false, h) := by
  rw [run_eq, zbwl_]
  simp -implicitDefEqProofs [zjs_]
theorem zyb_ (h : H) (a : ByteArray) : run XP zmb_ [vs a] h = some (vb false, h) := by
  rw [run_eq, zbwk_]
  simp -implicitDefEqProofs [zjr_]
theorem zfe_ (h : H) (a b : Int) : run XP zcx_ [vi a, vi b] h = some (vi (sgn a b), h) := by
  rw [run_eq, zbvw_]
  have h1 := zya_ h a
  have h2 := zya_ h b
  unfold sgn
  by_cases h3 : a < b
  · simp -implicitDefEqProofs [zgt_, h1, h2, h3]
  · by_cases h4 : b < a <;> simp -implicitDefEqProofs [zgt_, h1, h2, h3, h4]
theorem zjw_ (h : H) (a b : ByteArray) : run XP zdv_ [vs a, vs b] h = some (vi (wrd a b), h) := by
  rw [run_eq, zbvv_]
  have h1 := zyb_ h a
  have h2 := zyb_ h b
  unfold wrd
  cases h3 : Op.bytesLess a.toList b.toList
  · have h5 := zxz_ h3
    cases h4 : Op.bytesLess b.toList a.toList
    · rw [h4, Bool.not_false] at h5
      simp -implicitDefEqProofs [zfc_, h1, h2, h3, h4, h5]
    · rw [h4, Bool.not_true] at h5
      simp -implicitDefEqProofs [zfc_, h1, h2, h3, h4, h5]
  · simp -implicitDefEqProofs [zfc_, h1, h2, h3]
theorem zbq_ (h : H) (a b : Int) : run XP zbk_ [vi a, vi b] h = some (vi (sgn a b), h) := by
  rw [run_eq, zbwa_]
  unfold sgn
  by_cases h3 : a < b
  · simp -implicitDefEqProofs [zgn_, h3]
  · by_cases h4 : b < a <;> simp -implicitDefEqProofs [zgn_, h3, h4]
theorem zjx_ (h : H) (a b : ByteArray) : run XP zeu_ [vs a, vs b] h = some (vi (wrd a b), h) := by
  rw [run_eq, zbwb_]
  unfold wrd
  cases h3 : Op.bytesLess a.toList b.toList
  · have h5 := zxz_ h3
    cases h4 : Op.bytesLess b.toList a.toList
    · rw [h4, Bool.not_false] at h5
      simp -implicitDefEqProofs [zew_, h3, h4, h5]
    · rw [h4, Bool.not_true] at h5
      simp -implicitDefEqProofs [zew_, h3, h4, h5]
  · simp -implicitDefEqProofs [zew_, h3]
theorem zyc_ (h : H) (b : Bool) : run XP zhx_ [vb b] h = some (vi (flg b), h) := by
  rw [run_eq, zbvx_]
  cases b <;> simp -implicitDefEqProofs [zjc_, flg]
theorem zyd_ (h : H) (b : Bool) : run XP zlv_ [vb b] h = some (vi (flg b), h) := by
  rw [run_eq, zbwc_]
  cases b <;> simp -implicitDefEqProofs [zir_, flg]
theorem run_Or (h : H) (ns : List Int) (hl : ns.length ≤ 10000) : run XP zgi_ [.lst 1 (il ns)] h = some (vi (orl ns), h) := by
  have hv : Rd h 1 (.lst 1 (il ns)) (il ns) := .lst _
  rw [run_eq, zbvt_]
  simp -implicitDefEqProofs [zjg_, zby_]
  refine zaw_ ns (fun k s h' => Sees s [(3, vi 0), (6, .lst 1 (il ns)), (7, vi ns.length), (8, vi k)] ∧ h' = h ∧ orl ns = orl (ns.drop k)) ?_ ?_ _ _ ⟨by simp, rfl, rfl⟩
  · rintro B f hB hf k e s h' he hk ⟨⟨h3, h6, h7, h8, -⟩, rfl, hx⟩ K
    obtain ⟨p, hp, hld⟩ := hv.at1 (il_at he) rfl
    have hlt : (k : Int) < ns.length := by omega
    rw [zbh_ he, orl] at hx
    by_cases h0 : e = 0
    · rw [if_neg (by simpa using h0)] at hx
      simp -implicitDefEqProofs [hB, zmr_, h3, h6, h7, h8, hlt, hp, hld, h0]
      refine K _ _ ⟨?_, rfl, hx⟩
      simp [h3, h6, h7, zct_ (by omega : k < 100000000000)]
    · rw [if_pos h0] at hx
      have h0' : (e != 0) = true := by simpa using h0
      simp -implicitDefEqProofs [hB, hf, zmr_, h3, h6, h7, h8, hlt, hp, hld, h0', hx]
  · rintro B hB s h' ⟨⟨h3, h6, h7, h8, -⟩, rfl, hx⟩
    simp -implicitDefEqProofs [hB, zmr_, h3, h7, h8, hx, orl]
theorem il_get {l : List Int} {k : Nat} {e : Int} (h : l[k]? = some e) : ∀ hh, (il l)[k]'hh = vi e := fun hh => by
  have := il_at h
  rw [List.getElem?_eq_getElem hh] at this
  injection this
theorem zrq_ {α : Type} {f : α → α → Int} {x y : List α} {k : Nat} {a b : α} (ha : x[k]? = some a) (hb : y[k]? = some b) : lexc f (x.drop k) (y.drop k) = if f a b ≠ 0 then f a b else lexc f (x.drop (k + 1)) (y.drop (k + 1)) := by
  rw [zbh_ ha, zbh_ hb, lexc]
theorem zye_ {α : Type} {f : α → α → Int} {x y : List α} {k : Nat} {a : α} (ha : x[k]? = some a) (hb : y.length ≤ k) : lexc f (x.drop k) (y.drop k) = 1 := by
  rw [zbh_ ha, List.drop_of_length_le hb, lexc]
theorem zrr_ {α : Type} {f : α → α → Int} {x y : List α} : lexc f (x.drop x.length) (y.drop x.length) = if x.length < y.length then -1 else 0 := by
  rw [List.drop_of_length_le (Nat.le_refl _)]
  split
  · rename_i h
    rw [List.drop_eq_getElem_cons h, lexc]
  · rename_i h
    rw [List.drop_of_length_le (by omega), lexc]
theorem zcgv_ {h : H} {l m : Nat} {z z' : Bool} {xs ys : List Int} (hx : h[l]? = some (.box z (il xs))) (hy : h[m]? = some (.box z' (il ys))) (hn : xs.length = ys.length) (hl : xs.length ≤ 1000) :
    run XP zlu_ [.bref l xs.length, .bref m ys.length] h = some (vi (lexc sgn xs ys), h) := by
  rw [run_eq, zbvu_]
  have hb1 : ∀ l : List Int, (il l).map zal_ = il l := fun l => by simp [il]
  simp -implicitDefEqProofs [zjh_, zby_, hx, hy, hb1]
  refine zaw_ xs (fun k s h' => Sees s [(0, .bref l xs.length), (1, .bref m ys.length), (9, .bref l xs.length), (10, vi xs.length), (11, vi k)] ∧ h' = h ∧ lexc sgn xs ys = lexc sgn (xs.drop k) (ys.drop k)) ?_ ?_ _ _ ⟨by simp, rfl, rfl⟩
  · rintro B f hB hf k e s h' he hk ⟨⟨h0', h1, h9, h10, h11, -⟩, rfl, hq⟩ K
    have hlt : (k : Int) < xs.length := by omega
    have hky : k < ys.length := by omega
    have hlt2 : ¬ ((ys.length : Int) ≤ k) := by omega
    obtain ⟨e', he'⟩ : ∃ e', ys[k]? = some e' := ⟨_, List.getElem?_eq_getElem hky⟩
    have hc := zfe_ h' e e'
    have g1 := il_get he
    have g2 := il_get he'
    rw [zrq_ he he'] at hq
    by_cases h0 : sgn e e' = 0
    · rw [if_neg (by simpa using h0)] at hq
      simp -implicitDefEqProofs [hB, zms_, h1, h9, h10, h11, hlt, hlt2, hk, hky, hx, hy, g1, g2, hc, h0, zby_, hb1]
      refine K _ _ ⟨?_, rfl, hq⟩
      simp [h0', h1, h9, h10, zct_ (by omega : k < 100000000000)]
    · rw [if_pos h0] at hq
      have h0n : (sgn e e' != 0) = true := by simpa using h0
      simp -implicitDefEqProofs [hB, hf, zms_, h1, h9, h10, h11, hlt, hlt2, hk, hky, hx, hy, g1, g2, hc, h0n, hq, zby_, hb1]
  · rintro B hB s h' ⟨⟨h0', h1, h9, h10, h11, -⟩, rfl, hq⟩
    rw [zrr_, if_neg (by omega)] at hq
    simp -implicitDefEqProofs [hB, zms_, h0', h1, h9, h10, h11, hq, hx, hy, zby_, hn, hb1]
end Go.Proofs.Sl
namespace Go.Proofs.Sl
theorem zcgw_ (h : H) (a b : AV) : run XP zmd_ [a.v, b.v] h = some (vi (cmpV a b), h) := by
  obtain ⟨k, t, n⟩ := a
  obtain ⟨k', t', n'⟩ := b
  rw [run_eq, zbwo_]
  have h1 := fun h => zfe_ h k k'
  have h2 := fun h => zjw_ h t t'
  have h3 := fun h => zfe_ h n n'
  have h4 := fun h => run_Or h [sgn k k', wrd t t', sgn n n'] (by simp)
  simp only [il, List.map_cons, List.map_nil] at h4
  simp -implicitDefEqProofs [zjf_, AV.v, h1, h2, h3, h4, zan_, optEq, cmpV]
theorem zcgx_ (h : H) (a b : AT) : run XP zhy_ [a.v, b.v] h = some (vi (cmpA a b), h) := by
  obtain ⟨k, v⟩ := a
  obtain ⟨k', v'⟩ := b
  rw [run_eq, zbwn_]
  have h1 := fun h => zjw_ h k k'
  have h2 := fun h => zcgw_ h v v'
  have h4 := fun h => run_Or h [wrd k k', cmpV v v'] (by simp)
  simp only [il, List.map_cons, List.map_nil, AV.v] at h4 h2
  simp -implicitDefEqProofs [zju_, AT.v, h1, h2, h4, zan_, optEq, cmpA]
theorem zyf_ (h : H) (a b : RF) : run XP zgf_ [a.v, b.v] h = some (vi (cmpR a b), h) := by
  obtain ⟨k, v⟩ := a
  obtain ⟨k', v'⟩ := b
  rw [run_eq, zbuz_]
  have h1 := fun h => zfe_ h k k'
  have h2 := fun h => zfe_ h v v'
  have h4 := fun h => run_Or h [sgn k k', sgn v v'] (by simp)
  simp only [il, List.map_cons, List.map_nil] at h4
  simp -implicitDefEqProofs [zjk_, RF.v, h1, h2, h4, zan_, optEq, cmpR]
theorem zcgy_ (h : H) (a b : RF) : run XP zpr_ [a.v, b.v] h = some (vi (cmpR a b), h) := by
  obtain ⟨k, v⟩ := a
  obtain ⟨k', v'⟩ := b
  rw [run_eq, zbva_]
  have h1 := fun h => zbq_ h k k'
  have h2 := fun h => zbq_ h v v'
  by_cases h0 : sgn k k' = 0
  · simp -implicitDefEqProofs [zgo_, RF.v, h1, h2, cmpR, orl, h0]
  · have h0' : (sgn k k' != 0) = true := by simpa using h0
    simp -implicitDefEqProofs [zgo_, RF.v, h1, h2, cmpR, orl, h0, h0']
end Go.Proofs.Sl
namespace Go.Proofs.Sl
theorem zcgz_ {h : H} {v w : V} {xs ys : List AT} (hx : ∀ h, Rd h 4 v (xs.map AT.v)) (hy : ∀ h, Rd h 4 w (ys.map AT.v)) (hl : xs.length ≤ 9223372036854775807) :
    run XP zqi_ [v, w, .fn zhy_ [] []] h = some (vi (lexc cmpA xs ys), h) := by
  rw [run_eq, zbwm_]
  simp -implicitDefEqProofs [zjt_, (hx _).toL]
  refine zaw_ xs (fun k s h' => Sees s [(0, v), (1, w), (2, .fn zhy_ [] []), (11, v), (12, vi xs.length), (13, vi k)] ∧ (∃ t, h' = h ++ t) ∧ lexc cmpA xs ys = lexc cmpA (xs.drop k) (ys.drop k)) ?_ ?_ _ _ ⟨by simp, ⟨[], by simp⟩, rfl⟩
  · rintro B f hB hf k e s h' he hk ⟨⟨h0, h1, h2, h11, h12, h13, -⟩, ⟨t, rfl⟩, hq⟩ K
    have hlt : (k : Int) < xs.length := by omega
    obtain ⟨p, hp, hld⟩ := (hx (h ++ t)).at (i := k) (e := e.v) (by simp [he])
    have hw : IntKind.i64.wrap ((k : Int) + 1) = (k : Int) + 1 := zaq_ (by omega) (by omega)
    by_cases hky : k < ys.length
    · have hlt2 : ¬ ((ys.length : Int) ≤ k) := by omega
      obtain ⟨e', he'⟩ : ∃ e', ys[k]? = some e' := ⟨_, List.getElem?_eq_getElem hky⟩
      obtain ⟨p', hp', hld'⟩ := (hy (h ++ (t ++ [.box false e.v.cells]))).at (i := k) (e := e'.v) (by simp [he'])
      have hc := fun h => zcgx_ h e e'
      rw [zrq_ he he'] at hq
      simp only [AT.v, V.cells] at hld hld' hc hp'
      by_cases hz : cmpA e e' = 0
      · rw [if_neg (by simpa using hz)] at hq
        simp -implicitDefEqProofs [hB, zgz_, h0, h1, h2, h11, h12, h13, hlt, hlt2, hk, (hy _).toL, hp, hld, hp', hld', hc, hz]
        refine K _ _ ⟨?_, ⟨_, rfl⟩, hq⟩
        simp [h0, h1, h2, h11, h12, hw]
      · rw [if_pos hz] at hq
        have hz' : (cmpA e e' != 0) = true := by simpa using hz
        simp -implicitDefEqProofs [hB, hf, zgz_, h0, h1, h2, h11, h12, h13, hlt, hlt2, hk, (hy _).toL, hp, hld, hp', hld', hc, hz', hq]
    · have hlt2 : ((ys.length : Int) ≤ k) := by omega
      rw [zye_ he (by omega)] at hq
      simp only [AT.v, V.cells] at hld
      simp -implicitDefEqProofs [hB, hf, zgz_, h0, h1, h2, h11, h12, h13, hlt, hlt2, hk, (hy _).toL, hp, hld, hq]
  · rintro B hB s h' ⟨⟨h0, h1, h2, h11, h12, h13, -⟩, ⟨t, rfl⟩, hq⟩
    rw [zrr_] at hq
    by_cases hlt : xs.length < ys.length
    · rw [if_pos hlt] at hq
      simp -implicitDefEqProofs [hB, zgz_, h0, h1, h11, h12, h13, hq, (hx _).toL, (hy _).toL, hlt]
    · rw [if_neg hlt] at hq
      simp -implicitDefEqProofs [hB, zgz_, h0, h1, h11, h12, h13, hq, (hx _).toL, (hy _).toL, hlt]
theorem zcha_ {h : H} {v w : V} {xs ys : List RF} (hx : ∀ h, Rd h 2 v (xs.map RF.v)) (hy : ∀ h, Rd h 2 w (ys.map RF.v)) (hl : xs.length ≤ 9223372036854775807) :
    run XP zqe_ [v, w, .fn zgf_ [] []] h = some (vi (lexc cmpR xs ys), h) := by
  rw [run_eq, zbvz_]
  simp -implicitDefEqProofs [zjj_, (hx _).toL]
  refine zaw_ xs (fun k s h' => Sees s [(0, v), (1, w), (2, .fn zgf_ [] []), (11, v), (12, vi xs.length), (13, vi k)] ∧ (∃ t, h' = h ++ t) ∧ lexc cmpR xs ys = lexc cmpR (xs.drop k) (ys.drop k)) ?_ ?_ _ _ ⟨by simp, ⟨[], by simp⟩, rfl⟩
  · rintro B f hB hf k e s h' he hk ⟨⟨h0, h1, h2, h11, h12, h13, -⟩, ⟨t, rfl⟩, hq⟩ K
    have hlt : (k : Int) < xs.length := by omega
    obtain ⟨p, hp, hld⟩ := (hx (h ++ t)).at (i := k) (e := e.v) (by simp [he])
    have hw : IntKind.i64.wrap ((k : Int) + 1) = (k : Int) + 1 := zaq_ (by omega) (by omega)
    by_cases hky : k < ys.length
    · have hlt2 : ¬ ((ys.length : Int) ≤ k) := by omega
      obtain ⟨e', he'⟩ : ∃ e', ys[k]? = some e' := ⟨_, List.getElem?_eq_getElem hky⟩
      obtain ⟨p', hp', hld'⟩ := (hy (h ++ (t ++ [.box false e.v.cells]))).at (i := k) (e := e'.v) (by simp [he'])
      have hc := fun h => zyf_ h e e'
      rw [zrq_ he he'] at hq
      simp only [RF.v, V.cells] at hld hld' hc hp'
      by_cases hz : cmpR e e' = 0
      · rw [if_neg (by simpa using hz)] at hq
        simp -implicitDefEqProofs [hB, zgu_, h0, h1, h2, h11, h12, h13, hlt, hlt2, hk, (hy _).toL, hp, hld, hp', hld', hc, hz]
        refine K _ _ ⟨?_, ⟨_, rfl⟩, hq⟩
        simp [h0, h1, h2, h11, h12, hw]
      · rw [if_pos hz] at hq
        have hz' : (cmpR e e' != 0) = true := by simpa using hz
        simp -implicitDefEqProofs [hB, hf, zgu_, h0, h1, h2, h11, h12, h13, hlt, hlt2, hk, (hy _).toL, hp, hld, hp', hld', hc, hz', hq]
    · have hlt2 : ((ys.length : Int) ≤ k) := by omega
      rw [zye_ he (by omega)] at hq
      simp only [RF.v, V.cells] at hld
      simp -implicitDefEqProofs [hB, hf, zgu_, h0, h1, h2, h11, h12, h13, hlt, hlt2, hk, (hy _).toL, hp, hld, hq]
  · rintro B hB s h' ⟨⟨h0, h1, h2, h11, h12, h13, -⟩, ⟨t, rfl⟩, hq⟩
    rw [zrr_] at hq
    by_cases hlt : xs.length < ys.length
    · rw [if_pos hlt] at hq
      simp -implicitDefEqProofs [hB, zgu_, h0, h1, h11, h12, h13, hq, (hx _).toL, (hy _).toL, hlt]
    · rw [if_neg hlt] at hq
      simp -implicitDefEqProofs [hB, zgu_, h0, h1, h11, h12, h13, hq, (hx _).toL, (hy _).toL, hlt]
end Go.Proofs.Sl
namespace Go.Proofs.Sl
structure SP.Len (a : SP) : Prop where
  al : a.ats.length ≤ 9223372036854775807
  ll : a.lks.length ≤ 9223372036854775807
  an : a.an = true → a.ats = []
  ln : a.ln = true → a.lks = []
theorem rd_slc {α : Type} (h : H) (k : Nat) (v : α → V) {l : List α} {n : Bool} (hn : n = true → l = []) : Rd h k (lv k (slc v l n)) (l.map v) := by
  have := Rd.lv h k (slc v l n)
  rwa [zcz_ hn] at this
theorem orl6 (a b c d e f : Int) (l : List Int) : orl (orl [a, b, c, d, e, f] :: l) = orl (a :: b :: c :: d :: e :: f :: l) := by
  have := zhb_ [a, b, c, d, e, f] l
  simp only [List.cons_append, List.nil_append] at this
  rw [this]
  simp only [orl]
theorem lexc6 (a b c d e f a' b' c' d' e' f' : Int) : lexc sgn [a, b, c, d, e, f] [a', b', c', d', e', f'] = orl [sgn a a', sgn b b', sgn c c', sgn d d', sgn e e', sgn f f'] := by
  simp only [lexc, orl]
theorem zchb_ (a b : Bool) : IntKind.i64.wrap (flg a - flg b) = sgn (flg a) (flg b) := by cases a <;> cases b <;> rfl
theorem zrs_ (h : H) {a b : SP} (ha : a.Len) (hb : b.Len) : run XP zds_ [a.v, b.v] h = some (vi (cmpS a b), h) := by
  obtain ⟨q1, q2, q3, q4⟩ := ha
  obtain ⟨r1, r2, r3, r4⟩ := hb
  obtain ⟨tr, id, par, rev, clk, kind, sv, vr, op, st, en, er, ats, lks, an, ln⟩ := a
  obtain ⟨tr', id', par', rev', clk', kind', sv', vr', op', st', en', er', ats', lks', an', ln'⟩ := b
  simp only at q1 q2 q3 q4 r1 r2 r3 r4
  have cA := fun h => zcgz_ (h := h) (fun h => rd_slc h 4 AT.v q3) (fun h => rd_slc h 4 AT.v r3) q1
  have cR := fun h => zcha_ (h := h) (fun h => rd_slc h 2 RF.v q4) (fun h => rd_slc h 2 RF.v r4) q2
  have h1 := fun h => zjw_ h sv sv'
  have h2 := fun h => zjw_ h vr vr'
  have h3 := fun h => zjw_ h op op'
  have h4 := fun h => zfe_ h st st'
  have h5 := fun h => zfe_ h en en'
  have h6 := fun h => zyc_ h er
  have h7 := fun h => zyc_ h er'
  have h8 := fun h => run_Or h [orl [sgn tr tr', sgn id id', sgn rev rev', sgn par par', sgn clk clk', sgn kind kind'], wrd sv sv', wrd vr vr', wrd op op', sgn st st', sgn en en', sgn (flg er) (flg er'), lexc cmpA ats ats', lexc cmpR lks lks'] (by simp)
  have h9 : ∀ (h : H) (t1 t2 : H) (z z' : Bool), run XP zlu_ [.bref (h.length + 2) 6, .bref (h.length + 3) 6] (h ++ [t1.headD .dead, t2.headD .dead, .box z [vi tr, vi id, vi rev, vi par, vi clk, vi kind], .box z' [vi tr', vi id', vi rev', vi par', vi clk', vi kind']]) =
      some (vi (orl [sgn tr tr', sgn id id', sgn rev rev', sgn par par', sgn clk clk', sgn kind kind']), h ++ [t1.headD .dead, t2.headD .dead, .box z [vi tr, vi id, vi rev, vi par, vi clk, vi kind], .box z' [vi tr', vi id', vi rev', vi par', vi clk', vi kind']]) := by
    intro h t1 t2 z z'
    have := zcgv_ (h := h ++ [t1.headD .dead, t2.headD .dead, .box z [vi tr, vi id, vi rev, vi par, vi clk, vi kind], .box z' [vi tr', vi id', vi rev', vi par', vi clk', vi kind']]) (l := h.length + 2) (m := h.length + 3) (z := z) (z' := z') (xs := [tr, id, rev, par, clk, kind]) (ys := [tr', id', rev', par', clk', kind']) (by simp [il]) (by simp [il]) rfl (by simp)
    rw [lexc6] at this
    exact this
  have h9' := fun a b => h9 h [a] [b] false false
  simp only [List.headD] at h9'
  simp only [il, List.map_cons, List.map_nil] at h8
  have hcA : ∀ h, run XP zqd_ [lv 4 (slc AT.v ats an), lv 4 (slc AT.v ats' an')] h = some (vi (lexc cmpA ats ats'), h) := by
    intro h
    rw [run_eq, zbvy_]
    simp -implicitDefEqProofs [zji_, cA, (rd_slc h 4 AT.v q3).arg0, (rd_slc h 4 AT.v r3).arg0]
  rw [run_eq, zbuv_]
  simp -implicitDefEqProofs [ziw_, SP.v, h1, h2, h3, h4, h5, h6, h7, h8, h9', cR, hcA, zchb_, (fun h => (rd_slc h 4 AT.v q3).arg0), (fun h => (rd_slc h 4 AT.v r3).arg0), (fun h => (rd_slc h 2 RF.v q4).arg0), (fun h => (rd_slc h 2 RF.v r4).arg0), zan_, optEq, cmpS, orl6]
end Go.Proofs.Sl
namespace Go.Proofs.Sl
theorem zrt_ (h : H) (a : SP) : run XP zhw_ [a.v] h = some (RF.v ⟨a.tr, a.id⟩, h) := by
  rw [run_eq, zbuy_]
  simp -implicitDefEqProofs [ziv_, SP.v, RF.v]
theorem zyg_ (h : H) {a b : SP} (ha : a.Len) (hb : b.Len) : run XP zdt_ [a.v, b.v] h = some (vb (cmpS a b == 0), h) := by
  have hc := fun h => zrs_ h ha hb
  simp only [SP.v] at hc
  rw [run_eq, zbux_]
  simp -implicitDefEqProofs [zjm_, SP.v, hc]
theorem zyh_ : ∀ l : List AT, wide 4 (l.map AT.v) = true
  | [] => rfl
  | a :: l => by simp only [List.map_cons, wide, zyh_ l, Bool.and_true]; rfl
theorem zyi_ : ∀ l : List RF, wide 2 (l.map RF.v) = true
  | [] => rfl
  | a :: l => by simp only [List.map_cons, wide, zyi_ l, Bool.and_true]; rfl
theorem zff_ (a : SP) : wide 14 [a.v] = true := by
  have h : ∀ (k : Nat) (o : Option (List V)), (lv k o).cell = true := fun k o => by cases o <;> rfl
  simp only [wide, SP.v, V.cells, List.length_cons, List.length_nil, zai_, h, Bool.and_true]
  rfl
theorem zhc_ : ∀ l : List SP, wide 14 (l.map SP.v) = true
  | [] => rfl
  | a :: l => by
    have h := zff_ a
    simp only [wide, Bool.and_true] at h
    simp only [List.map_cons, wide, h, zhc_ l, Bool.and_self]
def ov (k : Nat) : Option (List V) → V
  | none => vnil
  | some es => .own k es
theorem zchc_ (k : Nat) (o : Option (List V)) : res0 (ov k o) = lv k o := by cases o <;> rfl
theorem zchd_ (h : H) {l : List AT} {n : Bool} (hn : n = true → l = []) (hl : l.length ≤ 2932031007402) : run XP zqk_ [lv 4 (slc AT.v l n)] h = some (ov 4 (slc AT.v l n), h) := by
  rw [run_eq, zbwr_]
  have h1 := zyh_ l
  have h2 := zxx_ l
  cases n with
  | true =>
    rw [hn rfl]
    simp -implicitDefEqProofs [zgv_, slc, lv, ov]
  | false => simp -implicitDefEqProofs [zgv_, slc, lv, ov, h1, h2, hl]
theorem zche_ (h : H) {l : List RF} {n : Bool} (hn : n = true → l = []) (hl : l.length ≤ 8796093022208) : run XP zql_ [lv 2 (slc RF.v l n)] h = some (ov 2 (slc RF.v l n), h) := by
  rw [run_eq, zbws_]
  have h1 := zyi_ l
  have h2 := zxy_ l
  cases n with
  | true =>
    rw [hn rfl]
    simp -implicitDefEqProofs [zgw_, slc, lv, ov]
  | false => simp -implicitDefEqProofs [zgw_, slc, lv, ov, h1, h2, hl]
structure SP.Sm (a : SP) : Prop where
  al : a.ats.length ≤ 2000000000000
  ll : a.lks.length ≤ 2000000000000
  an : a.an = true → a.ats = []
  ln : a.ln = true → a.lks = []
theorem SP.Sm.len {a : SP} (h : a.Sm) : a.Len := ⟨by have := h.al; omega, by have := h.ll; omega, h.an, h.ln⟩
theorem zyj_ (h : H) {a : SP} (ha : a.Sm) : run XP zme_ [a.v] h = some (a.v, h) := by
  have h1 := fun h => zchd_ h ha.an (by have := ha.al; omega)
  have h2 := fun h => zche_ h ha.ln (by have := ha.ll; omega)
  rw [run_eq, zbwp_]
  simp -implicitDefEqProofs [zix_, SP.v, h1, h2, zchc_, zan_, optEq]
end Go.Proofs.Sl
namespace Go.Proofs.Sl
def selA (p : Nat → Bool) : Nat → List SP → List SP
  | _, [] => []
  | k, e :: r => if p k = true then e :: selA p (k + 1) r else selA p (k + 1) r
def OutV (x : V) (h : H) (b k : Nat) (es : List V) : Prop := (es = [] ∧ x = vnil) ∨ ∃ q, es ≠ [] ∧ b ≤ q ∧ x = .ref q es.length ∧ h[q]? = some (.arr false k es)
theorem OutV.app {x : V} {h : H} {b k : Nat} {es : List V} (o : OutV x h b k es) (t : H) : OutV x (h ++ t) b k es := by
  rcases o with o | ⟨q, h0, h1, h2, h3⟩
  · exact .inl o
  · exact .inr ⟨q, h0, h1, h2, by rw [List.getElem?_append_left (List.getElem?_eq_some_iff.1 h3).1]; exact h3⟩
theorem OutV.grow {x : V} {h : H} {b k lim : Nat} {es : List V} (o : OutV x h b k es) {e : V} (hb : b ≤ h.length) (hw : wide k [e] = true) (hc : V.closed.closeds [e] = true) (hl : es.length + 1 ≤ lim) :
    ∃ x' h', zax_ h k lim x (.lst k [e]) = some (x', h') ∧ OutV x' h' b k (es ++ [e]) ∧ h'.take b = h.take b ∧ b ≤ h'.length := by
  have ea : appEls h (.lst k [e]) = some [e] := rfl
  rcases o with ⟨rfl, rfl⟩ | ⟨q, h0, h1, rfl, h3⟩
  · have hl' : 1 ≤ lim := by simpa using hl
    refine ⟨.ref h.length 1, h ++ [.arr false k [e]], ?_, .inr ⟨h.length, by simp, hb, rfl, by simp⟩, by rw [List.take_append_of_le_length hb], by simp; omega⟩
    simp only [zax_, ea, zab_, hw, hc, and_self, if_true, List.length_cons, List.length_nil, Nat.zero_add, Nat.one_ne_zero, if_false, hl']
  · have hq := (List.getElem?_eq_some_iff.1 h3).1
    refine ⟨.ref q (es.length + 1), h.set q (.arr false k (es ++ [e])), ?_, .inr ⟨q, by simp, h1, by simp, by rw [List.getElem?_set_self hq]⟩, ?_, by simpa using hb⟩
    · have : arrN h q es.length = some (false, k, es) := by simp [arrN, arrAt, h3, zab_]
      simp only [zax_, ea, zab_, hw, hc, and_self, if_true, this, List.length_cons, List.length_nil, Nat.zero_add, true_and, hl]
    · rw [List.take_set, List.set_eq_of_length_le (by simp; omega)]
theorem OutV.ret {x : V} {h : H} {b k : Nat} {es : List V} (o : OutV x h b k es) (hc : V.closed.closeds es = true) : retV b h .v x [] = some (if es = [] then vnil else .own k es, []) := by
  rcases o with ⟨rfl, rfl⟩ | ⟨q, h0, h1, rfl, h3⟩
  · simp
  · have : arrN h q es.length = some (false, k, es) := by simp [arrN, arrAt, h3, zab_]
    rw [if_neg h0]
    show (if q < b then _ else ob (arrN h q es.length) _) = _
    rw [if_neg (by omega), this, zab_, if_pos hc]
    rfl
theorem zchf_ {b t : H} {h : H} (h0 : h.take b.length = b) (hl : b.length ≤ h.length) (t : H) : (h ++ t).take b.length = b := by rw [List.take_append_of_le_length hl, h0]
theorem zyk_ {h : H} {v : V} {es : List SP} (hv : ∀ t, Rd (h ++ t) 14 v (es.map SP.v)) (hs : ∀ e ∈ es, e.Sm) (hl : es.length ≤ 100000) {f : Nat} {b : List V} (hb0 : arg0s b = some b) {p : Nat → Bool} (hp : ∀ k t, k < es.length → run XP f (vi k :: b) (h ++ t) = some (vb (p k), h ++ t)) :
    run XP zlx_ [v, .fn f [] b] h = some (if selA p 0 es = [] then vnil else .own 14 ((selA p 0 es).map SP.v), h) := by
  have hv0 := hv []
  rw [List.append_nil] at hv0
  rw [run_eq, zbwh_]
  simp -implicitDefEqProofs [zis_, hv0.toL]
  refine zaw_ es (fun k s h' => ∃ t pre, Sees s [(1, .fn f [] b), (8, v), (9, vi es.length), (10, vi k)] ∧ h' = h ++ t ∧ OutV (s 5) h' h.length 14 (pre.map SP.v) ∧ pre ++ selA p k (es.drop k) = selA p 0 es ∧ pre.length ≤ k) ?_ ?_ _ _
    ⟨[], [], by simp, by simp, .inl ⟨rfl, by simp⟩, rfl, by simp⟩
  · rintro B f' hB hf k e s h' he hk ⟨t, pre, ⟨h1, h8, h9, h10, -⟩, rfl, ho, hx, hpl⟩ K
    have hlt : (k : Int) < es.length := by omega
    obtain ⟨q, hq, hld⟩ := (hv t).at (i := k) (e := e.v) (by simp [he])
    have hw : IntKind.i64.wrap ((k : Int) + 1) = (k : Int) + 1 := zaq_ (by omega) (by omega)
    have hsm := hs e (List.mem_of_getElem? he)
    have hcp := fun h => zyj_ h hsm
    have hpk := fun t => hp k t hk
    have hw1 := zff_ e
    have hc1 : V.closed.closeds [e.v] = true := zav_ [e]
    rw [zbh_ he, selA] at hx
    obtain ⟨x', h'', hap, ho', htk, hbl⟩ := (ho.app [.box false e.v.cells]).grow (lim := 837723144972) (by simp) hw1 hc1 (by simp; omega)
    simp only [SP.v, V.cells] at hld hcp hap hw1 hc1
    rw [List.append_assoc] at hap
    cases hb : p k with
    | false =>
      rw [hb, if_neg (by simp)] at hx
      simp -implicitDefEqProofs [hB, zmo_, h1, h8, h9, h10, hlt, hq, hld, hb0, hpk, hb]
      refine K _ _ ⟨t ++ [.box false e.v.cells], pre, ?_, ?_, ?_, hx, by omega⟩
      · simp [h1, h8, h9, hw]
      · simp [SP.v]
      · have := ho.app [.box false e.v.cells]
        simpa [SP.v] using this
    | true =>
      rw [hb, if_pos rfl] at hx
      have htk' : ∃ t', h'' = h ++ t' := ⟨h''.drop h.length, by
        have := List.take_append_drop h.length h''
        rw [htk] at this
        rw [List.append_assoc, List.take_left] at this
        exact this.symm⟩
      obtain ⟨t', rfl⟩ := htk'
      simp -implicitDefEqProofs [hB, zmo_, h1, h8, h9, h10, hlt, hq, hld, hb0, hpk, hb, hcp, hap]
      refine K _ _ ⟨t', pre ++ [e], ?_, rfl, ?_, by simpa using hx, by simp; omega⟩
      · simp [h1, h8, h9, hw]
      · simpa using ho'
  · rintro B hB s h' ⟨t, pre, ⟨h1, h8, h9, h10, -⟩, rfl, ho, hx, -⟩
    rw [List.drop_of_length_le (Nat.le_refl _), selA, List.append_nil] at hx
    subst hx
    have hr := ho.ret (zav_ _)
    simp -implicitDefEqProofs [hB, zmo_, h1, h8, h9, h10]
    simp only [hr]
    simp
end Go.Proofs.Sl
namespace Go.Proofs.Sl
def cptA : SP → List SP → List SP
  | _, [] => []
  | a, b :: r => if cmpS b a = 0 then cptA b r else b :: cptA b r
def cpt : List SP → List SP
  | [] => []
  | a :: r => a :: cptA a r
def zSP : V := .agg [.s (.int .i64 0), .s (.int .i64 0), .s (.int .i64 0), .s (.int .i64 0), .s (.int .i64 0), .s (.int .i64 0), .s (.string ⟨#[]⟩), .s (.string ⟨#[]⟩), .s (.string ⟨#[]⟩), .s (.int .i64 0), .s (.int .i64 0), .s (.bool false), .s (.slice none 0 0), .s (.slice none 0 0)]
theorem zyl_ (a b : List V) : V.closed.closeds (a ++ b) = (V.closed.closeds a && V.closed.closeds b) := by
  induction a with
  | nil => rfl
  | cons x a ih => simp only [List.cons_append, V.closed.closeds, ih, Bool.and_assoc]
theorem zym_ (n : Nat) : V.closed.closeds (List.replicate n zSP) = true := by
  induction n with
  | zero => rfl
  | succ n ih => simp only [List.replicate_succ, V.closed.closeds, ih, Bool.and_true]; rfl
theorem zru_ (a : SP) : a.v.cells.length = 14 ∧ zai_ a.v.cells = true := by
  have := zff_ a
  simp only [wide, Bool.and_true, Bool.and_eq_true, beq_iff_eq] at this
  exact this
theorem zchg_ (a b : SP) : putEl 0 a.v.cells b.v = a.v := rfl
theorem zchh_ (a : SP) : keep0s a.v.cells = some a.v.cells := by
  have h1 : ∀ (k : Nat) (o : Option (List V)), frz0 (lv k o) = some (lv k o) := fun k o => by cases o <;> rfl
  simp [SP.v, V.cells, keep0s, h1]
theorem zyn_ {base : Nat} {h : H} {l n i : Nat} {ws : List SP} (e : h[l]? = some (.arr false 14 (ws.map SP.v))) (hn : ws.length = n) (hi : i < n) (a : SP) :
    xstore base h 14 (.eptr l n i 0) a.v = some (h.set l (.arr false 14 ((ws.set i a).map SP.v))) := by
  have h1 : arrN h l n = some (false, 14, ws.map SP.v) := by simp [arrN, arrAt, e, zab_, hn]
  obtain ⟨w, hw⟩ : ∃ w, ws[i]? = some w := ⟨_, List.getElem?_eq_getElem (by omega)⟩
  have h2 : (ws.map SP.v)[i]? = some w.v := by rw [List.getElem?_map, hw]; rfl
  have h3 : V.closed.closeds a.v.cells = true := by
    have := zav_ [a]
    simp only [List.map_cons, List.map_nil, V.closed.closeds, Bool.and_true] at this
    exact this
  have h4 : zai_ a.v.cells = true := (zru_ a).2
  rw [zwg_, if_pos (zru_ a).1, h1, zab_]
  simp only [Bool.false_eq_true, if_false, h2, zab_, zchh_, h3, h4, and_true]
  rw [if_pos (by rw [(zru_ w).1]; exact Nat.le_refl _), zchg_, List.map_set]
theorem zjy_ {h : H} {l n i : Nat} {z : Bool} {ws : List SP} (e : h[l]? = some (.arr z 14 (ws.map SP.v))) (hn : ws.length = n) {a : SP} (hi : ws[i]? = some a) : xload h 14 true (.eptr l n i 0) = some a.v := by
  have h1 : arrN h l n = some (z, 14, ws.map SP.v) := by simp [arrN, arrAt, e, zab_, hn]
  have h2 : (ws.map SP.v)[i]? = some a.v := by rw [List.getElem?_map, hi]; rfl
  rw [zli_, h1, zab_]
  simp only [h2, zab_]
  rfl
theorem zyo_ {h : H} {l n a b : Nat} {z : Bool} {ws : List V} (e : h[l]? = some (.arr z 14 ws)) (hn : ws.length = n) (hb : b ≤ n) : V.toL h (.win l n a b) = some ((ws.take b).drop a) := by
  show (match h[l]? with
    | some (.arr _ _ es) => if es.length = n ∧ b ≤ n then some ((es.take b).drop a) else none
    | _ => none) = _
  rw [e]
  exact if_pos ⟨hn, hb⟩
theorem zyp_ {h : H} {l n a b i : Nat} {z : Bool} {ws : List V} (e : h[l]? = some (.arr z 14 ws)) (hn : ws.length = n) (hi : a + i < b) (hb : b ≤ n) : iaddrV h 14 (.win l n a b) i = some (.eptr l n (a + i) 0) := by
  rw [zvu_]
  have h1 : arrN h l n = some (z, 14, ws) := by simp [arrN, arrAt, e, zab_, hn]
  rw [h1, zab_, if_pos ⟨hi, hb, rfl⟩]
theorem zjz_ {h : H} {l n i : Nat} {z : Bool} {ws : List V} (e : h[l]? = some (.arr z 14 ws)) (hn : ws.length = n) (hi : i < n) : iaddrV h 14 (.ref l n) i = some (.eptr l n i 0) := by
  have h1 : arrN h l n = some (z, 14, ws) := by simp [arrN, arrAt, e, zab_, hn]
  rw [zvv_, h1, zab_, if_pos ⟨hi, rfl⟩]
theorem zyq_ {h : H} {l : Nat} {o : O} (e : h[l]? = some o) : h.set l o = h := by
  apply List.ext_getElem?
  intro i
  rw [List.getElem?_set]
  split
  · rename_i hi
    subst hi
    have := (List.getElem?_eq_some_iff.1 e).1
    rw [if_pos this, e]
  · rfl
theorem zyr_ {a : SP} : cptA a [] = [] := rfl
theorem zchi_ (es : List SP) (a : SP) (ha : es[1 - 1]? = some a) : cpt es = es.take 1 ++ cptA a (es.drop 1) := by
  cases es with
  | nil => simp at ha
  | cons x r =>
    simp only [Nat.sub_self, List.getElem?_cons_zero, Option.some.injEq] at ha
    subst ha
    rfl
theorem zchj_ {h : H} {l : Nat} {es : List SP} (he : h[l]? = some (.arr false 14 (es.map SP.v))) (hs : ∀ e ∈ es, e.Sm) (hn : es.length ≤ 100000) :
    ∃ r, run XP zhz_ [.ref l es.length, .fn zdt_ [] []] h = some r ∧ ((r = (.ref l es.length, h) ∧ cpt es = es) ∨ ∃ o, r = (.lst 14 ((cpt es).map SP.v), h.set l o)) := by
  have hl : l < h.length := (List.getElem?_eq_some_iff.1 he).1
  have hset : ∀ o : O, (h.set l o)[l]? = some o := fun o => List.getElem?_set_self hl
  have hlen : (es.map SP.v).length = es.length := by simp
  have htoL : V.toL h (.ref l es.length) = some (es.map SP.v) := by simp [he]
  by_cases h2 : es.length < 2
  · refine ⟨_, ?_, .inl ⟨rfl, ?_⟩⟩
    · have h2i : (es.length : Int) < 2 := by omega
      rw [run_eq, zrk_]
      simp -implicitDefEqProofs [zfd_, htoL, h2i, hl]
    · cases es with
      | nil => rfl
      | cons a r => cases r with
        | nil => rfl
        | cons b r => simp at h2; omega
  · have h2' : ¬ ((es.length : Int) < 2) := by omega
    suffices key : ∃ r, ((r = (.ref l es.length, h) ∧ cpt es = es) ∨ ∃ o, r = (.lst 14 ((cpt es).map SP.v), h.set l o)) ∧ run XP zhz_ [.ref l es.length, .fn zdt_ [] []] h = some r by
      obtain ⟨r, h3, h4⟩ := key
      exact ⟨r, h4, h3⟩
    -- which of the two it will be
    obtain ⟨r, hr, hr1, hr2⟩ : ∃ r, ((r = (V.ref l es.length, h) ∧ cpt es = es) ∨ ∃ o, r = (.lst 14 ((cpt es).map SP.v), h.set l o)) ∧ (cpt es = es → r = (.ref l es.length, h)) ∧
        (cpt es ≠ es → r = (.lst 14 ((cpt es).map SP.v), h.set l (.arr true 14 ((cpt es).map SP.v ++ List.replicate (es.length - (cpt es).length) zSP)))) := by
      by_cases hc : cpt es = es
      · exact ⟨_, .inl ⟨rfl, hc⟩, fun _ => rfl, fun h => absurd hc h⟩
      · exact ⟨_, .inr ⟨_, rfl⟩, fun h => absurd h hc, fun _ => rfl⟩
    refine ⟨r, hr, ?_⟩
    rw [run_eq, zrk_]
    simp -implicitDefEqProofs [zfd_, htoL, h2']
    refine zlk_ (σ := Nat) (fun k => es.length - k) (fun k s h' => Sees s [(0, .ref l es.length), (1, .fn zdt_ [] []), (5, vi k)] ∧ h' = h ∧ 1 ≤ k ∧ k ≤ es.length ∧ ∀ a, es[k - 1]? = some a → cpt es = es.take k ++ cptA a (es.drop k)) ?_ 1 _ _
      ⟨by simp, rfl, Nat.le_refl _, by omega, zchi_ es⟩
    rintro B f hB hf k s h' ⟨⟨h0, h1, h5, -⟩, rfl, hk1, hkn, hinv⟩ K
    obtain ⟨a, ha⟩ : ∃ a, es[k - 1]? = some a := ⟨_, List.getElem?_eq_getElem (by omega)⟩
    have hx := hinv a ha
    have hw : IntKind.i64.wrap ((k : Int) + 1) = (k : Int) + 1 := zaq_ (by omega) (by omega)
    by_cases hlt : k < es.length
    · have hlti : (k : Int) < es.length := by omega
      obtain ⟨e, hek⟩ : ∃ e, es[k]? = some e := ⟨_, List.getElem?_eq_getElem hlt⟩
      have hw1 : IntKind.i64.wrap ((k : Int) - 1) = ((k - 1 : Nat) : Int) := by rw [zaq_ (by omega) (by omega)]; omega
      have ld1 := zjy_ he rfl hek
      have ld2 := zjy_ he rfl ha
      have hE := zyg_ h' (hs e (List.mem_of_getElem? hek)).len (hs a (List.mem_of_getElem? ha)).len
      have hp1 : k - 1 < es.length := by omega
      have hf1 : frz0 e.v = some e.v := rfl
      have ia1 := zjz_ he hlen hlt
      have ia2 := zjz_ he hlen hp1
      have ar1 : ∀ a : SP, arg0 a.v = some a.v := fun _ => rfl
      rw [zbh_ hek, cptA] at hx
      by_cases hc : cmpS e a = 0
      · rw [if_pos hc] at hx
        have hc' : (cmpS e a == 0) = true := by simpa using hc
        have hsame : h'.set l (.arr false 14 (es.map SP.v)) = h' := zyq_ he
        have hke : k ≤ es.length := by omega
        simp -implicitDefEqProofs [hB, hf, zmv_, h0, h1, h5, htoL, hlt, hw1, ia1, ia2, ld1, ld2, hE, hc', ar1, he, hke]
        refine zlk_ (σ := Nat) (fun j => es.length - j) (fun j s h'' => ∃ (ws out : List SP), Sees s [(0, .ref l es.length), (1, .fn zdt_ [] []), (5, vi out.length), (6, .win l es.length k es.length), (7, vi j)] ∧ h'' = h'.set l (.arr false 14 (ws.map SP.v)) ∧
          ws.length = es.length ∧ ws.take out.length = out ∧ out.length + 1 ≤ k + j ∧ (∀ i, k + j ≤ i + 1 → ws[i]? = es[i]?) ∧ (∀ b, es[k + j - 1]? = some b → cpt es = out ++ cptA b (es.drop (k + j))) ∧ 1 ≤ j ∧ k + j ≤ es.length) ?_ 1 _ _
          ⟨es, es.take k, by simp [Nat.min_eq_left hke, h0, h1, h5], hsame.symm, rfl, by simp, by simp; omega, fun _ _ => rfl, fun b hb => ?_, Nat.le_refl _, hlt⟩
        · rintro B2 f2 hB2 hf2 j s2 h2 ⟨ws, out, ⟨z0, z1, z5, z6, z7, -⟩, rfl, hwl, hwo, hol, hwe, hwc, hj1, hjn⟩ K2
          have hH := hset (.arr false 14 (ws.map SP.v))
          have hwl' : (ws.map SP.v).length = es.length := by simp [hwl]
          have htw := zyo_ hH hwl' (a := k) (Nat.le_refl es.length)
          have hlw : (((ws.map SP.v).take es.length).drop k).length = es.length - k := by simp [hwl]
          have hmn : out.length < es.length := by omega
          by_cases hjl : k + j < es.length
          · have hjlt : (j : Int) < ((es.length - k : Nat) : Int) := by omega
            have hw2 : IntKind.i64.wrap ((j : Int) - 1) = ((j - 1 : Nat) : Int) := by rw [zaq_ (by omega) (by omega)]; omega
            have hw3 : IntKind.i64.wrap ((j : Int) + 1) = (j : Int) + 1 := zaq_ (by omega) (by omega)
            have hw4 : IntKind.i64.wrap ((out.length : Int) + 1) = (out.length : Int) + 1 := zaq_ (by omega) (by omega)
            obtain ⟨e1, he1⟩ : ∃ e1, es[k + j]? = some e1 := ⟨_, List.getElem?_eq_getElem hjl⟩
            obtain ⟨e0, he0⟩ : ∃ e0, es[k + j - 1]? = some e0 := ⟨_, List.getElem?_eq_getElem (by omega)⟩
            have hj0 : k + (j - 1) = k + j - 1 := by omega
            have w1 : ws[k + j]? = some e1 := by rw [hwe _ (by omega), he1]
            have w0 : ws[k + (j - 1)]? = some e0 := by rw [hj0, hwe _ (by omega), he0]
            have ib1 := zyp_ hH hwl' hjl (Nat.le_refl _)
            have ib0 := zyp_ hH hwl' (a := k) (i := j - 1) (b := es.length) (by omega) (Nat.le_refl _)
            have ib2 := zjz_ hH hwl' hmn
            have lb1 := zjy_ hH hwl w1
            have lb0 := zjy_ hH hwl w0
            have hE2 := zyg_ (h'.set l (.arr false 14 (ws.map SP.v))) (hs e1 (List.mem_of_getElem? he1)).len (hs e0 (List.mem_of_getElem? he0)).len
            have hcc := hwc e0 he0
            rw [zbh_ he1, cptA] at hcc
            by_cases hd : cmpS e1 e0 = 0
            · rw [if_pos hd] at hcc
              have hd' : (cmpS e1 e0 == 0) = true := by simpa using hd
              simp -implicitDefEqProofs [hB2, zmu_, z0, z1, z5, z6, z7, htw, hlw, hjlt, hw2, ib1, ib0, lb1, lb0, hE2, hd', ar1]
              refine K2 (j + 1) _ _ (by omega) ⟨ws, out, ?_, rfl, hwl, hwo, by omega, fun i hi => hwe i (by omega), fun b hb => ?_, by omega, by omega⟩
              · simp [z0, z1, z5, z6, hw3]
              · rw [show k + (j + 1) - 1 = k + j by omega, he1] at hb
                injection hb with hb
                subst hb
                exact hcc
            · rw [if_neg hd] at hcc
              have hd' : (cmpS e1 e0 == 0) = false := by simpa using hd
              have sb := zyn_ (base := h'.length) hH hwl hmn e1
              simp -implicitDefEqProofs [hB2, zmu_, z0, z1, z5, z6, z7, htw, hlw, hjlt, hw2, ib1, ib0, ib2, lb1, lb0, hE2, hd', ar1, sb]
              refine K2 (j + 1) _ _ (by omega) ⟨ws.set out.length e1, out ++ [e1], ?_, by rw [List.map_set], by simp [hwl], ?_, by simp; omega, fun i hi => ?_, fun b hb => ?_, by omega, by omega⟩
              · simp [z0, z1, z6, hw3, hw4]
              · rw [List.length_append, List.length_singleton, List.take_add_one, List.take_set, List.set_eq_of_length_le (by simp; omega), hwo, List.getElem?_set_self (by omega)]
                rfl
              · rw [List.getElem?_set_ne (by omega)]
                exact hwe i (by omega)
              · rw [show k + (j + 1) - 1 = k + j by omega, he1] at hb
                injection hb with hb
                subst hb
                rw [hcc]
                simp
                rfl
          · have hjn' : k + j = es.length := by omega
            have hjlt : ¬ ((j : Int) < ((es.length - k : Nat) : Int)) := by omega
            obtain ⟨e0, he0⟩ : ∃ e0, es[k + j - 1]? = some e0 := ⟨_, List.getElem?_eq_getElem (by omega)⟩
            have hcc := hwc e0 he0
            rw [hjn', List.drop_of_length_le (Nat.le_refl _), zyr_, List.append_nil] at hcc
            subst hcc
            have hrr := hr2 (fun h => by rw [h] at hmn; omega)
            subst hrr
            have hmle : (cpt es).length ≤ es.length := by omega
            simp -implicitDefEqProofs [hB2, hf2, zmu_, z0, z1, z5, z6, z7, htw, hlw, hjlt, hH, hwl, hmle, hset]
            have htk : (ws.map SP.v).take (cpt es).length = (cpt es).map SP.v := by rw [← List.map_take, hwo]
            rw [htk]
            refine ⟨?_, ?_⟩
            · have h1 := zyl_ ((cpt es).map SP.v) (List.replicate (es.length - (cpt es).length) zSP)
              rw [zav_, zym_, Bool.and_self] at h1
              exact h1
            · rw [hf]
              simp -implicitDefEqProofs [zSP]
        · rw [Nat.add_sub_cancel, hek] at hb
          injection hb with hb
          subst hb
          exact hx
      · rw [if_neg hc] at hx
        have hc' : (cmpS e a == 0) = false := by simpa using hc
        simp -implicitDefEqProofs [hB, zmv_, h0, h1, h5, htoL, hlt, hw1, ia1, ia2, ld1, ld2, hE, hc', ar1]
        refine K (k + 1) _ _ (by omega) ⟨?_, rfl, by omega, hlt, fun b hb => ?_⟩
        · simp [h0, h1, hw]
        · rw [Nat.add_sub_cancel, hek] at hb
          injection hb with hb
          subst hb
          rw [hx, zcgt_ hek]
          simp
    · obtain rfl : k = es.length := by omega
      rw [List.drop_of_length_le (Nat.le_refl _), zyr_, List.append_nil, List.take_length] at hx
      have := hr1 hx
      subst this
      simp -implicitDefEqProofs [hB, hf, zmv_, h0, h1, h5, htoL, hl]
end Go.Proofs.Sl
namespace Go.Proofs.Sl
theorem zrv_ {n : Nat} {c : Nat → Nat → Int} (hO : Go.Sort.SWO (cmpLt n c)) : (zbc_ n c).Perm (List.range n) ∧ (zbc_ n c).Pairwise fun a b => ¬ c b a < 0 := by
  unfold zbc_
  by_cases h0 : n = 0
  · subst h0; simp
  · rw [if_neg h0]
    have hd : (Array.range n).size = n := by simp
    have hps := Go.Sort.pdq_sorts (cmpLt n c) hO (Array.range n) 0 n (zfk_ n) true true (Nat.zero_le _) (by rw [hd]; exact Nat.le_refl _) (Or.inl rfl)
    generalize Go.Sort.pdq (cmpLt n c) (Array.range n) 0 n (zfk_ n) true true = dd at hps
    obtain ⟨⟨hs1, _, hp⟩, hs2⟩ := hps
    rw [hd] at hs1
    have e1 : (dd.extract 0 n).toList = dd.toList := by
      rw [Array.toList_extract, List.extract_eq_take_drop, List.drop_zero, Nat.sub_zero, List.take_of_length_le (by rw [Array.length_toList, hs1]; exact Nat.le_refl _)]
    have e2 : ((Array.range n).extract 0 n).toList = List.range n := by
      rw [Array.toList_extract, List.extract_eq_take_drop]
      simp
    rw [e1, e2] at hp
    refine ⟨hp, ?_⟩
    have hmem : ∀ i, i < n → dd[i]! < n := fun i hi => by
      have : dd[i]! ∈ dd.toList := by
        rw [getElem!_pos dd i (by omega)]
        exact Array.mem_toList_iff.2 (Array.getElem_mem _)
      exact List.mem_range.1 (hp.mem_iff.1 this)
    rw [List.pairwise_iff_getElem]
    intro i j hi hj hij
    rw [Array.length_toList] at hi hj
    have := hs2 i j (Nat.zero_le _) hij (by omega)
    have h1 := hmem i (by omega)
    have h2 := hmem j (by omega)
    simp only [cmpLt, decide_eq_false_iff_not] at this
    rw [show clampI n dd[j]! = dd[j]! by simp [clampI, h2], show clampI n dd[i]! = dd[i]! by simp [clampI, h1], getElem!_pos dd i (by omega), getElem!_pos dd j (by omega)] at this
    simpa using this
def cI (l : List SP) (i j : Nat) : Int := cmpS (l.getD i SP.z) (l.getD j SP.z)
def srt (l : List SP) : List SP := (zbc_ l.length (cI l)).map fun i => l.getD i SP.z
theorem cI_swo (l : List SP) : Go.Sort.SWO (cmpLt l.length (cI l)) where
  irrefl := fun x => by simp [cmpLt, cI, zbb_.self]
  trans := fun x y z h k => by
    simp only [cmpLt, decide_eq_true_eq] at h k ⊢
    simp only [cI] at h k ⊢
    exact zbb_.lt_of_lt_le h (by omega)
  ntrans := fun x y z h k => by
    simp only [cmpLt, decide_eq_false_iff_not] at h k ⊢
    simp only [cI] at h k ⊢
    generalize l.getD (clampI l.length x) SP.z = a at *
    generalize l.getD (clampI l.length y) SP.z = b at *
    generalize l.getD (clampI l.length z) SP.z = c at *
    have h1 := zbb_.anti a b
    have h2 := zbb_.anti b c
    have h3 := zbb_.anti a c
    have := zbb_.trans c b a (by omega) (by omega)
    omega
theorem zchk_ (l : List SP) : (List.range l.length).map (fun i => l.getD i SP.z) = l := by
  apply List.ext_getElem
  · simp
  · intro i h1 h2
    simp at h1
    simp [h1]
theorem zrw_ (l : List SP) : (srt l).Perm l := by
  have := ((zrv_ (cI_swo l)).1).map fun i => l.getD i SP.z
  rw [zchk_] at this
  exact this
theorem zys_ (l : List SP) : (srt l).Pairwise fun a b => cmpS a b ≤ 0 := by
  have := (zrv_ (cI_swo l)).2
  rw [srt, List.pairwise_map]
  refine this.imp fun {a b} h => ?_
  simp only [cI] at h
  have := zbb_.anti (l.getD a SP.z) (l.getD b SP.z)
  omega
theorem zmy_ (l : List SP) : (srt l).length = l.length := (zrw_ l).length_eq
theorem zrx_ {l : List SP} {a : SP} : a ∈ srt l ↔ a ∈ l := (zrw_ l).mem_iff
theorem zchl_ (l : List SP) : pickEs (l.map SP.v) (zbc_ l.length (cI l)) = (srt l).map SP.v := by
  unfold pickEs srt
  rw [List.map_map]
  apply List.map_congr_left
  intro i hi
  have : i < l.length := List.mem_range.1 ((zrv_ (cI_swo l)).1.mem_iff.1 hi)
  simp [this]
theorem zry_ {f : Nat} {F : XF} {k : NK} (e : XP f = some F) (hk : F.nat = some k) (hq : k ≠ .keep := by intro hh; cases hh) (args : List V) (h : H) : run XP f args h = xnat (run XP) args h k := by
  rw [run_eq, e, zab_]
  unfold xfun
  rw [hk]
  cases k <;> first
    | rfl
    | exact absurd rfl hq
theorem zrz_ : ∀ l : List SP, allAgg (l.map SP.v) = true
  | [] => rfl
  | a :: l => zrz_ l
theorem zchm_ (h : H) (f : V) : run XP zmf_ [vnil, f] h = some (.tup [], h) := by
  rw [zry_ zxo_ rfl]
  rfl
theorem zchn_ {h : H} {l : Nat} {es : List SP} (he : h[l]? = some (.arr false 14 (es.map SP.v))) (hs : ∀ e ∈ es, e.Sm) (hn : es.length ≤ 100000) :
    run XP zmf_ [.ref l es.length, .fn zds_ [] []] h = some (.tup [], h.set l (.arr false 14 ((srt es).map SP.v))) := by
  rw [zry_ zxo_ rfl]
  simp only [xnat]
  rw [zef_]
  refine ⟨es.map SP.v, cI es, he, by simp, by omega, zav_ es, rfl, rfl, ⟨rfl, zrz_ es⟩, ⟨?_, by simpa using cI_swo es⟩, by rw [zchl_]⟩
  intro i j x y hx hy
  rw [List.getElem?_map] at hx hy
  obtain ⟨a, ha, rfl⟩ : ∃ a, es[i]? = some a ∧ a.v = x := by simpa using hx
  obtain ⟨b, hb, rfl⟩ : ∃ a, es[j]? = some a ∧ a.v = y := by simpa using hy
  have := zrs_ [] (hs a (List.mem_of_getElem? ha)).len (hs b (List.mem_of_getElem? hb)).len
  simp only [List.nil_append, List.append_nil]
  rw [this]
  simp [cI, ha, hb]
def LV (v : V) (es : List SP) : Prop := (es = [] ∧ v = vnil) ∨ v = .lst 14 (es.map SP.v)
theorem zcho_ {h : H} {v : V} {es : List SP} (hv : LV v es) (hn : es.length ≤ 100000) : run XP zqn_ [vnil, .fn zbx_ [] [.fptr (.agg [v]) 0]] h = some (if es = [] then vnil else .own 14 (es.map SP.v), h) := by
  rw [zry_ zbwu_ rfl]
  simp only [xnat]
  rcases hv with ⟨rfl, rfl⟩ | rfl
  · rfl
  · show (if _ then _ else _) = _
    rw [if_pos ⟨rfl, rfl, by simp; omega, zhc_ es, zav_ es, zrz_ es⟩]
    cases es with
    | nil => rfl
    | cons a r => rfl
theorem zchp_ {h : H} {v : V} {es : List SP} (hv : LV v es) (hn : es.length ≤ 100000) : run XP zqm_ [.fn zbx_ [] [.fptr (.agg [v]) 0]] h = some (if es = [] then vnil else .own 14 (es.map SP.v), h) := by
  have h1 := fun h => zcho_ (h := h) hv hn
  have h2 := zav_ es
  rw [run_eq, zbwt_]
  by_cases he : es = []
  · simp -implicitDefEqProofs [zha_, h1, he]
  · simp -implicitDefEqProofs [zha_, h1, he, h2]
theorem zchq_ {h : H} {v : V} {es : List SP} (hv : LV v es) (hs : ∀ e ∈ es, e.Sm) (hn : es.length ≤ 100000) :
    run XP zqj_ [.fn zbx_ [] [.fptr (.agg [v]) 0], .fn zds_ [] []] h = some (if es = [] then vnil else .own 14 ((srt es).map SP.v), h) := by
  have h1 := fun h => zchp_ (h := h) hv hn
  have h2 := zav_ (srt es)
  have h4 := zmy_ es
  rw [run_eq, zbwq_]
  by_cases he : es = []
  · have h3 := fun h => zchm_ h (.fn zds_ [] [])
    simp -implicitDefEqProofs [zgx_, h1, he, h3]
  · have h3 := zchn_ (h := h ++ [.arr false 14 (es.map SP.v)]) (l := h.length) (by simp) hs hn
    simp -implicitDefEqProofs [zgx_, h1, he, h2, h3, h4]
end Go.Proofs.Sl
namespace Go.Proofs.Sl
def nl (es : List SP) : V := if es = [] then vnil else .lst 14 (es.map SP.v)
theorem nl_LV (es : List SP) : LV (nl es) es := by
  unfold nl
  split
  · rename_i h; exact .inl ⟨h, rfl⟩
  · exact .inr rfl
theorem LV.rd {v : V} {es : List SP} (l : LV v es) (h : H) : Rd h 14 v (es.map SP.v) := by
  rcases l with ⟨rfl, rfl⟩ | rfl
  · exact .nil
  · exact .lst _
theorem zchr_ {es : List SP} : cpt es = [] ↔ es = [] := by cases es <;> simp [cpt]
theorem zsa_ : ∀ (r : List SP) (a : SP), (cptA a r).Sublist r
  | [], a => List.Sublist.slnil
  | b :: r, a => by
    rw [cptA]
    split
    · exact (zsa_ r b).cons b
    · exact (zsa_ r b).cons_cons b
theorem zyt_ : ∀ es : List SP, (cpt es).Sublist es
  | [] => List.Sublist.slnil
  | a :: r => (zsa_ r a).cons_cons a
def dst (es : List SP) : List SP := cpt (srt es)
theorem zyu_ {es : List SP} : dst es = [] ↔ es = [] := by
  unfold dst
  rw [zchr_]
  constructor
  · intro h
    have := zmy_ es
    rw [h] at this
    exact List.eq_nil_of_length_eq_zero this.symm
  · rintro rfl
    rfl
theorem zmz_ {es : List SP} {a : SP} (h : a ∈ dst es) : a ∈ es := zrx_.1 ((zyt_ _).subset h)
theorem zsb_ (es : List SP) : (dst es).length ≤ es.length := by
  have := (zyt_ (srt es)).length_le
  rw [zmy_] at this
  exact this
theorem zna_ {h : H} {v : V} {es : List SP} (hv : LV v es) : run XP zdw_ [v] h = some (.fn zbx_ [] [.fptr (.agg [v]) 0], h) := by
  rw [run_eq, zxn_]
  rcases hv with ⟨rfl, rfl⟩ | rfl <;> simp -implicitDefEqProofs [zgy_, V.closed]
theorem zyv_ {h : H} {l : Nat} {z : Bool} {es : List SP} (he : h[l]? = some (.arr z 14 (es.map SP.v))) :
    run XP zdw_ [.ref l es.length] h = some (.fn zbx_ [] [.fptr (.agg [.lst 14 (es.map SP.v)]) 0], h.set l (.arr true 14 (es.map SP.v))) := by
  have h1 := zav_ es
  rw [run_eq, zxn_]
  have hl : (h.set l (O.arr true 14 (es.map SP.v))).length = h.length := by simp
  simp -implicitDefEqProofs [zgy_, V.closed, he, h1]
theorem zchs_ (h : H) : run XP zhz_ [vnil, .fn zdt_ [] []] h = some (vnil, h) := by
  rw [run_eq, zrk_]
  simp -implicitDefEqProofs [zfd_]
theorem zyw_ {h h2 : H} {v v2 : V} {es : List SP} (hv : LV v2 es) (h1 : arg0 v = some v) (hval : run XP zdw_ [v] h = some (.fn zbx_ [] [.fptr (.agg [v2]) 0], h2)) (hl2 : h2.length = h.length) (hs : ∀ e ∈ es, e.Sm) (hn : es.length ≤ 100000) :
    ∃ R, run XP zly_ [v] h = some (R, h2) ∧ res0 R = nl (dst es) := by
  have hS := fun h => zchq_ (h := h) hv hs hn
  have htk : h2.take h.length = h2 := List.take_of_length_le (by omega)
  by_cases he : es = []
  · subst he
    refine ⟨vnil, ?_, by rw [show dst [] = [] from rfl]; rfl⟩
    have hC := zchs_
    rw [run_eq, zrj_]
    simp -implicitDefEqProofs [zey_, h1, hval, hS, hC, htk]
  · have hlen := zmy_ es
    obtain ⟨r, hr, hc⟩ := zchj_ (h := h2 ++ [.arr false 14 ((srt es).map SP.v)]) (l := h2.length) (es := srt es) (by simp) (fun e he => hs e (zrx_.1 he)) (by omega)
    rw [hlen] at hr hc
    have hd : dst es ≠ [] := fun h => he (zyu_.1 h)
    have hcl := zav_ (srt es)
    have hnl : ¬ h2.length < h.length := by omega
    have htk3 : (h2 ++ [O.arr false 14 ((srt es).map SP.v)]).take h.length = h2 := by rw [← hl2]; simp
    rcases hc with ⟨rfl, hcc⟩ | ⟨o, rfl⟩
    · refine ⟨.own 14 ((srt es).map SP.v), ?_, by rw [nl, if_neg hd]; show V.lst 14 _ = V.lst 14 ((cpt (srt es)).map SP.v); rw [hcc]⟩
      rw [run_eq, zrj_]
      simp -implicitDefEqProofs [zey_, h1, hval, hS, he, hr, htk, htk3, hcl, hlen, hnl]
    · refine ⟨.lst 14 ((dst es).map SP.v), ?_, by rw [nl, if_neg hd]; rfl⟩
      rw [run_eq, zrj_]
      have htk2 : (h2 ++ [o]).take h.length = h2 := by rw [← hl2]; simp
      simp -implicitDefEqProofs [zey_, h1, hval, hS, he, hr, htk2, hcl, hlen, dst]
theorem zcht_ (es : List SP) : ∀ k, selA (fun _ => true) k es = es := by
  induction es with
  | nil => exact fun _ => rfl
  | cons a r ih => intro k; rw [selA, if_pos rfl, ih]
theorem zchu_ (h : H) (k : Nat) : run XP zlz_ [vi k] h = some (vb true, h) := by
  rw [run_eq, zbwi_]
  simp -implicitDefEqProofs [zri_]
theorem nl_res (es : List SP) : res0 (if es = [] then vnil else V.own 14 (es.map SP.v)) = nl es := by
  unfold nl
  split <;> rfl
def ow (es : List SP) : V := if es = [] then vnil else .own 14 (es.map SP.v)
theorem zsc_ (es : List SP) : res0 (ow es) = nl es := nl_res es
theorem zfg_ (es : List SP) : arg0 (nl es) = some (nl es) := by unfold nl; split <;> rfl
theorem nl_ret (b : Nat) (h : H) (es : List SP) (t : List O) : retV b h .v (nl es) t = some (nl es, t) := by unfold nl; split <;> simp
theorem zsd_ (l o : Nat) (es : List SP) : rdCell l o (nl es) = nl es := by unfold nl; split <;> rfl
theorem zchv_ (es : List SP) : (nl es).cells = [nl es] := by unfold nl; split <;> rfl
theorem zyx_ (es : List SP) : res0 (nl es) = nl es := by unfold nl; split <;> rfl
theorem zchw_ (base l : Nat) (h : H) (es : List SP) : stNew base l (nl es) h = some (nl es, h) := by
  unfold nl
  split <;> exact if_pos (.inr (Nat.zero_le _))
theorem zchx_ {h h2 : H} {v v2 : V} {es : List SP} (hv : LV v2 es) (h1 : arg0 v = some v) (hval : run XP zdw_ [v] h = some (.fn zbx_ [] [.fptr (.agg [v2]) 0], h2)) (hl2 : h2.length = h.length) (hs : ∀ e ∈ es, e.Sm) (hn : es.length ≤ 100000) :
    run XP zpx_ [v] h = some (ow (dst es), h2) := by
  obtain ⟨R, hR, hR0⟩ := zyw_ hv h1 hval hl2 hs hn
  have htk : h2.take h.length = h2 := List.take_of_length_le (by omega)
  have hC := zyk_ (h := h2) (v := nl (dst es)) (es := dst es) (fun t => (nl_LV _).rd _) (fun e he => hs e (zmz_ he)) (by have := zsb_ es; omega) (f := zlz_) (b := []) rfl (p := fun _ => true) (fun k t _ => zchu_ _ k)
  rw [zcht_] at hC
  have hcl := zav_ (dst es)
  have hnl : ¬ h2.length < h.length := by omega
  have htk3 : ∀ o : O, (h2 ++ [o]).take h.length = h2 := fun o => by rw [← hl2]; simp
  rw [run_eq, zbvk_, ow]
  by_cases hd : dst es = []
  · rw [if_pos hd] at hC ⊢
    simp -implicitDefEqProofs [zmx_, h1, hR, hR0, zfg_, hC, htk]
  · rw [if_neg hd] at hC ⊢
    simp -implicitDefEqProofs [zmx_, h1, hR, hR0, zfg_, hC, hcl, hnl, htk3]
def winL : List SP → List SP
  | [] => []
  | [a] => [a]
  | a :: b :: r => if a.tr = b.tr ∧ a.id = b.id then winL (b :: r) else a :: winL (b :: r)
def pW (D : List SP) (k : Nat) : Bool := k + 1 == D.length || !((D.getD (k + 1) SP.z).tr == (D.getD k SP.z).tr && (D.getD (k + 1) SP.z).id == (D.getD k SP.z).id)
theorem zse_ (D : List SP) : ∀ (r : List SP) (k : Nat), D.drop k = r → selA (pW D) k r = winL r
  | [], k, _ => rfl
  | [a], k, h => by
    have hk : k + 1 = D.length := by
      have := congrArg List.length h
      rw [List.length_drop] at this
      simp at this
      omega
    simp [selA, pW, hk, winL]
  | a :: b :: r, k, h => by
    have h1 : D.drop (k + 1) = b :: r := by rw [← List.tail_drop, h]; rfl
    have e1 : D.getD k SP.z = a := by
      have := congrArg (fun l => l[0]?) h
      simp at this
      simp [this]
    have e2 : D.getD (k + 1) SP.z = b := by
      have := congrArg (fun l => l[0]?) h1
      simp at this
      simp [this]
    have hk : ¬ k + 1 = D.length := by
      intro hk
      rw [List.drop_of_length_le (by omega)] at h1
      cases h1
    rw [selA, zse_ D (b :: r) (k + 1) h1, winL]
    have hp : pW D k = !(b.tr == a.tr && b.id == a.id) := by simp only [pW, e1, e2]; simp [hk]
    rw [hp]
    by_cases hc : a.tr = b.tr ∧ a.id = b.id
    · rw [if_pos hc, if_neg (by simp [hc.1, hc.2])]
    · rw [if_neg hc, if_pos]
      simp only [Bool.not_eq_true', Bool.and_eq_false_iff, beq_eq_false_iff_ne]
      by_cases h1 : a.tr = b.tr
      · exact .inr fun h2 => hc ⟨h1, h2.symm⟩
      · exact .inl fun h2 => h1 h2.symm
theorem nl_at {D : List SP} {k : Nat} {a : SP} (ha : D[k]? = some a) (h : H) : iaddrV h 14 (nl D) k = some (.fptr a.v 0) := by
  have : D ≠ [] := by rintro rfl; simp at ha
  rw [nl, if_neg this]
  have h2 : (D.map SP.v)[k]? = some a.v := by rw [List.getElem?_map, ha]; rfl
  rw [zpf_, if_pos rfl, h2, zab_]
theorem zchy_ {h : H} {l : Nat} {z : Bool} {D : List SP} (hl : h[l]? = some (.box z [nl D])) {k : Nat} (hk : k < D.length) (hn : D.length ≤ 100000) : run XP zma_ [vi k, .ptr l 0] h = some (vb (pW D k), h) := by
  have hw : IntKind.i64.wrap ((k : Int) + 1) = (k : Int) + 1 := zaq_ (by omega) (by omega)
  have hL := ((nl_LV D).rd h).toL
  have h0k : (0 : Int) ≤ (k : Int) + 1 := by omega
  obtain ⟨a, ha⟩ : ∃ a, D[k]? = some a := ⟨_, List.getElem?_eq_getElem hk⟩
  have i1 := nl_at ha h
  have d1 : D.getD k SP.z = a := by simp [ha]
  rw [run_eq, zbwj_]
  by_cases hk1 : k + 1 = D.length
  · have hb : ((k : Int) + 1 == (D.length : Int)) = true := by rw [← hk1]; simp
    have hp : pW D k = true := by simp [pW, hk1]
    simp -implicitDefEqProofs [zgq_, hl, zsd_, hw, hL, hb, hp, zan_, optEq]
  · have hb : ((k : Int) + 1 == (D.length : Int)) = false := by simp; omega
    obtain ⟨b, hb2⟩ : ∃ b, D[k + 1]? = some b := ⟨_, List.getElem?_eq_getElem (by omega)⟩
    have i2 := nl_at hb2 h
    have d2 : D.getD (k + 1) SP.z = b := by simp [hb2]
    have r1 := fun h => zrt_ h a
    have r2 := fun h => zrt_ h b
    have hp : pW D k = !(b.tr == a.tr && b.id == a.id) := by simp only [pW, d1, d2]; simp [hk1]
    simp only [SP.v, RF.v] at r1 r2 i1 i2
    rw [hp]
    simp -implicitDefEqProofs [zgq_, hl, zsd_, hw, hL, hb, zan_, optEq, i1, i2, r1, r2, h0k]
def wns (es : List SP) : List SP := winL (dst es)
theorem znb_ {h h2 : H} {v v2 : V} {es : List SP} (hv : LV v2 es) (h1 : arg0 v = some v) (hval : run XP zdw_ [v] h = some (.fn zbx_ [] [.fptr (.agg [v2]) 0], h2)) (hl2 : h2.length = h.length) (hs : ∀ e ∈ es, e.Sm) (hn : es.length ≤ 100000) :
    run XP zdu_ [v] h = some (nl (wns es), h2) := by
  obtain ⟨R, hR, hR0⟩ := zyw_ hv h1 hval hl2 hs hn
  have htk : h2.take h.length = h2 := List.take_of_length_le (by omega)
  have hdl := zsb_ es
  have hC := zyk_ (h := h2 ++ [.box false [nl (dst es)]]) (v := nl (dst es)) (es := dst es) (fun t => (nl_LV _).rd _) (fun e he => hs e (zmz_ he)) (by omega) (f := zma_) (b := [.ptr h2.length 0]) rfl (p := pW (dst es))
    (fun k t hk => zchy_ (z := false) (by rw [List.append_assoc, zgb_]; rfl) hk (by omega))
  rw [zse_ (dst es) (dst es) 0 rfl] at hC
  have hh : h2.length = h.length := hl2
  rw [run_eq, zbvm_]
  have htk2 : ∀ x : O, (h2 ++ [x]).take h.length = h2 := fun x => by rw [← hl2]; simp
  simp -implicitDefEqProofs [zim_, h1, hR, hR0, zfg_, zchv_, zchw_, zsd_, hC, nl_res, nl_ret, htk2, wns]
end Go.Proofs.Sl
namespace Go.Proofs.Sl
def wthn (lo hi : Int) : List UInt8 → Bool
  | [] => true
  | b :: l => if (b.toNat : Int) < lo ∨ hi < (b.toNat : Int) then false else wthn lo hi l
theorem zchz_ {s : ByteArray} {k : Nat} {c : UInt8} (h : (bts s)[k]? = some c) : s.data[k]? = some c := by simpa [bts] using h
theorem zyy_ (h : H) (s : ByteArray) (lo hi : Int) (hs : s.size ≤ 9223372036854775807) : run XP zlw_ [vs s, vk .u8 lo, vk .u8 hi] h = some (vb (wthn lo hi (bts s)), h) := by
  have hlen := zcgm_ s
  rw [run_eq, zbwf_]
  simp -implicitDefEqProofs [zjq_]
  refine zaw_ (bts s) (fun k s' h' => Sees s' [(0, vs s), (1, vk .u8 lo), (2, vk .u8 hi), (9, vi s.size), (10, vi k)] ∧ h' = h ∧ wthn lo hi (bts s) = wthn lo hi ((bts s).drop k)) ?_ ?_ _ _ ⟨by simp, rfl, rfl⟩
  · rintro B f hB hf k c s' h' he hk ⟨⟨h0, h1, h2, h9, h10, -⟩, rfl, hx⟩ K
    have hlt : (k : Int) < s.size := by omega
    have hw : IntKind.i64.wrap ((k : Int) + 1) = (k : Int) + 1 := zaq_ (by omega) (by omega)
    have hd := zchz_ he
    rw [zbh_ he, wthn] at hx
    by_cases c1 : (c.toNat : Int) < lo
    · rw [if_pos (.inl c1)] at hx
      simp -implicitDefEqProofs [hB, hf, zjp_, h0, h1, h2, h9, h10, hlt, hd, c1, hx]
    · by_cases c2 : hi < (c.toNat : Int)
      · rw [if_pos (.inr c2)] at hx
        simp -implicitDefEqProofs [hB, hf, zjp_, h0, h1, h2, h9, h10, hlt, hd, c1, c2, hx]
      · rw [if_neg (by omega)] at hx
        simp -implicitDefEqProofs [hB, zjp_, h0, h1, h2, h9, h10, hlt, hd, c1, c2]
        refine K _ _ ⟨?_, rfl, hx⟩
        simp [h0, h1, h2, h9, hw]
  · rintro B hB s' h' ⟨⟨h0, h1, h2, h9, h10, -⟩, rfl, hx⟩
    rw [hlen] at h10
    rw [hlen, List.drop_of_length_le (by omega), wthn] at hx
    simp -implicitDefEqProofs [hB, zjp_, h0, h1, h2, h9, h10, hx]
def eS : ByteArray := ⟨#[]⟩
def isNm (s : ByteArray) : Bool := !(decide (s = eS)) && (decide (s.size ≤ 64) && wthn 33 126 (bts s))
theorem isE (s : ByteArray) : s.toList.isEmpty = decide (s = eS) := by
  have := bl_eq (a := s) (b := eS)
  rw [← this]
  have h : eS.toList = [] := by rw [ByteArray.toList_eq]; rfl
  rw [h]
  cases s.toList <;> rfl
theorem znc_ (h : H) (s : ByteArray) (hs : s.size ≤ 9223372036854775807) : run XP zgh_ [vs s] h = some (vb (isNm s), h) := by
  have h1 := fun h => zyy_ h s 33 126 hs
  have h2 := isE s
  rw [run_eq, zbvp_]
  unfold isNm
  by_cases c1 : s = eS
  · have h3 : s.toList.isEmpty = true := by rw [h2]; simp [c1]
    rw [show decide (s = eS) = true by simp [c1]]
    simp only [Bool.not_true, Bool.false_and]
    simp -implicitDefEqProofs [zfa_, h3]
  · have h3 : s.toList.isEmpty = false := by rw [h2]; simp [c1]
    rw [show decide (s = eS) = false by simp [c1]]
    simp only [Bool.not_false, Bool.true_and]
    by_cases c2 : s.size ≤ 64
    · have c2' : (s.size : Int) ≤ 64 := by omega
      simp -implicitDefEqProofs [zfa_, h3, c2, c2', h1]
    · have c2' : ¬ (s.size : Int) ≤ 64 := by omega
      simp -implicitDefEqProofs [zfa_, h3, c2, c2']
def fin5 (sz : Nat) (ok : Bool) : Int := if 4096 < sz then 5 else if ok = true then 0 else 3
def okV (k : Int) (t : ByteArray) (n : Int) : Bool := if k = 1 then wthn 32 126 (bts t) && decide (n = 0) else if k = 2 then decide (t = eS) && (decide (-1099511627776 ≤ n) && decide (n ≤ 1099511627776)) else decide (t = eS) && (decide (n = 0) || decide (n = 1))
def chkV (v : AV) : Int := if v.k = 1 ∨ v.k = 2 ∨ v.k = 3 then fin5 v.t.size (okV v.k v.t v.n) else 12
theorem zcia_ (h : H) (v : AV) (hs : v.t.size ≤ 9223372036854775807) : run XP zpt_ [v.v] h = some (vi (chkV v), h) := by
  obtain ⟨k, t, n⟩ := v
  simp only at hs
  have h1 := fun h => zyy_ h t 32 126 hs
  rw [run_eq, zbve_]
  by_cases hl : 4096 < t.size
  · have hl' : (4096 : Int) < t.size := by omega
    by_cases k1 : k = 1
    · cases hw : wthn 32 126 (bts t)
      · simp -implicitDefEqProofs [zas_, AV.v, h1, chkV, fin5, okV, hl, hl', k1, hw]
      · by_cases n0 : n = 0
        · simp -implicitDefEqProofs [zas_, AV.v, h1, chkV, fin5, okV, hl, hl', k1, hw, n0]
        · have n0' : (n == 0) = false := by simpa using n0
          simp -implicitDefEqProofs [zas_, AV.v, h1, chkV, fin5, okV, hl, hl', k1, hw, n0, n0']
    · have k1' : (k == 1) = false := by simpa using k1
      by_cases k2 : k = 2
      · by_cases te : t = eS
        · have te' : t.toList.isEmpty = true := by rw [isE]; simp [te]
          have teP : t = eS ↔ True := iff_true_intro te
          by_cases n1 : -1099511627776 ≤ n
          · by_cases n2 : n ≤ 1099511627776
            · simp -implicitDefEqProofs [zas_, AV.v, h1, chkV, fin5, okV, hl, hl', k1, k1', k2, te', teP, n1, n2]
            · simp -implicitDefEqProofs [zas_, AV.v, h1, chkV, fin5, okV, hl, hl', k1, k1', k2, te', teP, n1, n2]
          · simp -implicitDefEqProofs [zas_, AV.v, h1, chkV, fin5, okV, hl, hl', k1, k1', k2, te', teP, n1]
        · have te' : t.toList.isEmpty = false := by rw [isE]; simp [te]
          have teP : t = eS ↔ False := iff_false_intro te
          simp -implicitDefEqProofs [zas_, AV.v, h1, chkV, fin5, okV, hl, hl', k1, k1', k2, te', teP]
      · have k2' : (k == 2) = false := by simpa using k2
        by_cases k3 : k = 3
        · by_cases te : t = eS
          · have te' : t.toList.isEmpty = true := by rw [isE]; simp [te]
            have teP : t = eS ↔ True := iff_true_intro te
            by_cases n0 : n = 0
            · simp -implicitDefEqProofs [zas_, AV.v, h1, chkV, fin5, okV, hl, hl', k1, k1', k2, k2', k3, te', teP, n0]
            · have n0' : (n == 0) = false := by simpa using n0
              by_cases n1 : n = 1
              · simp -implicitDefEqProofs [zas_, AV.v, h1, chkV, fin5, okV, hl, hl', k1, k1', k2, k2', k3, te', teP, n0, n0', n1]
              · have n1' : (n == 1) = false := by simpa using n1
                simp -implicitDefEqProofs [zas_, AV.v, h1, chkV, fin5, okV, hl, hl', k1, k1', k2, k2', k3, te', teP, n0, n0', n1, n1']
          · have te' : t.toList.isEmpty = false := by rw [isE]; simp [te]
            have teP : t = eS ↔ False := iff_false_intro te
            simp -implicitDefEqProofs [zas_, AV.v, h1, chkV, fin5, okV, hl, hl', k1, k1', k2, k2', k3, te', teP]
        · have k3' : (k == 3) = false := by simpa using k3
          simp -implicitDefEqProofs [zas_, AV.v, h1, chkV, fin5, okV, hl, hl', k1, k1', k2, k2', k3, k3']
  · have hl' : ¬ ((4096 : Int) < t.size) := by omega
    by_cases k1 : k = 1
    · cases hw : wthn 32 126 (bts t)
      · simp -implicitDefEqProofs [zas_, AV.v, h1, chkV, fin5, okV, hl, hl', k1, hw]
      · by_cases n0 : n = 0
        · simp -implicitDefEqProofs [zas_, AV.v, h1, chkV, fin5, okV, hl, hl', k1, hw, n0]
        · have n0' : (n == 0) = false := by simpa using n0
          simp -implicitDefEqProofs [zas_, AV.v, h1, chkV, fin5, okV, hl, hl', k1, hw, n0, n0']
    · have k1' : (k == 1) = false := by simpa using k1
      by_cases k2 : k = 2
      · by_cases te : t = eS
        · have te' : t.toList.isEmpty = true := by rw [isE]; simp [te]
          have teP : t = eS ↔ True := iff_true_intro te
          by_cases n1 : -1099511627776 ≤ n
          · by_cases n2 : n ≤ 1099511627776
            · simp -implicitDefEqProofs [zas_, AV.v, h1, chkV, fin5, okV, hl, hl', k1, k1', k2, te', teP, n1, n2]
            · simp -implicitDefEqProofs [zas_, AV.v, h1, chkV, fin5, okV, hl, hl', k1, k1', k2, te', teP, n1, n2]
          · simp -implicitDefEqProofs [zas_, AV.v, h1, chkV, fin5, okV, hl, hl', k1, k1', k2, te', teP, n1]
        · have te' : t.toList.isEmpty = false := by rw [isE]; simp [te]
          have teP : t = eS ↔ False := iff_false_intro te
          simp -implicitDefEqProofs [zas_, AV.v, h1, chkV, fin5, okV, hl, hl', k1, k1', k2, te', teP]
      · have k2' : (k == 2) = false := by simpa using k2
        by_cases k3 : k = 3
        · by_cases te : t = eS
          · have te' : t.toList.isEmpty = true := by rw [isE]; simp [te]
            have teP : t = eS ↔ True := iff_true_intro te
            by_cases n0 : n = 0
            · simp -implicitDefEqProofs [zas_, AV.v, h1, chkV, fin5, okV, hl, hl', k1, k1', k2, k2', k3, te', teP, n0]
            · have n0' : (n == 0) = false := by simpa using n0
              by_cases n1 : n = 1
              · simp -implicitDefEqProofs [zas_, AV.v, h1, chkV, fin5, okV, hl, hl', k1, k1', k2, k2', k3, te', teP, n0, n0', n1]
              · have n1' : (n == 1) = false := by simpa using n1
                simp -implicitDefEqProofs [zas_, AV.v, h1, chkV, fin5, okV, hl, hl', k1, k1', k2, k2', k3, te', teP, n0, n0', n1, n1']
          · have te' : t.toList.isEmpty = false := by rw [isE]; simp [te]
            have teP : t = eS ↔ False := iff_false_intro te
            simp -implicitDefEqProofs [zas_, AV.v, h1, chkV, fin5, okV, hl, hl', k1, k1', k2, k2', k3, te', teP]
        · have k3' : (k == 3) = false := by simpa using k3
          simp -implicitDefEqProofs [zas_, AV.v, h1, chkV, fin5, okV, hl, hl', k1, k1', k2, k2', k3, k3']
end Go.Proofs.Sl
namespace Go.Proofs.Sl
theorem zcib_ (h : H) (ns : List Int) (hl : ns.length ≤ 10000) : run XP zqa_ [.lst 1 (il ns)] h = some (vi (orl ns), h) := by
  have hv : Rd h 1 (.lst 1 (il ns)) (il ns) := .lst _
  rw [run_eq, zbvq_]
  simp -implicitDefEqProofs [zjd_, zby_]
  refine zaw_ ns (fun k s h' => Sees s [(3, vi 0), (6, .lst 1 (il ns)), (7, vi ns.length), (8, vi k)] ∧ h' = h ∧ orl ns = orl (ns.drop k)) ?_ ?_ _ _ ⟨by simp, rfl, rfl⟩
  · rintro B f hB hf k e s h' he hk ⟨⟨h3, h6, h7, h8, -⟩, rfl, hx⟩ K
    obtain ⟨p, hp, hld⟩ := hv.at1 (il_at he) rfl
    have hlt : (k : Int) < ns.length := by omega
    rw [zbh_ he, orl] at hx
    by_cases h0 : e = 0
    · rw [if_neg (by simpa using h0)] at hx
      simp -implicitDefEqProofs [hB, zmq_, h3, h6, h7, h8, hlt, hp, hld, h0]
      refine K _ _ ⟨?_, rfl, hx⟩
      simp [h3, h6, h7, zct_ (by omega : k < 100000000000)]
    · rw [if_pos h0] at hx
      have h0' : (e != 0) = true := by simpa using h0
      simp -implicitDefEqProofs [hB, hf, zmq_, h3, h6, h7, h8, hlt, hp, hld, h0', hx]
  · rintro B hB s h' ⟨⟨h3, h6, h7, h8, -⟩, rfl, hx⟩
    simp -implicitDefEqProofs [hB, zmq_, h3, h7, h8, hx, orl]
def rngd (n lo hi : Int) : Bool := decide (lo ≤ n) && decide (n ≤ hi)
theorem znd_ (h : H) (n : Int) : run XP zgg_ [vi n] h = some (vb (!rngd n 1 1099511627776), h) := by
  rw [run_eq, zbvo_]
  unfold rngd
  by_cases c1 : 1 ≤ n
  · have c1' : ¬ n < 1 := by omega
    by_cases c2 : n ≤ 1099511627776
    · have c2' : ¬ 1099511627776 < n := by omega
      simp -implicitDefEqProofs [zez_, c1, c2, c1', c2']
    · have c2' : 1099511627776 < n := by omega
      simp -implicitDefEqProofs [zez_, c1, c2, c1', c2']
  · have c1' : n < 1 := by omega
    simp -implicitDefEqProofs [zez_, c1, c1']
def leqT (a b : ByteArray) : Bool := Op.bytesLess a.toList b.toList || a.toList == b.toList
def chkAs : Option AT → List AT → Int
  | _, [] => 0
  | p, a :: r => if isNm a.key = false then 11 else if (match p with
      | none => false
      | some q => leqT a.key q.key) = true then 8 else if chkV a.val ≠ 0 then chkV a.val else chkAs (some a) r
theorem zcic_ (p : Option AT) : chkAs p [] = 0 := by rw [chkAs]
theorem zcid_ (p : Option AT) (a : AT) (r : List AT) : chkAs p (a :: r) = if isNm a.key = false then 11 else if (match p with
      | none => false
      | some q => leqT a.key q.key) = true then 8 else if chkV a.val ≠ 0 then chkV a.val else chkAs (some a) r := by cases p <;> rfl
def chkAL (l : List AT) : Int := if 32 < l.length then 6 else chkAs none l
def prevA {α : Type} (l : List α) (k : Nat) : Option α := if k = 0 then none else l[k - 1]?
theorem zne_ {α : Type} {l : List α} {k : Nat} {a : α} (h : l[k]? = some a) : prevA l (k + 1) = some a := by simp [prevA, h]
structure AT.Sz (a : AT) : Prop where
  key : a.key.size ≤ 9223372036854775807
  t : a.val.t.size ≤ 9223372036854775807
theorem zfh_ {α : Type} {f : α → V} {l : List α} {n : Bool} (hn : n = true → l = []) {i : Nat} {a : α} (ha : l[i]? = some a) (h : H) (k : Nat) : iaddrV h k (lv k (slc f l n)) i = some (.fptr (f a) 0) := by
  cases n with
  | true => rw [hn rfl] at ha; simp at ha
  | false =>
    show iaddrV h k (.lst k (l.map f)) i = _
    have : (l.map f)[i]? = some (f a) := by rw [List.getElem?_map, ha]; rfl
    rw [zpf_, if_pos rfl, this, zab_]
theorem zcie_ {h : H} {l : List AT} {n : Bool} (hn : n = true → l = []) (hs : ∀ a ∈ l, a.Sz) : run XP zqb_ [lv 4 (slc AT.v l n)] h = some (vi (chkAL l), h) := by
  have hv := fun h => rd_slc h 4 AT.v hn
  obtain ⟨v, hvv⟩ : ∃ v, v = lv 4 (slc AT.v l n) := ⟨_, rfl⟩
  rw [← hvv] at hv ⊢
  rw [run_eq, zbvr_]
  by_cases hl : 32 < l.length
  · have hl' : (32 : Int) < l.length := by omega
    simp -implicitDefEqProofs [zgr_, (hv _).toL, hl, hl', chkAL]
  · have hl' : ¬ (32 : Int) < l.length := by omega
    rw [chkAL, if_neg hl]
    simp -implicitDefEqProofs [zgr_, (hv _).toL, hl, hl']
    refine zaw_ l (fun k s h' => Sees s [(0, v), (9, v), (10, vi l.length), (11, vi k)] ∧ (∃ t, h' = h ++ t) ∧ chkAs none l = chkAs (prevA l k) (l.drop k)) ?_ ?_ _ _ ⟨by simp, ⟨[], by simp⟩, rfl⟩
    · rintro B f hB hf k e s h' he hk ⟨⟨h0, h9, h10, h11, -⟩, ⟨t, rfl⟩, hx⟩ K
      have hlt : (k : Int) < l.length := by omega
      obtain ⟨p, hp, hld⟩ := (hv (h ++ t)).at (i := k) (e := e.v) (by simp [he])
      have hw : IntKind.i64.wrap ((k : Int) + 1) = (k : Int) + 1 := zaq_ (by omega) (by omega)
      have hsz := hs e (List.mem_of_getElem? he)
      have hN := fun h => znc_ h e.key hsz.key
      have hV := fun h => zcia_ h e.val hsz.t
      simp only [AT.v, AV.v, V.cells] at hld hV
      rw [zbh_ he, zcid_] at hx
      cases hnm : isNm e.key with
      | false =>
        rw [if_pos hnm] at hx
        simp -implicitDefEqProofs [hB, hf, zdy_, h0, h9, h10, h11, hlt, hp, hld, hN, hnm, hx]
      | true =>
        rw [if_neg (by simp [hnm])] at hx
        by_cases hk0 : k = 0
        · subst hk0
          simp only [prevA, if_true, Bool.false_eq_true, if_false] at hx
          by_cases hz : chkV e.val = 0
          · rw [if_neg (by simpa using hz)] at hx
            simp -implicitDefEqProofs [hB, zdy_, h0, h9, h10, h11, hk, hp, hld, hN, hnm, hV, hz]
            refine K _ _ ⟨?_, ⟨_, rfl⟩, by rw [zne_ he]; exact hx⟩
            simpa [h0, h9, h10] using hw
          · rw [if_pos hz] at hx
            have hz' : (chkV e.val != 0) = true := by simpa using hz
            simp -implicitDefEqProofs [hB, hf, zdy_, h0, h9, h10, h11, hk, hp, hld, hN, hnm, hV, hz', hx]
        · obtain ⟨q, hq⟩ : ∃ q, l[k - 1]? = some q := ⟨_, List.getElem?_eq_getElem (by omega)⟩
          have hp2 := zfh_ (f := AT.v) hn hq (h ++ (t ++ [.box false e.v.cells])) 4
          rw [← hvv] at hp2
          have hw1 : IntKind.i64.wrap ((k : Int) - 1) = ((k - 1 : Nat) : Int) := by rw [zaq_ (by omega) (by omega)]; omega
          have hk0' : (0 : Int) < k := by omega
          have hk0n : 0 < k := by omega
          simp only [AT.v, V.cells] at hp2
          have hpv : prevA l k = some q := by simp [prevA, hk0, hq]
          rw [hpv] at hx
          replace hx : chkAs none l = if leqT e.key q.key = true then 8 else if chkV e.val ≠ 0 then chkV e.val else chkAs (some e) (l.drop (k + 1)) := hx
          cases hle0 : leqT e.key q.key with
          | true =>
            rw [if_pos hle0] at hx
            have hle : (Op.bytesLess e.key.toList q.key.toList || e.key.toList == q.key.toList) = true := hle0
            simp -implicitDefEqProofs [hB, hf, zdy_, h0, h9, h10, h11, hlt, hp, hld, hN, hnm, hk0', hk0n, hw1, hp2, hle, hx]
          | false =>
            rw [if_neg (by simp [hle0])] at hx
            have hle : (Op.bytesLess e.key.toList q.key.toList || e.key.toList == q.key.toList) = false := hle0
            by_cases hz : chkV e.val = 0
            · rw [if_neg (by simpa using hz)] at hx
              simp -implicitDefEqProofs [hB, zdy_, h0, h9, h10, h11, hlt, hp, hld, hN, hnm, hk0', hk0n, hw1, hp2, hle, hV, hz]
              refine K _ _ ⟨?_, ⟨_, rfl⟩, by rw [zne_ he]; exact hx⟩
              simp [h0, h9, h10, hw]
            · rw [if_pos hz] at hx
              have hz' : (chkV e.val != 0) = true := by simpa using hz
              simp -implicitDefEqProofs [hB, hf, zdy_, h0, h9, h10, h11, hlt, hp, hld, hN, hnm, hk0', hk0n, hw1, hp2, hle, hV, hz', hx]
    · rintro B hB s h' ⟨⟨h0, h9, h10, h11, -⟩, ⟨t, rfl⟩, hx⟩
      rw [List.drop_of_length_le (Nat.le_refl _), zcic_] at hx
      simp -implicitDefEqProofs [hB, zdy_, h0, h9, h10, h11, hx]
def okR (r : RF) : Bool := rngd r.t 1 1099511627776 && rngd r.i 1 1099511627776
def chkLs : Option RF → List RF → Int
  | _, [] => 0
  | p, r :: l => if okR r = false then 2 else if (match p with
      | none => false
      | some q => decide (0 ≤ cmpR q r)) = true then 8 else chkLs (some r) l
theorem zcif_ (p : Option RF) : chkLs p [] = 0 := by rw [chkLs]
theorem zcig_ (p : Option RF) (r : RF) (l : List RF) : chkLs p (r :: l) = if okR r = false then 2 else if (match p with
      | none => false
      | some q => decide (0 ≤ cmpR q r)) = true then 8 else chkLs (some r) l := by cases p <;> rfl
def chkLL (l : List RF) : Int := if 16 < l.length then 6 else chkLs none l
theorem zcih_ {h : H} {l : List RF} {n : Bool} (hn : n = true → l = []) : run XP zqc_ [lv 2 (slc RF.v l n)] h = some (vi (chkLL l), h) := by
  have hv := fun h => rd_slc h 2 RF.v hn
  obtain ⟨v, hvv⟩ : ∃ v, v = lv 2 (slc RF.v l n) := ⟨_, rfl⟩
  rw [← hvv] at hv ⊢
  rw [run_eq, zbvs_]
  by_cases hl : 16 < l.length
  · have hl' : (16 : Int) < l.length := by omega
    simp -implicitDefEqProofs [zgs_, (hv _).toL, hl, hl', chkLL]
  · have hl' : ¬ (16 : Int) < l.length := by omega
    rw [chkLL, if_neg hl]
    simp -implicitDefEqProofs [zgs_, (hv _).toL, hl, hl']
    refine zaw_ l (fun k s h' => Sees s [(0, v), (8, v), (9, vi l.length), (10, vi k)] ∧ (∃ t, h' = h ++ t) ∧ chkLs none l = chkLs (prevA l k) (l.drop k)) ?_ ?_ _ _ ⟨by simp, ⟨[], by simp⟩, rfl⟩
    · rintro B f hB hf k e s h' he hk ⟨⟨h0, h8, h9, h10, -⟩, ⟨t, rfl⟩, hx⟩ K
      have hlt : (k : Int) < l.length := by omega
      have hp := zfh_ (f := RF.v) hn he (h ++ t) 2
      rw [← hvv] at hp
      have hw : IntKind.i64.wrap ((k : Int) + 1) = (k : Int) + 1 := zaq_ (by omega) (by omega)
      have b1 := fun h => znd_ h e.t
      have b2 := fun h => znd_ h e.i
      simp only [RF.v] at hp
      rw [zbh_ he, zcig_] at hx
      cases r1 : rngd e.t 1 1099511627776 with
      | false =>
        rw [if_pos (by simp [okR, r1])] at hx
        simp -implicitDefEqProofs [hB, hf, zfb_, h0, h8, h9, h10, hlt, hk, hp, b1, r1, hx]
      | true =>
        cases r2 : rngd e.i 1 1099511627776 with
        | false =>
          rw [if_pos (by simp [okR, r2])] at hx
          simp -implicitDefEqProofs [hB, hf, zfb_, h0, h8, h9, h10, hlt, hk, hp, b1, b2, r1, r2, hx]
        | true =>
          rw [if_neg (by simp [okR, r1, r2])] at hx
          by_cases hk0 : k = 0
          · subst hk0
            simp only [prevA, if_true, Bool.false_eq_true, if_false] at hx
            simp -implicitDefEqProofs [hB, zfb_, h0, h8, h9, h10, hk, hp, b1, b2, r1, r2]
            refine K _ _ ⟨?_, ⟨_, rfl⟩, by rw [zne_ he]; exact hx⟩
            simpa [h0, h8, h9] using hw
          · obtain ⟨q, hq⟩ : ∃ q, l[k - 1]? = some q := ⟨_, List.getElem?_eq_getElem (by omega)⟩
            have hp2 := zfh_ (f := RF.v) hn hq (h ++ (t ++ [.box false e.v.cells])) 2
            rw [← hvv] at hp2
            have hw1 : IntKind.i64.wrap ((k : Int) - 1) = ((k - 1 : Nat) : Int) := by rw [zaq_ (by omega) (by omega)]; omega
            have hk0' : (0 : Int) < k := by omega
            have hk0n : 0 < k := by omega
            have hc := fun h => zyf_ h q e
            simp only [RF.v, V.cells] at hp2 hc
            have hpv : prevA l k = some q := by simp [prevA, hk0, hq]
            rw [hpv] at hx
            replace hx : chkLs none l = if decide (0 ≤ cmpR q e) = true then 8 else chkLs (some e) (l.drop (k + 1)) := hx
            by_cases hle : 0 ≤ cmpR q e
            · rw [if_pos (by simpa using hle)] at hx
              simp -implicitDefEqProofs [hB, hf, zfb_, h0, h8, h9, h10, hlt, hk, hp, b1, b2, r1, r2, hk0', hk0n, hw1, hp2, hc, hle, hx]
            · rw [if_neg (by simpa using hle)] at hx
              simp -implicitDefEqProofs [hB, zfb_, h0, h8, h9, h10, hlt, hk, hp, b1, b2, r1, r2, hk0', hk0n, hw1, hp2, hc, hle]
              refine K _ _ ⟨?_, ⟨_, rfl⟩, by rw [zne_ he]; exact hx⟩
              simp [h0, h8, h9, hw]
    · rintro B hB s h' ⟨⟨h0, h8, h9, h10, -⟩, ⟨t, rfl⟩, hx⟩
      rw [List.drop_of_length_le (Nat.le_refl _), zcif_] at hx
      simp -implicitDefEqProofs [hB, zfb_, h0, h8, h9, h10, hx]
end Go.Proofs.Sl
namespace Go.Proofs.Sl
theorem zdz_ {n lo hi : Int} : rngd n lo hi = true ↔ lo ≤ n ∧ n ≤ hi := by simp [rngd]
def chkSp (a : SP) : Int :=
  if (rngd a.tr 1 1099511627776 && (rngd a.id 1 1099511627776 && (rngd a.par 0 1099511627776 && (rngd a.rev 0 1048576 && rngd a.clk 1 1048576)))) = false then 2
  else if rngd a.kind 1 5 = false then 12
  else if (isNm a.sv && (isNm a.op && (decide (a.vr = eS) || isNm a.vr))) = false then 11
  else if (rngd a.st (-1099511627776) 1099511627776 && rngd a.en (-1099511627776) 1099511627776) = false then 32
  else if a.en < a.st then 8
  else if 1099511627776 < a.en - a.st then 32
  else orl [chkAL a.ats, chkLL a.lks]
structure SP.Sz (a : SP) : Prop where
  sv : a.sv.size ≤ 9223372036854775807
  vr : a.vr.size ≤ 9223372036854775807
  op : a.op.size ≤ 9223372036854775807
  ats : ∀ e ∈ a.ats, e.Sz
  an : a.an = true → a.ats = []
  ln : a.ln = true → a.lks = []
theorem vcase (vr : ByteArray) (h : (decide (vr = eS) || isNm vr) = true) : (vr.toList.isEmpty = true ∧ True) ∨ (vr.toList.isEmpty = false ∧ isNm vr = true) := by
  by_cases e : vr = eS
  · exact .inl ⟨by rw [isE]; simp [e], trivial⟩
  · exact .inr ⟨by rw [isE]; simp [e], by simpa [e] using h⟩
theorem zcii_ (h : H) {a : SP} (ha : a.Sz) : run XP zhv_ [a.v] h = some (vi (chkSp a), h) := by
  obtain ⟨q1, q2, q3, q4, q5, q6⟩ := ha
  obtain ⟨tr, id, par, rev, clk, kind, sv, vr, op, st, en, er, ats, lks, an, ln⟩ := a
  simp only at q1 q2 q3 q4 q5 q6
  have i1 := fun h => znc_ h sv q1
  have i2 := fun h => znc_ h vr q2
  have i3 := fun h => znc_ h op q3
  have ca := fun h => zcie_ (h := h) q5 q4
  have aa := (rd_slc h 4 AT.v q5).arg0
  have ab := (rd_slc h 2 RF.v q6).arg0
  have b1 := fun h => znd_ h tr
  have b2 := fun h => znd_ h id
  have cl := fun h => zcih_ (h := h) q6
  have co := fun h => zcib_ h [chkAL ats, chkLL lks] (by simp)
  simp only [il, List.map_cons, List.map_nil] at co
  rw [run_eq]
  cases r_tr : rngd tr 1 1099511627776
  · (rw [zbd_]; simp -implicitDefEqProofs [zau_, SP.v, chkSp, i1, i2, i3, b1, b2, r_tr])
  ·
    cases r_id : rngd id 1 1099511627776
    · (rw [zbd_]; simp -implicitDefEqProofs [zau_, SP.v, chkSp, i1, i2, i3, b1, b2, r_tr, r_id])
    ·
      by_cases c_par : par < 0
      · have r_par : rngd par 0 1099511627776 = false := by simp [rngd]; omega
        (rw [zbd_]; simp -implicitDefEqProofs [zau_, SP.v, chkSp, i1, i2, i3, b1, b2, r_tr, r_id, c_par, r_par])
      ·
        by_cases d_par : 1099511627776 < par
        · have r_par : rngd par 0 1099511627776 = false := by simp [rngd]; omega
          (rw [zbd_]; simp -implicitDefEqProofs [zau_, SP.v, chkSp, i1, i2, i3, b1, b2, r_tr, r_id, c_par, d_par, r_par])
        ·
          have r_par : rngd par 0 1099511627776 = true := by simp [rngd]; omega
          by_cases c_rev : rev < 0
          · have r_rev : rngd rev 0 1048576 = false := by simp [rngd]; omega
            (rw [zbd_]; simp -implicitDefEqProofs [zau_, SP.v, chkSp, i1, i2, i3, b1, b2, r_tr, r_id, c_par, d_par, r_par, c_rev, r_rev])
          ·
            by_cases d_rev : 1048576 < rev
            · have r_rev : rngd rev 0 1048576 = false := by simp [rngd]; omega
              (rw [zbd_]; simp -implicitDefEqProofs [zau_, SP.v, chkSp, i1, i2, i3, b1, b2, r_tr, r_id, c_par, d_par, r_par, c_rev, d_rev, r_rev])
            ·
              have r_rev : rngd rev 0 1048576 = true := by simp [rngd]; omega
              by_cases c_clk : clk < 1
              · have r_clk : rngd clk 1 1048576 = false := by simp [rngd]; omega
                (rw [zbd_]; simp -implicitDefEqProofs [zau_, SP.v, chkSp, i1, i2, i3, b1, b2, r_tr, r_id, c_par, d_par, r_par, c_rev, d_rev, r_rev, c_clk, r_clk])
              ·
                by_cases d_clk : 1048576 < clk
                · have r_clk : rngd clk 1 1048576 = false := by simp [rngd]; omega
                  (rw [zbd_]; simp -implicitDefEqProofs [zau_, SP.v, chkSp, i1, i2, i3, b1, b2, r_tr, r_id, c_par, d_par, r_par, c_rev, d_rev, r_rev, c_clk, d_clk, r_clk])
                ·
                  have r_clk : rngd clk 1 1048576 = true := by simp [rngd]; omega
                  by_cases c_kind : kind < 1
                  · have r_kind : rngd kind 1 5 = false := by simp [rngd]; omega
                    (rw [zbd_]; simp -implicitDefEqProofs [zau_, SP.v, chkSp, i1, i2, i3, b1, b2, r_tr, r_id, c_par, d_par, r_par, c_rev, d_rev, r_rev, c_clk, d_clk, r_clk, c_kind, r_kind])
                  ·
                    by_cases d_kind : 5 < kind
                    · have r_kind : rngd kind 1 5 = false := by simp [rngd]; omega
                      (rw [zbd_]; simp -implicitDefEqProofs [zau_, SP.v, chkSp, i1, i2, i3, b1, b2, r_tr, r_id, c_par, d_par, r_par, c_rev, d_rev, r_rev, c_clk, d_clk, r_clk, c_kind, d_kind, r_kind])
                    ·
                      have r_kind : rngd kind 1 5 = true := by simp [rngd]; omega
                      cases n_sv : isNm sv
                      · (rw [zbd_]; simp -implicitDefEqProofs [zau_, SP.v, chkSp, i1, i2, i3, b1, b2, r_tr, r_id, c_par, d_par, r_par, c_rev, d_rev, r_rev, c_clk, d_clk, r_clk, c_kind, d_kind, r_kind, n_sv])
                      ·
                        cases n_op : isNm op
                        · (rw [zbd_]; simp -implicitDefEqProofs [zau_, SP.v, chkSp, i1, i2, i3, b1, b2, r_tr, r_id, c_par, d_par, r_par, c_rev, d_rev, r_rev, c_clk, d_clk, r_clk, c_kind, d_kind, r_kind, n_sv, n_op])
                        ·
                          have tail : ∀ (q : Bool), q = (decide (vr = eS) || isNm vr) → q = true → ob (XP zhv_) (fun F => xfun (run XP) loopW F [SP.v ⟨tr, id, par, rev, clk, kind, sv, vr, op, st, en, er, ats, lks, an, ln⟩] h) = some (vi (chkSp ⟨tr, id, par, rev, clk, kind, sv, vr, op, st, en, er, ats, lks, an, ln⟩), h) := by
                            intro q hq hq1
                            rw [hq1] at hq
                            replace hq := hq.symm
                            rcases vcase vr hq with ⟨v1, v2⟩ | ⟨v1, v2⟩
                            all_goals
                              by_cases o1 : en < st
                              · have o3 : ¬ st < en := by omega
                                by_cases t1 : en < -1099511627776
                                · have r_en : rngd en (-1099511627776) 1099511627776 = false := by (cases h : rngd en (-1099511627776) 1099511627776; rfl; have := zdz_.1 h; omega)
                                  (rw [zbd_]; simp -implicitDefEqProofs [zau_, SP.v, chkSp, i1, i2, i3, b1, b2, r_tr, r_id, c_par, d_par, r_par, c_rev, d_rev, r_rev, c_clk, d_clk, r_clk, c_kind, d_kind, r_kind, n_sv, n_op, hq, v1, v2, o1, o3, t1, r_en, Bool.and_false])
                                · by_cases t2 : 1099511627776 < st
                                  · have r_st : rngd st (-1099511627776) 1099511627776 = false := by (cases h : rngd st (-1099511627776) 1099511627776; rfl; have := zdz_.1 h; omega)
                                    (rw [zbd_]; simp -implicitDefEqProofs [zau_, SP.v, chkSp, i1, i2, i3, b1, b2, r_tr, r_id, c_par, d_par, r_par, c_rev, d_rev, r_rev, c_clk, d_clk, r_clk, c_kind, d_kind, r_kind, n_sv, n_op, hq, v1, v2, o1, o3, t1, t2, r_st])
                                  · have r_st : rngd st (-1099511627776) 1099511627776 = true := zdz_.2 (by omega)
                                    have r_en : rngd en (-1099511627776) 1099511627776 = true := zdz_.2 (by omega)
                                    (rw [zbd_]; simp -implicitDefEqProofs [zau_, SP.v, chkSp, i1, i2, i3, b1, b2, r_tr, r_id, c_par, d_par, r_par, c_rev, d_rev, r_rev, c_clk, d_clk, r_clk, c_kind, d_kind, r_kind, n_sv, n_op, hq, v1, v2, o1, o3, t1, t2, r_st, r_en])
                              · have hmx : (if st < en then en else st) = en := by split <;> omega
                                by_cases t1 : st < -1099511627776
                                · have r_st : rngd st (-1099511627776) 1099511627776 = false := by (cases h : rngd st (-1099511627776) 1099511627776; rfl; have := zdz_.1 h; omega)
                                  (rw [zbd_]; simp -implicitDefEqProofs [zau_, SP.v, chkSp, i1, i2, i3, b1, b2, r_tr, r_id, c_par, d_par, r_par, c_rev, d_rev, r_rev, c_clk, d_clk, r_clk, c_kind, d_kind, r_kind, n_sv, n_op, hq, v1, v2, o1, hmx, t1, r_st])
                                · by_cases t2 : 1099511627776 < en
                                  · have r_en : rngd en (-1099511627776) 1099511627776 = false := by (cases h : rngd en (-1099511627776) 1099511627776; rfl; have := zdz_.1 h; omega)
                                    (rw [zbd_]; simp -implicitDefEqProofs [zau_, SP.v, chkSp, i1, i2, i3, b1, b2, r_tr, r_id, c_par, d_par, r_par, c_rev, d_rev, r_rev, c_clk, d_clk, r_clk, c_kind, d_kind, r_kind, n_sv, n_op, hq, v1, v2, o1, hmx, t1, t2, r_en, Bool.and_false])
                                  · have r_st : rngd st (-1099511627776) 1099511627776 = true := zdz_.2 (by omega)
                                    have r_en : rngd en (-1099511627776) 1099511627776 = true := zdz_.2 (by omega)
                                    have hw : IntKind.i64.wrap (en - st) = en - st := zaq_ (by omega) (by omega)
                                    by_cases o2 : 1099511627776 < en - st
                                    · (rw [zbd_]; simp -implicitDefEqProofs [zau_, SP.v, chkSp, i1, i2, i3, b1, b2, r_tr, r_id, c_par, d_par, r_par, c_rev, d_rev, r_rev, c_clk, d_clk, r_clk, c_kind, d_kind, r_kind, n_sv, n_op, hq, v1, v2, o1, hmx, t1, t2, r_st, r_en, hw, o2])
                                    ·
                                      rw [zbd_]; simp -implicitDefEqProofs [zau_, SP.v, chkSp, i1, i2, i3, b1, b2, ca, cl, co, aa, ab, zan_, optEq, r_tr, r_id, c_par, d_par, r_par, c_rev, d_rev, r_rev, c_clk, d_clk, r_clk, c_kind, d_kind, r_kind, n_sv, n_op, hq, v1, v2, o1, hmx, t1, t2, r_st, r_en, hw, o2]
                          by_cases e_vr : vr = eS
                          · exact tail _ rfl (by simp [e_vr])
                          · cases n_vr : isNm vr
                            · have e_vr' : vr.toList.isEmpty = false := by rw [isE]; simp [e_vr]
                              have hq : (decide (vr = eS) || isNm vr) = false := by simp [e_vr, n_vr]
                              (rw [zbd_]; simp -implicitDefEqProofs [zau_, SP.v, chkSp, i1, i2, i3, b1, b2, r_tr, r_id, c_par, d_par, r_par, c_rev, d_rev, r_rev, c_clk, d_clk, r_clk, c_kind, d_kind, r_kind, n_sv, n_op, e_vr', e_vr, n_vr, hq])
                            · exact tail _ rfl (by simp [n_vr])
end Go.Proofs.Sl
namespace Go.Proofs.Sl
theorem zsf_ (l o k : Nat) (x : Option (List V)) : rdCell l o (lv k x) = lv k x := by cases x <;> rfl
end Go.Proofs.Sl
namespace Go.Proofs.Sl
def ixT : List ByteArray → ByteArray → Nat → Int
  | [], _, _ => -1
  | t :: r, s, k => if s = t then k else ixT r s (k + 1)
theorem vs_get {ss : List ByteArray} {k : Nat} {e : ByteArray} (h : ss[k]? = some e) : (ss.map vs)[k]? = some (vs e) := by simp [h]
theorem zcij_ (h : H) (ss : List ByteArray) (s : ByteArray) (hl : ss.length ≤ 10000) : run XP zqh_ [.lst 1 (ss.map vs), vs s] h = some (vi (ixT ss s 0), h) := by
  have hv : Rd h 1 (.lst 1 (ss.map vs)) (ss.map vs) := .lst _
  rw [run_eq, zbwg_]
  simp -implicitDefEqProofs [zjv_]
  refine zaw_ ss (fun k s' h' => Sees s' [(0, .lst 1 (ss.map vs)), (1, vs s), (7, vi ss.length), (8, vi k)] ∧ h' = h ∧ ixT ss s 0 = ixT (ss.drop k) s k) ?_ ?_ _ _ ⟨by simp, rfl, rfl⟩
  · rintro B f hB hf k e s' h' he hk ⟨⟨h0, h1, h7, h8, -⟩, rfl, hx⟩ K
    obtain ⟨p, hp, hld⟩ := hv.at1 (vs_get he) rfl
    have hlt : (k : Int) < ss.length := by omega
    rw [zbh_ he, ixT] at hx
    have hb := bl_eq (a := s) (b := e)
    by_cases h0' : s = e
    · rw [if_pos h0'] at hx
      have hb' : (s.toList == e.toList) = true := by rw [hb]; simp [h0']
      simp -implicitDefEqProofs [hB, hf, zmw_, h0, h1, h7, h8, hlt, hk, hp, hld, hb', hx]
    · rw [if_neg h0'] at hx
      have hb' : (s.toList == e.toList) = false := by rw [hb]; simp [h0']
      simp -implicitDefEqProofs [hB, zmw_, h0, h1, h7, h8, hlt, hk, hp, hld, hb']
      refine K _ _ ⟨?_, rfl, hx⟩
      simp [h0, h1, h7, zct_ (by omega : k < 100000000000)]
  · rintro B hB s' h' ⟨⟨h0, h1, h7, h8, -⟩, rfl, hx⟩
    rw [List.drop_of_length_le (Nat.le_refl _), ixT] at hx
    simp -implicitDefEqProofs [hB, zmw_, h0, h1, h7, h8, hx]
theorem zcik_ (h : H) (ss : List ByteArray) (s : ByteArray) (hl : ss.length ≤ 10000) : run XP zqg_ [.lst 1 (ss.map vs), vs s] h = some (vb (decide (0 ≤ ixT ss s 0)), h) := by
  have h1 := fun h => zcij_ h ss s hl
  rw [run_eq, zbwe_]
  simp -implicitDefEqProofs [zjn_, h1]
def sClock : ByteArray := ⟨#[99, 108, 111, 99, 107]⟩
def sDur : ByteArray := ⟨#[100, 117, 114, 97, 116, 105, 111, 110]⟩
def flds : List ByteArray := [sClock, sDur, ⟨#[101, 110, 100]⟩, ⟨#[101, 114, 114, 111, 114]⟩, ⟨#[105, 100]⟩, ⟨#[107, 105, 110, 100]⟩, ⟨#[111, 112, 101, 114, 97, 116, 105, 111, 110]⟩, ⟨#[112, 97, 114, 101, 110, 116]⟩, ⟨#[114, 101, 118, 105, 115, 105, 111, 110]⟩, ⟨#[114, 111, 111, 116]⟩,
  ⟨#[115, 101, 114, 118, 105, 99, 101]⟩, ⟨#[115, 108, 111, 116]⟩, ⟨#[115, 116, 97, 114, 116]⟩, ⟨#[116, 114, 97, 99, 101]⟩, ⟨#[118, 101, 114, 115, 105, 111, 110]⟩]
theorem zyz_ (h : H) : run XP zlq_ [] h = some (.lst 1 (flds.map vs), h) := by
  rw [run_eq, zbvb_]
  simp -implicitDefEqProofs [zip_, flds, sClock, sDur]
theorem zcil_ (h : H) (n : Int) : run XP zls_ [vi n] h = some (vi (n.fdiv 1048576), h) := by
  rw [run_eq, zbvg_]
  simp -implicitDefEqProofs [zje_, zpg_]
  rfl
theorem zcim_ (h : H) (n : Int) : run XP zlt_ [vi n] h = some (vi ((n.fdiv 1048576).fdiv 16), h) := by
  have h1 := fun h => zcil_ h n
  rw [run_eq, zbvh_]
  simp -implicitDefEqProofs [zio_, h1, zpg_]
  rfl
theorem zcin_ (h : H) (a : SP) : run XP zpu_ [a.v] h = some (vi (IntKind.i64.wrap (a.en - a.st)), h) := by
  rw [run_eq, zbvf_]
  simp -implicitDefEqProofs [zjo_, SP.v]
theorem zea_ {l : List UInt8} (h : ([100, 117, 114, 97, 116, 105, 111, 110] == l) = false) : (sDur.toList == l) = false := by
  rw [ByteArray.toList_eq]
  exact h
theorem zcio_ (h : H) : run XP zps_ [vs sDur] h = some (.tup [vi 2, vb true], h) := by
  have h1 := fun h => zyz_ h
  have h2 := fun h => zcik_ h flds sDur (by decide)
  have h3 : ixT flds sDur 0 = 1 := by decide
  rw [h3] at h2
  have e1 := zea_ (l := [107, 105, 110, 100]) rfl
  have e2 := zea_ (l := [111, 112, 101, 114, 97, 116, 105, 111, 110]) rfl
  have e3 := zea_ (l := [115, 101, 114, 118, 105, 99, 101]) rfl
  have e4 := zea_ (l := [118, 101, 114, 115, 105, 111, 110]) rfl
  have e5 := zea_ (l := [101, 114, 114, 111, 114]) rfl
  have e6 := zea_ (l := [114, 111, 111, 116]) rfl
  rw [run_eq, zbvd_]
  simp -implicitDefEqProofs [zja_, h1, h2, e1, e2, e3, e4, e5, e6]
theorem zcip_ (h : H) (a : SP) : run XP zqf_ [a.v, vs sDur] h = some (vi (IntKind.i64.wrap (a.en - a.st)), h) := by
  have h1 := fun h => zcin_ h a
  have e1 := zea_ (l := [99, 108, 111, 99, 107]) rfl
  have e2 : (sDur.toList == [100, 117, 114, 97, 116, 105, 111, 110]) = true := by rw [ByteArray.toList_eq]; rfl
  simp only [SP.v] at h1
  rw [run_eq, zbwd_]
  simp -implicitDefEqProofs [zjb_, SP.v, h1, e1, e2]
theorem zciq_ (h : H) (a : SP) : run XP zlr_ [a.v, vs sDur, vs ⟨#[]⟩] h = some (.tup [.agg [vi 2, vs ⟨#[]⟩, vi (IntKind.i64.wrap (a.en - a.st))], vb true], h) := by
  have h1 := fun h => zcio_ h
  have h2 := fun h => zcip_ h a
  have e1 := zea_ (l := [97, 116, 116, 114]) rfl
  simp only [SP.v] at h2
  rw [run_eq, zbvc_]
  simp -implicitDefEqProofs [zin_, SP.v, h1, h2, e1]
def exA : SP := ⟨1, 2, 0, 1, 1, 3, ⟨#[115]⟩, ⟨#[]⟩, ⟨#[111]⟩, 4, 9, false, [], [], true, true⟩
def exB : SP := ⟨1, 2, 0, 0, 1, 3, ⟨#[115]⟩, ⟨#[]⟩, ⟨#[111]⟩, 4, 12, false, [], [], true, true⟩
theorem exBA : wns [exB, exA] = [exA] := by
  have c1 : cmpS exA exB = 1 := by decide +kernel
  have hs : srt [exB, exA] = [exB, exA] := by
    have hp := zrw_ [exB, exA]
    have ho := zys_ [exB, exA]
    generalize srt [exB, exA] = l at hp ho
    match l, hp.length_eq with
    | [x, y], _ =>
      have hx : x ∈ [exB, exA] := hp.mem_iff.1 (by simp)
      simp only [List.mem_cons, List.not_mem_nil, or_false] at hx
      rcases hx with rfl | rfl
      · have := List.Perm.cons_inv hp
        rw [List.perm_singleton] at this
        injection this with this
        rw [this]
      · have h2 : [exA, y].Perm [exA, exB] := hp.trans (List.Perm.swap exA exB [])
        have := List.Perm.cons_inv h2
        rw [List.perm_singleton] at this
        injection this with this
        subst this
        simp only [List.pairwise_cons, List.mem_singleton, forall_eq] at ho
        rw [c1] at ho
        exact absurd ho.1 (by decide)
  have h2 : cpt [exB, exA] = [exB, exA] := by simp [cpt, cptA, c1]
  rw [wns, dst, hs, h2]
  simp [winL, exA, exB]
theorem zcir_ : chkSp exA = 0 := by decide +kernel
theorem zcis_ (h : H) : run XP zpq_ [] h = some (vb true, h) := by
  have sA : exA.Sm := ⟨by decide, by decide, fun _ => rfl, fun _ => rfl⟩
  have sB : exB.Sm := ⟨by decide, by decide, fun _ => rfl, fun _ => rfl⟩
  have hW : ∀ h, run XP zdu_ [.lst 14 [V.agg [vi 1, vi 2, vi 0, vi 0, vi 1, vi 3, vs ⟨#[115]⟩, vs ⟨#[]⟩, vs ⟨#[111]⟩, vi 4, vi 12, vb false, vnil, vnil], V.agg [vi 1, vi 2, vi 0, vi 1, vi 1, vi 3, vs ⟨#[115]⟩, vs ⟨#[]⟩, vs ⟨#[111]⟩, vi 4, vi 9, vb false, vnil, vnil]]] h = some (.lst 14 [V.agg [vi 1, vi 2, vi 0, vi 1, vi 1, vi 3, vs ⟨#[115]⟩, vs ⟨#[]⟩, vs ⟨#[111]⟩, vi 4, vi 9, vb false, vnil, vnil]], h) := fun h => by
    have := znb_ (h := h) (h2 := h) (v := .lst 14 [exB.v, exA.v]) (es := [exB, exA]) (.inr rfl) rfl (zna_ (es := [exB, exA]) (.inr rfl)) rfl (by simp [sA, sB]) (by simp)
    rw [exBA] at this
    exact this
  have hV : ∀ h, run XP zlr_ [V.agg [vi 1, vi 2, vi 0, vi 1, vi 1, vi 3, vs ⟨#[115]⟩, vs ⟨#[]⟩, vs ⟨#[111]⟩, vi 4, vi 9, vb false, vnil, vnil], vs ⟨#[100, 117, 114, 97, 116, 105, 111, 110]⟩, vs ⟨#[]⟩] h = some (.tup [.agg [vi 2, vs ⟨#[]⟩, vi 5], vb true], h) := fun h => zciq_ h exA
  have hC : ∀ h, run XP zhv_ [V.agg [vi 1, vi 2, vi 0, vi 1, vi 1, vi 3, vs ⟨#[115]⟩, vs ⟨#[]⟩, vs ⟨#[111]⟩, vi 4, vi 9, vb false, vnil, vnil]] h = some (vi 0, h) := fun h => by
    have := zcii_ h (a := exA) ⟨by decide, by decide, by decide, by simp [exA], fun _ => rfl, fun _ => rfl⟩
    rw [zcir_] at this
    exact this
  have hP : ∀ h, run XP zlt_ [vi 16777216] h = some (vi 1, h) := fun h => zcim_ h 16777216
  have hF := fun h => zyz_ h
  have hfl : (flds.map vs).length = 15 := rfl
  generalize flds.map vs = fl at hF hfl
  have hbe : ((⟨#[]⟩ : ByteArray) == ⟨#[]⟩) = true := by decide
  rw [run_eq, zbut_]
  simp -implicitDefEqProofs [zid_, hW, hV, hC, hP, hF, hfl, hbe]
end Go.Proofs.Sl
namespace Go.Proofs.Sl
def att4 (x y : AT) : List Int := [wrd x.key y.key, sgn x.val.k y.val.k, wrd x.val.t y.val.t, sgn x.val.n y.val.n]
def zipA : List AT → List AT → List Int
  | x :: xs, y :: ys => att4 x y ++ zipA xs ys
  | _, _ => []
def zipR : List RF → List RF → List Int
  | x :: xs, y :: ys => cmpR x y :: zipR xs ys
  | _, _ => []
theorem zza_ : ∀ {xs ys : List AT} {k : Nat} {x y : AT}, xs[k]? = some x → ys[k]? = some y → zipA (xs.take (k + 1)) (ys.take (k + 1)) = zipA (xs.take k) (ys.take k) ++ att4 x y
  | [], _, _, _, _, h, _ => by simp at h
  | _ :: _, [], _, _, _, _, h => by simp at h
  | a :: xs, b :: ys, 0, x, y, h, k => by
    simp only [List.getElem?_cons_zero, Option.some.injEq] at h k
    subst h k
    simp [zipA]
  | a :: xs, b :: ys, n + 1, x, y, h, k => by
    simp only [List.getElem?_cons_succ] at h k
    simp only [List.take_succ_cons, zipA, zza_ h k, List.append_assoc]
theorem zzb_ : ∀ {xs ys : List RF} {k : Nat} {x y : RF}, xs[k]? = some x → ys[k]? = some y → zipR (xs.take (k + 1)) (ys.take (k + 1)) = zipR (xs.take k) (ys.take k) ++ [cmpR x y]
  | [], _, _, _, _, h, _ => by simp at h
  | _ :: _, [], _, _, _, _, h => by simp at h
  | a :: xs, b :: ys, 0, x, y, h, k => by
    simp only [List.getElem?_cons_zero, Option.some.injEq] at h k
    subst h k
    simp [zipR]
  | a :: xs, b :: ys, n + 1, x, y, h, k => by
    simp only [List.getElem?_cons_succ] at h k
    simp only [List.take_succ_cons, zipR, zzb_ h k, List.cons_append]
theorem zzc_ : ∀ (xs ys : List AT), zipA (xs.take (min xs.length ys.length)) (ys.take (min xs.length ys.length)) = zipA xs ys
  | [], _ => by simp [zipA]
  | _ :: _, [] => by simp [zipA]
  | a :: xs, b :: ys => by
    simp only [List.length_cons, Nat.add_min_add_right, List.take_succ_cons, zipA, zzc_ xs ys]
theorem zzd_ : ∀ (xs ys : List RF), zipR (xs.take (min xs.length ys.length)) (ys.take (min xs.length ys.length)) = zipR xs ys
  | [], _ => by simp [zipR]
  | _ :: _, [] => by simp [zipR]
  | a :: xs, b :: ys => by
    simp only [List.length_cons, Nat.add_min_add_right, List.take_succ_cons, zipR, zzd_ xs ys]
theorem zze_ (n m : Nat) : sgn ((n + 1 : Nat) : Int) ((m + 1 : Nat) : Int) = sgn n m := by
  have e : ∀ a b : Nat, (((a + 1 : Nat) : Int) < ((b + 1 : Nat) : Int)) = ((a : Int) < b) := fun a b => propext (by omega)
  simp only [sgn, e]
theorem zcit_ (x y : AT) : orl (att4 x y) = cmpA x y := by
  simp only [att4, cmpA, cmpV, orl]
  by_cases h1 : wrd x.key y.key = 0 <;> by_cases h2 : sgn x.val.k y.val.k = 0 <;> by_cases h3 : wrd x.val.t y.val.t = 0 <;> by_cases h4 : sgn x.val.n y.val.n = 0 <;> simp [h1, h2, h3, h4]
theorem zzf_ : ∀ (xs ys : List AT), orl (zipA xs ys ++ [sgn xs.length ys.length]) = lexc cmpA xs ys
  | [], [] => rfl
  | [], _ :: ys => by simp [zipA, lexc, orl, sgn] <;> omega
  | _ :: xs, [] => by simp [zipA, lexc, orl, sgn] <;> omega
  | a :: xs, b :: ys => by
    simp only [zipA, List.append_assoc, List.length_cons, zze_, lexc]
    rw [zhb_, zcit_, zzf_ xs ys]
theorem zzg_ : ∀ (xs ys : List RF), orl (zipR xs ys ++ [sgn xs.length ys.length]) = lexc cmpR xs ys
  | [], [] => rfl
  | [], _ :: ys => by simp [zipR, lexc, orl, sgn] <;> omega
  | _ :: xs, [] => by simp [zipR, lexc, orl, sgn] <;> omega
  | a :: xs, b :: ys => by
    simp only [zipR, List.cons_append, List.length_cons, zze_, lexc]
    rw [show cmpR a b :: (zipR xs ys ++ [sgn xs.length ys.length]) = [cmpR a b] ++ (zipR xs ys ++ [sgn xs.length ys.length]) from rfl, zhb_, zzg_ xs ys]
    simp only [orl]
    by_cases h : cmpR a b = 0 <;> simp [h]
def sp12 (a b : SP) : List Int := [sgn a.tr b.tr, sgn a.id b.id, sgn a.rev b.rev, sgn a.par b.par, sgn a.clk b.clk, sgn a.kind b.kind, wrd a.sv b.sv, wrd a.vr b.vr, wrd a.op b.op, sgn a.st b.st, sgn a.en b.en, sgn (flg a.er) (flg b.er)]
theorem zciu_ (a b : SP) : cmpS a b = orl (sp12 a b ++ (zipA a.ats b.ats ++ [sgn a.ats.length b.ats.length] ++ (zipR a.lks b.lks ++ [sgn a.lks.length b.lks.length]))) := by
  have h1 := zhb_ (sp12 a b) [lexc cmpA a.ats b.ats, lexc cmpR a.lks b.lks]
  have h2 : cmpS a b = orl (sp12 a b ++ [lexc cmpA a.ats b.ats, lexc cmpR a.lks b.lks]) := rfl
  rw [h2, h1, zhb_, zhb_, zzf_, zzg_]
  simp only [orl]
  by_cases h : lexc cmpR a.lks b.lks = 0 <;> simp [h]
theorem zsg_ : ∀ (xs ys : List AT), (zipA xs ys).length = 4 * min xs.length ys.length
  | [], _ => by simp [zipA]
  | _ :: _, [] => by simp [zipA]
  | a :: xs, b :: ys => by simp [zipA, att4, zsg_ xs ys, Nat.add_min_add_right]; omega
theorem zsh_ : ∀ (xs ys : List RF), (zipR xs ys).length = min xs.length ys.length
  | [], _ => by simp [zipR]
  | _ :: _, [] => by simp [zipR]
  | a :: xs, b :: ys => by simp [zipR, zsh_ xs ys, Nat.add_min_add_right]
theorem zciv_ (a b : List Int) : il (a ++ b) = il a ++ il b := by simp [il]
theorem zzh_ : ∀ l : List Int, wide 1 (il l) = true
  | [] => rfl
  | n :: l => by
    have := zzh_ l
    simp only [il] at this
    simp only [il, List.map_cons, wide, this, Bool.and_true]
    rfl
theorem zzi_ : ∀ l : List Int, V.closed.closeds (il l) = true
  | [] => rfl
  | n :: l => by
    have := zzi_ l
    simp only [il] at this
    simp only [il, List.map_cons, V.closed.closeds, this, Bool.and_true]
    rfl
structure At3 (h : H) (n : Nat) (ca cb : List V) (ns : List Int) : Prop where
  a : h[n]? = some (.box false ca)
  b : h[n + 1]? = some (.box false cb)
  l : h[n + 2]? = some (.arr false 1 (il ns))
theorem At3.app {h : H} {n : Nat} {ca cb : List V} {ns : List Int} (A : At3 h n ca cb ns) (t : H) : At3 (h ++ t) n ca cb ns := by
  have := (List.getElem?_eq_some_iff.1 A.l).1
  exact ⟨by rw [List.getElem?_append_left (by omega)]; exact A.a, by rw [List.getElem?_append_left (by omega)]; exact A.b, by rw [List.getElem?_append_left (by omega)]; exact A.l⟩
theorem At3.set {h : H} {n : Nat} {ca cb : List V} {ns : List Int} (A : At3 h n ca cb ns) (ms : List Int) : At3 (h.set (n + 2) (.arr false 1 (il ms))) n ca cb ms := by
  have := (List.getElem?_eq_some_iff.1 A.l).1
  exact ⟨by rw [List.getElem?_set_ne (by omega)]; exact A.a, by rw [List.getElem?_set_ne (by omega)]; exact A.b, by rw [List.getElem?_set_self this]⟩
theorem At3.len {h : H} {n : Nat} {ca cb : List V} {ns : List Int} (A : At3 h n ca cb ns) : n + 2 < h.length := (List.getElem?_eq_some_iff.1 A.l).1
theorem At3.grow {h : H} {n : Nat} {ca cb : List V} {ns : List Int} (A : At3 h n ca cb ns) (ms : List Int) (hl : ns.length + ms.length ≤ 17592186044416) : zax_ h 1 17592186044416 (.ref (n + 2) ns.length) (.lst 1 (il ms)) = some (.ref (n + 2) (ns ++ ms).length, h.set (n + 2) (.arr false 1 (il (ns ++ ms)))) := by
  have h1 : arrN h (n + 2) ns.length = some (false, 1, il ns) := by simp [arrN, arrAt, A.l, zab_, zby_]
  have ea : appEls h (.lst 1 (il ms)) = some (il ms) := rfl
  have hl' : ns.length + (il ms).length ≤ 17592186044416 := by rw [zby_]; exact hl
  simp only [zax_, ea, zab_, zzh_, zzi_, and_self, if_true, h1, true_and, hl, zciv_, List.length_append, zby_]
theorem At3.takeSet {h : H} {n : Nat} (o : O) (hn : h.length ≥ n) : (h.set (n + 2) o).take n = h.take n := by rw [List.take_set, List.set_eq_of_length_le (by simp; omega)]
end Go.Proofs.Sl
namespace Go.Proofs.Sl
theorem zda_ (s : Sl) (h : H) (k : Nat) (x i : Opd) : xread s h (.iaddr k x i) = ob (asNat (i.ev s)) fun i => iaddrV h k (x.ev s) i := Eq.trans rfl rfl
theorem zdb_ (s : Sl) (h : H) (n : Nat) (g : Bool) (x : Opd) : xread s h (.load n g x) = xload h n g (x.ev s) := Eq.trans rfl rfl
theorem zdc_ (s : Sl) (h : H) (x : Opd) : xread s h (.len false x) = ob ((x.ev s).toL h) fun es => some (vi es.length) := Eq.trans rfl rfl
section
variable {H0 : H} {n base : Nat} {ca cb : List V} {f : Ex × St → Option (V × H)} {w : Option (V × H)} {ns : List Int}
set_option maxHeartbeats 1000000 in
theorem cmp_l0 {xs ys : List AT} {p q : Bool} (hp : p = true → xs = []) (hq : q = true → ys = []) (ca12 : ca[12]? = some (lv 4 (slc AT.v xs p))) (cb12 : cb[12]? = some (lv 4 (slc AT.v ys q))) (hx : xs.length ≤ 1000) (hy : ys.length ≤ 1000) (hn : ns.length ≤ 1000)
    (A0 : At3 H0 n ca cb ns) (hb : base ≤ n)
    (hend : ∀ s h', s 2 = .ptr n 0 → s 3 = .ptr (n + 1) 0 → At3 h' n ca cb (ns ++ zipA xs ys) → s 5 = .ref (n + 2) (ns ++ zipA xs ys).length → h'.take n = H0.take n → f (.exit 0, ⟨s, h'⟩) = w)
    (s0 : Sl) (h2 : s0 2 = .ptr n 0) (h3 : s0 3 = .ptr (n + 1) 0) (h5 : s0 5 = .ref (n + 2) ns.length) (h6 : s0 6 = vi 0) :
    ob (loopW (xcode (run XP) loopW base zih_) ⟨s0, H0⟩) f = w := by
  have t1 : (slc AT.v xs p).getD [] = xs.map AT.v := zcz_ hp
  have t2 : (slc AT.v ys q).getD [] = ys.map AT.v := zcz_ hq
  have rl := fun l o (k : Nat) (x : Option (List V)) => zsf_ l o k x
  refine zpi_ (min xs.length ys.length) (fun k s h' => Sees s [(2, .ptr n 0), (3, .ptr (n + 1) 0), (6, vi k), (5, .ref (n + 2) (ns ++ zipA (xs.take k) (ys.take k)).length)] ∧ At3 h' n ca cb (ns ++ zipA (xs.take k) (ys.take k)) ∧ h'.take n = H0.take n) ?_ ?_ _ _
    ⟨by simp [h2, h3, h5, h6, zipA], by simpa [zipA] using A0, rfl⟩
  · rintro B f2 hB hf k s h' hk ⟨⟨h2, h3, h6, h5, -⟩, A, htk⟩ K
    have hk1 : k < xs.length := by omega
    have hk2 : k < ys.length := by omega
    obtain ⟨e, he⟩ : ∃ e, xs[k]? = some e := ⟨_, List.getElem?_eq_getElem hk1⟩
    obtain ⟨d, hd⟩ : ∃ d, ys[k]? = some d := ⟨_, List.getElem?_eq_getElem hk2⟩
    have i1 := fun H => zfh_ (f := AT.v) hp he H 4
    have i2 := fun H => zfh_ (f := AT.v) hq hd H 4
    have hw : IntKind.i64.wrap ((k : Int) + 1) = (k : Int) + 1 := zaq_ (by omega) (by omega)
    have hl1 := zsg_ (xs.take k) (ys.take k)
    rw [List.length_take, List.length_take] at hl1
    have hap := (A.app [.box false e.v.cells, .box false d.v.cells]).grow (att4 e d) (by rw [List.length_append, hl1]; simp [att4]; omega)
    have Aa := fun t => (A.app t).a
    have Ab := fun t => (A.app t).b
    have A1 := A.a
    have A2 := A.b
    have w1 := fun h => zjx_ h e.key d.key
    have w2 := fun h => zbq_ h e.val.k d.val.k
    have w3 := fun h => zjx_ h e.val.t d.val.t
    have w4 := fun h => zbq_ h e.val.n d.val.n
    have hz := zza_ he hd
    have hlen : (ns ++ zipA (xs.take k) (ys.take k)) ++ att4 e d = ns ++ zipA (xs.take (k + 1)) (ys.take (k + 1)) := by rw [hz, List.append_assoc]
    have A' := (A.app [.box false e.v.cells, .box false d.v.cells]).set (ns ++ zipA (xs.take (k + 1)) (ys.take (k + 1)))
    have hn2 := A.len
    rw [hlen] at hap
    have htk2 := At3.takeSet (h := h' ++ [.box false e.v.cells, .box false d.v.cells]) (n := n) (.arr false 1 (il (ns ++ zipA (xs.take (k + 1)) (ys.take (k + 1))))) (by simp; omega)
    rw [List.take_append_of_le_length (by omega), htk] at htk2
    generalize (ns ++ zipA (xs.take k) (ys.take k)).length = L at h5 hap
    generalize hms : ns ++ zipA (xs.take (k + 1)) (ys.take (k + 1)) = ms at hap A' htk2 K
    simp only [AT.v, V.cells, att4, il, List.map_cons, List.map_nil] at i1 i2 hap A' htk2
    simp -implicitDefEqProofs [-xread, zda_, zdb_, zdc_, hB, zih_, h2, h3, h5, h6, A1, A2, Aa, Ab, ca12, cb12, rl, t1, t2, hk1, hk2, i1, i2, w1, w2, w3, w4, hap, zan_, optEq]
    refine K _ _ ⟨?_, A', htk2⟩
    simp [h2, h3, hw, hms]
  · rintro B hB s h' ⟨⟨h2, h3, h6, h5, -⟩, A, htk⟩
    have A1 := A.a
    have A2 := A.b
    rw [zzc_] at A h5
    by_cases hm : xs.length ≤ ys.length
    · rw [Nat.min_eq_left hm] at h6
      simp -implicitDefEqProofs [hB, zih_, h2, h3, h6, A1, A2, ca12, cb12, rl, t1, t2]
      exact hend _ _ (by simp [h2]) (by simp [h3]) A (by simpa using h5) htk
    · rw [Nat.min_eq_right (by omega)] at h6
      have hlt : ys.length < xs.length := by omega
      simp -implicitDefEqProofs [hB, zih_, h2, h3, h6, A1, A2, ca12, cb12, rl, t1, t2, hlt]
      exact hend _ _ (by simp [h2]) (by simp [h3]) A (by simpa using h5) htk
theorem cmp_l1 {xs ys : List RF} {p q : Bool} (hp : p = true → xs = []) (hq : q = true → ys = []) (ca13 : ca[13]? = some (lv 2 (slc RF.v xs p))) (cb13 : cb[13]? = some (lv 2 (slc RF.v ys q))) (hx : xs.length ≤ 1000) (hy : ys.length ≤ 1000) (hn : ns.length ≤ 10000)
    (A0 : At3 H0 n ca cb ns) (hb : base ≤ n)
    (hend : ∀ s h', s 2 = .ptr n 0 → s 3 = .ptr (n + 1) 0 → At3 h' n ca cb (ns ++ zipR xs ys) → s 5 = .ref (n + 2) (ns ++ zipR xs ys).length → h'.take n = H0.take n → f (.exit 2, ⟨s, h'⟩) = w)
    (s0 : Sl) (h2 : s0 2 = .ptr n 0) (h3 : s0 3 = .ptr (n + 1) 0) (h5 : s0 5 = .ref (n + 2) ns.length) (h9 : s0 9 = vi 0) :
    ob (loopW (xcode (run XP) loopW base zii_) ⟨s0, H0⟩) f = w := by
  have t1 : (slc RF.v xs p).getD [] = xs.map RF.v := zcz_ hp
  have t2 : (slc RF.v ys q).getD [] = ys.map RF.v := zcz_ hq
  have rl := fun l o (k : Nat) (x : Option (List V)) => zsf_ l o k x
  refine zpi_ (min xs.length ys.length) (fun k s h' => Sees s [(2, .ptr n 0), (3, .ptr (n + 1) 0), (9, vi k), (5, .ref (n + 2) (ns ++ zipR (xs.take k) (ys.take k)).length)] ∧ At3 h' n ca cb (ns ++ zipR (xs.take k) (ys.take k)) ∧ h'.take n = H0.take n) ?_ ?_ _ _
    ⟨by simp [h2, h3, h5, h9, zipR], by simpa [zipR] using A0, rfl⟩
  · rintro B f2 hB hf k s h' hk ⟨⟨h2, h3, h9, h5, -⟩, A, htk⟩ K
    have hk1 : k < xs.length := by omega
    have hk2 : k < ys.length := by omega
    obtain ⟨e, he⟩ : ∃ e, xs[k]? = some e := ⟨_, List.getElem?_eq_getElem hk1⟩
    obtain ⟨d, hd⟩ : ∃ d, ys[k]? = some d := ⟨_, List.getElem?_eq_getElem hk2⟩
    have i1 := fun H => zfh_ (f := RF.v) hp he H 2
    have i2 := fun H => zfh_ (f := RF.v) hq hd H 2
    have hw : IntKind.i64.wrap ((k : Int) + 1) = (k : Int) + 1 := zaq_ (by omega) (by omega)
    have hl1 := zsh_ (xs.take k) (ys.take k)
    rw [List.length_take, List.length_take] at hl1
    have hap := A.grow [cmpR e d] (by rw [List.length_append, hl1]; simp; omega)
    have A1 := A.a
    have A2 := A.b
    have w1 := fun h => zcgy_ h e d
    have hz := zzb_ he hd
    have hlen : (ns ++ zipR (xs.take k) (ys.take k)) ++ [cmpR e d] = ns ++ zipR (xs.take (k + 1)) (ys.take (k + 1)) := by rw [hz, List.append_assoc]
    have A' := A.set (ns ++ zipR (xs.take (k + 1)) (ys.take (k + 1)))
    have hn2 := A.len
    rw [hlen] at hap
    have htk2 := At3.takeSet (h := h') (n := n) (.arr false 1 (il (ns ++ zipR (xs.take (k + 1)) (ys.take (k + 1))))) (by omega)
    rw [htk] at htk2
    generalize (ns ++ zipR (xs.take k) (ys.take k)).length = L at h5 hap
    generalize hms : ns ++ zipR (xs.take (k + 1)) (ys.take (k + 1)) = ms at hap A' htk2 K
    simp only [RF.v, V.cells, il, List.map_cons, List.map_nil] at i1 i2 hap A' htk2 w1
    simp -implicitDefEqProofs [-xread, zda_, zdb_, zdc_, hB, zii_, h2, h3, h5, h9, A1, A2, ca13, cb13, rl, t1, t2, hk1, hk2, i1, i2, w1, hap, zan_, optEq]
    refine K _ _ ⟨?_, A', htk2⟩
    simp [h2, h3, hw, hms]
  · rintro B hB s h' ⟨⟨h2, h3, h9, h5, -⟩, A, htk⟩
    have A1 := A.a
    have A2 := A.b
    rw [zzd_] at A h5
    by_cases hm : xs.length ≤ ys.length
    · rw [Nat.min_eq_left hm] at h9
      simp -implicitDefEqProofs [hB, zii_, h2, h3, h9, A1, A2, ca13, cb13, rl, t1, t2]
      exact hend _ _ (by simp [h2]) (by simp [h3]) A (by simpa using h5) htk
    · rw [Nat.min_eq_right (by omega)] at h9
      have hlt : ys.length < xs.length := by omega
      simp -implicitDefEqProofs [hB, zii_, h2, h3, h9, A1, A2, ca13, cb13, rl, t1, t2, hlt]
      exact hend _ _ (by simp [h2]) (by simp [h3]) A (by simpa using h5) htk
theorem cmp_l2 (A : At3 H0 n ca cb ns) (hl : ns.length ≤ 100000) (hret : ∀ s, s 4 = vi (orl ns) → f (.ret, ⟨s, H0⟩) = w) (hend : orl ns = 0 → ∀ s, f (.exit 4, ⟨s, H0⟩) = w) (s0 : Sl) (h5 : s0 5 = .ref (n + 2) ns.length) (h10 : s0 10 = vi 0) :
    ob (loopW (xcode (run XP) loopW base zij_) ⟨s0, H0⟩) f = w := by
  have hv : Rd H0 1 (.ref (n + 2) ns.length) (il ns) := by
    have := Rd.ref (n + 2) false (il ns) A.l
    rwa [zby_] at this
  have htl := hv.toL
  refine zaw_ ns (fun k s h' => Sees s [(5, .ref (n + 2) ns.length), (10, vi k)] ∧ h' = H0 ∧ orl ns = orl (ns.drop k)) ?_ ?_ _ _ ⟨by simp [h5, h10], rfl, rfl⟩
  · rintro B f2 hB hf k e s h' he hk ⟨⟨h5, h10, -⟩, rfl, hx⟩ K
    obtain ⟨p, hp, hld⟩ := hv.at1 (il_at he) rfl
    have hlt : (k : Int) < ns.length := by omega
    rw [zbh_ he, orl] at hx
    by_cases h0 : e = 0
    · rw [if_neg (by simpa using h0)] at hx
      simp -implicitDefEqProofs [hB, zij_, h5, h10, htl, zby_, hlt, hk, hp, hld, h0]
      refine K _ _ ⟨?_, rfl, hx⟩
      simp [h5, zct_ (by omega : k < 100000000000)]
    · rw [if_pos h0] at hx
      rw [hx] at hret
      have h0' : (e != 0) = true := by simpa using h0
      simp -implicitDefEqProofs [hB, hf, zij_, h5, h10, htl, zby_, hlt, hk, hp, hld, h0', hret]
  · rintro B hB s h' ⟨⟨h5, h10, -⟩, rfl, hx⟩
    rw [List.drop_of_length_le (Nat.le_refl _), orl] at hx
    simp -implicitDefEqProofs [hB, zij_, h5, h10, htl, zby_, hend hx]
end
theorem znf_ (h : H) {a b : SP} (ha1 : a.an = true → a.ats = []) (ha2 : a.ln = true → a.lks = []) (hb1 : b.an = true → b.ats = []) (hb2 : b.ln = true → b.lks = []) (la1 : a.ats.length ≤ 1000) (la2 : a.lks.length ≤ 1000) (lb1 : b.ats.length ≤ 1000) (lb2 : b.lks.length ≤ 1000) :
    run XP zge_ [a.v, b.v] h = some (vi (cmpS a b), h) := by
  have hfl := zciu_ a b
  have zl := zsg_ a.ats b.ats
  have zr := zsh_ a.lks b.lks
  obtain ⟨tr, id, par, rev, clk, kind, sv, vr, op, st, en, er, ats, lks, an, ln⟩ := a
  obtain ⟨tr', id', par', rev', clk', kind', sv', vr', op', st', en', er', ats', lks', an', ln'⟩ := b
  simp only at ha1 ha2 hb1 hb2 la1 la2 lb1 lb2 zl zr
  have s0 := fun h => zbq_ h tr tr'
  have s1 := fun h => zbq_ h id id'
  have s2 := fun h => zbq_ h rev rev'
  have s3 := fun h => zbq_ h par par'
  have s4 := fun h => zbq_ h clk clk'
  have s5 := fun h => zbq_ h kind kind'
  have s6 := fun h => zjx_ h sv sv'
  have s7 := fun h => zjx_ h vr vr'
  have s8 := fun h => zjx_ h op op'
  have s9 := fun h => zbq_ h st st'
  have s10 := fun h => zbq_ h en en'
  have f1 := fun h => zyd_ h er
  have f2 := fun h => zyd_ h er'
  have s11 := fun h => zbq_ h (flg er) (flg er')
  have t1 : (slc AT.v ats an).getD [] = ats.map AT.v := zcz_ ha1
  have t2 : (slc AT.v ats' an').getD [] = ats'.map AT.v := zcz_ hb1
  have t3 : (slc RF.v lks ln).getD [] = lks.map RF.v := zcz_ ha2
  have t4 : (slc RF.v lks' ln').getD [] = lks'.map RF.v := zcz_ hb2
  have rl := fun l o (k : Nat) (x : Option (List V)) => zsf_ l o k x
  have sA := fun h => zbq_ h (ats.length : Int) (ats'.length : Int)
  have sR := fun h => zbq_ h (lks.length : Int) (lks'.length : Int)
  rw [run_eq, zbuw_]
  have q12 : sp12 ⟨tr, id, par, rev, clk, kind, sv, vr, op, st, en, er, ats, lks, an, ln⟩ ⟨tr', id', par', rev', clk', kind', sv', vr', op', st', en', er', ats', lks', an', ln'⟩ = [sgn tr tr', sgn id id', sgn rev rev', sgn par par', sgn clk clk', sgn kind kind', wrd sv sv', wrd vr vr', wrd op op', sgn st st', sgn en en', sgn (flg er) (flg er')] := rfl
  rw [q12] at hfl
  simp only at hfl
  generalize cmpS _ _ = R at hfl ⊢
  simp -implicitDefEqProofs [zik_, SP.v, s0, s1, s2, s3, s4, s5, s6, s7, s8, s9, s10, f1, f2, s11, zan_, optEq]
  refine cmp_l0 (ca := [vi tr, vi id, vi par, vi rev, vi clk, vi kind, vs sv, vs vr, vs op, vi st, vi en, vb er, lv 4 (slc AT.v ats an), lv 2 (slc RF.v lks ln)]) (cb := [vi tr', vi id', vi par', vi rev', vi clk', vi kind', vs sv', vs vr', vs op', vi st', vi en', vb er', lv 4 (slc AT.v ats' an'), lv 2 (slc RF.v lks' ln')]) (ns := [sgn tr tr', sgn id id', sgn rev rev', sgn par par', sgn clk clk', sgn kind kind', wrd sv sv', wrd vr vr', wrd op op', sgn st st', sgn en en', sgn (flg er) (flg er')]) (p := an) (q := an') ha1 hb1 rfl rfl la1 lb1 (by simp) ⟨by simp, by simp, by simp [il]⟩ (Nat.le_refl _) ?_ _ (by simp) (by simp) (by simp) (by simp)
  have hn12 : [sgn tr tr', sgn id id', sgn rev rev', sgn par par', sgn clk clk', sgn kind kind', wrd sv sv', wrd vr vr', wrd op op', sgn st st', sgn en en', sgn (flg er) (flg er')].length = 12 := rfl
  generalize [sgn tr tr', sgn id id', sgn rev rev', sgn par par', sgn clk clk', sgn kind kind', wrd sv sv', wrd vr vr', wrd op op', sgn st st', sgn en en', sgn (flg er) (flg er')] = n12 at hn12 hfl ⊢
  rintro p1 h1 g2 g3 A1 g5 k1
  rw [List.take_left] at k1
  generalize hz1 : zipA ats ats' = z1 at zl A1 g5 hfl
  have a1 := A1.a
  have a2 := A1.b
  have ap1 := A1.grow [sgn ats.length ats'.length] (by simp [hn12, zl]; omega)
  have B1 := A1.set ((n12 ++ z1) ++ [sgn ats.length ats'.length])
  have k2 := At3.takeSet (h := h1) (n := h.length) (.arr false 1 (il ((n12 ++ z1) ++ [sgn ats.length ats'.length]))) (by have := A1.len; omega)
  rw [k1] at k2
  have hm2 : ((n12 ++ z1) ++ [sgn (ats.length : Int) (ats'.length : Int)]).length ≤ 10000 := by simp [hn12, zl]; omega
  generalize hm : (n12 ++ z1) ++ [sgn (ats.length : Int) (ats'.length : Int)] = m2 at ap1 B1 k2 hm2
  generalize (n12 ++ z1).length = L1 at g5 ap1
  generalize hh2 : h1.set (h.length + 2) (.arr false 1 (il m2)) = h2 at ap1 B1 k2
  simp only [il, List.map_cons, List.map_nil] at ap1
  simp -implicitDefEqProofs [g2, g3, g5, a1, a2, rl, t1, t2, sA, ap1]
  refine cmp_l1 (ca := [vi tr, vi id, vi par, vi rev, vi clk, vi kind, vs sv, vs vr, vs op, vi st, vi en, vb er, lv 4 (slc AT.v ats an), lv 2 (slc RF.v lks ln)]) (cb := [vi tr', vi id', vi par', vi rev', vi clk', vi kind', vs sv', vs vr', vs op', vi st', vi en', vb er', lv 4 (slc AT.v ats' an'), lv 2 (slc RF.v lks' ln')]) (ns := m2) (p := ln) (q := ln') ha2 hb2 rfl rfl la2 lb2 hm2 B1 (Nat.le_refl _) ?_ _ (by simp [g2]) (by simp [g3]) (by simp) (by simp)
  rintro p3 h3 e2 e3 A3 e5 k3
  rw [k2] at k3
  generalize hz2 : zipR lks lks' = z2 at zr A3 e5 hfl
  have a3 := A3.a
  have a4 := A3.b
  have ap3 := A3.grow [sgn lks.length lks'.length] (by simp [zr]; omega)
  have B3 := A3.set ((m2 ++ z2) ++ [sgn lks.length lks'.length])
  have k4 := At3.takeSet (h := h3) (n := h.length) (.arr false 1 (il ((m2 ++ z2) ++ [sgn lks.length lks'.length]))) (by have := A3.len; omega)
  rw [k3] at k4
  have hm4 : ((m2 ++ z2) ++ [sgn (lks.length : Int) (lks'.length : Int)]).length ≤ 100000 := by simp [zr]; omega
  have hor : R = orl ((m2 ++ z2) ++ [sgn (lks.length : Int) (lks'.length : Int)]) := by rw [hfl, ← hm]; simp only [List.append_assoc]
  rw [hor]
  clear hfl hor
  generalize hm' : (m2 ++ z2) ++ [sgn (lks.length : Int) (lks'.length : Int)] = m4 at ap3 B3 k4 hm4 ⊢
  generalize (m2 ++ z2).length = L3 at e5 ap3
  generalize hh4 : h3.set (h.length + 2) (.arr false 1 (il m4)) = h4 at ap3 B3 k4
  simp only [il, List.map_cons, List.map_nil] at ap3
  simp -implicitDefEqProofs [e2, e3, e5, a3, a4, rl, t3, t4, sR, ap3]
  refine cmp_l2 B3 hm4 ?_ ?_ _ (by simp) (by simp)
  · intro s hs
    simp -implicitDefEqProofs [hs, k4]
  · intro hz s
    simp -implicitDefEqProofs [hz, k4]
end Go.Proofs.Sl
namespace Go.Proofs.Sl
abbrev v8 (n : Nat) : V := .s (.int .u8 (n : Int))
structure MK where
  t : Nat
  i : Nat
  p : Nat
  r : Nat
  c : Nat
  k : Nat
  s : Nat
  v : Nat
  o : Nat
  st : Nat
  lo : Nat
  tg : Nat
  lk : Nat
  fl : Bool
def MK.val (m : MK) : V := .agg [v8 m.t, v8 m.i, v8 m.p, v8 m.r, v8 m.c, v8 m.k, v8 m.s, v8 m.v, v8 m.o, v8 m.st, v8 m.lo, v8 m.tg, v8 m.lk, vb m.fl]
structure MK.Ok (m : MK) : Prop where
  a : ∀ n ∈ [m.t, m.i, m.p, m.r, m.c, m.k, m.s, m.v, m.o, m.st, m.lo, m.tg, m.lk], n < 256
def svs : List ByteArray := [⟨#[97, 112, 105]⟩, ⟨#[100, 98]⟩, ⟨#[119, 101, 98]⟩]
def vrs : List ByteArray := [⟨#[]⟩, ⟨#[118, 49]⟩, ⟨#[118, 50]⟩]
def ops : List ByteArray := [⟨#[103, 101, 116]⟩, ⟨#[112, 117, 116]⟩]
def zns : List ByteArray := [⟨#[97]⟩, ⟨#[98]⟩, ⟨#[119, 101, 115, 116, 32, 49]⟩]
def mats (b : Nat) (n : Int) (z : ByteArray) : List AT := [⟨⟨#[111, 107]⟩, ⟨3, ⟨#[]⟩, b⟩⟩, ⟨⟨#[115, 105, 122, 101]⟩, ⟨2, ⟨#[]⟩, n⟩⟩, ⟨⟨#[122, 111, 110, 101]⟩, ⟨1, z, 0⟩⟩]
def mlks : Nat → Int → Int → List RF
  | 0, _, _ => []
  | 1, t, i => [⟨t, i⟩]
  | _, t, i => [⟨t, i⟩, ⟨t, i + 1⟩]
def tbl (l : List ByteArray) (n : Nat) : ByteArray := l.getD n ⟨#[]⟩
def MK.sp (m : MK) : SP := ⟨((m.t % 3 * 1048576 + 1 + m.t / 3 % 4 : Nat) : Int), ((1 + m.i % 4 : Nat) : Int), ((m.p % 5 : Nat) : Int), ((m.r % 3 : Nat) : Int), ((1 + m.c % 3 : Nat) : Int), ((1 + m.k % 5 : Nat) : Int), tbl svs (m.s % 3), tbl vrs (m.v % 3), tbl ops (m.o % 2), (m.st : Int) - 50, (m.st : Int) - 50 + ((m.lo % 40 : Nat) : Int), m.fl,
  (mats (m.tg / 4 % 2) ((m.tg : Int) - 60) (tbl zns (m.tg / 8 % 3))).take (m.tg % 4), mlks (m.lk % 3) ((1 + m.lk / 3 % 5 : Nat) : Int) ((1 + m.lk / 15 % 5 : Nat) : Int), false, m.lk % 3 == 0⟩
theorem tmodN (a b : Nat) : (a : Int).tmod (b : Int) = ((a % b : Nat) : Int) := rfl
theorem tdivN (a b : Nat) : (a : Int).tdiv (b : Int) = ((a / b : Nat) : Int) := rfl
theorem w8 {n : Nat} (h : n < 256) : IntKind.u8.wrap (n : Int) = (n : Int) := by rw [zcgk_]; omega
theorem w64 {n : Int} (h : -1000000000 ≤ n ∧ n ≤ 1000000000) : IntKind.i64.wrap n = n := zaq_ (by omega) (by omega)
theorem tbl_at {l : List ByteArray} {n : Nat} (h : n < l.length) : (l.map vs)[n]? = some (vs (tbl l n)) := by
  simp [tbl, h]
def lcell (cs : List V) (nl : Nat) (a b : Int) : List V := if nl = 0 then cs else cs.set 13 (.own 2 ((mlks nl a b).map RF.v))
theorem zciw_ {h : H} {base : Nat} {mc rs cs : List V} {f : Ex × St → Option (V × H)} {w : Option (V × H)} {lk nl b3 a9 b4 aA : Nat}
    (c12 : mc[12]? = some (v8 lk)) (c13 : cs[13]? = some vnil) (hb : base ≤ h.length)
    (eH : (lk : Int).tmod 3 = (nl : Int)) (eI : (lk : Int).tdiv 3 = (b3 : Int)) (eJ : (b3 : Int).tmod 5 = (a9 : Int)) (eK : (lk : Int).tdiv 15 = (b4 : Int)) (eL : (b4 : Int).tmod 5 = (aA : Int))
    (hv : ∀ n ∈ [b3, b4, a9, aA, nl], n < 256) (hnl : nl = 0 ∨ nl = 1 ∨ nl = 2)
    (hend : ∀ s ds, s 2 = .ptr (h.length + 1) 0 → s 3 = .ptr (h.length + 2) 0 → f (.exit 0, ⟨s, h ++ (.box false mc :: .box false rs :: .box false (lcell cs nl (1 + (a9 : Int)) (1 + (aA : Int))) :: ds)⟩) = w)
    (s0 : Sl) (h1 : s0 1 = .ptr h.length 0) (h2 : s0 2 = .ptr (h.length + 1) 0) (h3 : s0 3 = .ptr (h.length + 2) 0) (h5 : s0 5 = vi 0) :
    ob (loopW (xcode (run XP) loopW base zcs_) ⟨s0, h ++ [.box false mc, .box false rs, .box false cs]⟩) f = w := by
  simp only [List.mem_cons, List.not_mem_nil, or_false, forall_eq_or_imp, forall_eq] at hv
  obtain ⟨g0, g1, g2, g3, g4⟩ := hv
  have w3 := w8 g0
  have w4 := w8 g1
  have xC : IntKind.i64.wrap (a9 : Int) = a9 := w64 (by omega)
  have xD : IntKind.i64.wrap (aA : Int) = aA := w64 (by omega)
  have xH : IntKind.i64.wrap (1 + (a9 : Int)) = 1 + a9 := w64 (by omega)
  have xI : IntKind.i64.wrap (1 + (aA : Int)) = 1 + aA := w64 (by omega)
  have xJ : IntKind.i64.wrap (1 + (aA : Int) + 1) = 1 + aA + 1 := w64 (by omega)
  have y0 : IntKind.i64.wrap 0 = 0 := by decide
  have y1 : IntKind.i64.wrap 1 = 1 := by decide
  have y2 : IntKind.i64.wrap 2 = 2 := by decide
  have hcl : 13 < cs.length := (List.getElem?_eq_some_iff.1 c13).1
  have hb2 : base ≤ h.length + 2 := by omega
  generalize hB : xcode (run XP) loopW base zcs_ = B
  have step : ∀ st, B st = xcode (run XP) loopW base zcs_ st := fun st => by rw [hB]
  rw [zht_]
  rcases hnl with rfl | rfl | rfl
  · simp -implicitDefEqProofs [step, zcs_, h1, h2, h3, h5, c12, c13, eH, y0]
    exact hend _ [] (by simp [h2]) (by simp [h3])
  · simp -implicitDefEqProofs [step, zcs_, h1, h2, h3, h5, c12, c13, eH, eI, eJ, eK, eL, w3, w4, xC, xD, xH, xI, y0, y1, hb2]
    rw [zht_]
    simp -implicitDefEqProofs [step, zcs_, h1, h2, h3, c12, eH, y1]
    exact hend _ [.dead] (by simp [h2]) (by simp [h3])
  · simp -implicitDefEqProofs [step, zcs_, h1, h2, h3, h5, c12, c13, eH, eI, eJ, eK, eL, w3, w4, xC, xD, xH, xI, y0, y1, y2, hb2]
    rw [zht_]
    simp -implicitDefEqProofs [step, zcs_, h1, h2, h3, c12, hcl, eH, eI, eJ, eK, eL, w3, w4, xC, xD, xH, xI, xJ, y1, y2, hb2]
    rw [zht_]
    simp -implicitDefEqProofs [step, zcs_, h1, h2, h3, c12, eH, y2]
    exact hend _ [.dead] (by simp [h2]) (by simp [h3])
set_option maxHeartbeats 2000000 in
theorem zcix_ (h : H) (t i p r c k s v o st lo tg lk : Nat) (fl : Bool) (a0 b0 a1 a2 a3 a4 a5 a6 is iv io a7 b1 a8 b2 iz nt nl b3 a9 b4 aA : Nat) (sv vr op zn : ByteArray)
    (e0 : (t : Int).tmod 3 = (a0 : Int)) (e1 : (t : Int).tdiv 3 = (b0 : Int)) (e2 : (b0 : Int).tmod 4 = (a1 : Int)) (e3 : (i : Int).tmod 4 = (a2 : Int)) (e4 : (p : Int).tmod 5 = (a3 : Int)) (e5 : (r : Int).tmod 3 = (a4 : Int)) (e6 : (c : Int).tmod 3 = (a5 : Int)) (e7 : (k : Int).tmod 5 = (a6 : Int))
    (e8 : (s : Int).tmod 3 = (is : Int)) (e9 : (v : Int).tmod 3 = (iv : Int)) (eA : (o : Int).tmod 2 = (io : Int)) (eB : (lo : Int).tmod 40 = (a7 : Int)) (eC : (tg : Int).tdiv 4 = (b1 : Int)) (eD : (b1 : Int).tmod 2 = (a8 : Int)) (eE : (tg : Int).tdiv 8 = (b2 : Int)) (eF : (b2 : Int).tmod 3 = (iz : Int)) (eG : (tg : Int).tmod 4 = (nt : Int))
    (eH : (lk : Int).tmod 3 = (nl : Int)) (eI : (lk : Int).tdiv 3 = (b3 : Int)) (eJ : (b3 : Int).tmod 5 = (a9 : Int)) (eK : (lk : Int).tdiv 15 = (b4 : Int)) (eL : (b4 : Int).tmod 5 = (aA : Int))
    (hv : ∀ n ∈ [b0, st, b1, tg, b2, b3, b4, a0, a1, a2, a3, a4, a5, a6, a7, a8, a9, aA, nl], n < 256) (hnt : nt ≤ 3) (hnl : nl = 0 ∨ nl = 1 ∨ nl = 2)
    (s1 : (svs.map vs)[is]? = some (vs sv)) (s2 : (vrs.map vs)[iv]? = some (vs vr)) (s3 : (ops.map vs)[io]? = some (vs op)) (s4 : (zns.map vs)[iz]? = some (vs zn)) :
    run XP zlp_ [.agg [v8 t, v8 i, v8 p, v8 r, v8 c, v8 k, v8 s, v8 v, v8 o, v8 st, v8 lo, v8 tg, v8 lk, vb fl]] h =
      some (SP.v ⟨(a0 : Int) * 1048576 + 1 + a1, 1 + (a2 : Int), a3, a4, 1 + (a5 : Int), 1 + (a6 : Int), sv, vr, op, (st : Int) - 50, (st : Int) - 50 + a7, fl, (mats a8 ((tg : Int) - 60) zn).take nt, mlks nl (1 + (a9 : Int)) (1 + (aA : Int)), false, nl == 0⟩, h) := by
  simp only [List.mem_cons, List.not_mem_nil, or_false, forall_eq_or_imp, forall_eq] at hv
  obtain ⟨g0, g1, g2, g3, g4, g5, g6, g7, g8, g9, gA, gB, gC, gD, gE, gF, gG, gH, gI⟩ := hv
  have w0 := w8 g0
  have w1 := w8 g2
  have w2 := w8 g4
  have w3 := w8 g5
  have w4 := w8 g6
  have x0 : IntKind.i64.wrap (a0 : Int) = a0 := w64 (by omega)
  have x1 : IntKind.i64.wrap ((a0 : Int) * 2 ^ min 20 IntKind.i64.bits) = (a0 : Int) * 1048576 := w64 (n := (a0 : Int) * 1048576) (by omega)
  have x2 : IntKind.i64.wrap ((a0 : Int) * 1048576 + 1) = (a0 : Int) * 1048576 + 1 := w64 (by omega)
  have x3 : IntKind.i64.wrap ((a0 : Int) * 1048576 + 1 + a1) = (a0 : Int) * 1048576 + 1 + a1 := w64 (by omega)
  have x4 : IntKind.i64.wrap (a1 : Int) = a1 := w64 (by omega)
  have x5 : IntKind.i64.wrap (a2 : Int) = a2 := w64 (by omega)
  have x6 : IntKind.i64.wrap (a3 : Int) = a3 := w64 (by omega)
  have x7 : IntKind.i64.wrap (a4 : Int) = a4 := w64 (by omega)
  have x8 : IntKind.i64.wrap (a5 : Int) = a5 := w64 (by omega)
  have x9 : IntKind.i64.wrap (a6 : Int) = a6 := w64 (by omega)
  have xA : IntKind.i64.wrap (a7 : Int) = a7 := w64 (by omega)
  have xB : IntKind.i64.wrap (a8 : Int) = a8 := w64 (by omega)
  have xC : IntKind.i64.wrap (a9 : Int) = a9 := w64 (by omega)
  have xD : IntKind.i64.wrap (aA : Int) = aA := w64 (by omega)
  have xE : IntKind.i64.wrap (1 + (a2 : Int)) = 1 + a2 := w64 (by omega)
  have xF : IntKind.i64.wrap (1 + (a5 : Int)) = 1 + a5 := w64 (by omega)
  have xG : IntKind.i64.wrap (1 + (a6 : Int)) = 1 + a6 := w64 (by omega)
  have xH : IntKind.i64.wrap (1 + (a9 : Int)) = 1 + a9 := w64 (by omega)
  have xI : IntKind.i64.wrap (1 + (aA : Int)) = 1 + aA := w64 (by omega)
  have xJ : IntKind.i64.wrap (1 + (aA : Int) + 1) = 1 + aA + 1 := w64 (by omega)
  have xK : IntKind.i64.wrap (st : Int) = st := w64 (by omega)
  have xL : IntKind.i64.wrap ((st : Int) - 50) = (st : Int) - 50 := w64 (by omega)
  have xM : IntKind.i64.wrap ((st : Int) - 50 + a7) = (st : Int) - 50 + a7 := w64 (by omega)
  have xN : IntKind.i64.wrap (tg : Int) = tg := w64 (by omega)
  have xO : IntKind.i64.wrap ((tg : Int) - 60) = (tg : Int) - 60 := w64 (by omega)
  have xP : IntKind.i64.wrap (nl : Int) = nl := w64 (by omega)
  simp only [svs, vrs, ops, zns, List.map_cons, List.map_nil] at s1 s2 s3 s4
  rw [run_eq, zbuu_]
  have hl := fun mc rs cs f w c12 c13 hend s0 => zciw_ (h := h) (base := h.length) (mc := mc) (rs := rs) (cs := cs) (f := f) (w := w) (lk := lk) (nl := nl) c12 c13 (Nat.le_refl _) eH eI eJ eK eL (by simp; omega) hnl hend s0
  simp -implicitDefEqProofs [ziq_, e0, e1, e2, e3, e4, e5, e6, e7, e8, e9, eA, eB, eC, eD, eE, eF, eG, eH, eI, eJ, eK, eL, w0, w1, w2, w3, w4, x0, x1, x2, x3, x4, x5, x6, x7, x8, x9, xA, xB, xC, xD, xE, xF, xG, xH, xI, xJ, xK, xL, xM, xN, xO, xP, s1, s2, s3, s4, hnt]
  refine hl _ _ _ _ _ rfl rfl ?_ _ ?_ ?_ ?_ ?_
  · intro s ds g2 g3
    have hml : mlks nl (1 + (a9 : Int)) (1 + (aA : Int)) = [] ↔ nl = 0 := by rcases hnl with rfl | rfl | rfl <;> simp [mlks]
    by_cases hn0 : nl = 0
    · subst hn0
      simp -implicitDefEqProofs [lcell, g2, g3, SP.v, slc, mlks]
      exact ⟨rfl, rfl⟩
    · simp -implicitDefEqProofs [lcell, g2, g3, SP.v, slc, hn0]
      exact ⟨rfl, rfl⟩
  all_goals simp
end Go.Proofs.Sl
namespace Go.Proofs.Sl
theorem zciy_ {h : H} {m : MK} (hm : m.Ok) : run XP zlp_ [m.val] h = some (m.sp.v, h) := by
  obtain ⟨t, i, p, r, c, k, s, v, o, st, lo, tg, lk, fl⟩ := m
  have hm := hm.a
  simp only [List.mem_cons, List.not_mem_nil, or_false, forall_eq_or_imp, forall_eq] at hm
  obtain ⟨m0, m1, m2, m3, m4, m5, m6, m7, m8, m9, mA, mB, mC⟩ := hm
  have := zcix_ h t i p r c k s v o st lo tg lk fl (t % 3) (t / 3) (t / 3 % 4) (i % 4) (p % 5) (r % 3) (c % 3) (k % 5) (s % 3) (v % 3) (o % 2) (lo % 40) (tg / 4) (tg / 4 % 2) (tg / 8) (tg / 8 % 3) (tg % 4) (lk % 3) (lk / 3) (lk / 3 % 5) (lk / 15) (lk / 15 % 5)
    (tbl svs (s % 3)) (tbl vrs (v % 3)) (tbl ops (o % 2)) (tbl zns (tg / 8 % 3))
    (tmodN _ _) (tdivN _ _) (tmodN _ _) (tmodN _ _) (tmodN _ _) (tmodN _ _) (tmodN _ _) (tmodN _ _) (tmodN _ _) (tmodN _ _) (tmodN _ _) (tmodN _ _) (tdivN _ _) (tmodN _ _) (tdivN _ _) (tmodN _ _) (tmodN _ _) (tmodN _ _) (tdivN _ _) (tmodN _ _) (tdivN _ _) (tmodN _ _)
    (by simp only [List.mem_cons, List.not_mem_nil, or_false, forall_eq_or_imp, forall_eq]; omega) (by omega) (by omega)
    (tbl_at (by simp only [svs, List.length_cons, List.length_nil]; omega)) (tbl_at (by simp only [vrs, List.length_cons, List.length_nil]; omega)) (tbl_at (by simp only [ops, List.length_cons, List.length_nil]; omega)) (tbl_at (by simp only [zns, List.length_cons, List.length_nil]; omega))
  have hsp : MK.sp ⟨t, i, p, r, c, k, s, v, o, st, lo, tg, lk, fl⟩ = (⟨((t % 3 : Nat) : Int) * 1048576 + 1 + ((t / 3 % 4 : Nat) : Int), 1 + ((i % 4 : Nat) : Int), ((p % 5 : Nat) : Int), ((r % 3 : Nat) : Int), 1 + ((c % 3 : Nat) : Int), 1 + ((k % 5 : Nat) : Int), tbl svs (s % 3), tbl vrs (v % 3), tbl ops (o % 2), (st : Int) - 50, (st : Int) - 50 + ((lo % 40 : Nat) : Int), fl,
      (mats (tg / 4 % 2) ((tg : Int) - 60) (tbl zns (tg / 8 % 3))).take (tg % 4), mlks (lk % 3) (1 + ((lk / 3 % 5 : Nat) : Int)) (1 + ((lk / 15 % 5 : Nat) : Int)), false, lk % 3 == 0⟩ : SP) := by
    simp only [MK.sp, Int.natCast_add, Int.natCast_mul]
    rfl
  rw [hsp]
  exact this
theorem MK.len (m : MK) : m.sp.ats.length ≤ 3 ∧ m.sp.lks.length ≤ 2 := by
  refine ⟨?_, ?_⟩
  · show ((mats _ _ _).take _).length ≤ 3
    rw [List.length_take]
    exact Nat.min_le_right _ _
  · show (mlks (m.lk % 3) _ _).length ≤ 2
    have : m.lk % 3 = 0 ∨ m.lk % 3 = 1 ∨ m.lk % 3 = 2 := by omega
    rcases this with h | h | h <;> rw [h] <;> simp [mlks]
theorem MK.an (m : MK) : m.sp.an = true → m.sp.ats = [] := fun h => by cases h
theorem MK.ln (m : MK) : m.sp.ln = true → m.sp.lks = [] := fun h => by
  have h0 : m.lk % 3 = 0 := by simpa [MK.sp] using h
  show mlks (m.lk % 3) _ _ = []
  rw [h0, mlks]
theorem MK.sm (m : MK) : m.sp.Sm := ⟨by have := m.len.1; omega, by have := m.len.2; omega, m.an, m.ln⟩
end Go.Proofs.Sl
namespace Go.Proofs.Sl
def sps (ms : List MK) : List SP := (ms.take 12).map MK.sp
theorem zzj_ (ms : List MK) : (sps ms).length ≤ 12 := by
  rw [sps, List.length_map, List.length_take]
  exact Nat.min_le_left _ _
structure SP.Ti (a : SP) : Prop where
  al : a.ats.length ≤ 1000
  ll : a.lks.length ≤ 1000
  an : a.an = true → a.ats = []
  ln : a.ln = true → a.lks = []
theorem SP.Ti.sm {a : SP} (h : a.Ti) : a.Sm := ⟨by have := h.al; omega, by have := h.ll; omega, h.an, h.ln⟩
theorem MK.ti (m : MK) : m.sp.Ti := ⟨by have := m.len.1; omega, by have := m.len.2; omega, m.an, m.ln⟩
theorem sps_ti {ms : List MK} {a : SP} (h : a ∈ sps ms) : a.Ti := by
  obtain ⟨m, -, rfl⟩ := List.mem_map.1 h
  exact m.ti
theorem zciz_ {h h2 : H} (htk : h2.take h.length = h) : ∃ t, h2 = h ++ t := ⟨h2.drop h.length, by
  have := List.take_append_drop h.length h2
  rw [htk] at this
  exact this.symm⟩
theorem zcja_ {h : H} {v : V} {ms : List MK} (hv : ∀ t, Rd (h ++ t) 14 v (ms.map MK.val)) (hm : ∀ m ∈ ms, m.Ok) : run XP zpv_ [v] h = some (ow (sps ms), h) := by
  have ha0 := (hv []).arg0
  rw [run_eq, zbvi_]
  simp -implicitDefEqProofs [zie_, ha0]
  refine zpi_ (min ms.length 12) (fun k s h' => ∃ t, Sees s [(0, v), (4, vi k)] ∧ h' = h ++ t ∧ OutV (s 3) h' h.length 14 (((ms.take k).map MK.sp).map SP.v)) ?_ ?_ _ _
    ⟨[], by simp, by simp, .inl ⟨rfl, by simp⟩⟩
  · rintro B f' hB hf k s h' hk ⟨t, ⟨h0, h4, -⟩, rfl, ho⟩ K
    have hk1 : k < ms.length := by omega
    have hk2 : (k : Int) < 12 := by omega
    obtain ⟨m, hm1⟩ : ∃ m, ms[k]? = some m := ⟨_, List.getElem?_eq_getElem hk1⟩
    have htl := (hv t).toL
    obtain ⟨q, hq, hld⟩ := (hv t).at (i := k) (e := m.val) (by simp [hm1])
    have hw : IntKind.i64.wrap ((k : Int) + 1) = (k : Int) + 1 := zaq_ (by omega) (by omega)
    have hS := fun h => zciy_ (h := h) (hm m (List.mem_of_getElem? hm1))
    have hw1 := zff_ m.sp
    have hc1 : V.closed.closeds [m.sp.v] = true := zav_ [m.sp]
    have hlen : (((ms.take k).map MK.sp).map SP.v).length + 1 ≤ 837723144972 := by simp; omega
    obtain ⟨x', h'', hap, ho', htk, hbl⟩ := ho.grow (lim := 837723144972) (by simp) hw1 hc1 hlen
    rw [List.take_left] at htk
    obtain ⟨t', rfl⟩ := zciz_ htk
    have htake : ((ms.take k).map MK.sp).map SP.v ++ [m.sp.v] = ((ms.take (k + 1)).map MK.sp).map SP.v := by rw [List.take_add_one, hm1]; simp
    rw [htake] at ho'
    simp only [SP.v, V.cells, MK.val] at hld hS hap hw1 hc1
    simp -implicitDefEqProofs [hB, zmm_, h0, h4, htl, hk1, hk2, hq, hld, hS, hap]
    refine K _ _ ⟨t', ?_, rfl, ?_⟩
    · simp [h0, hw]
    · simpa using ho'
  · rintro B hB s h' ⟨t, ⟨h0, h4, -⟩, rfl, ho⟩
    have htl := (hv t).toL
    have hr := ho.ret (zav_ _)
    have e : (ms.take (min ms.length 12)).map MK.sp = sps ms := by
      rw [sps]
      by_cases hx : ms.length ≤ 12
      · rw [Nat.min_eq_left hx, List.take_of_length_le (Nat.le_refl _), List.take_of_length_le hx]
      · rw [Nat.min_eq_right (by omega)]
    rw [e] at hr
    have e2 : (if (sps ms).map SP.v = [] then vnil else V.own 14 ((sps ms).map SP.v)) = ow (sps ms) := by
      unfold ow
      by_cases hx : sps ms = []
      · rw [hx]; rfl
      · rw [if_neg hx, if_neg (by simpa using hx)]
    rw [e2] at hr
    by_cases hx : ms.length ≤ 12
    · rw [Nat.min_eq_left hx] at h4
      simp -implicitDefEqProofs [hB, zmm_, h0, h4, htl]
      simp only [hr]
      simp
    · rw [Nat.min_eq_right (by omega)] at h4
      have hlt : (12 : Int) < ms.length := by omega
      simp -implicitDefEqProofs [hB, zmm_, h0, h4, htl, hlt]
      simp only [hr]
      simp
def sameL : List SP → List SP → Bool
  | [], [] => true
  | a :: x, b :: y => cmpS a b == 0 && sameL x y
  | _, _ => false
theorem zzk_ : ∀ {x y : List SP}, sameL x y = true → x.length = y.length
  | [], [], _ => rfl
  | a :: x, b :: y, h => by
    rw [sameL, Bool.and_eq_true] at h
    rw [List.length_cons, List.length_cons, zzk_ h.2]
  | [], b :: y, h => by simp [sameL] at h
  | a :: x, [], h => by simp [sameL] at h
theorem zcjb_ {h : H} {v w : V} {xs ys : List SP} (hv : Rd h 14 v (xs.map SP.v)) (hw : Rd h 14 w (ys.map SP.v)) (hx : ∀ e ∈ xs, e.Ti) (hy : ∀ e ∈ ys, e.Ti) (hl : xs.length ≤ 100000) : run XP zpw_ [v, w] h = some (vb (sameL xs ys), h) := by
  have hla := hv.toL
  have hlb := hw.toL
  have ha0 := hv.arg0
  have hb0 := hw.arg0
  rw [run_eq, zbvj_]
  by_cases hn : xs.length = ys.length
  · have hn' : ((xs.length : Int) != (ys.length : Int)) = false := by rw [hn]; simp
    simp -implicitDefEqProofs [zgl_, ha0, hb0, hla, hlb, hn']
    refine zaw_ xs (fun k s h' => Sees s [(0, v), (1, w), (5, vi k)] ∧ h' = h ∧ sameL xs ys = sameL (xs.drop k) (ys.drop k)) ?_ ?_ _ _ ⟨by simp, rfl, rfl⟩
    · rintro B f' hB hf k e s h' he hk ⟨⟨h0, h1, h5, -⟩, rfl, hs⟩ K
      have hlt : (k : Int) < xs.length := by omega
      obtain ⟨d, hd⟩ : ∃ d, ys[k]? = some d := ⟨_, List.getElem?_eq_getElem (by omega)⟩
      obtain ⟨p, hp, hpl⟩ := hv.at (i := k) (e := e.v) (by simp [he])
      obtain ⟨q, hq, hql⟩ := hw.at (i := k) (e := d.v) (by simp [hd])
      have t1 := hx e (List.mem_of_getElem? he)
      have t2 := hy d (List.mem_of_getElem? hd)
      have hc := fun h => znf_ h t1.an t1.ln t2.an t2.ln t1.al t1.ll t2.al t2.ll
      have hwk : IntKind.i64.wrap ((k : Int) + 1) = (k : Int) + 1 := zaq_ (by omega) (by omega)
      rw [zbh_ he, zbh_ hd, sameL] at hs
      generalize cmpS e d = z at hc hs
      simp only [SP.v, V.cells] at hpl hql hc
      by_cases hz : z = 0
      · subst hz
        rw [show ((0 : Int) == 0) = true from rfl, Bool.true_and] at hs
        simp -implicitDefEqProofs [hB, zmn_, h0, h1, h5, hla, hlt, hp, hq, hpl, hql, hc]
        refine K _ _ ⟨?_, rfl, hs⟩
        simp [h0, h1, hwk]
      · have hz1 : (z == 0) = false := by simpa using hz
        have hz2 : (z != 0) = true := by simpa using hz
        rw [hz1, Bool.false_and] at hs
        simp -implicitDefEqProofs [hB, hf, zmn_, h0, h1, h5, hla, hlt, hp, hq, hpl, hql, hc, hz2, hs]
    · rintro B hB s h' ⟨⟨h0, h1, h5, -⟩, rfl, hs⟩
      rw [List.drop_of_length_le (Nat.le_refl _), List.drop_of_length_le (by omega), sameL] at hs
      simp -implicitDefEqProofs [hB, zmn_, h0, h1, h5, hla, hs]
  · have hn' : ((xs.length : Int) != (ys.length : Int)) = true := by simp; omega
    have : sameL xs ys = false := by
      cases hs : sameL xs ys with
      | false => rfl
      | true => exact absurd (zzk_ hs) hn
    simp -implicitDefEqProofs [zgl_, ha0, hb0, hla, hlb, hn', this]
end Go.Proofs.Sl
namespace Go.Proofs.Sl
def posD (x : SP) : List SP → Nat
  | [] => 0
  | y :: r => if cmpS y x < 0 then posD x r + 1 else 0
def insD (x : SP) : List SP → List SP
  | [] => [x]
  | y :: r => if cmpS y x < 0 then y :: insD x r else if cmpS y x = 0 then y :: r else x :: y :: r
def dslA (o es : List SP) : List SP := es.foldl (fun o x => insD x o) o
def dsl (es : List SP) : List SP := dslA [] es
theorem zzl_ (x : SP) : ∀ l : List SP, posD x l ≤ l.length
  | [] => Nat.le_refl _
  | y :: r => by
    rw [posD]
    split
    · rw [List.length_cons]; have := zzl_ x r; omega
    · exact Nat.zero_le _
theorem zzm_ {x : SP} : ∀ {l : List SP}, posD x l = l.length → insD x l = l.take (posD x l) ++ x :: l.drop (posD x l)
  | [], _ => rfl
  | y :: r, h => by
    rw [posD] at h
    by_cases c : cmpS y x < 0
    · rw [if_pos c, List.length_cons] at h
      rw [insD, if_pos c, posD, if_pos c, List.take_succ_cons, List.drop_succ_cons, List.cons_append, ← zzm_ (by omega)]
    · rw [if_neg c] at h; simp at h
theorem zzn_ {x : SP} : ∀ {l : List SP} {d : SP}, l[posD x l]? = some d → cmpS d x ≠ 0 → insD x l = l.take (posD x l) ++ x :: l.drop (posD x l)
  | [], d, h, _ => by simp at h
  | y :: r, d, h, hne => by
    rw [posD] at h
    by_cases c : cmpS y x < 0
    · rw [if_pos c, List.getElem?_cons_succ] at h
      rw [insD, if_pos c, posD, if_pos c, List.take_succ_cons, List.drop_succ_cons, List.cons_append, ← zzn_ h hne]
    · rw [if_neg c, List.getElem?_cons_zero] at h
      injection h with h
      subst h
      rw [insD, if_neg c, if_neg hne, posD, if_neg c]
      rfl
theorem zzo_ {x : SP} : ∀ {l : List SP} {d : SP}, l[posD x l]? = some d → cmpS d x = 0 → insD x l = l
  | [], d, h, _ => by simp at h
  | y :: r, d, h, hz => by
    rw [posD] at h
    by_cases c : cmpS y x < 0
    · rw [if_pos c, List.getElem?_cons_succ] at h
      rw [insD, if_pos c, zzo_ h hz]
    · rw [if_neg c, List.getElem?_cons_zero] at h
      injection h with h
      subst h
      rw [insD, if_neg c, if_pos hz]
theorem zzp_ (x : SP) : ∀ l : List SP, (insD x l).length ≤ l.length + 1
  | [] => Nat.le_refl _
  | y :: r => by
    rw [insD]
    split
    · rw [List.length_cons, List.length_cons]; have := zzp_ x r; omega
    · split <;> simp
theorem zsi_ {x a : SP} : ∀ {l : List SP}, a ∈ insD x l → a = x ∨ a ∈ l
  | [], h => by simpa [insD] using h
  | y :: r, h => by
    rw [insD] at h
    split at h
    · rcases List.mem_cons.1 h with h | h
      · exact .inr (by simp [h])
      · rcases zsi_ h with h | h
        · exact .inl h
        · exact .inr (List.mem_cons_of_mem _ h)
    · split at h
      · exact .inr h
      · simpa using h
theorem zzq_ {a : SP} : ∀ {es o : List SP}, a ∈ dslA o es → a ∈ o ∨ a ∈ es
  | [], o, h => .inl h
  | x :: r, o, h => by
    rcases zzq_ (es := r) (o := insD x o) h with h | h
    · rcases zsi_ h with h | h
      · exact .inr (by simp [h])
      · exact .inl h
    · exact .inr (List.mem_cons_of_mem _ h)
theorem zng_ {a : SP} {es : List SP} (h : a ∈ dsl es) : a ∈ es := by
  rcases zzq_ h with h | h
  · cases h
  · exact h
theorem zzr_ : ∀ (es o : List SP), (dslA o es).length ≤ o.length + es.length
  | [], o => Nat.le_refl _
  | x :: r, o => by
    have h1 := zzr_ r (insD x o)
    have h2 := zzp_ x o
    rw [List.length_cons]
    show (dslA (insD x o) r).length ≤ _
    omega
theorem zsj_ (es : List SP) : (dsl es).length ≤ es.length := by
  have := zzr_ es []
  rw [dsl]
  simpa using this
theorem dsl_up {es : List SP} {k : Nat} {e : SP} (h : es[k]? = some e) : dsl (es.take (k + 1)) = insD e (dsl (es.take k)) := by
  rw [List.take_add_one, h]
  simp [dsl, dslA]
theorem zcjc_ {e : SP} {out : List SP} {j : Nat} {d : SP} (h : out[j]? = some d) (hp : posD e out = j + posD e (out.drop j)) : (cmpS d e < 0 → posD e out = j + 1 + posD e (out.drop (j + 1))) ∧ (¬ cmpS d e < 0 → posD e out = j) := by
  rw [zbh_ h, posD] at hp
  refine ⟨fun c => ?_, fun c => ?_⟩
  · rw [if_pos c] at hp; omega
  · rw [if_neg c] at hp; omega
set_option maxHeartbeats 1000000 in
theorem set_l0 {H0 : H} {base : Nat} {f : Ex × St → Option (V × H)} {w : Option (V × H)} {v x : V} {es out : List SP} {k : Nat} {e : SP} (hx : Rd H0 14 x (out.map SP.v)) (hv : Rd H0 14 v (es.map SP.v)) (he : es[k]? = some e)
    (te : e.Ti) (to : ∀ a ∈ out, a.Ti) (hl : out.length ≤ 100000)
    (hend : ∀ s, s 0 = v → s 3 = x → s 4 = vi k → s 5 = vi (posD e out) → f (.exit 2, ⟨s, H0⟩) = w)
    (s0 : Sl) (g0 : s0 0 = v) (g3 : s0 3 = x) (g4 : s0 4 = vi k) (g5 : s0 5 = vi 0) :
    ob (loopW (xcode (run XP) loopW base zit_) ⟨s0, H0⟩) f = w := by
  have hxl := hx.toL
  obtain ⟨p, hp, hpl⟩ := hv.at (i := k) (e := e.v) (by simp [he])
  refine zaw_ out (fun j s h' => Sees s [(0, v), (3, x), (4, vi k), (5, vi j)] ∧ h' = H0 ∧ posD e out = j + posD e (out.drop j)) ?_ ?_ _ _ ⟨by simp [g0, g3, g4, g5], rfl, by simp⟩
  · rintro B f2 hB hf j d s h' hd hj ⟨⟨h0, h3, h4, h5, -⟩, rfl, hq⟩ K
    have hlt : (j : Int) < out.length := by omega
    obtain ⟨q, hq1, hql⟩ := hx.at (i := j) (e := d.v) (by simp [hd])
    have td := to d (List.mem_of_getElem? hd)
    have hc := fun h => znf_ h td.an td.ln te.an te.ln td.al td.ll te.al te.ll
    have hw : IntKind.i64.wrap ((j : Int) + 1) = (j : Int) + 1 := zaq_ (by omega) (by omega)
    obtain ⟨q1, q2⟩ := zcjc_ hd hq
    generalize cmpS d e = z at hc q1 q2
    simp only [SP.v, V.cells] at hpl hql hc
    by_cases hz : z < 0
    · simp -implicitDefEqProofs [-xread, zda_, zdb_, zdc_, hB, zit_, h0, h3, h4, h5, hxl, hlt, hp, hpl, hq1, hql, hc, hz]
      refine K _ _ ⟨?_, rfl, q1 hz⟩
      simp [h0, h3, h4, hw]
    · simp -implicitDefEqProofs [-xread, zda_, zdb_, zdc_, hB, hf, zit_, h0, h3, h4, h5, hxl, hlt, hp, hpl, hq1, hql, hc, hz]
      refine hend _ ?_ ?_ ?_ ?_ <;> simp [h0, h3, h4, h5, q2 hz]
  · rintro B hB s h' ⟨⟨h0, h3, h4, h5, -⟩, rfl, hq⟩
    rw [List.drop_of_length_le (Nat.le_refl _)] at hq
    simp -implicitDefEqProofs [-xread, zda_, zdb_, zdc_, hB, zit_, h0, h3, h4, h5, hxl]
    refine hend _ ?_ ?_ ?_ ?_ <;> simp [h0, h3, h4, h5, hq, posD]
end Go.Proofs.Sl
namespace Go.Proofs.Sl
theorem zsk_ {h h2 : H} (htk : h2.take h.length = h) : h.length ≤ h2.length := by
  have := congrArg List.length htk
  rw [List.length_take] at this
  omega
theorem take_add {h h2 : H} (htk : h2.take h.length = h) (t : H) : (h2 ++ t).take h.length = h := zchf_ (t := t) htk (zsk_ htk) t
theorem OutV.rd {x : V} {h : H} {b k : Nat} {es : List V} (o : OutV x h b k es) : Rd h k x es := by
  rcases o with ⟨rfl, rfl⟩ | ⟨q, _, _, rfl, h3⟩
  · exact .nil
  · exact .ref q false es h3
theorem zsl_ (s : Sl) (h : H) (k : Nat) (x : Opd) (lo hi : Option Opd) : xread s h (.slLst k x lo hi) = slV h k (x.ev s) (evOpt s lo) (evOpt s hi) := Eq.trans rfl rfl
theorem znh_ {h : H} {lim : Nat} {es ys : List V} {y : V} {n : Nat} (hn : es.length = n) (ey : appEls (h ++ [.arr false 14 es]) y = some ys) (hw : wide 14 ys = true) (hc : V.closed.closeds ys = true) (hl : es.length + ys.length ≤ lim) :
    zax_ (h ++ [.arr false 14 es]) 14 lim (.ref h.length n) y = some (.ref h.length (n + ys.length), h ++ [.arr false 14 (es ++ ys)]) := by
  subst hn
  rw [zgc_, ey, zab_, if_pos ⟨hw, hc⟩]
  simp [hl]
theorem OutV.part {x : V} {h : H} {b : Nat} {es : List V} (o : OutV x h b 14 es) (lo hi : Option V) {p : Nat × Nat} (hb : bounds es.length lo hi = some p) (hp : p.2 ≤ es.length) : ∃ y, (∀ t, slV (h ++ t) 14 x lo hi = some y) ∧ ∀ t, appEls (h ++ t) y = some ((es.take p.2).drop p.1) := by
  rcases o with ⟨rfl, rfl⟩ | ⟨q, h0, h1, rfl, h3⟩
  · refine ⟨vnil, fun t => by rw [zvw_]; simp only [List.length_nil] at hb; rw [hb]; rfl, fun t => by simp⟩
  · have hq := (List.getElem?_eq_some_iff.1 h3).1
    have h4 : ∀ t, (h ++ t)[q]? = some (.arr false 14 es) := fun t => by rw [List.getElem?_append_left hq]; exact h3
    refine ⟨.win q es.length p.1 p.2, fun t => ?_, fun t => ?_⟩
    · have : arrN (h ++ t) q es.length = some (false, 14, es) := by simp [arrN, arrAt, h4 t, zab_]
      rw [zvx_, this, zab_, if_pos rfl, hb, zab_]
    · rw [zwf_]
      exact zyo_ (h4 t) rfl hp
theorem Rd.at_app {h : H} {k : Nat} {v : V} {es : List V} (r : Rd h k v es) {i : Nat} {e : V} (he : es[i]? = some e) : ∃ p, ∀ t, iaddrV (h ++ t) k v i = some p ∧ ∀ c g, xload (h ++ t) c g p = rdRow c g 0 e.cells := by
  cases r with
  | nil => simp at he
  | lst es => exact ⟨.fptr e 0, fun t => ⟨by simp [he], fun c g => by rw [zph_]⟩⟩
  | ref n z es e' =>
    have hi : i < es.length := (List.getElem?_eq_some_iff.1 he).1
    refine ⟨.eptr n es.length i 0, fun t => ?_⟩
    have e2 : (h ++ t)[n]? = some (.arr z k es) := by rw [List.getElem?_append_left (List.getElem?_eq_some_iff.1 e').1]; exact e'
    exact ⟨by simp [e2, hi], fun c g => by rw [zli_]; simp [e2, he]⟩
theorem zcjd_ {es : List SP} (n : Nat) : V.closed.closeds ((es.map SP.v).take n) = true ∧ V.closed.closeds ((es.map SP.v).drop n) = true := by
  rw [← List.map_take, ← List.map_drop]
  exact ⟨zav_ _, zav_ _⟩
set_option maxHeartbeats 2000000 in
theorem zcje_ {h : H} {v : V} {es : List SP} (hv : ∀ h', h'.take h.length = h → Rd h' 14 v (es.map SP.v)) (hs : ∀ e ∈ es, e.Ti) (hl : es.length ≤ 1000) : run XP zpy_ [v] h = some (ow (dsl es), h) := by
  have ha0 := (hv h (List.take_length)).arg0
  rw [run_eq, zbvl_]
  simp -implicitDefEqProofs [ziu_, ha0]
  refine zaw_ es (fun k s h' => Sees s [(0, v), (4, vi k)] ∧ h'.take h.length = h ∧ OutV (s 3) h' h.length 14 ((dsl (es.take k)).map SP.v)) ?_ ?_ _ _
    ⟨by simp, by simp, .inl ⟨rfl, by simp⟩⟩
  · rintro B f' hB hf k e s h' he hk ⟨⟨h0, h4, -⟩, htk, ho⟩ K
    have hlt : (k : Int) < es.length := by omega
    have te := hs e (List.mem_of_getElem? he)
    have hvr := hv h' htk
    have hvl := hvr.toL
    have hxr := ho.rd
    have hxl := hxr.toL
    have hw : IntKind.i64.wrap ((k : Int) + 1) = (k : Int) + 1 := zaq_ (by omega) (by omega)
    have hup := dsl_up he
    have hto : ∀ a ∈ dsl (es.take k), a.Ti := fun a ha => hs a (List.mem_of_mem_take (zng_ ha))
    have hol := zsj_ (es.take k)
    rw [List.length_take] at hol
    obtain ⟨p, hp, hpl⟩ := hvr.at (i := k) (e := e.v) (by simp [he])
    generalize dsl (es.take k) = out at *
    have hin := fun f w hend s0 => set_l0 (base := h.length) (f := f) (w := w) hxr hvr he te hto (by omega) hend s0
    generalize hx : s 3 = x at *
    have hple := zzl_ e out
    simp -implicitDefEqProofs [-xread, zda_, zdb_, zdc_, hB, zqu_, h0, h4, hvl, hlt]
    refine hin _ _ (fun s2 g0 g3 g4 g5 => ?_) _ ?_ ?_ ?_ ?_
    · have jle : posD e out ≤ (out.map SP.v).length := by simpa using hple
      have b1 : bounds (out.map SP.v).length none (some (vi (posD e out))) = some (0, posD e out) := by simp [bounds, optNat, asNat, jle, zab_]; omega
      have b2 : bounds (out.map SP.v).length (some (vi (posD e out))) none = some (posD e out, (out.map SP.v).length) := by simp [bounds, optNat, asNat, jle, zab_]; omega
      obtain ⟨y1, sl1, ap1⟩ := ho.part none (some (vi (posD e out))) b1 jle
      obtain ⟨y2, sl2, ap2⟩ := ho.part (some (vi (posD e out))) none b2 (Nat.le_refl _)
      simp only [List.drop_zero, List.take_length] at ap1 ap2
      have hc := zcjd_ (es := out) (posD e out)
      have hwd := zhc_ out
      have hw1 : wide 14 ((out.map SP.v).take (posD e out)) = true := by
        rw [← List.map_take]
        exact zhc_ _
      have hw2 : wide 14 ((out.map SP.v).drop (posD e out)) = true := by
        rw [← List.map_drop]
        exact zhc_ _
      have hl1 : ((out.map SP.v).take (posD e out)).length = posD e out := by rw [List.length_take]; omega
      have hl2 : ((out.map SP.v).drop (posD e out)).length = out.length - posD e out := by simp
      have hins : out[posD e out]? = none ∨ (∃ d, out[posD e out]? = some d ∧ cmpS d e ≠ 0) → (insD e out).map SP.v = (out.map SP.v).take (posD e out) ++ e.v :: (out.map SP.v).drop (posD e out) := by
        rintro (c | ⟨d, c1, c2⟩)
        · rw [zzm_ (by have := List.getElem?_eq_none_iff.1 c; omega), List.map_append, List.map_cons, List.map_take, List.map_drop]
        · rw [zzn_ c1 c2, List.map_append, List.map_cons, List.map_take, List.map_drop]
      generalize hP1 : (out.map SP.v).take (posD e out) = P1 at *
      generalize hP2 : (out.map SP.v).drop (posD e out) = P2 at *
      have A1 := znh_ (h := h') (lim := 837723144972) (es := []) (n := 0) rfl (ap1 _) hw1 hc.1 (by simp; omega)
      have A2 := znh_ (h := h') (lim := 837723144972) (es := P1) (y := .lst 14 [e.v]) (ys := [e.v]) (n := posD e out) hl1 rfl (zff_ e) (zav_ [e]) (by simp; omega)
      have A3 := znh_ (h := h') (lim := 837723144972) (es := P1 ++ [e.v]) (n := posD e out + 1) (by simp [hl1]) (ap2 _) hw2 hc.2 (by simp; omega)
      obtain ⟨p2, hpp⟩ := hvr.at_app (i := k) (e := e.v) (by simp [he])
      have hp2 := fun t => (hpp t).1
      have hpl2 := fun t => (hpp t).2
      have hp3 := hp2 []
      have hpl3 := hpl2 []
      have sl3 := sl1 []
      have sl4 := sl2 []
      rw [List.append_nil] at hp3 hpl3 sl3 sl4
      simp only [List.nil_append, Nat.zero_add, hl1, List.length_cons, List.length_nil, List.append_assoc, List.cons_append] at A1 A2 A3
      have hO : OutV (.ref h'.length (posD e out + 1 + P2.length)) (h' ++ [.arr false 14 (P1 ++ e.v :: P2)]) h.length 14 (P1 ++ e.v :: P2) :=
        .inr ⟨h'.length, by simp, zsk_ htk, by simp [hl1]; omega, by simp⟩
      have htk2 := take_add htk [.arr false 14 (P1 ++ e.v :: P2)]
      generalize P1 ++ e.v :: P2 = P3 at *
      simp only [SP.v, V.cells] at hpl hpl2 hpl3 A2 A3
      by_cases hc1 : posD e out = out.length
      · have hc2 : ((posD e out : Int) == (out.length : Int)) = true := by rw [hc1]; simp
        have hi := hins (.inl (by rw [List.getElem?_eq_none_iff]; omega))
        simp -implicitDefEqProofs [-xread, -zgc_, -zlj_, zda_, zdb_, zdc_, zsl_, g0, g3, g4, g5, hxl, hc2, sl1, sl2, sl3, sl4, A1, A2, A3, hp2, hpl2, hp3, hpl3, zan_, optEq]
        refine K _ _ ⟨?_, htk2, ?_⟩
        · simp [g0, hw]
        · rw [hup, hi]
          simpa using hO
      · obtain ⟨d, hd⟩ : ∃ d, out[posD e out]? = some d := ⟨_, List.getElem?_eq_getElem (by omega)⟩
        have hc2 : ((posD e out : Int) == (out.length : Int)) = false := by simp; omega
        obtain ⟨q, hqq⟩ := hxr.at_app (i := posD e out) (e := d.v) (by simp [hd])
        have hq := (hqq []).1
        have hql := (hqq []).2
        rw [List.append_nil] at hq hql
        have td := hto d (List.mem_of_getElem? hd)
        have hcm := fun h => znf_ h td.an td.ln te.an te.ln td.al td.ll te.al te.ll
        by_cases hz : cmpS d e = 0
        · have hi := zzo_ hd hz
          rw [hz] at hcm
          rw [hi] at hup
          rw [← hup] at ho
          simp only [SP.v, V.cells] at hql hcm
          simp -implicitDefEqProofs [-xread, -zgc_, -zlj_, zda_, zdb_, zdc_, zsl_, g0, g3, g4, g5, hxl, hc2, hq, hql, hp3, hpl3, hcm]
          refine K _ _ ⟨?_, htk, ?_⟩
          · simp [g0, hw]
          · simpa [g3] using ho
        · have hi := hins (.inr ⟨d, hd, hz⟩)
          have hz2 : (cmpS d e != 0) = true := by simpa using hz
          generalize cmpS d e = z at *
          simp only [SP.v, V.cells] at hql hcm
          simp -implicitDefEqProofs [-xread, -zgc_, -zlj_, zda_, zdb_, zdc_, zsl_, g0, g3, g4, g5, hxl, hc2, hq, hql, hcm, hz2, sl1, sl2, sl3, sl4, A1, A2, A3, hp2, hpl2, hp3, hpl3, zan_, optEq]
          refine K _ _ ⟨?_, htk2, ?_⟩
          · simp [g0, hw]
          · rw [hup, hi]
            simpa using hO
    all_goals simp [h0, h4, hx]
  · rintro B hB s h' ⟨⟨h0, h4, -⟩, htk, ho⟩
    have hvl := (hv h' htk).toL
    have hr := ho.ret (zav_ _)
    rw [List.take_of_length_le (Nat.le_refl _)] at hr
    have e2 : (if (dsl es).map SP.v = [] then vnil else V.own 14 ((dsl es).map SP.v)) = ow (dsl es) := by
      unfold ow
      by_cases hx : dsl es = []
      · rw [hx]; rfl
      · rw [if_neg hx, if_neg (by simpa using hx)]
    rw [e2] at hr
    simp -implicitDefEqProofs [hB, zqu_, h0, h4, hvl, htk]
    simp only [hr]
    simp
end Go.Proofs.Sl
namespace Go.Proofs.Sl
theorem ow_map (es : List SP) : (if es.map SP.v = [] then vnil else V.own 14 (es.map SP.v)) = ow es := by
  unfold ow
  by_cases hx : es = []
  · rw [hx]; rfl
  · rw [if_neg hx, if_neg (by simpa using hx)]
theorem zbr_ : ∀ es : List SP, (winL es).Sublist es
  | [] => List.Sublist.slnil
  | [a] => List.Sublist.refl _
  | a :: b :: r => by
    rw [winL]
    split
    · exact (zbr_ (b :: r)).cons a
    · exact (zbr_ (b :: r)).cons_cons a
set_option maxHeartbeats 2000000 in
theorem zcjf_ {h : H} {v : V} {es : List SP} (hv : ∀ h', h'.take h.length = h → Rd h' 14 v (es.map SP.v)) (hs : ∀ e ∈ es, e.Ti) (hl : es.length ≤ 1000) : run XP zpz_ [v] h = some (ow (winL (dsl es)), h) := by
  have ha0 := (hv h (List.take_length)).arg0
  have hset := zcje_ hv hs hl
  have hdl := zsj_ es
  generalize dsl es = D at *
  have hws := zse_ D D 0 rfl
  rw [run_eq, zbvn_]
  simp -implicitDefEqProofs [zif_, ha0, hset, zsc_]
  refine zaw_ D (fun k s h' => ∃ pre, Sees s [(3, nl D), (5, vi k)] ∧ h'.take h.length = h ∧ OutV (s 4) h' h.length 14 (pre.map SP.v) ∧ pre ++ selA (pW D) k (D.drop k) = winL D ∧ pre.length ≤ k) ?_ ?_ _ _
    ⟨[], by simp, by simp, .inl ⟨rfl, by simp⟩, by simpa using hws, by simp⟩
  · rintro B f' hB hf k a s h' hak hk ⟨pre, ⟨h3, h5, -⟩, htk, ho, hx, hpl⟩ K
    have hlt : (k : Int) < D.length := by omega
    have hL := ((nl_LV D).rd h').toL
    have hw : IntKind.i64.wrap ((k : Int) + 1) = (k : Int) + 1 := zaq_ (by omega) (by omega)
    have h0k : (0 : Int) ≤ (k : Int) + 1 := by omega
    have i1 := fun h => nl_at hak h
    have d1 : D.getD k SP.z = a := by simp [hak]
    have hw1 := zff_ a
    have hc1 : V.closed.closeds [a.v] = true := zav_ [a]
    rw [zbh_ hak, selA] at hx
    obtain ⟨x', h'', hap, ho', htk2, hbl⟩ := ho.grow (lim := 837723144972) (zsk_ htk) hw1 hc1 (by simp; omega)
    rw [htk] at htk2
    by_cases hk1 : k + 1 = D.length
    · have hb : ((k : Int) + 1 == (D.length : Int)) = true := by rw [← hk1]; simp
      have hp : pW D k = true := by simp [pW, hk1]
      rw [hp, if_pos rfl] at hx
      simp only [SP.v, V.cells] at i1 hap
      simp -implicitDefEqProofs [hB, zgm_, h3, h5, hL, hlt, hw, hb, i1, hap, zan_, optEq]
      refine K _ _ ⟨pre ++ [a], ?_, htk2, ?_, by simpa using hx, by simp; omega⟩
      · simp [h3, hw]
      · simpa using ho'
    · have hb : ((k : Int) + 1 == (D.length : Int)) = false := by simp; omega
      obtain ⟨b, hb2⟩ : ∃ b, D[k + 1]? = some b := ⟨_, List.getElem?_eq_getElem (by omega)⟩
      have i2 := fun h => nl_at hb2 h
      have d2 : D.getD (k + 1) SP.z = b := by simp [hb2]
      have hp : pW D k = !(b.tr == a.tr && b.id == a.id) := by simp only [pW, d1, d2]; simp [hk1]
      simp only [SP.v, V.cells] at i1 i2 hap
      by_cases e1 : b.tr = a.tr
      · by_cases e2 : b.id = a.id
        · rw [hp, if_neg (by simp [e1, e2])] at hx
          have n1 : (b.tr != a.tr) = false := by simp [e1]
          have n2 : (b.id != a.id) = false := by simp [e2]
          simp -implicitDefEqProofs [hB, zgm_, h3, h5, hL, hlt, hw, hb, i1, i2, h0k, n1, n2, zan_, optEq]
          refine K _ _ ⟨pre, ?_, htk, ?_, hx, by omega⟩
          · simp [h3, hw]
          · simpa using ho
        · rw [hp, if_pos (by simp [e2])] at hx
          have n1 : (b.tr != a.tr) = false := by simp [e1]
          have n2 : (b.id != a.id) = true := by simpa using e2
          simp -implicitDefEqProofs [hB, zgm_, h3, h5, hL, hlt, hw, hb, i1, i2, h0k, n1, n2, hap, zan_, optEq]
          refine K _ _ ⟨pre ++ [a], ?_, htk2, ?_, by simpa using hx, by simp; omega⟩
          · simp [h3, hw]
          · simpa using ho'
      · rw [hp, if_pos (by simp [e1])] at hx
        have n1 : (b.tr != a.tr) = true := by simpa using e1
        simp -implicitDefEqProofs [hB, zgm_, h3, h5, hL, hlt, hw, hb, i1, i2, h0k, n1, hap, zan_, optEq]
        refine K _ _ ⟨pre ++ [a], ?_, htk2, ?_, by simpa using hx, by simp; omega⟩
        · simp [h3, hw]
        · simpa using ho'
  · rintro B hB s h' ⟨pre, ⟨h3, h5, -⟩, htk, ho, hx, hpl⟩
    have hL := ((nl_LV D).rd h').toL
    rw [List.drop_of_length_le (Nat.le_refl _), selA, List.append_nil] at hx
    subst hx
    have hr := ho.ret (zav_ _)
    rw [ow_map] at hr
    simp -implicitDefEqProofs [hB, zgm_, h3, h5, hL, htk]
    simp only [hr]
    simp
end Go.Proofs.Sl
namespace Go.Proofs.Sl
end Go.Proofs.Sl
namespace Go.Proofs.Sl
def Str (l : List SP) : Prop := l.Pairwise fun a b => cmpS a b < 0
def Ins (x y : List SP) : Prop := ∀ a ∈ x, ∃ b ∈ y, cmpS a b = 0
def Alk (x y : List SP) : Prop := Ins x y ∧ Ins y x
theorem cz (a : SP) : cmpS a a = 0 := zbb_.self a
theorem csym {a b : SP} (h : cmpS a b = 0) : cmpS b a = 0 := by rw [zbb_.anti]; omega
theorem clt {a b c : SP} (h : cmpS a b < 0) (k : cmpS b c ≤ 0) : cmpS a c < 0 := zbb_.lt_of_lt_le h k
theorem cle {a b c : SP} (h : cmpS a b ≤ 0) (k : cmpS b c ≤ 0) : cmpS a c ≤ 0 := zbb_.trans _ _ _ h k
theorem Ins.of_sub {x y : List SP} (h : ∀ a ∈ x, a ∈ y) : Ins x y := fun a ha => ⟨a, h a ha, cz a⟩
theorem Ins.trans {x y z : List SP} (h : Ins x y) (k : Ins y z) : Ins x z := fun a ha => by
  obtain ⟨b, hb, e⟩ := h a ha
  obtain ⟨c, hc, e2⟩ := k b hb
  exact ⟨c, hc, zbb_.eq_trans e e2⟩
theorem Alk.symm {x y : List SP} (h : Alk x y) : Alk y x := ⟨h.2, h.1⟩
theorem Alk.trans {x y z : List SP} (h : Alk x y) (k : Alk y z) : Alk x z := ⟨h.1.trans k.1, k.2.trans h.2⟩
theorem Alk.of_mem {x y : List SP} (h : ∀ a, a ∈ x ↔ a ∈ y) : Alk x y := ⟨Ins.of_sub fun a => (h a).1, Ins.of_sub fun a => (h a).2⟩
theorem zzs_ : ∀ {x y : List SP}, Str x → Str y → Alk x y → sameL x y = true
  | [], [], _, _, _ => rfl
  | [], b :: y, _, _, h => by obtain ⟨a, ha, _⟩ := h.2 b (by simp); cases ha
  | a :: x, [], _, _, h => by obtain ⟨b, hb, _⟩ := h.1 a (by simp); cases hb
  | a :: x, b :: y, hx, hy, h => by
    obtain ⟨hx1, hx2⟩ := List.pairwise_cons.1 hx
    obtain ⟨hy1, hy2⟩ := List.pairwise_cons.1 hy
    have hab : cmpS a b = 0 := by
      obtain ⟨b', hb', e1⟩ := h.1 a (by simp)
      obtain ⟨a', ha', e2⟩ := h.2 b (by simp)
      rcases List.mem_cons.1 hb' with rfl | hb'
      · exact e1
      · rcases List.mem_cons.1 ha' with rfl | ha'
        · exact csym e2
        · have l1 := hy1 b' hb'
          have l2 := hx1 a' ha'
          have l3 := clt l1 (by rw [csym e1]; exact Int.le_refl _)
          have l4 := clt l3 (Int.le_of_lt l2)
          have l5 := csym e2
          rw [zbb_.anti] at l5
          omega
    rw [sameL, hab, zzs_ hx2 hy2]
    · rfl
    · refine ⟨fun c hc => ?_, fun c hc => ?_⟩
      · obtain ⟨d, hd, e⟩ := h.1 c (List.mem_cons_of_mem _ hc)
        rcases List.mem_cons.1 hd with rfl | hd
        · have := hx1 c hc
          have e3 := zbb_.eq_trans hab (csym e)
          omega
        · exact ⟨d, hd, e⟩
      · obtain ⟨d, hd, e⟩ := h.2 c (List.mem_cons_of_mem _ hc)
        rcases List.mem_cons.1 hd with rfl | hd
        · have := hy1 c hc
          have e3 := zbb_.eq_trans (csym hab) (csym e)
          omega
        · exact ⟨d, hd, e⟩
theorem zzt_ : ∀ (r : List SP) (a : SP), ∀ c ∈ r, ∃ d ∈ a :: cptA a r, cmpS c d = 0
  | [], a, c, h => by cases h
  | b :: r, a, c, h => by
    rw [cptA]
    have ih := zzt_ r b
    by_cases e : cmpS b a = 0
    · rw [if_pos e]
      rcases List.mem_cons.1 h with rfl | h
      · exact ⟨a, by simp, e⟩
      · obtain ⟨d, hd, e2⟩ := ih c h
        rcases List.mem_cons.1 hd with rfl | hd
        · exact ⟨a, by simp, zbb_.eq_trans e2 e⟩
        · exact ⟨d, List.mem_cons_of_mem _ hd, e2⟩
    · rw [if_neg e]
      rcases List.mem_cons.1 h with rfl | h
      · exact ⟨c, by simp, cz c⟩
      · obtain ⟨d, hd, e2⟩ := ih c h
        exact ⟨d, List.mem_cons_of_mem _ hd, e2⟩
theorem zzu_ : ∀ (r : List SP) (a : SP), (a :: r).Pairwise (fun a b => cmpS a b ≤ 0) → Str (a :: cptA a r)
  | [], a, h => List.pairwise_singleton _ _
  | b :: r, a, h => by
    obtain ⟨h1, h2⟩ := List.pairwise_cons.1 h
    have ih := zzu_ r b h2
    obtain ⟨i1, i2⟩ := List.pairwise_cons.1 ih
    have hab := h1 b (by simp)
    rw [cptA]
    by_cases e : cmpS b a = 0
    · rw [if_pos e]
      refine List.pairwise_cons.2 ⟨fun c hc => ?_, i2⟩
      have := i1 c hc
      exact zbb_.lt_of_le_lt hab this
    · rw [if_neg e]
      refine List.pairwise_cons.2 ⟨fun c hc => ?_, ih⟩
      have hlt : cmpS a b < 0 := by
        rcases Int.lt_or_eq_of_le hab with q | q
        · exact q
        · exact absurd (csym q) e
      rcases List.mem_cons.1 hc with rfl | hc
      · exact hlt
      · exact clt hlt (Int.le_of_lt (i1 c hc))
theorem zcjg_ (es : List SP) : Str (dst es) := by
  have h := zys_ es
  unfold dst
  match srt es, h with
  | [], _ => exact List.Pairwise.nil
  | a :: r, h => exact zzu_ r a h
theorem zcjh_ (es : List SP) : Alk (dst es) es := by
  refine ⟨Ins.of_sub fun a => zmz_, fun c hc => ?_⟩
  have hc := zrx_.2 hc
  unfold dst
  generalize srt es = l at *
  match l, hc with
  | a :: r, hc =>
    rcases List.mem_cons.1 hc with rfl | hc
    · exact ⟨c, by simp [cpt], cz c⟩
    · obtain ⟨d, hd, e⟩ := zzt_ r a c hc
      exact ⟨d, hd, e⟩
theorem zzv_ {x : SP} : ∀ {l : List SP}, Str l → Str (insD x l)
  | [], _ => List.pairwise_singleton _ _
  | y :: r, h => by
    obtain ⟨h1, h2⟩ := List.pairwise_cons.1 h
    rw [insD]
    by_cases c : cmpS y x < 0
    · rw [if_pos c]
      refine List.pairwise_cons.2 ⟨fun a ha => ?_, zzv_ h2⟩
      rcases zsi_ ha with rfl | ha
      · exact c
      · exact h1 a ha
    · rw [if_neg c]
      by_cases e : cmpS y x = 0
      · rw [if_pos e]; exact h
      · rw [if_neg e]
        have hxy : cmpS x y < 0 := by rw [zbb_.anti]; omega
        refine List.pairwise_cons.2 ⟨fun a ha => ?_, h⟩
        rcases List.mem_cons.1 ha with rfl | ha
        · exact hxy
        · exact clt hxy (Int.le_of_lt (h1 a ha))
theorem zzw_ {x : SP} : ∀ {l : List SP}, ∀ a ∈ l, a ∈ insD x l
  | y :: r, a, h => by
    rw [insD]
    split
    · rcases List.mem_cons.1 h with rfl | h
      · simp
      · exact List.mem_cons_of_mem _ (zzw_ a h)
    · split
      · exact h
      · exact List.mem_cons_of_mem _ h
theorem zzx_ {x : SP} : ∀ l : List SP, ∃ d ∈ insD x l, cmpS x d = 0
  | [] => ⟨x, by simp [insD], cz x⟩
  | y :: r => by
    rw [insD]
    split
    · obtain ⟨d, hd, e⟩ := zzx_ r
      exact ⟨d, List.mem_cons_of_mem _ hd, e⟩
    · split
      · rename_i e
        exact ⟨y, by simp, csym e⟩
      · exact ⟨x, by simp, cz x⟩
theorem zzy_ : ∀ {es o : List SP}, Str o → Str (dslA o es)
  | [], o, h => h
  | x :: r, o, h => zzy_ (es := r) (zzv_ h)
theorem zzz_ : ∀ {es o : List SP}, ∀ a ∈ o, a ∈ dslA o es
  | [], o, a, h => h
  | x :: r, o, a, h => zzz_ (es := r) a (zzw_ a h)
theorem zbaa_ : ∀ {es o : List SP}, ∀ a ∈ es, ∃ d ∈ dslA o es, cmpS a d = 0
  | x :: r, o, a, h => by
    rcases List.mem_cons.1 h with rfl | h
    · obtain ⟨d, hd, e⟩ := zzx_ (x := a) o
      exact ⟨d, zzz_ (es := r) d hd, e⟩
    · exact zbaa_ (es := r) a h
theorem zsm_ (es : List SP) : Str (dsl es) := zzy_ List.Pairwise.nil
theorem zni_ (es : List SP) : Alk (dsl es) es := ⟨Ins.of_sub fun a => zng_, zbaa_⟩
def Idn (a b : SP) : Prop := a.tr = b.tr ∧ a.id = b.id
theorem cmp_id {a b : SP} (h : cmpS a b ≤ 0) : a.tr < b.tr ∨ (a.tr = b.tr ∧ a.id ≤ b.id) := by
  obtain ⟨t, e⟩ : ∃ t, cmpS a b = orl (sgn a.tr b.tr :: sgn a.id b.id :: t) := ⟨_, rfl⟩
  rw [e, orl, orl] at h
  clear e
  have q1 := zxt_ (a := a.tr) (b := b.tr)
  have q2 := zxt_ (a := a.id) (b := b.id)
  unfold sgn at q1 q2 h
  by_cases c1 : a.tr < b.tr
  · exact .inl c1
  · by_cases c2 : b.tr < a.tr
    · simp [c1, c2] at h
    · have e1 : a.tr = b.tr := by omega
      by_cases c3 : b.id < a.id
      · have c4 : ¬ a.id < b.id := by omega
        simp [c1, c2, c3, c4] at h
      · exact .inr ⟨e1, by omega⟩
theorem zeb_ {a b : SP} (h : cmpS a b = 0) : Idn a b := by
  have h1 := cmp_id (Int.le_of_eq h)
  have h2 := cmp_id (Int.le_of_eq (csym h))
  exact ⟨by omega, by omega⟩
theorem zcji_ {a b c : SP} (h : cmpS a b ≤ 0) (k : cmpS b c ≤ 0) (i : Idn a c) : Idn a b := by
  have h1 := cmp_id h
  have h2 := cmp_id k
  obtain ⟨i1, i2⟩ := i
  exact ⟨by omega, by omega⟩
theorem Idn.symm {a b : SP} (h : Idn a b) : Idn b a := ⟨h.1.symm, h.2.symm⟩
theorem Idn.trans {a b c : SP} (h : Idn a b) (k : Idn b c) : Idn a c := ⟨h.1.trans k.1, h.2.trans k.2⟩
def Lst (D : List SP) (x : SP) : Prop := ∀ y ∈ D, Idn y x → cmpS y x ≤ 0
theorem zhd_ : ∀ {D : List SP}, Str D → ∀ x ∈ winL D, Lst D x
  | [], _, x, h => by cases h
  | [a], _, x, h => by
    have : x = a := by simpa [winL] using h
    subst this
    intro y hy _
    have : y = x := by simpa using hy
    subst this
    rw [cz]
    exact Int.le_refl _
  | a :: b :: r, hs, x, h => by
    obtain ⟨h1, h2⟩ := List.pairwise_cons.1 hs
    rw [winL] at h
    intro y hy hi
    by_cases c : a.tr = b.tr ∧ a.id = b.id
    · rw [if_pos c] at h
      rcases List.mem_cons.1 hy with rfl | hy
      · exact Int.le_of_lt (h1 x ((zbr_ _).subset h))
      · exact zhd_ h2 x h y hy hi
    · rw [if_neg c] at h
      rcases List.mem_cons.1 h with rfl | _
      · rcases List.mem_cons.1 hy with rfl | hy
        · rw [cz]; exact Int.le_refl _
        · exfalso
          have hb : Idn x b := by
            rcases List.mem_cons.1 hy with rfl | hy
            · exact hi.symm
            · exact zcji_ (Int.le_of_lt (h1 b (by simp))) (Int.le_of_lt ((List.pairwise_cons.1 h2).1 y hy)) hi.symm
          exact c hb
      · rename_i hx
        rcases List.mem_cons.1 hy with rfl | hy
        · exact Int.le_of_lt (h1 x ((zbr_ _).subset hx))
        · exact zhd_ h2 x hx y hy hi
theorem znj_ : ∀ {D : List SP}, Str D → ∀ x ∈ D, Lst D x → x ∈ winL D
  | [a], _, x, h, _ => by simpa [winL] using h
  | a :: b :: r, hs, x, h, hl => by
    obtain ⟨h1, h2⟩ := List.pairwise_cons.1 hs
    rw [winL]
    have hsub : x ∈ b :: r → x ∈ winL (b :: r) := fun hx => znj_ h2 x hx fun y hy => hl y (List.mem_cons_of_mem _ hy)
    by_cases c : a.tr = b.tr ∧ a.id = b.id
    · rw [if_pos c]
      rcases List.mem_cons.1 h with rfl | h
      · have q := hl b (by simp) ⟨c.1.symm, c.2.symm⟩
        have q2 := h1 b (by simp)
        rw [zbb_.anti] at q
        omega
      · exact hsub h
    · rw [if_neg c]
      rcases List.mem_cons.1 h with rfl | h
      · simp
      · exact List.mem_cons_of_mem _ (hsub h)
theorem zka_ : ∀ {D : List SP}, Str D → ∀ y ∈ D, ∃ w ∈ winL D, Idn y w ∧ cmpS y w ≤ 0
  | [a], _, y, h => ⟨a, by simp [winL], by
      have : y = a := by simpa using h
      subst this
      exact ⟨⟨rfl, rfl⟩, by rw [cz]; exact Int.le_refl _⟩⟩
  | a :: b :: r, hs, y, h => by
    obtain ⟨h1, h2⟩ := List.pairwise_cons.1 hs
    rw [winL]
    by_cases c : a.tr = b.tr ∧ a.id = b.id
    · rw [if_pos c]
      rcases List.mem_cons.1 h with rfl | h
      · obtain ⟨w, hw, i, e⟩ := zka_ h2 b (by simp)
        exact ⟨w, hw, Idn.trans c i, cle (Int.le_of_lt (h1 b (by simp))) e⟩
      · exact zka_ h2 y h
    · rw [if_neg c]
      rcases List.mem_cons.1 h with rfl | h
      · exact ⟨y, by simp, ⟨rfl, rfl⟩, by rw [cz]; exact Int.le_refl _⟩
      · obtain ⟨w, hw, q⟩ := zka_ h2 y h
        exact ⟨w, List.mem_cons_of_mem _ hw, q⟩
theorem zsn_ {D : List SP} (h : Str D) : Str (winL D) := List.Pairwise.sublist (zbr_ D) h
theorem zcjj_ {D E : List SP} (hE : Str E) {x : SP} (hx : Ins [x] E) (hl : Lst E x) : ∃ y ∈ winL E, cmpS x y = 0 := by
  obtain ⟨y, hy, e⟩ := hx x (by simp)
  refine ⟨y, znj_ hE y hy fun z hz hi => ?_, e⟩
  have := hl z hz (hi.trans (zeb_ (csym e)))
  exact cle this (Int.le_of_eq e)
theorem Lst.ins {D E : List SP} (h : Ins E D) {x : SP} (hl : Lst D x) : Lst E x := fun z hz hi => by
  obtain ⟨z', hz', e⟩ := h z hz
  exact cle (Int.le_of_eq e) (hl z' hz' ((zeb_ (csym e)).trans hi))
theorem zbab_ {D E : List SP} (hD : Str D) (hE : Str E) (h : Alk D E) : Ins (winL D) (winL E) := fun x hx =>
  zcjj_ (D := D) hE (fun a ha => by
    have : a = x := by simpa using ha
    subst this
    exact h.1 a ((zbr_ D).subset hx)) ((zhd_ hD x hx).ins h.2)
theorem zcjk_ {D E : List SP} (hD : Str D) (hE : Str E) (h : Alk D E) : Alk (winL D) (winL E) := ⟨zbab_ hD hE h, zbab_ hE hD h.symm⟩
end Go.Proofs.Sl
namespace Go.Proofs.Sl
def isR (t i : Int) (s : SP) : Bool := (s.tr == t) && (s.id == i)
def btr (es : List SP) (b : Option Nat) (s : SP) : Bool := match b with
  | none => true
  | some j => match es[j]? with
    | some e => decide (cmpS e s < 0)
    | none => true
def bestO (t i : Int) (es : List SP) : List SP → Nat → Option Nat → Option Nat
  | [], _, b => b
  | s :: r, k, b => bestO t i es r (k + 1) (if (isR t i s && btr es b s) = true then some k else b)
def bI : Option Nat → Int
  | none => -1
  | some j => j
def winR (t i : Int) (es : List SP) : Option SP := match bestO t i es es 0 none with
  | none => none
  | some j => es[j]?
set_option maxHeartbeats 4000000 in
theorem zcjl_ {h : H} {v : V} {es : List SP} {t i : Int} (hv : ∀ t, Rd (h ++ t) 14 v (es.map SP.v)) (hs : ∀ e ∈ es, e.Sm) (hl : es.length ≤ 100000) :
    run XP zmj_ [v, .agg [vi t, vi i]] h = some (.tup [((winR t i es).getD SP.z).v, vb (winR t i es).isSome], h) := by
  have hv0 := hv []
  rw [List.append_nil] at hv0
  rw [run_eq, zbxd_, winR]
  generalize hW : bestO t i es es 0 none = W
  have hvL := fun t => (hv t).toL
  obtain ⟨zc, hzc⟩ : ∃ zc, zc = SP.z.v.cells := ⟨_, rfl⟩
  simp -implicitDefEqProofs [zig_, hvL]
  refine zaw_ es (fun k s h' => ∃ b tl, Sees s [(0, v), (3, .ptr h.length 0), (4, .ptr (h.length + 1) 0), (6, vi (bI b)), (9, v), (10, vi es.length), (11, vi k)] ∧
      h' = h ++ (.box false [vi t, vi i] :: .box false zc :: tl) ∧ W = bestO t i es (es.drop k) k b ∧ (∀ j, b = some j → j < k)) ?_ ?_ _ _ ⟨none, [], ?_, ?_, hW.symm, fun j e => by cases e⟩
  · rintro B f' hB hf k e s h' he hk ⟨b, tl, ⟨g0, g3, g4, g6, g9, g10, g11, -⟩, rfl, hb, hbk⟩ K
    have hlt : (k : Int) < es.length := by omega
    have hsm := (hs e (List.mem_of_getElem? he)).len
    obtain ⟨q, hq, hld⟩ := (hv (.box false [vi t, vi i] :: .box false zc :: tl)).at (i := k) (e := e.v) (by simp [he])
    have hw : IntKind.i64.wrap ((k : Int) + 1) = (k : Int) + 1 := zaq_ (by omega) (by omega)
    have hR := fun h => zrt_ h e
    rw [zbh_ he, bestO] at hb
    have hgo : ∀ b', W = bestO t i es (es.drop (k + 1)) (k + 1) b' → (∀ j, b' = some j → j < k + 1) → ∀ s2, Sees s2 [(0, v), (3, .ptr h.length 0), (4, .ptr (h.length + 1) 0), (6, vi (bI b')), (9, v), (10, vi es.length), (11, vi ((k : Int) + 1))] →
        ∀ tl2, ob (loopW B ⟨s2, h ++ (.box false [vi t, vi i] :: .box false zc :: tl2)⟩) f' = _ := fun b' hb' hbk' s2 hs2 tl2 => K _ _ ⟨b', tl2, by simpa using hs2, rfl, hb', hbk'⟩
    by_cases hr : isR t i e = true
    · have hr2 : e.tr = t ∧ e.id = i := by simpa [isR] using hr
      cases b with
      | none =>
        rw [hr, show btr es none e = true from rfl, Bool.and_self, if_pos rfl] at hb
        obtain ⟨rfl, rfl⟩ := hr2
        obtain ⟨tr, id, par, rev, clk, kind, sv, vr, op, st, en, er, ats, lks, an, ln⟩ := e
        simp only [SP.v, V.cells, RF.v] at hld hR hq
        simp (maxSteps := 1000000) -implicitDefEqProofs [hB, zdx_, g0, g3, g4, g6, g9, g10, g11, hlt, hq, hld, hR, bI, zan_, optEq]
        refine hgo (some k) hb (fun j e => by simp at e; omega) _ ?_ (tl ++ [.box false _])
        simp [g0, g3, g4, g9, g10, bI, hw]
      | some j =>
        obtain ⟨e2, he2⟩ : ∃ e2, es[j]? = some e2 := ⟨_, List.getElem?_eq_getElem (by have := hbk j rfl; omega)⟩
        have hsm2 := (hs e2 (List.mem_of_getElem? he2)).len
        have hcm := fun h => zrs_ h hsm2 hsm
        have hbt : btr es (some j) e = decide (cmpS e2 e < 0) := by rw [btr]; simp only [he2]
        rw [hr, hbt, Bool.true_and] at hb
        have hjn : ¬ ((j : Int) < 0) := by omega
        obtain ⟨q2, hq2, hld2⟩ := (hv (.box false [vi t, vi i] :: .box false zc :: (tl ++ [.box false e.v.cells]))).at (i := j) (e := e2.v) (by simp [he2])
        obtain ⟨rfl, rfl⟩ := hr2
        generalize cmpS e2 e = z at *
        obtain ⟨tr2, id2, par2, rev2, clk2, kind2, sv2, vr2, op2, st2, en2, er2, ats2, lks2, an2, ln2⟩ := e2
        obtain ⟨tr, id, par, rev, clk, kind, sv, vr, op, st, en, er, ats, lks, an, ln⟩ := e
        simp only [SP.v, V.cells, RF.v] at hld hR hq hld2 hq2 hcm
        by_cases hz : z < 0
        · simp (maxSteps := 1000000) -implicitDefEqProofs [hB, zdx_, g0, g3, g4, g6, g9, g10, g11, hlt, hq, hld, hR, bI, zan_, optEq, hjn, hq2, hld2, hcm, hz]
          rw [if_pos (by simpa using hz)] at hb
          refine hgo (some k) hb (fun j e => by simp at e; omega) _ ?_ (tl ++ [.box false _])
          simp [g0, g3, g4, g9, g10, bI, hw]
        · simp (maxSteps := 1000000) -implicitDefEqProofs [hB, zdx_, g0, g3, g4, g6, g9, g10, g11, hlt, hq, hld, hR, bI, zan_, optEq, hjn, hq2, hld2, hcm, hz]
          rw [if_neg (by simpa using hz)] at hb
          refine hgo (some j) hb (fun j' e => by have := hbk j' e; omega) _ ?_ (tl ++ [.box false _])
          simp [g0, g3, g4, g6, g9, g10, bI, hw]
    · have hb2 : W = bestO t i es (es.drop (k + 1)) (k + 1) b := by
        rw [show isR t i e = false by simpa using hr] at hb
        simpa using hb
      have hr2 : ¬ (e.tr = t ∧ e.id = i) := by simpa [isR] using hr
      generalize hx : (e.tr == t) = x at *
      generalize hy : (e.id == i) = y at *
      have hx2 : (e.tr = t) = (x = true) := by simp [← hx]
      have hy2 : (e.id = i) = (y = true) := by simp [← hy]
      rw [hx2, hy2] at hr2
      obtain ⟨tr, id, par, rev, clk, kind, sv, vr, op, st, en, er, ats, lks, an, ln⟩ := e
      simp only [SP.v, V.cells, RF.v] at hld hR hq hx hy hx2 hy2
      have hf : x = false ∨ y = false := by cases x <;> cases y <;> simp_all
      rcases hf with rfl | rfl
      · simp (maxSteps := 1000000) -implicitDefEqProofs [hB, zdx_, g0, g3, g4, g6, g9, g10, g11, hlt, hq, hld, hR, hx, hy, hx2, hy2, zan_, optEq]
        refine hgo b hb2 (fun j e => by have := hbk j e; omega) _ ?_ (tl ++ [.box false _])
        simp [g0, g3, g4, g6, g9, g10, hw]
      · simp (maxSteps := 1000000) -implicitDefEqProofs [hB, zdx_, g0, g3, g4, g6, g9, g10, g11, hlt, hq, hld, hR, hx, hy, hx2, hy2, zan_, optEq]
        refine hgo b hb2 (fun j e => by have := hbk j e; omega) _ ?_ (tl ++ [.box false _])
        simp [g0, g3, g4, g6, g9, g10, hw]
  · rintro B hB s h' ⟨b, tl, ⟨g0, g3, g4, g6, g9, g10, g11, -⟩, rfl, hb, hbk⟩
    rw [List.drop_of_length_le (Nat.le_refl _), bestO] at hb
    rw [hb]
    cases b with
    | none =>
      subst hzc
      simp -implicitDefEqProofs [hB, zdx_, g0, g3, g4, g6, g10, g11, bI, SP.z, SP.v, V.cells]
      exact ⟨rfl, rfl⟩
    | some j =>
      have hj := hbk j rfl
      obtain ⟨e, he⟩ : ∃ e, es[j]? = some e := ⟨_, List.getElem?_eq_getElem hj⟩
      have hcp := fun h => zyj_ h (hs e (List.mem_of_getElem? he))
      obtain ⟨q, hq, hld⟩ := (hv (.box false [vi t, vi i] :: .box false zc :: tl)).at (i := j) (e := e.v) (by simp [he])
      have hneg : ¬ ((j : Int) < 0) := by omega
      simp only [he, SP.v, V.cells] at hcp hld hq ⊢
      have hzc' : zc = [vi 0, vi 0, vi 0, vi 0, vi 0, vi 0, vs ⟨#[]⟩, vs ⟨#[]⟩, vs ⟨#[]⟩, vi 0, vi 0, vb false, vnil, vnil] := hzc
      clear hzc
      subst hzc'
      simp -implicitDefEqProofs [hB, zdx_, g0, g3, g4, g6, g10, g11, bI, hq, hld, hcp, hneg]
  · simp [bI]
  · subst hzc
    rfl
def WInv (t i : Int) (es : List SP) (k : Nat) : Option Nat → Prop
  | none => ∀ s ∈ es.take k, isR t i s = false
  | some j => ∃ e, es[j]? = some e ∧ isR t i e = true ∧ ∀ s ∈ es.take k, isR t i s = true → cmpS s e ≤ 0
theorem zso_ (t i : Int) (es : List SP) : ∀ (r : List SP) (k : Nat) (b : Option Nat), es.drop k = r → WInv t i es k b → ∃ n, es.length ≤ n ∧ WInv t i es n (bestO t i es r k b)
  | [], k, b, hr, hb => ⟨k, by simpa using hr, by rw [bestO]; exact hb⟩
  | s :: r, k, b, hr, hb => by
    have hk : es[k]? = some s := by
      have := congrArg List.head? hr
      simpa [List.head?_drop] using this
    have hr' : es.drop (k + 1) = r := by
      rw [← List.drop_drop, hr]
      rfl
    rw [bestO]
    refine zso_ t i es r (k + 1) _ hr' ?_
    have htk : es.take (k + 1) = es.take k ++ [s] := by rw [List.take_add_one, hk]; rfl
    cases hR : isR t i s with
    | false =>
      rw [Bool.false_and, if_neg (by simp)]
      cases b with
      | none =>
        intro x hx
        rw [htk] at hx
        rcases List.mem_append.1 hx with hx | hx
        · exact hb x hx
        · simp at hx; subst hx; exact hR
      | some j =>
        obtain ⟨e, h1, h2, h3⟩ := hb
        refine ⟨e, h1, h2, fun x hx hxr => ?_⟩
        rw [htk] at hx
        rcases List.mem_append.1 hx with hx | hx
        · exact h3 x hx hxr
        · simp at hx; subst hx; rw [hR] at hxr; cases hxr
    | true =>
      rw [Bool.true_and]
      cases b with
      | none =>
        rw [show btr es none s = true from rfl, if_pos rfl]
        refine ⟨s, hk, hR, fun x hx hxr => ?_⟩
        rw [htk] at hx
        rcases List.mem_append.1 hx with hx | hx
        · rw [hb x hx] at hxr; cases hxr
        · simp at hx; subst hx; exact Int.le_of_eq (cz _)
      | some j =>
        obtain ⟨e, h1, h2, h3⟩ := hb
        have hbt : btr es (some j) s = decide (cmpS e s < 0) := by rw [btr]; simp only [h1]
        rw [hbt]
        by_cases hz : cmpS e s < 0
        · rw [if_pos (by simpa using hz)]
          refine ⟨s, hk, hR, fun x hx hxr => ?_⟩
          rw [htk] at hx
          rcases List.mem_append.1 hx with hx | hx
          · exact cle (h3 x hx hxr) (by omega)
          · simp at hx; subst hx; exact Int.le_of_eq (cz _)
        · rw [if_neg (by simpa using hz)]
          refine ⟨e, h1, h2, fun x hx hxr => ?_⟩
          rw [htk] at hx
          rcases List.mem_append.1 hx with hx | hx
          · exact h3 x hx hxr
          · simp at hx; subst hx
            rw [zbb_.anti e x]
            omega
theorem zcjm_ {t i : Int} {es : List SP} (h : winR t i es = none) : ∀ s ∈ es, isR t i s = false := by
  obtain ⟨n, hn, hw⟩ := zso_ t i es es 0 none rfl (fun s hs => by simp at hs)
  rw [winR] at h
  cases hb : bestO t i es es 0 none with
  | none =>
    rw [hb] at hw
    intro s hs
    exact hw s (by rwa [List.take_of_length_le hn])
  | some j =>
    rw [hb] at hw h
    obtain ⟨e, h1, _⟩ := hw
    simp only [h1] at h
    cases h
theorem zbac_ {t i : Int} {es : List SP} {e : SP} (h : winR t i es = some e) : e ∈ es ∧ isR t i e = true ∧ ∀ s ∈ es, isR t i s = true → cmpS s e ≤ 0 := by
  obtain ⟨n, hn, hw⟩ := zso_ t i es es 0 none rfl (fun s hs => by simp at hs)
  rw [winR] at h
  cases hb : bestO t i es es 0 none with
  | none => rw [hb] at h; cases h
  | some j =>
    rw [hb] at hw h
    obtain ⟨e', h1, h2, h3⟩ := hw
    simp only [h1, Option.some.injEq] at h
    subst h
    exact ⟨List.mem_of_getElem? h1, h2, fun s hs => h3 s (by rwa [List.take_of_length_le hn])⟩
end Go.Proofs.Sl
namespace Go.Proofs.Sl
def ixF {α : Type} (p : α → Bool) : List α → Nat → Int
  | [], _ => -1
  | e :: r, k => if p e = true then (k : Int) else ixF p r (k + 1)
theorem zbad_ {h : H} {v : V} {es : List SP} {f : Nat} {a b : List V} {p : SP → Bool} (hv : Rd h 14 v (es.map SP.v)) (hg : ∀ e ∈ es, arg0s (a ++ e.v :: b) = some (a ++ e.v :: b)) (hp : ∀ e ∈ es, run XP f (a ++ e.v :: b) h = some (vb (p e), h)) (hl : es.length ≤ 100000) :
    run XP zqr_ [v, .fn f a b] h = some (vi (ixF p es 0), h) := by
  rw [run_eq, zbxb_]
  simp -implicitDefEqProofs [zjl_, hv.toL]
  refine zaw_ es (fun k s h' => Sees s [(0, v), (1, .fn f a b), (7, vi es.length), (8, vi k)] ∧ h' = h ∧ ixF p es 0 = ixF p (es.drop k) k) ?_ ?_ _ _ ⟨by simp, rfl, rfl⟩
  · rintro B f' hB hf k e s h' he hk ⟨⟨h0, h1, h7, h8, -⟩, rfl, hx⟩ K
    have hlt : (k : Int) < es.length := by omega
    have hm := List.mem_of_getElem? he
    obtain ⟨q, hq, hld⟩ := hv.at (i := k) (e := e.v) (by simp [he])
    have hw : IntKind.i64.wrap ((k : Int) + 1) = (k : Int) + 1 := zaq_ (by omega) (by omega)
    have hge := hg e hm
    have hpe := hp e hm
    rw [zbh_ he, ixF] at hx
    simp only [SP.v, V.cells] at hld hge hpe
    cases hb : p e with
    | false =>
      rw [hb] at hpe
      rw [hb, if_neg (by simp)] at hx
      simp -implicitDefEqProofs [hB, zmt_, h0, h1, h7, h8, hlt, hq, hld, hge, hpe]
      refine K _ _ ⟨?_, rfl, hx⟩
      simp [h0, h1, h7, hw]
    | true =>
      rw [hb] at hpe
      rw [hb, if_pos rfl] at hx
      simp -implicitDefEqProofs [hB, hf, zmt_, h0, h1, h7, h8, hlt, hq, hld, hge, hpe, hx]
  · rintro B hB s h' ⟨⟨h0, h1, h7, h8, -⟩, rfl, hx⟩
    rw [List.drop_of_length_le (Nat.le_refl _)] at hx
    have hx' : ixF p es 0 = -1 := hx
    simp -implicitDefEqProofs [hB, zmt_, h7, h8, hx']
end Go.Proofs.Sl
namespace Go.Proofs.Sl
structure SP.Bk (a : SP) : Prop where
  al : a.ats.length ≤ 100000
  ll : a.lks.length ≤ 100000
  an : a.an = true → a.ats = []
  ln : a.ln = true → a.lks = []
theorem SP.Bk.sm {a : SP} (h : a.Bk) : a.Sm := ⟨by have := h.al; omega, by have := h.ll; omega, h.an, h.ln⟩
end Go.Proofs.Sl
namespace Go.Proofs.Sl
end Go.Proofs.Sl
namespace Go.Proofs.Sl
end Go.Proofs.Sl
