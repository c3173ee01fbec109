/- A part of the proof. -/
import Derived.Laws.Strings
import Derived.Sort.AssemblyPlain
import Derived.Test.YtaepkcjcmejfcaaGreatSlS
import Derived.Test.YtaepkcjcmejfcaaGreatSlP
set_option linter.unusedVariables false
set_option linter.unusedSimpArgs false
set_option linter.unnecessarySimpa false
namespace Go.Proofs.Sl
theorem zchf_ (n : Int) : IntKind.u8.wrap n = n % 256 := rfl
theorem zchg_ (n : Int) : IntKind.u64.wrap n = n % 18446744073709551616 := rfl
theorem zan_ {n : Int} (h1 : -9223372036854775808 ≤ n) (h2 : n ≤ 9223372036854775807) : IntKind.i64.wrap n = n := by
  have e : IntKind.i64.wrap n = if n % 18446744073709551616 ≥ 9223372036854775808 then n % 18446744073709551616 - 18446744073709551616 else n % 18446744073709551616 := by
    simp [IntKind.wrap, IntKind.bits, IntKind.signed]
  rw [e]
  split <;> omega
def dig (m : Nat) : Nat → List Nat
  | 0 => []
  | k + 1 => m / 256 ^ k % 256 :: dig m k
def blen (m : Nat) : Nat := if h : m = 0 then 0 else blen (m / 256) + 1
termination_by m
decreasing_by omega
theorem zyv_ : blen 0 = 0 := by unfold blen; simp
theorem zchh_ {m : Nat} (h : m ≠ 0) : blen m = blen (m / 256) + 1 := by conv => lhs; unfold blen; simp [h]
def flipB (neg : Bool) (d : Nat) : UInt8 := UInt8.ofNat (if neg = true then 255 - d else d)
def fNum (n : Int) : List UInt8 := (if n < 0 then UInt8.ofNat (128 - blen n.natAbs) else UInt8.ofNat (128 + blen n.natAbs)) :: (dig n.natAbs (blen n.natAbs)).map (flipB (decide (n < 0)))
def Rng (n : Int) : Prop := -9223372036854775808 ≤ n ∧ n ≤ 9223372036854775807
end Go.Proofs.Sl
namespace Go.Proofs.Sl
def bts (s : ByteArray) : List UInt8 := s.data.toList
theorem zchi_ (s : ByteArray) : (bts s).length = s.size := by rw [bts, Array.length_toList]; rfl
def fText (s : ByteArray) : List UInt8 := fNum s.size ++ bts s
def fNums : List Int → List UInt8
  | [] => []
  | n :: r => fNum n ++ fNums r
def il (l : List Int) : List V := l.map vi
def fBool (b : Bool) : List UInt8 := fNum (if b = true then 1 else 0)
structure AV where
  k : Int
  t : ByteArray
  n : Int
def AV.v (a : AV) : V := .agg [vi a.k, vs a.t, vi a.n]
structure AV.Ok (a : AV) : Prop where
  k : Rng a.k
  t : a.t.size ≤ 5000
  n : Rng a.n
def AV.f (a : AV) : List UInt8 := fNum a.k ++ (fText a.t ++ fNum a.n)
structure AT where
  key : ByteArray
  val : AV
def AT.v (a : AT) : V := .agg [vs a.key, vi a.val.k, vs a.val.t, vi a.val.n]
structure AT.Ok (a : AT) : Prop where
  key : a.key.size ≤ 5000
  val : a.val.Ok
def AT.f (a : AT) : List UInt8 := fText a.key ++ a.val.f
structure RF where
  t : Int
  i : Int
def RF.v (a : RF) : V := .agg [vi a.t, vi a.i]
structure RF.Ok (a : RF) : Prop where
  t : Rng a.t
  i : Rng a.i
def RF.f (a : RF) : List UInt8 := fNums [a.t, a.i]
structure EX where
  fr : Int
  to : Int
  sent : Int
  rcv : Int
  least : Int
def EX.v (a : EX) : V := .agg [vi a.fr, vi a.to, vi a.sent, vi a.rcv, vi a.least]
structure EX.Ok (a : EX) : Prop where
  fr : Rng a.fr
  to : Rng a.to
  sent : Rng a.sent
  rcv : Rng a.rcv
  least : Rng a.least
def EX.f (a : EX) : List UInt8 := fNums [a.fr, a.to, a.sent, a.rcv, a.least]
structure MS where
  k : Int
  a : RF
  b : RF
  x : EX
def MS.v (a : MS) : V := .agg [vi a.k, vi a.a.t, vi a.a.i, vi a.b.t, vi a.b.i, vi a.x.fr, vi a.x.to, vi a.x.sent, vi a.x.rcv, vi a.x.least]
structure MS.Ok (m : MS) : Prop where
  k : Rng m.k
  a : m.a.Ok
  b : m.b.Ok
  x : m.x.Ok
def MS.f (a : MS) : List UInt8 := fNum a.k ++ (a.a.f ++ (a.b.f ++ a.x.f))
end Go.Proofs.Sl
namespace Go.Proofs.Sl
def fList {α : Type} (f : α → List UInt8) (l : List α) : List UInt8 := fNum l.length ++ l.flatMap f
end Go.Proofs.Sl
namespace Go.Proofs.Sl
structure SP where
  tr : Int
  id : Int
  par : Int
  rev : Int
  clk : Int
  kind : Int
  sv : ByteArray
  vr : ByteArray
  op : ByteArray
  st : Int
  en : Int
  er : Bool
  ats : List AT
  lks : List RF
  an : Bool
  ln : Bool
def slc {α : Type} (v : α → V) (l : List α) (n : Bool) : Option (List V) := if n = true then none else some (l.map v)
def SP.v (a : SP) : V := .agg [vi a.tr, vi a.id, vi a.par, vi a.rev, vi a.clk, vi a.kind, vs a.sv, vs a.vr, vs a.op, vi a.st, vi a.en, vb a.er, lv 4 (slc AT.v a.ats a.an), lv 2 (slc RF.v a.lks a.ln)]
structure SP.Ok (a : SP) : Prop where
  n : ∀ n ∈ [a.tr, a.id, a.par, a.rev, a.clk, a.kind, a.st, a.en], Rng n
  sv : a.sv.size ≤ 5000
  vr : a.vr.size ≤ 5000
  op : a.op.size ≤ 5000
  ats : ∀ e ∈ a.ats, e.Ok
  lks : ∀ e ∈ a.lks, e.Ok
  al : a.ats.length ≤ 1000
  ll : a.lks.length ≤ 1000
  an : a.an = true → a.ats = []
  ln : a.ln = true → a.lks = []
theorem zeg_ {α : Type} {v : α → V} {l : List α} {n : Bool} (h : n = true → l = []) : (slc v l n).getD [] = l.map v := by
  cases n with
  | true => rw [h rfl]; rfl
  | false => rfl
def SP.f (a : SP) : List UInt8 := fNums [a.tr, a.id, a.par, a.rev, a.clk, a.kind] ++ (fText a.sv ++ (fText a.vr ++ (fText a.op ++ (fNums [a.st, a.en] ++ (fBool a.er ++ (fList AT.f a.ats ++ fList RF.f a.lks))))))
end Go.Proofs.Sl
namespace Go.Proofs.Sl
end Go.Proofs.Sl
namespace Go.Proofs.Sl
end Go.Proofs.Sl
namespace Go.Proofs.Sl
def rd (s : ByteArray) (a : Nat) (e : Int) : O := .box false [vs s, vi a, vi e]
end Go.Proofs.Sl
namespace Go.Proofs.Sl
theorem Rng.zero : Rng 0 := ⟨by decide, by decide⟩
section
variable {h t : H} {l : Nat} {s : ByteArray} {a : Nat} {e : Int}
end
end Go.Proofs.Sl
namespace Go.Proofs.Sl
section
variable {h t : H} {l : Nat} {s : ByteArray} {a : Nat} {e : Int}
theorem bone {n : Int} (h1 : 0 < n) (h2 : n < 256) : blen n.natAbs = 1 := by
  have : n.natAbs / 256 = 0 := by omega
  rw [zchh_ (by omega), this, zyv_]
theorem b3 : fNum 3 = [129, 3] := by
  unfold fNum
  rw [bone (by decide) (by decide)]
  decide +kernel
theorem b1 : fNum 1 = [129, 1] := by
  unfold fNum
  rw [bone (by decide) (by decide)]
  decide +kernel
theorem b0 : fNum 0 = [128] := by
  have : blen (Int.natAbs 0) = 0 := zyv_
  unfold fNum
  rw [this]
  decide +kernel
end
end Go.Proofs.Sl
namespace Go.Proofs.Sl
def Cut (u v : List UInt8) : Prop := ∃ p a b x y, u = p ++ a :: x ∧ v = p ++ b :: y ∧ a < b
theorem Cut.take {u v : List UInt8} (h : Cut u v) : u.take (min u.length v.length) ≠ v.take (min u.length v.length) := by
  obtain ⟨p, a, b, x, y, rfl, rfl, hab⟩ := h
  intro e
  have e1 := congrArg (·[p.length]?) e
  simp only [List.getElem?_take] at e1
  rw [if_pos (by simp), if_pos (by simp)] at e1
  simp at e1
  subst e1
  exact absurd hab (by simp)
theorem zyw_ (l : List UInt8) : (⟨l.toArray⟩ : ByteArray).toList = l := by
  rw [ByteArray.toList_eq]
theorem zchj_ (l : List UInt8) : (⟨l.toArray⟩ : ByteArray).size = l.length := by
  show l.toArray.size = _
  simp
theorem ztp_ : ∀ l : List UInt8, Op.bytesLess l l = false
  | [] => rfl
  | a :: l => by simp [Op.bytesLess, ztp_ l]
end Go.Proofs.Sl
namespace Go.Proofs.Sl
open Go
theorem zyx_ (x : List UInt8) : Op.bytesLess x [] = false := by cases x <;> rfl
theorem ztq_ : ∀ {x y z : List UInt8}, Op.bytesLess x y = true → Op.bytesLess y z = true → Op.bytesLess x z = true
  | _, [], _, h, _ => by rw [zyx_] at h; cases h
  | _, _ :: _, [], _, h => by rw [zyx_] at h; cases h
  | [], _ :: _, _ :: _, _, _ => rfl
  | a :: x, b :: y, c :: z, h, k => by
    simp only [Op.bytesLess, Bool.or_eq_true, Bool.and_eq_true, decide_eq_true_eq, beq_iff_eq] at h k ⊢
    rcases h with h | ⟨rfl, h⟩ <;> rcases k with k | ⟨rfl, k⟩
    · exact .inl (UInt8.lt_trans h k)
    · exact .inl h
    · exact .inl k
    · exact .inr ⟨rfl, ztq_ h k⟩
theorem zpq_ : ∀ (x y : List UInt8), Op.bytesLess x y = false → Op.bytesLess y x = false → x = y
  | [], [], _, _ => rfl
  | [], _ :: _, h, _ => by cases h
  | _ :: _, [], _, h => by cases h
  | a :: x, b :: y, h, k => by
    simp only [Op.bytesLess, Bool.or_eq_false_iff, decide_eq_false_iff_not, Bool.and_eq_false_iff, beq_eq_false_iff_ne] at h k
    have hab : a = b := UInt8.le_antisymm (UInt8.not_lt.1 k.1) (UInt8.not_lt.1 h.1)
    subst hab
    rw [zpq_ x y (by rcases h.2 with h | h; exact absurd rfl h; exact h) (by rcases k.2 with h | h; exact absurd rfl h; exact h)]
theorem ztr_ {x y : List UInt8} (h : Op.bytesLess x y = true) : Op.bytesLess y x = false := by
  cases k : Op.bytesLess y x with
  | false => rfl
  | true => have := ztq_ h k; rw [ztp_] at this; cases this
def sgn (a b : Int) : Int := if a < b then -1 else if b < a then 1 else 0
def wrd (a b : ByteArray) : Int := if Op.bytesLess a.toList b.toList = true then -1 else if Op.bytesLess b.toList a.toList = true then 1 else 0
def orl : List Int → Int
  | [] => 0
  | n :: l => if n ≠ 0 then n else orl l
theorem zjq_ (a b : List Int) : orl (a ++ b) = if orl a ≠ 0 then orl a else orl b := by
  induction a with
  | nil => simp [orl]
  | cons n a ih =>
    simp only [List.cons_append, orl, ih]
    by_cases h : n = 0 <;> simp [h]
structure Cm {α : Type} (f : α → α → Int) : Prop where
  anti : ∀ x y, f y x = -f x y
  trans : ∀ x y z, f x y ≤ 0 → f y z ≤ 0 → f x z ≤ 0
section
variable {α β : Type} {f g : α → α → Int}
theorem Cm.self (c : Cm f) (x : α) : f x x = 0 := by have := c.anti x x; omega
theorem Cm.lt_of_lt_le (c : Cm f) {x y z : α} (h : f x y < 0) (k : f y z ≤ 0) : f x z < 0 := by
  have h1 := c.trans x y z (by omega) k
  rcases Int.lt_or_eq_of_le h1 with h2 | h2
  · exact h2
  · have h3 := c.trans y z x k (by rw [c.anti x z]; omega)
    rw [c.anti x y] at h3
    omega
theorem Cm.lt_of_le_lt (c : Cm f) {x y z : α} (h : f x y ≤ 0) (k : f y z < 0) : f x z < 0 := by
  have h1 := c.trans x y z h (by omega)
  rcases Int.lt_or_eq_of_le h1 with h2 | h2
  · exact h2
  · have h3 := c.trans z x y (by rw [c.anti x z]; omega) h
    rw [c.anti y z] at h3
    omega
theorem Cm.eq_trans (c : Cm f) {x y z : α} (h : f x y = 0) (k : f y z = 0) : f x z = 0 := by
  have h1 := c.trans x y z (by omega) (by omega)
  have h2 := c.trans z y x (by rw [c.anti y z]; omega) (by rw [c.anti x y]; omega)
  rw [c.anti x z] at h2
  omega
theorem Cm.key {f : β → β → Int} (c : Cm f) (k : α → β) : Cm fun x y => f (k x) (k y) := ⟨fun x y => c.anti _ _, fun x y z => c.trans _ _ _⟩
theorem Cm.zero : Cm fun (_ _ : α) => (0 : Int) := ⟨fun _ _ => rfl, fun _ _ _ _ _ => Int.le_refl _⟩
theorem Cm.lex (c : Cm f) (d : Cm g) : Cm fun x y => if f x y ≠ 0 then f x y else g x y where
  anti := fun x y => by
    rw [c.anti x y, d.anti x y]
    by_cases h : f x y = 0 <;> simp [h]
  trans := fun x y z h k => by
    by_cases h1 : f x y = 0 <;> by_cases h2 : f y z = 0
    · rw [if_neg (by simpa using h1)] at h
      rw [if_neg (by simpa using h2)] at k
      rw [if_neg (by simpa using c.eq_trans h1 h2)]
      exact d.trans _ _ _ h k
    · rw [if_pos h2] at k
      have := c.lt_of_le_lt (x := x) (y := y) (z := z) (by omega) (by omega)
      rw [if_pos (by omega)]
      omega
    · rw [if_pos h1] at h
      have := c.lt_of_lt_le (x := x) (y := y) (z := z) (by omega) (by omega)
      rw [if_pos (by omega)]
      omega
    · rw [if_pos h1] at h
      rw [if_pos h2] at k
      have := c.lt_of_lt_le (x := x) (y := y) (z := z) (by omega) (by omega)
      rw [if_pos (by omega)]
      omega
theorem Cm.orl_nil : Cm fun (_ _ : α) => orl [] := Cm.zero
theorem Cm.orl_cons {fs : List (α → α → Int)} (c : Cm f) (d : Cm fun x y => orl (fs.map fun g => g x y)) : Cm fun x y => orl ((f :: fs).map fun g => g x y) := by
  have := c.lex d
  simpa only [List.map_cons, orl] using this
end
theorem sgn_cm : Cm sgn where
  anti := fun x y => by unfold sgn; split <;> split <;> omega
  trans := fun x y z h k => by unfold sgn at *; split at h <;> split at k <;> (try split at h) <;> (try split at k) <;> split <;> (try split) <;> omega
theorem wrd_cm : Cm wrd where
  anti := fun x y => by
    unfold wrd
    cases h : Op.bytesLess x.toList y.toList <;> cases k : Op.bytesLess y.toList x.toList <;> simp
    have := ztr_ h
    rw [k] at this
    cases this
  trans := fun x y z h k => by
    have key : ∀ a b : ByteArray, wrd a b ≤ 0 ↔ Op.bytesLess b.toList a.toList = false := fun a b => by
      unfold wrd
      cases h : Op.bytesLess a.toList b.toList <;> cases k : Op.bytesLess b.toList a.toList <;> simp
      have := ztr_ h
      rw [k] at this
      cases this
    rw [key] at h k ⊢
    cases e : Op.bytesLess z.toList x.toList with
    | false => rfl
    | true =>
      cases e1 : Op.bytesLess x.toList y.toList with
      | true => rw [ztq_ e e1] at k; cases k
      | false =>
        have := zpq_ _ _ e1 h
        rw [this] at e
        rw [e] at k
        cases k
theorem zts_ {a b : ByteArray} : wrd a b = 0 ↔ a = b := by
  constructor
  · intro h
    unfold wrd at h
    split at h
    · omega
    · split at h
      · omega
      · rename_i h1 h2
        have := zpq_ _ _ (by simpa using h1) (by simpa using h2)
        rw [ByteArray.toList_eq, ByteArray.toList_eq] at this
        exact ByteArray.ext (Array.ext' this)
  · rintro rfl
    exact wrd_cm.self _
def lexc {α : Type} (f : α → α → Int) : List α → List α → Int
  | [], [] => 0
  | [], _ :: _ => -1
  | _ :: _, [] => 1
  | a :: r, b :: s => if f a b ≠ 0 then f a b else lexc f r s
theorem zyy_ {α : Type} {f : α → α → Int} (c : Cm f) : ∀ x y : List α, lexc f y x = -lexc f x y
  | [], [] => rfl
  | [], _ :: _ => rfl
  | _ :: _, [] => rfl
  | a :: x, b :: y => by
    simp only [lexc]
    rw [c.anti a b, zyy_ c x y]
    by_cases h : f a b = 0 <;> simp [h]
theorem zyz_ {α : Type} {f : α → α → Int} (c : Cm f) : ∀ x y z : List α, lexc f x y ≤ 0 → lexc f y z ≤ 0 → lexc f x z ≤ 0
  | [], _, [], _, _ => by simp [lexc]
  | [], _, _ :: _, _, _ => by simp [lexc]
  | _ :: _, [], _, h, _ => by simp [lexc] at h
  | _, _ :: _, [], _, h => by simp [lexc] at h
  | a :: x, b :: y, d :: z, h, k => by
    simp only [lexc] at h k ⊢
    by_cases h1 : f a b = 0 <;> by_cases h2 : f b d = 0
    · rw [if_neg (by simpa using h1)] at h
      rw [if_neg (by simpa using h2)] at k
      rw [if_neg (by simpa using c.eq_trans h1 h2)]
      exact zyz_ c _ _ _ h k
    · rw [if_pos h2] at k
      have := c.lt_of_le_lt (x := a) (y := b) (z := d) (by omega) (by omega)
      rw [if_pos (by omega)]
      omega
    · rw [if_pos h1] at h
      have := c.lt_of_lt_le (x := a) (y := b) (z := d) (by omega) (by omega)
      rw [if_pos (by omega)]
      omega
    · rw [if_pos h1] at h
      rw [if_pos h2] at k
      have := c.lt_of_lt_le (x := a) (y := b) (z := d) (by omega) (by omega)
      rw [if_pos (by omega)]
      omega
theorem zza_ {α : Type} {f : α → α → Int} (c : Cm f) : Cm (lexc f) := ⟨zyy_ c, zyz_ c⟩
def flg (b : Bool) : Int := if b = true then 1 else 0
def cmpV (a b : AV) : Int := orl [sgn a.k b.k, wrd a.t b.t, sgn a.n b.n]
def cmpA (a b : AT) : Int := orl [wrd a.key b.key, cmpV a.val b.val]
def cmpR (a b : RF) : Int := orl [sgn a.t b.t, sgn a.i b.i]
def cmpS (a b : SP) : Int := orl [sgn a.tr b.tr, sgn a.id b.id, sgn a.rev b.rev, sgn a.par b.par, sgn a.clk b.clk, sgn a.kind b.kind, wrd a.sv b.sv, wrd a.vr b.vr, wrd a.op b.op, sgn a.st b.st, sgn a.en b.en, sgn (flg a.er) (flg b.er),
  lexc cmpA a.ats b.ats, lexc cmpR a.lks b.lks]
theorem zchk_ : Cm cmpV := Cm.orl_cons (f := fun a b : AV => sgn a.k b.k) (fs := [fun a b : AV => wrd a.t b.t, fun a b : AV => sgn a.n b.n]) (sgn_cm.key _) (Cm.orl_cons (wrd_cm.key _) (Cm.orl_cons (fs := []) (sgn_cm.key _) Cm.orl_nil))
theorem zchl_ : Cm cmpA := Cm.orl_cons (f := fun a b : AT => wrd a.key b.key) (fs := [fun a b : AT => cmpV a.val b.val]) (wrd_cm.key _) (Cm.orl_cons (fs := []) (zchk_.key _) Cm.orl_nil)
theorem zchm_ : Cm cmpR := Cm.orl_cons (f := fun a b : RF => sgn a.t b.t) (fs := [fun a b : RF => sgn a.i b.i]) (sgn_cm.key _) (Cm.orl_cons (fs := []) (sgn_cm.key _) Cm.orl_nil)
theorem zeh_ : Cm cmpS :=
  Cm.orl_cons (f := fun a b : SP => sgn a.tr b.tr) (fs := [fun a b : SP => sgn a.id b.id, fun a b : SP => sgn a.rev b.rev, fun a b : SP => sgn a.par b.par, fun a b : SP => sgn a.clk b.clk, fun a b : SP => sgn a.kind b.kind, fun a b : SP => wrd a.sv b.sv, fun a b : SP => wrd a.vr b.vr, fun a b : SP => wrd a.op b.op,
    fun a b : SP => sgn a.st b.st, fun a b : SP => sgn a.en b.en, fun a b : SP => sgn (flg a.er) (flg b.er), fun a b : SP => lexc cmpA a.ats b.ats, fun a b : SP => lexc cmpR a.lks b.lks]) (sgn_cm.key _)
  (Cm.orl_cons (sgn_cm.key _) (Cm.orl_cons (sgn_cm.key _) (Cm.orl_cons (sgn_cm.key _) (Cm.orl_cons (sgn_cm.key _) (Cm.orl_cons (sgn_cm.key _) (Cm.orl_cons (wrd_cm.key _) (Cm.orl_cons (wrd_cm.key _) (Cm.orl_cons (wrd_cm.key _)
  (Cm.orl_cons (sgn_cm.key _) (Cm.orl_cons (sgn_cm.key _) (Cm.orl_cons (sgn_cm.key fun a : SP => flg a.er) (Cm.orl_cons ((zza_ zchl_).key _) (Cm.orl_cons (fs := []) ((zza_ zchm_).key _) Cm.orl_nil)))))))))))))
end Go.Proofs.Sl
namespace Go.Proofs.Sl
end Go.Proofs.Sl
namespace Go.Proofs.Sl
end Go.Proofs.Sl
namespace Go.Proofs.Sl
end Go.Proofs.Sl
namespace Go.Proofs.Sl
def tx (l : List UInt8) : V := vs ⟨l.toArray⟩
theorem zchn_ (a : List UInt8) : (tx a).plain = true := Eq.trans rfl rfl
theorem zcho_ (a : List UInt8) : lenT (tx a) = some (vi a.length) := by simp [tx, zchj_]
theorem eql_tx (a b : List UInt8) : xbin .eql (tx a) (tx b) = some (vb (a == b)) := by simp [tx, strOp, zyw_]
theorem neq_tx (a b : List UInt8) : xbin .neq (tx a) (tx b) = some (vb (!(a == b))) := by simp [tx, strOp, zyw_]
attribute [simp] zcho_ eql_tx neq_tx zchn_
end Go.Proofs.Sl
namespace Go.Proofs.Sl
end Go.Proofs.Sl
namespace Go.Proofs.Sl
structure PT where
  k : Int
  n0 : Int
  n1 : Int
  n2 : Int
  n3 : Int
  n4 : Int
  n5 : Int
  n6 : Int
  n7 : Int
  key : ByteArray
  s : ByteArray
def PT.v (p : PT) : V := .agg [vk .u8 p.k, vi p.n0, vi p.n1, vi p.n2, vi p.n3, vi p.n4, vi p.n5, vi p.n6, vi p.n7, vs p.key, vs p.s]
structure PT.Ok (p : PT) : Prop where
  k0 : 0 ≤ p.k
  k1 : p.k ≤ 255
  n0 : Rng p.n0
  n1 : Rng p.n1
  n2 : Rng p.n2
  n3 : Rng p.n3
  n4 : Rng p.n4
  n5 : Rng p.n5
  n6 : Rng p.n6
  n7 : Rng p.n7
  key : p.key.size ≤ 5000
  s : p.s.size ≤ 5000
def PT.av (p : PT) : AV := ⟨p.n0, p.s, p.n1⟩
def PT.at (p : PT) : AT := ⟨p.key, p.av⟩
def PT.rf (p : PT) : RF := ⟨p.n0, p.n1⟩
def PT.ex (p : PT) : EX := ⟨p.n0, p.n1, p.n2, p.n3, p.n4⟩
def PT.ms (p : PT) : MS := ⟨p.n0, p.rf, ⟨p.n2, p.n3⟩, ⟨p.n4, p.n5, p.n6, p.n7, p.n1⟩⟩
def PT.sp (p : PT) : SP := ⟨p.n0, p.n1, p.n2, p.n3, p.n4, p.n5, p.key, p.s, p.key, p.n6, p.n7, decide (p.n0 > 0), [p.at], [p.rf, p.rf], false, false⟩
theorem PT.Ok.av {p : PT} (h : p.Ok) : p.av.Ok := ⟨h.n0, h.s, h.n1⟩
theorem PT.Ok.at {p : PT} (h : p.Ok) : p.at.Ok := ⟨h.key, h.av⟩
theorem PT.Ok.rf {p : PT} (h : p.Ok) : p.rf.Ok := ⟨h.n0, h.n1⟩
theorem PT.Ok.ex {p : PT} (h : p.Ok) : p.ex.Ok := ⟨h.n0, h.n1, h.n2, h.n3, h.n4⟩
theorem PT.Ok.ms {p : PT} (h : p.Ok) : p.ms.Ok := ⟨h.n0, h.rf, ⟨h.n2, h.n3⟩, ⟨h.n4, h.n5, h.n6, h.n7, h.n1⟩⟩
theorem PT.Ok.sp {p : PT} (h : p.Ok) : p.sp.Ok where
  n := by
    intro n hn
    simp [PT.sp] at hn
    rcases hn with rfl | rfl | rfl | rfl | rfl | rfl | rfl | rfl
    · exact h.n0
    · exact h.n1
    · exact h.n2
    · exact h.n3
    · exact h.n4
    · exact h.n5
    · exact h.n6
    · exact h.n7
  sv := h.key
  vr := h.s
  op := h.key
  ats := by
    intro e he
    simp [PT.sp] at he
    rw [he]
    exact h.at
  lks := by
    intro e he
    simp [PT.sp] at he
    rw [he]
    exact h.rf
  al := by simp [PT.sp]
  ll := by simp [PT.sp]
  an := by simp [PT.sp]
  ln := by simp [PT.sp]
def PT.f (p : PT) : List UInt8 :=
  if p.k.tmod 9 = 0 then fNum p.n0 else
  if p.k.tmod 9 = 1 then fBool (decide (p.n0 > 0)) else
  if p.k.tmod 9 = 2 then fText p.s else
  if p.k.tmod 9 = 3 then p.av.f else
  if p.k.tmod 9 = 4 then p.at.f else
  if p.k.tmod 9 = 5 then p.rf.f else
  if p.k.tmod 9 = 6 then p.ex.f else
  if p.k.tmod 9 = 7 then p.ms.f else
  p.sp.f
structure PT.Pre (p : PT) : Prop where
  k0 : 0 ≤ p.k
  k1 : p.k ≤ 255
  n0 : Rng p.n0
  n1 : Rng p.n1
  n2 : Rng p.n2
  n3 : Rng p.n3
  n4 : Rng p.n4
  n5 : Rng p.n5
  n6 : Rng p.n6
  n7 : Rng p.n7
  key : p.key.size ≤ 9223372036854775807
  s : p.s.size ≤ 9223372036854775807
theorem PT.Pre.ok {p : PT} (h : p.Pre) (h1 : p.key.size ≤ 50) (h2 : p.s.size ≤ 50) : p.Ok := ⟨h.k0, h.k1, h.n0, h.n1, h.n2, h.n3, h.n4, h.n5, h.n6, h.n7, by omega, by omega⟩
end Go.Proofs.Sl
namespace Go.Proofs.Sl
section
variable {h t : H} {l : Nat} {s : ByteArray} {a : Nat} {e : Int}
end
end Go.Proofs.Sl
namespace Go.Proofs.Sl
def plains (cs : List V) : Prop := ∀ c ∈ cs, c.plain = true
theorem plains.set {cs : List V} (h : plains cs) (j : Nat) {v : V} (hv : v.plain = true) : plains (cs.set j v) := by
  intro c hc
  rcases List.mem_or_eq_of_mem_set hc with hc | rfl
  · exact h c hc
  · exact hv
section
variable {s : ByteArray}
end
end Go.Proofs.Sl
namespace Go.Proofs.Sl
def AV.z : AV := ⟨0, ⟨#[]⟩, 0⟩
def AT.z : AT := ⟨⟨#[]⟩, AV.z⟩
def RF.z : RF := ⟨0, 0⟩
def EX.z : EX := ⟨0, 0, 0, 0, 0⟩
def MS.z : MS := ⟨0, RF.z, RF.z, EX.z⟩
section
variable {h t : H} {l : Nat} {s : ByteArray} {a : Nat} {e : Int}
end
end Go.Proofs.Sl
namespace Go.Proofs.Sl
section
variable {h t : H} {l : Nat} {s : ByteArray} {a : Nat} {e : Int}
end
theorem zzb_ : ∀ l : List AT, V.closed.closeds (l.map AT.v) = true
  | [] => rfl
  | x :: l => by simp [AT.v, zzb_ l]
theorem zzc_ : ∀ l : List RF, V.closed.closeds (l.map RF.v) = true
  | [] => rfl
  | x :: l => by simp [RF.v, zzc_ l]
end Go.Proofs.Sl
namespace Go.Proofs.Sl
def SP.z : SP := ⟨0, 0, 0, 0, 0, 0, ⟨#[]⟩, ⟨#[]⟩, ⟨#[]⟩, 0, 0, false, [], [], true, true⟩
section
variable {h t : H} {l : Nat} {s : ByteArray} {a : Nat} {e : Int}
end
end Go.Proofs.Sl
namespace Go.Proofs.Sl
structure AT.Pre (a : AT) : Prop where
  key : a.key.size ≤ 9223372036854775807
  k : Rng a.val.k
  t : a.val.t.size ≤ 9223372036854775807
  n : Rng a.val.n
structure SP.Pre (a : SP) : Prop where
  n : ∀ n ∈ [a.tr, a.id, a.par, a.rev, a.clk, a.kind, a.st, a.en], Rng n
  sv : a.sv.size ≤ 9223372036854775807
  vr : a.vr.size ≤ 9223372036854775807
  op : a.op.size ≤ 9223372036854775807
  ats : ∀ e ∈ a.ats, e.Pre
  lks : ∀ e ∈ a.lks, e.Ok
  al : a.ats.length ≤ 9223372036854775807
  ll : a.lks.length ≤ 9223372036854775807
  an : a.an = true → a.ats = []
  ln : a.ln = true → a.lks = []
def AT.isShort (a : AT) : Bool := !(decide (100 < (a.key.size : Int)) || decide (100 < (a.val.t.size : Int)))
def SP.isShort (a : SP) : Bool := !(decide (8 < (a.ats.length : Int)) || (decide (8 < (a.lks.length : Int)) || (decide (100 < (a.sv.size : Int)) || (decide (100 < (a.vr.size : Int)) || decide (100 < (a.op.size : Int)))))) && a.ats.all AT.isShort
theorem SP.Pre.ok {a : SP} (h : a.Pre) (hs : a.isShort = true) : a.Ok := by
  simp [SP.isShort] at hs
  obtain ⟨⟨h1, h2, h3, h4, h5⟩, h6⟩ := hs
  refine ⟨h.n, by omega, by omega, by omega, fun e he => ?_, h.lks, by omega, by omega, h.an, h.ln⟩
  have h7 := h6 e he
  have h8 := h.ats e he
  simp [AT.isShort] at h7
  exact ⟨by omega, ⟨h8.k, by omega, h8.n⟩⟩
end Go.Proofs.Sl
namespace Go.Proofs.Sl
theorem zcj_ : ∀ l : List SP, V.closed.closeds (l.map SP.v) = true
  | [] => rfl
  | x :: l => by simp [SP.v, zcj_ l]
structure FR where
  ag : Int
  sq : Int
  sps : List SP
  exs : List EX
  sn : Bool
  xn : Bool
def FR.v (a : FR) : V := .agg [vi a.ag, vi a.sq, lv 14 (slc SP.v a.sps a.sn), lv 5 (slc EX.v a.exs a.xn)]
structure FR.Ok (a : FR) : Prop where
  ag : Rng a.ag
  sq : Rng a.sq
  sps : ∀ e ∈ a.sps, e.Ok
  exs : ∀ e ∈ a.exs, e.Ok
  sl : a.sps.length ≤ 1000
  xl : a.exs.length ≤ 1000
  sn : a.sn = true → a.sps = []
  xn : a.xn = true → a.exs = []
def FR.f (a : FR) : List UInt8 := fNums [a.ag, a.sq] ++ (fList SP.f a.sps ++ fList EX.f a.exs)
structure TC where
  id : Int
  wt : Int
  sps : List SP
  sn : Bool
def TC.v (a : TC) : V := .agg [vi a.id, vi a.wt, lv 14 (slc SP.v a.sps a.sn)]
structure TC.Ok (a : TC) : Prop where
  id : Rng a.id
  wt : Rng a.wt
  sps : ∀ e ∈ a.sps, e.Ok
  sl : a.sps.length ≤ 1000
  sn : a.sn = true → a.sps = []
def TC.f (a : TC) : List UInt8 := fNums [a.id, a.wt] ++ fList SP.f a.sps
def FR.z : FR := ⟨0, 0, [], [], true, true⟩
def TC.z : TC := ⟨0, 0, [], true⟩
end Go.Proofs.Sl
namespace Go.Proofs.Sl
theorem zbq_ {α : Type} {l : List α} {k : Nat} {e : α} (h : l[k]? = some e) : l.drop k = e :: l.drop (k + 1) := by
  obtain ⟨hk, he⟩ := List.getElem?_eq_some_iff.1 h
  rw [List.drop_eq_getElem_cons hk, he]
theorem zchp_ {α : Type} {l : List α} {k : Nat} {e : α} (h : l[k]? = some e) : l.take (k + 1) = l.take k ++ [e] := by
  rw [List.take_add_one, h]; rfl
theorem zhw_ {k : Nat} (h : k < 100000000000) : IntKind.i64.wrap ((k : Int) + 1) = (k : Int) + 1 := zan_ (by omega) (by omega)
theorem il_at {vs : List Int} {k : Nat} {e : Int} (h : vs[k]? = some e) : (il vs)[k]? = some (vi e) := by simp [il, h]
theorem zcx_ (vs : List Int) : (il vs).length = vs.length := by simp [il]
end Go.Proofs.Sl
namespace Go.Proofs.Sl
open Go
theorem zchq_ : noOwn [] = true := Eq.trans rfl rfl
attribute [simp] zchq_
theorem bl_eq {a b : ByteArray} : (a.toList == b.toList) = decide (a = b) := by
  by_cases h : a = b
  · subst h; simp
  · have : a.toList ≠ b.toList := fun e => h (by rw [ByteArray.toList_eq, ByteArray.toList_eq] at e; exact ByteArray.ext (Array.ext' e))
    simp [h, this]
theorem bl_ne {a b : ByteArray} (h : Op.bytesLess a.toList b.toList = true) : ¬ a = b := by
  rintro rfl
  rw [ztp_] at h
  cases h
theorem bl_gt (a b : ByteArray) : (!(Op.bytesLess a.toList b.toList || a.toList == b.toList)) = Op.bytesLess b.toList a.toList := by
  cases h : Op.bytesLess a.toList b.toList with
  | true => simp [ztr_ h]
  | false =>
    cases k : Op.bytesLess b.toList a.toList with
    | true => have := bl_ne k; rw [bl_eq]; simp; exact fun e => this e.symm
    | false => rw [zpq_ _ _ h k]; simp
theorem zzd_ {a b : ByteArray} (h : Op.bytesLess a.toList b.toList = false) : (a.toList == b.toList) = !Op.bytesLess b.toList a.toList := by
  have := bl_gt a b
  rw [h, Bool.false_or] at this
  rw [← this, Bool.not_not]
theorem zze_ (h : H) (a : Int) : run XP zop_ [vi a] h = some (vb false, h) := by
  rw [run_eq, zbwd_]
  simp -implicitDefEqProofs [zmh_]
theorem zzf_ (h : H) (a : ByteArray) : run XP zoo_ [vs a] h = some (vb false, h) := by
  rw [run_eq, zbwc_]
  simp -implicitDefEqProofs [zmg_]
theorem zhx_ (h : H) (a b : Int) : run XP zed_ [vi a, vi b] h = some (vi (sgn a b), h) := by
  rw [run_eq, zbvn_]
  have h1 := zze_ h a
  have h2 := zze_ h b
  unfold sgn
  by_cases h3 : a < b
  · simp -implicitDefEqProofs [zjh_, h1, h2, h3]
  · by_cases h4 : b < a <;> simp -implicitDefEqProofs [zjh_, h1, h2, h3, h4]
theorem zjr_ (h : H) (a b : ByteArray) : run XP zgj_ [vs a, vs b] h = some (vi (wrd a b), h) := by
  rw [run_eq, zbvm_]
  have h1 := zzf_ h a
  have h2 := zzf_ h b
  unfold wrd
  cases h3 : Op.bytesLess a.toList b.toList
  · have h5 := zzd_ h3
    cases h4 : Op.bytesLess b.toList a.toList
    · rw [h4, Bool.not_false] at h5
      simp -implicitDefEqProofs [zhu_, h1, h2, h3, h4, h5]
    · rw [h4, Bool.not_true] at h5
      simp -implicitDefEqProofs [zhu_, h1, h2, h3, h4, h5]
  · simp -implicitDefEqProofs [zhu_, h1, h2, h3]
theorem zck_ (h : H) (a b : Int) : run XP zbz_ [vi a, vi b] h = some (vi (sgn a b), h) := by
  rw [run_eq, zbvr_]
  unfold sgn
  by_cases h3 : a < b
  · simp -implicitDefEqProofs [zja_, h3]
  · by_cases h4 : b < a <;> simp -implicitDefEqProofs [zja_, h3, h4]
theorem zmr_ (h : H) (a b : ByteArray) : run XP zhm_ [vs a, vs b] h = some (vi (wrd a b), h) := by
  rw [run_eq, zbvs_]
  unfold wrd
  cases h3 : Op.bytesLess a.toList b.toList
  · have h5 := zzd_ h3
    cases h4 : Op.bytesLess b.toList a.toList
    · rw [h4, Bool.not_false] at h5
      simp -implicitDefEqProofs [zhp_, h3, h4, h5]
    · rw [h4, Bool.not_true] at h5
      simp -implicitDefEqProofs [zhp_, h3, h4, h5]
  · simp -implicitDefEqProofs [zhp_, h3]
theorem zpr_ (h : H) (b : Bool) : run XP zkk_ [vb b] h = some (vi (flg b), h) := by
  rw [run_eq, zbvo_]
  cases b <;> simp -implicitDefEqProofs [zlp_, flg]
theorem zps_ (h : H) (b : Bool) : run XP ziu_ [vb b] h = some (vi (flg b), h) := by
  rw [run_eq, zbvt_]
  cases b <;> simp -implicitDefEqProofs [zlg_, flg]
theorem run_Or (h : H) (ns : List Int) (hl : ns.length ≤ 10000) : run XP zit_ [.lst 1 (il ns)] h = some (vi (orl ns), h) := by
  have hv : Rd h 1 (.lst 1 (il ns)) (il ns) := .lst _
  rw [run_eq, zbvk_]
  simp -implicitDefEqProofs [zlu_, zcx_]
  refine zbo_ ns (fun k s h' => Sees s [(3, vi 0), (6, .lst 1 (il ns)), (7, vi ns.length), (8, vi k)] ∧ h' = h ∧ orl ns = orl (ns.drop k)) ?_ ?_ _ _ ⟨by simp, rfl, rfl⟩
  · rintro B f hB hf k e s h' he hk ⟨⟨h3, h6, h7, h8, -⟩, rfl, hx⟩ K
    obtain ⟨p, hp, hld⟩ := hv.at1 (il_at he) rfl
    have hlt : (k : Int) < ns.length := by omega
    rw [zbq_ he, orl] at hx
    by_cases h0 : e = 0
    · rw [if_neg (by simpa using h0)] at hx
      simp -implicitDefEqProofs [hB, zph_, h3, h6, h7, h8, hlt, hp, hld, h0]
      refine K _ _ ⟨?_, rfl, hx⟩
      simp [h3, h6, h7, zhw_ (by omega : k < 100000000000)]
    · rw [if_pos h0] at hx
      have h0' : (e != 0) = true := by simpa using h0
      simp -implicitDefEqProofs [hB, hf, zph_, h3, h6, h7, h8, hlt, hp, hld, h0', hx]
  · rintro B hB s h' ⟨⟨h3, h6, h7, h8, -⟩, rfl, hx⟩
    simp -implicitDefEqProofs [hB, zph_, h3, h7, h8, hx, orl]
theorem il_get {l : List Int} {k : Nat} {e : Int} (h : l[k]? = some e) : ∀ hh, (il l)[k]'hh = vi e := fun hh => by
  have := il_at h
  rw [List.getElem?_eq_getElem hh] at this
  injection this
theorem ztt_ {α : Type} {f : α → α → Int} {x y : List α} {k : Nat} {a b : α} (ha : x[k]? = some a) (hb : y[k]? = some b) : lexc f (x.drop k) (y.drop k) = if f a b ≠ 0 then f a b else lexc f (x.drop (k + 1)) (y.drop (k + 1)) := by
  rw [zbq_ ha, zbq_ hb, lexc]
theorem zzg_ {α : Type} {f : α → α → Int} {x y : List α} {k : Nat} {a : α} (ha : x[k]? = some a) (hb : y.length ≤ k) : lexc f (x.drop k) (y.drop k) = 1 := by
  rw [zbq_ ha, List.drop_of_length_le hb, lexc]
theorem ztu_ {α : Type} {f : α → α → Int} {x y : List α} : lexc f (x.drop x.length) (y.drop x.length) = if x.length < y.length then -1 else 0 := by
  rw [List.drop_of_length_le (Nat.le_refl _)]
  split
  · rename_i h
    rw [List.drop_eq_getElem_cons h, lexc]
  · rename_i h
    rw [List.drop_of_length_le (by omega), lexc]
theorem zchr_ {h : H} {l m : Nat} {z z' : Bool} {xs ys : List Int} (hx : h[l]? = some (.box z (il xs))) (hy : h[m]? = some (.box z' (il ys))) (hn : xs.length = ys.length) (hl : xs.length ≤ 1000) :
    run XP zoj_ [.bref l xs.length, .bref m ys.length] h = some (vi (lexc sgn xs ys), h) := by
  rw [run_eq, zbvl_]
  have hb1 : ∀ l : List Int, (il l).map zal_ = il l := fun l => by simp [il]
  simp -implicitDefEqProofs [zlv_, zcx_, hx, hy, hb1]
  refine zbo_ xs (fun k s h' => Sees s [(0, .bref l xs.length), (1, .bref m ys.length), (9, .bref l xs.length), (10, vi xs.length), (11, vi k)] ∧ h' = h ∧ lexc sgn xs ys = lexc sgn (xs.drop k) (ys.drop k)) ?_ ?_ _ _ ⟨by simp, rfl, rfl⟩
  · rintro B f hB hf k e s h' he hk ⟨⟨h0', h1, h9, h10, h11, -⟩, rfl, hq⟩ K
    have hlt : (k : Int) < xs.length := by omega
    have hky : k < ys.length := by omega
    have hlt2 : ¬ ((ys.length : Int) ≤ k) := by omega
    obtain ⟨e', he'⟩ : ∃ e', ys[k]? = some e' := ⟨_, List.getElem?_eq_getElem hky⟩
    have hc := zhx_ h' e e'
    have g1 := il_get he
    have g2 := il_get he'
    rw [ztt_ he he'] at hq
    by_cases h0 : sgn e e' = 0
    · rw [if_neg (by simpa using h0)] at hq
      simp -implicitDefEqProofs [hB, zpi_, h1, h9, h10, h11, hlt, hlt2, hk, hky, hx, hy, g1, g2, hc, h0, zcx_, hb1]
      refine K _ _ ⟨?_, rfl, hq⟩
      simp [h0', h1, h9, h10, zhw_ (by omega : k < 100000000000)]
    · rw [if_pos h0] at hq
      have h0n : (sgn e e' != 0) = true := by simpa using h0
      simp -implicitDefEqProofs [hB, hf, zpi_, h1, h9, h10, h11, hlt, hlt2, hk, hky, hx, hy, g1, g2, hc, h0n, hq, zcx_, hb1]
  · rintro B hB s h' ⟨⟨h0', h1, h9, h10, h11, -⟩, rfl, hq⟩
    rw [ztu_, if_neg (by omega)] at hq
    simp -implicitDefEqProofs [hB, zpi_, h0', h1, h9, h10, h11, hq, hx, hy, zcx_, hn, hb1]
end Go.Proofs.Sl
namespace Go.Proofs.Sl
theorem zzh_ (h : H) (a b : AV) : run XP zoq_ [a.v, b.v] h = some (vi (cmpV a b), h) := by
  obtain ⟨k, t, n⟩ := a
  obtain ⟨k', t', n'⟩ := b
  rw [run_eq, zbwg_]
  have h1 := fun h => zhx_ h k k'
  have h2 := fun h => zjr_ h t t'
  have h3 := fun h => zhx_ h n n'
  have h4 := fun h => run_Or h [sgn k k', wrd t t', sgn n n'] (by simp)
  simp only [il, List.map_cons, List.map_nil] at h4
  simp -implicitDefEqProofs [zlt_, AV.v, h1, h2, h3, h4, zcq_, optEq, cmpV]
theorem zchs_ (h : H) (a b : AT) : run XP zkm_ [a.v, b.v] h = some (vi (cmpA a b), h) := by
  obtain ⟨k, v⟩ := a
  obtain ⟨k', v'⟩ := b
  rw [run_eq, zbwf_]
  have h1 := fun h => zjr_ h k k'
  have h2 := fun h => zzh_ h v v'
  have h4 := fun h => run_Or h [wrd k k', cmpV v v'] (by simp)
  simp only [il, List.map_cons, List.map_nil, AV.v] at h4 h2
  simp -implicitDefEqProofs [zmj_, AT.v, h1, h2, h4, zcq_, optEq, cmpA]
theorem zzi_ (h : H) (a b : RF) : run XP zir_ [a.v, b.v] h = some (vi (cmpR a b), h) := by
  obtain ⟨k, v⟩ := a
  obtain ⟨k', v'⟩ := b
  rw [run_eq, zbuq_]
  have h1 := fun h => zhx_ h k k'
  have h2 := fun h => zhx_ h v v'
  have h4 := fun h => run_Or h [sgn k k', sgn v v'] (by simp)
  simp only [il, List.map_cons, List.map_nil] at h4
  simp -implicitDefEqProofs [zly_, RF.v, h1, h2, h4, zcq_, optEq, cmpR]
theorem zcht_ (h : H) (a b : RF) : run XP zsd_ [a.v, b.v] h = some (vi (cmpR a b), h) := by
  obtain ⟨k, v⟩ := a
  obtain ⟨k', v'⟩ := b
  rw [run_eq, zbur_]
  have h1 := fun h => zck_ h k k'
  have h2 := fun h => zck_ h v v'
  by_cases h0 : sgn k k' = 0
  · simp -implicitDefEqProofs [zjb_, RF.v, h1, h2, cmpR, orl, h0]
  · have h0' : (sgn k k' != 0) = true := by simpa using h0
    simp -implicitDefEqProofs [zjb_, RF.v, h1, h2, cmpR, orl, h0, h0']
end Go.Proofs.Sl
namespace Go.Proofs.Sl
theorem zchu_ {h : H} {v w : V} {xs ys : List AT} (hx : ∀ h, Rd h 4 v (xs.map AT.v)) (hy : ∀ h, Rd h 4 w (ys.map AT.v)) (hl : xs.length ≤ 9223372036854775807) :
    run XP zsu_ [v, w, .fn zkm_ [] []] h = some (vi (lexc cmpA xs ys), h) := by
  rw [run_eq, zbwe_]
  simp -implicitDefEqProofs [zmi_, (hx _).toL]
  refine zbo_ xs (fun k s h' => Sees s [(0, v), (1, w), (2, .fn zkm_ [] []), (11, v), (12, vi xs.length), (13, vi k)] ∧ (∃ t, h' = h ++ t) ∧ lexc cmpA xs ys = lexc cmpA (xs.drop k) (ys.drop k)) ?_ ?_ _ _ ⟨by simp, ⟨[], by simp⟩, rfl⟩
  · rintro B f hB hf k e s h' he hk ⟨⟨h0, h1, h2, h11, h12, h13, -⟩, ⟨t, rfl⟩, hq⟩ K
    have hlt : (k : Int) < xs.length := by omega
    obtain ⟨p, hp, hld⟩ := (hx (h ++ t)).at (i := k) (e := e.v) (by simp [he])
    have hw : IntKind.i64.wrap ((k : Int) + 1) = (k : Int) + 1 := zan_ (by omega) (by omega)
    by_cases hky : k < ys.length
    · have hlt2 : ¬ ((ys.length : Int) ≤ k) := by omega
      obtain ⟨e', he'⟩ : ∃ e', ys[k]? = some e' := ⟨_, List.getElem?_eq_getElem hky⟩
      obtain ⟨p', hp', hld'⟩ := (hy (h ++ (t ++ [.box false e.v.cells]))).at (i := k) (e := e'.v) (by simp [he'])
      have hc := fun h => zchs_ h e e'
      rw [ztt_ he he'] at hq
      simp only [AT.v, V.cells] at hld hld' hc hp'
      by_cases hz : cmpA e e' = 0
      · rw [if_neg (by simpa using hz)] at hq
        simp -implicitDefEqProofs [hB, zjo_, h0, h1, h2, h11, h12, h13, hlt, hlt2, hk, (hy _).toL, hp, hld, hp', hld', hc, hz]
        refine K _ _ ⟨?_, ⟨_, rfl⟩, hq⟩
        simp [h0, h1, h2, h11, h12, hw]
      · rw [if_pos hz] at hq
        have hz' : (cmpA e e' != 0) = true := by simpa using hz
        simp -implicitDefEqProofs [hB, hf, zjo_, h0, h1, h2, h11, h12, h13, hlt, hlt2, hk, (hy _).toL, hp, hld, hp', hld', hc, hz', hq]
    · have hlt2 : ((ys.length : Int) ≤ k) := by omega
      rw [zzg_ he (by omega)] at hq
      simp only [AT.v, V.cells] at hld
      simp -implicitDefEqProofs [hB, hf, zjo_, h0, h1, h2, h11, h12, h13, hlt, hlt2, hk, (hy _).toL, hp, hld, hq]
  · rintro B hB s h' ⟨⟨h0, h1, h2, h11, h12, h13, -⟩, ⟨t, rfl⟩, hq⟩
    rw [ztu_] at hq
    by_cases hlt : xs.length < ys.length
    · rw [if_pos hlt] at hq
      simp -implicitDefEqProofs [hB, zjo_, h0, h1, h11, h12, h13, hq, (hx _).toL, (hy _).toL, hlt]
    · rw [if_neg hlt] at hq
      simp -implicitDefEqProofs [hB, zjo_, h0, h1, h11, h12, h13, hq, (hx _).toL, (hy _).toL, hlt]
theorem zchv_ {h : H} {v w : V} {xs ys : List RF} (hx : ∀ h, Rd h 2 v (xs.map RF.v)) (hy : ∀ h, Rd h 2 w (ys.map RF.v)) (hl : xs.length ≤ 9223372036854775807) :
    run XP zsp_ [v, w, .fn zir_ [] []] h = some (vi (lexc cmpR xs ys), h) := by
  rw [run_eq, zbvq_]
  simp -implicitDefEqProofs [zlx_, (hx _).toL]
  refine zbo_ xs (fun k s h' => Sees s [(0, v), (1, w), (2, .fn zir_ [] []), (11, v), (12, vi xs.length), (13, vi k)] ∧ (∃ t, h' = h ++ t) ∧ lexc cmpR xs ys = lexc cmpR (xs.drop k) (ys.drop k)) ?_ ?_ _ _ ⟨by simp, ⟨[], by simp⟩, rfl⟩
  · rintro B f hB hf k e s h' he hk ⟨⟨h0, h1, h2, h11, h12, h13, -⟩, ⟨t, rfl⟩, hq⟩ K
    have hlt : (k : Int) < xs.length := by omega
    obtain ⟨p, hp, hld⟩ := (hx (h ++ t)).at (i := k) (e := e.v) (by simp [he])
    have hw : IntKind.i64.wrap ((k : Int) + 1) = (k : Int) + 1 := zan_ (by omega) (by omega)
    by_cases hky : k < ys.length
    · have hlt2 : ¬ ((ys.length : Int) ≤ k) := by omega
      obtain ⟨e', he'⟩ : ∃ e', ys[k]? = some e' := ⟨_, List.getElem?_eq_getElem hky⟩
      obtain ⟨p', hp', hld'⟩ := (hy (h ++ (t ++ [.box false e.v.cells]))).at (i := k) (e := e'.v) (by simp [he'])
      have hc := fun h => zzi_ h e e'
      rw [ztt_ he he'] at hq
      simp only [RF.v, V.cells] at hld hld' hc hp'
      by_cases hz : cmpR e e' = 0
      · rw [if_neg (by simpa using hz)] at hq
        simp -implicitDefEqProofs [hB, zji_, h0, h1, h2, h11, h12, h13, hlt, hlt2, hk, (hy _).toL, hp, hld, hp', hld', hc, hz]
        refine K _ _ ⟨?_, ⟨_, rfl⟩, hq⟩
        simp [h0, h1, h2, h11, h12, hw]
      · rw [if_pos hz] at hq
        have hz' : (cmpR e e' != 0) = true := by simpa using hz
        simp -implicitDefEqProofs [hB, hf, zji_, h0, h1, h2, h11, h12, h13, hlt, hlt2, hk, (hy _).toL, hp, hld, hp', hld', hc, hz', hq]
    · have hlt2 : ((ys.length : Int) ≤ k) := by omega
      rw [zzg_ he (by omega)] at hq
      simp only [RF.v, V.cells] at hld
      simp -implicitDefEqProofs [hB, hf, zji_, h0, h1, h2, h11, h12, h13, hlt, hlt2, hk, (hy _).toL, hp, hld, hq]
  · rintro B hB s h' ⟨⟨h0, h1, h2, h11, h12, h13, -⟩, ⟨t, rfl⟩, hq⟩
    rw [ztu_] at hq
    by_cases hlt : xs.length < ys.length
    · rw [if_pos hlt] at hq
      simp -implicitDefEqProofs [hB, zji_, h0, h1, h11, h12, h13, hq, (hx _).toL, (hy _).toL, hlt]
    · rw [if_neg hlt] at hq
      simp -implicitDefEqProofs [hB, zji_, h0, h1, h11, h12, h13, hq, (hx _).toL, (hy _).toL, hlt]
end Go.Proofs.Sl
namespace Go.Proofs.Sl
structure SP.Len (a : SP) : Prop where
  al : a.ats.length ≤ 9223372036854775807
  ll : a.lks.length ≤ 9223372036854775807
  an : a.an = true → a.ats = []
  ln : a.ln = true → a.lks = []
theorem rd_slc {α : Type} (h : H) (k : Nat) (v : α → V) {l : List α} {n : Bool} (hn : n = true → l = []) : Rd h k (lv k (slc v l n)) (l.map v) := by
  have := Rd.lv h k (slc v l n)
  rwa [zeg_ hn] at this
theorem orl6 (a b c d e f : Int) (l : List Int) : orl (orl [a, b, c, d, e, f] :: l) = orl (a :: b :: c :: d :: e :: f :: l) := by
  have := zjq_ [a, b, c, d, e, f] l
  simp only [List.cons_append, List.nil_append] at this
  rw [this]
  simp only [orl]
theorem lexc6 (a b c d e f a' b' c' d' e' f' : Int) : lexc sgn [a, b, c, d, e, f] [a', b', c', d', e', f'] = orl [sgn a a', sgn b b', sgn c c', sgn d d', sgn e e', sgn f f'] := by
  simp only [lexc, orl]
theorem zchw_ (a b : Bool) : IntKind.i64.wrap (flg a - flg b) = sgn (flg a) (flg b) := by cases a <;> cases b <;> rfl
theorem zzj_ (h : H) {a b : SP} (ha : a.Len) (hb : b.Len) : run XP zhl_ [a.v, b.v] h = some (vi (cmpS a b), h) := by
  obtain ⟨q1, q2, q3, q4⟩ := ha
  obtain ⟨r1, r2, r3, r4⟩ := hb
  obtain ⟨tr, id, par, rev, clk, kind, sv, vr, op, st, en, er, ats, lks, an, ln⟩ := a
  obtain ⟨tr', id', par', rev', clk', kind', sv', vr', op', st', en', er', ats', lks', an', ln'⟩ := b
  simp only at q1 q2 q3 q4 r1 r2 r3 r4
  have cA := fun h => zchu_ (h := h) (fun h => rd_slc h 4 AT.v q3) (fun h => rd_slc h 4 AT.v r3) q1
  have cR := fun h => zchv_ (h := h) (fun h => rd_slc h 2 RF.v q4) (fun h => rd_slc h 2 RF.v r4) q2
  have h1 := fun h => zjr_ h sv sv'
  have h2 := fun h => zjr_ h vr vr'
  have h3 := fun h => zjr_ h op op'
  have h4 := fun h => zhx_ h st st'
  have h5 := fun h => zhx_ h en en'
  have h6 := fun h => zpr_ h er
  have h7 := fun h => zpr_ h er'
  have h8 := fun h => run_Or h [orl [sgn tr tr', sgn id id', sgn rev rev', sgn par par', sgn clk clk', sgn kind kind'], wrd sv sv', wrd vr vr', wrd op op', sgn st st', sgn en en', sgn (flg er) (flg er'), lexc cmpA ats ats', lexc cmpR lks lks'] (by simp)
  have h9 : ∀ (h : H) (t1 t2 : H) (z z' : Bool), run XP zoj_ [.bref (h.length + 2) 6, .bref (h.length + 3) 6] (h ++ [t1.headD .dead, t2.headD .dead, .box z [vi tr, vi id, vi rev, vi par, vi clk, vi kind], .box z' [vi tr', vi id', vi rev', vi par', vi clk', vi kind']]) =
      some (vi (orl [sgn tr tr', sgn id id', sgn rev rev', sgn par par', sgn clk clk', sgn kind kind']), h ++ [t1.headD .dead, t2.headD .dead, .box z [vi tr, vi id, vi rev, vi par, vi clk, vi kind], .box z' [vi tr', vi id', vi rev', vi par', vi clk', vi kind']]) := by
    intro h t1 t2 z z'
    have := zchr_ (h := h ++ [t1.headD .dead, t2.headD .dead, .box z [vi tr, vi id, vi rev, vi par, vi clk, vi kind], .box z' [vi tr', vi id', vi rev', vi par', vi clk', vi kind']]) (l := h.length + 2) (m := h.length + 3) (z := z) (z' := z') (xs := [tr, id, rev, par, clk, kind]) (ys := [tr', id', rev', par', clk', kind']) (by simp [il]) (by simp [il]) rfl (by simp)
    rw [lexc6] at this
    exact this
  have h9' := fun a b => h9 h [a] [b] false false
  simp only [List.headD] at h9'
  simp only [il, List.map_cons, List.map_nil] at h8
  have hcA : ∀ h, run XP zso_ [lv 4 (slc AT.v ats an), lv 4 (slc AT.v ats' an')] h = some (vi (lexc cmpA ats ats'), h) := by
    intro h
    rw [run_eq, zbvp_]
    simp -implicitDefEqProofs [zlw_, cA, (rd_slc h 4 AT.v q3).arg0, (rd_slc h 4 AT.v r3).arg0]
  rw [run_eq, zbum_]
  simp -implicitDefEqProofs [zln_, SP.v, h1, h2, h3, h4, h5, h6, h7, h8, h9', cR, hcA, zchw_, (fun h => (rd_slc h 4 AT.v q3).arg0), (fun h => (rd_slc h 4 AT.v r3).arg0), (fun h => (rd_slc h 2 RF.v q4).arg0), (fun h => (rd_slc h 2 RF.v r4).arg0), zcq_, optEq, cmpS, orl6]
end Go.Proofs.Sl
namespace Go.Proofs.Sl
theorem zzk_ (h : H) (a : SP) : run XP zoc_ [a.v] h = some (RF.v ⟨a.tr, a.id⟩, h) := by
  rw [run_eq, zbup_]
  simp -implicitDefEqProofs [zlm_, SP.v, RF.v]
theorem zzl_ (h : H) {a b : SP} (ha : a.Len) (hb : b.Len) : run XP zgi_ [a.v, b.v] h = some (vb (cmpS a b == 0), h) := by
  have hc := fun h => zzj_ h ha hb
  simp only [SP.v] at hc
  rw [run_eq, zbuo_]
  simp -implicitDefEqProofs [zlz_, SP.v, hc]
theorem zzm_ : ∀ l : List AT, wide 4 (l.map AT.v) = true
  | [] => rfl
  | a :: l => by simp only [List.map_cons, wide, zzm_ l, Bool.and_true]; rfl
theorem zzn_ : ∀ l : List RF, wide 2 (l.map RF.v) = true
  | [] => rfl
  | a :: l => by simp only [List.map_cons, wide, zzn_ l, Bool.and_true]; rfl
theorem zms_ (a : SP) : wide 14 [a.v] = true := by
  have h : ∀ (k : Nat) (o : Option (List V)), (lv k o).cell = true := fun k o => by cases o <;> rfl
  simp only [wide, SP.v, V.cells, List.length_cons, List.length_nil, zai_, h, Bool.and_true]
  rfl
theorem zzo_ : ∀ l : List SP, wide 14 (l.map SP.v) = true
  | [] => rfl
  | a :: l => by
    have h := zms_ a
    simp only [wide, Bool.and_true] at h
    simp only [List.map_cons, wide, h, zzo_ l, Bool.and_self]
def ov (k : Nat) : Option (List V) → V
  | none => vnil
  | some es => .own k es
theorem zchx_ (k : Nat) (o : Option (List V)) : res0 (ov k o) = lv k o := by cases o <;> rfl
theorem zchy_ (h : H) {l : List AT} {n : Bool} (hn : n = true → l = []) (hl : l.length ≤ 2932031007402) : run XP zsy_ [lv 4 (slc AT.v l n)] h = some (ov 4 (slc AT.v l n), h) := by
  rw [run_eq, zbwl_]
  have h1 := zzm_ l
  have h2 := zzb_ l
  cases n with
  | true =>
    rw [hn rfl]
    simp -implicitDefEqProofs [zjj_, slc, lv, ov]
  | false => simp -implicitDefEqProofs [zjj_, slc, lv, ov, h1, h2, hl]
theorem zchz_ (h : H) {l : List RF} {n : Bool} (hn : n = true → l = []) (hl : l.length ≤ 8796093022208) : run XP zsz_ [lv 2 (slc RF.v l n)] h = some (ov 2 (slc RF.v l n), h) := by
  rw [run_eq, zbwm_]
  have h1 := zzn_ l
  have h2 := zzc_ l
  cases n with
  | true =>
    rw [hn rfl]
    simp -implicitDefEqProofs [zjk_, slc, lv, ov]
  | false => simp -implicitDefEqProofs [zjk_, slc, lv, ov, h1, h2, hl]
structure SP.Sm (a : SP) : Prop where
  al : a.ats.length ≤ 2000000000000
  ll : a.lks.length ≤ 2000000000000
  an : a.an = true → a.ats = []
  ln : a.ln = true → a.lks = []
theorem SP.Sm.len {a : SP} (h : a.Sm) : a.Len := ⟨by have := h.al; omega, by have := h.ll; omega, h.an, h.ln⟩
theorem zcia_ (h : H) {a : SP} (ha : a.Sm) : run XP zsw_ [a.v] h = some (a.v, h) := by
  have h1 := fun h => zchy_ h ha.an (by have := ha.al; omega)
  have h2 := fun h => zchz_ h ha.ln (by have := ha.ll; omega)
  rw [run_eq, zbwj_]
  simp -implicitDefEqProofs [zlo_, SP.v, h1, h2, zchx_, zcq_, optEq]
end Go.Proofs.Sl
namespace Go.Proofs.Sl
def selA (p : Nat → Bool) : Nat → List SP → List SP
  | _, [] => []
  | k, e :: r => if p k = true then e :: selA p (k + 1) r else selA p (k + 1) r
def OutV (x : V) (h : H) (b k : Nat) (es : List V) : Prop := (es = [] ∧ x = vnil) ∨ ∃ q, es ≠ [] ∧ b ≤ q ∧ x = .ref q es.length ∧ h[q]? = some (.arr false k es)
theorem OutV.app {x : V} {h : H} {b k : Nat} {es : List V} (o : OutV x h b k es) (t : H) : OutV x (h ++ t) b k es := by
  rcases o with o | ⟨q, h0, h1, h2, h3⟩
  · exact .inl o
  · exact .inr ⟨q, h0, h1, h2, by rw [List.getElem?_append_left (List.getElem?_eq_some_iff.1 h3).1]; exact h3⟩
theorem OutV.grow {x : V} {h : H} {b k lim : Nat} {es : List V} (o : OutV x h b k es) {e : V} (hb : b ≤ h.length) (hw : wide k [e] = true) (hc : V.closed.closeds [e] = true) (hl : es.length + 1 ≤ lim) :
    ∃ x' h', zbs_ h k lim x (.lst k [e]) = some (x', h') ∧ OutV x' h' b k (es ++ [e]) ∧ h'.take b = h.take b ∧ b ≤ h'.length := by
  have ea : appEls h (.lst k [e]) = some [e] := rfl
  rcases o with ⟨rfl, rfl⟩ | ⟨q, h0, h1, rfl, h3⟩
  · have hl' : 1 ≤ lim := by simpa using hl
    refine ⟨.ref h.length 1, h ++ [.arr false k [e]], ?_, .inr ⟨h.length, by simp, hb, rfl, by simp⟩, by rw [List.take_append_of_le_length hb], by simp; omega⟩
    simp only [zbs_, ea, zab_, hw, hc, and_self, if_true, List.length_cons, List.length_nil, Nat.zero_add, Nat.one_ne_zero, if_false, hl']
  · have hq := (List.getElem?_eq_some_iff.1 h3).1
    refine ⟨.ref q (es.length + 1), h.set q (.arr false k (es ++ [e])), ?_, .inr ⟨q, by simp, h1, by simp, by rw [List.getElem?_set_self hq]⟩, ?_, by simpa using hb⟩
    · have : arrN h q es.length = some (false, k, es) := by simp [arrN, arrAt, h3, zab_]
      simp only [zbs_, ea, zab_, hw, hc, and_self, if_true, this, List.length_cons, List.length_nil, Nat.zero_add, true_and, hl]
    · rw [List.take_set, List.set_eq_of_length_le (by simp; omega)]
theorem OutV.ret {x : V} {h : H} {b k : Nat} {es : List V} (o : OutV x h b k es) (hc : V.closed.closeds es = true) : retV b h .v x [] = some (if es = [] then vnil else .own k es, []) := by
  rcases o with ⟨rfl, rfl⟩ | ⟨q, h0, h1, rfl, h3⟩
  · simp
  · have : arrN h q es.length = some (false, k, es) := by simp [arrN, arrAt, h3, zab_]
    rw [if_neg h0]
    show (if q < b then _ else ob (arrN h q es.length) _) = _
    rw [if_neg (by omega), this, zab_, if_pos hc]
    rfl
theorem ztv_ {h : H} {v : V} {es : List SP} (hv : ∀ t, Rd (h ++ t) 14 v (es.map SP.v)) (hs : ∀ e ∈ es, e.Sm) (hl : es.length ≤ 100000) {f : Nat} {b : List V} (hb0 : arg0s b = some b) {p : Nat → Bool} (hp : ∀ k t, k < es.length → run XP f (vi k :: b) (h ++ t) = some (vb (p k), h ++ t)) :
    run XP zkl_ [v, .fn f [] b] h = some (if selA p 0 es = [] then vnil else .own 14 ((selA p 0 es).map SP.v), h) := by
  have hv0 := hv []
  rw [List.append_nil] at hv0
  rw [run_eq, zbvz_]
  simp -implicitDefEqProofs [zlk_, hv0.toL]
  refine zbo_ es (fun k s h' => ∃ t pre, Sees s [(1, .fn f [] b), (8, v), (9, vi es.length), (10, vi k)] ∧ h' = h ++ t ∧ OutV (s 5) h' h.length 14 (pre.map SP.v) ∧ pre ++ selA p k (es.drop k) = selA p 0 es ∧ pre.length ≤ k) ?_ ?_ _ _
    ⟨[], [], by simp, by simp, .inl ⟨rfl, by simp⟩, rfl, by simp⟩
  · rintro B f' hB hf k e s h' he hk ⟨t, pre, ⟨h1, h8, h9, h10, -⟩, rfl, ho, hx, hpl⟩ K
    have hlt : (k : Int) < es.length := by omega
    obtain ⟨q, hq, hld⟩ := (hv t).at (i := k) (e := e.v) (by simp [he])
    have hw : IntKind.i64.wrap ((k : Int) + 1) = (k : Int) + 1 := zan_ (by omega) (by omega)
    have hsm := hs e (List.mem_of_getElem? he)
    have hcp := fun h => zcia_ h hsm
    have hpk := fun t => hp k t hk
    have hw1 := zms_ e
    have hc1 : V.closed.closeds [e.v] = true := zcj_ [e]
    rw [zbq_ he, selA] at hx
    obtain ⟨x', h'', hap, ho', htk, hbl⟩ := (ho.app [.box false e.v.cells]).grow (lim := 837723144972) (by simp) hw1 hc1 (by simp; omega)
    simp only [SP.v, V.cells] at hld hcp hap hw1 hc1
    rw [List.append_assoc] at hap
    cases hb : p k with
    | false =>
      rw [hb, if_neg (by simp)] at hx
      simp -implicitDefEqProofs [hB, zpe_, h1, h8, h9, h10, hlt, hq, hld, hb0, hpk, hb]
      refine K _ _ ⟨t ++ [.box false e.v.cells], pre, ?_, ?_, ?_, hx, by omega⟩
      · simp [h1, h8, h9, hw]
      · simp [SP.v]
      · have := ho.app [.box false e.v.cells]
        simpa [SP.v] using this
    | true =>
      rw [hb, if_pos rfl] at hx
      have htk' : ∃ t', h'' = h ++ t' := ⟨h''.drop h.length, by
        have := List.take_append_drop h.length h''
        rw [htk] at this
        rw [List.append_assoc, List.take_left] at this
        exact this.symm⟩
      obtain ⟨t', rfl⟩ := htk'
      simp -implicitDefEqProofs [hB, zpe_, h1, h8, h9, h10, hlt, hq, hld, hb0, hpk, hb, hcp, hap]
      refine K _ _ ⟨t', pre ++ [e], ?_, rfl, ?_, by simpa using hx, by simp; omega⟩
      · simp [h1, h8, h9, hw]
      · simpa using ho'
  · rintro B hB s h' ⟨t, pre, ⟨h1, h8, h9, h10, -⟩, rfl, ho, hx, -⟩
    rw [List.drop_of_length_le (Nat.le_refl _), selA, List.append_nil] at hx
    subst hx
    have hr := ho.ret (zcj_ _)
    simp -implicitDefEqProofs [hB, zpe_, h1, h8, h9, h10]
    simp only [hr]
    simp
end Go.Proofs.Sl
namespace Go.Proofs.Sl
def cptA : SP → List SP → List SP
  | _, [] => []
  | a, b :: r => if cmpS b a = 0 then cptA b r else b :: cptA b r
def cpt : List SP → List SP
  | [] => []
  | a :: r => a :: cptA a r
def zSP : V := .agg [.s (.int .i64 0), .s (.int .i64 0), .s (.int .i64 0), .s (.int .i64 0), .s (.int .i64 0), .s (.int .i64 0), .s (.string ⟨#[]⟩), .s (.string ⟨#[]⟩), .s (.string ⟨#[]⟩), .s (.int .i64 0), .s (.int .i64 0), .s (.bool false), .s (.slice none 0 0), .s (.slice none 0 0)]
theorem zcib_ (a b : List V) : V.closed.closeds (a ++ b) = (V.closed.closeds a && V.closed.closeds b) := by
  induction a with
  | nil => rfl
  | cons x a ih => simp only [List.cons_append, V.closed.closeds, ih, Bool.and_assoc]
theorem zcic_ (n : Nat) : V.closed.closeds (List.replicate n zSP) = true := by
  induction n with
  | zero => rfl
  | succ n ih => simp only [List.replicate_succ, V.closed.closeds, ih, Bool.and_true]; rfl
theorem ztw_ (a : SP) : a.v.cells.length = 14 ∧ zai_ a.v.cells = true := by
  have := zms_ a
  simp only [wide, Bool.and_true, Bool.and_eq_true, beq_iff_eq] at this
  exact this
theorem zcid_ (a b : SP) : putEl 0 a.v.cells b.v = a.v := rfl
theorem zcie_ (a : SP) : keep0s a.v.cells = some a.v.cells := by
  have h1 : ∀ (k : Nat) (o : Option (List V)), frz0 (lv k o) = some (lv k o) := fun k o => by cases o <;> rfl
  simp [SP.v, V.cells, keep0s, h1]
theorem zcif_ {base : Nat} {h : H} {l n i : Nat} {ws : List SP} (e : h[l]? = some (.arr false 14 (ws.map SP.v))) (hn : ws.length = n) (hi : i < n) (a : SP) :
    xstore base h 14 (.eptr l n i 0) a.v = some (h.set l (.arr false 14 ((ws.set i a).map SP.v))) := by
  have h1 : arrN h l n = some (false, 14, ws.map SP.v) := by simp [arrN, arrAt, e, zab_, hn]
  obtain ⟨w, hw⟩ : ∃ w, ws[i]? = some w := ⟨_, List.getElem?_eq_getElem (by omega)⟩
  have h2 : (ws.map SP.v)[i]? = some w.v := by rw [List.getElem?_map, hw]; rfl
  have h3 : V.closed.closeds a.v.cells = true := by
    have := zcj_ [a]
    simp only [List.map_cons, List.map_nil, V.closed.closeds, Bool.and_true] at this
    exact this
  have h4 : zai_ a.v.cells = true := (ztw_ a).2
  rw [zxs_, if_pos (ztw_ a).1, h1, zab_]
  simp only [Bool.false_eq_true, if_false, h2, zab_, zcie_, h3, h4, and_true]
  rw [if_pos (by rw [(ztw_ w).1]; exact Nat.le_refl _), zcid_, List.map_set]
theorem zpt_ {h : H} {l n i : Nat} {z : Bool} {ws : List SP} (e : h[l]? = some (.arr z 14 (ws.map SP.v))) (hn : ws.length = n) {a : SP} (hi : ws[i]? = some a) : xload h 14 true (.eptr l n i 0) = some a.v := by
  have h1 : arrN h l n = some (z, 14, ws.map SP.v) := by simp [arrN, arrAt, e, zab_, hn]
  have h2 : (ws.map SP.v)[i]? = some a.v := by rw [List.getElem?_map, hi]; rfl
  rw [zru_, h1, zab_]
  simp only [h2, zab_]
  rfl
theorem zcig_ {h : H} {l n a b : Nat} {z : Bool} {ws : List V} (e : h[l]? = some (.arr z 14 ws)) (hn : ws.length = n) (hb : b ≤ n) : V.toL h (.win l n a b) = some ((ws.take b).drop a) := by
  show (match h[l]? with
    | some (.arr _ _ es) => if es.length = n ∧ b ≤ n then some ((es.take b).drop a) else none
    | _ => none) = _
  rw [e]
  exact if_pos ⟨hn, hb⟩
theorem zzp_ {h : H} {l n a b i : Nat} {z : Bool} {ws : List V} (e : h[l]? = some (.arr z 14 ws)) (hn : ws.length = n) (hi : a + i < b) (hb : b ≤ n) : iaddrV h 14 (.win l n a b) i = some (.eptr l n (a + i) 0) := by
  rw [zxh_]
  have h1 : arrN h l n = some (z, 14, ws) := by simp [arrN, arrAt, e, zab_, hn]
  rw [h1, zab_, if_pos ⟨hi, hb, rfl⟩]
theorem ztx_ {h : H} {l n i : Nat} {z : Bool} {ws : List V} (e : h[l]? = some (.arr z 14 ws)) (hn : ws.length = n) (hi : i < n) : iaddrV h 14 (.ref l n) i = some (.eptr l n i 0) := by
  have h1 : arrN h l n = some (z, 14, ws) := by simp [arrN, arrAt, e, zab_, hn]
  rw [zxi_, h1, zab_, if_pos ⟨hi, rfl⟩]
theorem zcih_ {h : H} {l : Nat} {o : O} (e : h[l]? = some o) : h.set l o = h := by
  apply List.ext_getElem?
  intro i
  rw [List.getElem?_set]
  split
  · rename_i hi
    subst hi
    have := (List.getElem?_eq_some_iff.1 e).1
    rw [if_pos this, e]
  · rfl
theorem zzq_ {a : SP} : cptA a [] = [] := rfl
theorem zcii_ (es : List SP) (a : SP) (ha : es[1 - 1]? = some a) : cpt es = es.take 1 ++ cptA a (es.drop 1) := by
  cases es with
  | nil => simp at ha
  | cons x r =>
    simp only [Nat.sub_self, List.getElem?_cons_zero, Option.some.injEq] at ha
    subst ha
    rfl
theorem zcij_ {h : H} {l : Nat} {es : List SP} (he : h[l]? = some (.arr false 14 (es.map SP.v))) (hs : ∀ e ∈ es, e.Sm) (hn : es.length ≤ 100000) :
    ∃ r, run XP zko_ [.ref l es.length, .fn zgi_ [] []] h = some r ∧ ((r = (.ref l es.length, h) ∧ cpt es = es) ∨ ∃ o, r = (.lst 14 ((cpt es).map SP.v), h.set l o)) := by
  have hl : l < h.length := (List.getElem?_eq_some_iff.1 he).1
  have hset : ∀ o : O, (h.set l o)[l]? = some o := fun o => List.getElem?_set_self hl
  have hlen : (es.map SP.v).length = es.length := by simp
  have htoL : V.toL h (.ref l es.length) = some (es.map SP.v) := by simp [he]
  by_cases h2 : es.length < 2
  · refine ⟨_, ?_, .inl ⟨rfl, ?_⟩⟩
    · have h2i : (es.length : Int) < 2 := by omega
      rw [run_eq, zto_]
      simp -implicitDefEqProofs [zhv_, htoL, h2i, hl]
    · cases es with
      | nil => rfl
      | cons a r => cases r with
        | nil => rfl
        | cons b r => simp at h2; omega
  · have h2' : ¬ ((es.length : Int) < 2) := by omega
    suffices key : ∃ r, ((r = (.ref l es.length, h) ∧ cpt es = es) ∨ ∃ o, r = (.lst 14 ((cpt es).map SP.v), h.set l o)) ∧ run XP zko_ [.ref l es.length, .fn zgi_ [] []] h = some r by
      obtain ⟨r, h3, h4⟩ := key
      exact ⟨r, h4, h3⟩
    -- which of the two it will be
    obtain ⟨r, hr, hr1, hr2⟩ : ∃ r, ((r = (V.ref l es.length, h) ∧ cpt es = es) ∨ ∃ o, r = (.lst 14 ((cpt es).map SP.v), h.set l o)) ∧ (cpt es = es → r = (.ref l es.length, h)) ∧
        (cpt es ≠ es → r = (.lst 14 ((cpt es).map SP.v), h.set l (.arr true 14 ((cpt es).map SP.v ++ List.replicate (es.length - (cpt es).length) zSP)))) := by
      by_cases hc : cpt es = es
      · exact ⟨_, .inl ⟨rfl, hc⟩, fun _ => rfl, fun h => absurd hc h⟩
      · exact ⟨_, .inr ⟨_, rfl⟩, fun h => absurd h hc, fun _ => rfl⟩
    refine ⟨r, hr, ?_⟩
    rw [run_eq, zto_]
    simp -implicitDefEqProofs [zhv_, htoL, h2']
    refine znw_ (σ := Nat) (fun k => es.length - k) (fun k s h' => Sees s [(0, .ref l es.length), (1, .fn zgi_ [] []), (5, vi k)] ∧ h' = h ∧ 1 ≤ k ∧ k ≤ es.length ∧ ∀ a, es[k - 1]? = some a → cpt es = es.take k ++ cptA a (es.drop k)) ?_ 1 _ _
      ⟨by simp, rfl, Nat.le_refl _, by omega, zcii_ es⟩
    rintro B f hB hf k s h' ⟨⟨h0, h1, h5, -⟩, rfl, hk1, hkn, hinv⟩ K
    obtain ⟨a, ha⟩ : ∃ a, es[k - 1]? = some a := ⟨_, List.getElem?_eq_getElem (by omega)⟩
    have hx := hinv a ha
    have hw : IntKind.i64.wrap ((k : Int) + 1) = (k : Int) + 1 := zan_ (by omega) (by omega)
    by_cases hlt : k < es.length
    · have hlti : (k : Int) < es.length := by omega
      obtain ⟨e, hek⟩ : ∃ e, es[k]? = some e := ⟨_, List.getElem?_eq_getElem hlt⟩
      have hw1 : IntKind.i64.wrap ((k : Int) - 1) = ((k - 1 : Nat) : Int) := by rw [zan_ (by omega) (by omega)]; omega
      have ld1 := zpt_ he rfl hek
      have ld2 := zpt_ he rfl ha
      have hE := zzl_ h' (hs e (List.mem_of_getElem? hek)).len (hs a (List.mem_of_getElem? ha)).len
      have hp1 : k - 1 < es.length := by omega
      have hf1 : frz0 e.v = some e.v := rfl
      have ia1 := ztx_ he hlen hlt
      have ia2 := ztx_ he hlen hp1
      have ar1 : ∀ a : SP, arg0 a.v = some a.v := fun _ => rfl
      rw [zbq_ hek, cptA] at hx
      by_cases hc : cmpS e a = 0
      · rw [if_pos hc] at hx
        have hc' : (cmpS e a == 0) = true := by simpa using hc
        have hsame : h'.set l (.arr false 14 (es.map SP.v)) = h' := zcih_ he
        have hke : k ≤ es.length := by omega
        simp -implicitDefEqProofs [hB, hf, zpk_, h0, h1, h5, htoL, hlt, hw1, ia1, ia2, ld1, ld2, hE, hc', ar1, he, hke]
        refine znw_ (σ := Nat) (fun j => es.length - j) (fun j s h'' => ∃ (ws out : List SP), Sees s [(0, .ref l es.length), (1, .fn zgi_ [] []), (5, vi out.length), (6, .win l es.length k es.length), (7, vi j)] ∧ h'' = h'.set l (.arr false 14 (ws.map SP.v)) ∧
          ws.length = es.length ∧ ws.take out.length = out ∧ out.length + 1 ≤ k + j ∧ (∀ i, k + j ≤ i + 1 → ws[i]? = es[i]?) ∧ (∀ b, es[k + j - 1]? = some b → cpt es = out ++ cptA b (es.drop (k + j))) ∧ 1 ≤ j ∧ k + j ≤ es.length) ?_ 1 _ _
          ⟨es, es.take k, by simp [Nat.min_eq_left hke, h0, h1, h5], hsame.symm, rfl, by simp, by simp; omega, fun _ _ => rfl, fun b hb => ?_, Nat.le_refl _, hlt⟩
        · rintro B2 f2 hB2 hf2 j s2 h2 ⟨ws, out, ⟨z0, z1, z5, z6, z7, -⟩, rfl, hwl, hwo, hol, hwe, hwc, hj1, hjn⟩ K2
          have hH := hset (.arr false 14 (ws.map SP.v))
          have hwl' : (ws.map SP.v).length = es.length := by simp [hwl]
          have htw := zcig_ hH hwl' (a := k) (Nat.le_refl es.length)
          have hlw : (((ws.map SP.v).take es.length).drop k).length = es.length - k := by simp [hwl]
          have hmn : out.length < es.length := by omega
          by_cases hjl : k + j < es.length
          · have hjlt : (j : Int) < ((es.length - k : Nat) : Int) := by omega
            have hw2 : IntKind.i64.wrap ((j : Int) - 1) = ((j - 1 : Nat) : Int) := by rw [zan_ (by omega) (by omega)]; omega
            have hw3 : IntKind.i64.wrap ((j : Int) + 1) = (j : Int) + 1 := zan_ (by omega) (by omega)
            have hw4 : IntKind.i64.wrap ((out.length : Int) + 1) = (out.length : Int) + 1 := zan_ (by omega) (by omega)
            obtain ⟨e1, he1⟩ : ∃ e1, es[k + j]? = some e1 := ⟨_, List.getElem?_eq_getElem hjl⟩
            obtain ⟨e0, he0⟩ : ∃ e0, es[k + j - 1]? = some e0 := ⟨_, List.getElem?_eq_getElem (by omega)⟩
            have hj0 : k + (j - 1) = k + j - 1 := by omega
            have w1 : ws[k + j]? = some e1 := by rw [hwe _ (by omega), he1]
            have w0 : ws[k + (j - 1)]? = some e0 := by rw [hj0, hwe _ (by omega), he0]
            have ib1 := zzp_ hH hwl' hjl (Nat.le_refl _)
            have ib0 := zzp_ hH hwl' (a := k) (i := j - 1) (b := es.length) (by omega) (Nat.le_refl _)
            have ib2 := ztx_ hH hwl' hmn
            have lb1 := zpt_ hH hwl w1
            have lb0 := zpt_ hH hwl w0
            have hE2 := zzl_ (h'.set l (.arr false 14 (ws.map SP.v))) (hs e1 (List.mem_of_getElem? he1)).len (hs e0 (List.mem_of_getElem? he0)).len
            have hcc := hwc e0 he0
            rw [zbq_ he1, cptA] at hcc
            by_cases hd : cmpS e1 e0 = 0
            · rw [if_pos hd] at hcc
              have hd' : (cmpS e1 e0 == 0) = true := by simpa using hd
              simp -implicitDefEqProofs [hB2, zpj_, z0, z1, z5, z6, z7, htw, hlw, hjlt, hw2, ib1, ib0, lb1, lb0, hE2, hd', ar1]
              refine K2 (j + 1) _ _ (by omega) ⟨ws, out, ?_, rfl, hwl, hwo, by omega, fun i hi => hwe i (by omega), fun b hb => ?_, by omega, by omega⟩
              · simp [z0, z1, z5, z6, hw3]
              · rw [show k + (j + 1) - 1 = k + j by omega, he1] at hb
                injection hb with hb
                subst hb
                exact hcc
            · rw [if_neg hd] at hcc
              have hd' : (cmpS e1 e0 == 0) = false := by simpa using hd
              have sb := zcif_ (base := h'.length) hH hwl hmn e1
              simp -implicitDefEqProofs [hB2, zpj_, z0, z1, z5, z6, z7, htw, hlw, hjlt, hw2, ib1, ib0, ib2, lb1, lb0, hE2, hd', ar1, sb]
              refine K2 (j + 1) _ _ (by omega) ⟨ws.set out.length e1, out ++ [e1], ?_, by rw [List.map_set], by simp [hwl], ?_, by simp; omega, fun i hi => ?_, fun b hb => ?_, by omega, by omega⟩
              · simp [z0, z1, z6, hw3, hw4]
              · rw [List.length_append, List.length_singleton, List.take_add_one, List.take_set, List.set_eq_of_length_le (by simp; omega), hwo, List.getElem?_set_self (by omega)]
                rfl
              · rw [List.getElem?_set_ne (by omega)]
                exact hwe i (by omega)
              · rw [show k + (j + 1) - 1 = k + j by omega, he1] at hb
                injection hb with hb
                subst hb
                rw [hcc]
                simp
                rfl
          · have hjn' : k + j = es.length := by omega
            have hjlt : ¬ ((j : Int) < ((es.length - k : Nat) : Int)) := by omega
            obtain ⟨e0, he0⟩ : ∃ e0, es[k + j - 1]? = some e0 := ⟨_, List.getElem?_eq_getElem (by omega)⟩
            have hcc := hwc e0 he0
            rw [hjn', List.drop_of_length_le (Nat.le_refl _), zzq_, List.append_nil] at hcc
            subst hcc
            have hrr := hr2 (fun h => by rw [h] at hmn; omega)
            subst hrr
            have hmle : (cpt es).length ≤ es.length := by omega
            simp -implicitDefEqProofs [hB2, hf2, zpj_, z0, z1, z5, z6, z7, htw, hlw, hjlt, hH, hwl, hmle, hset]
            have htk : (ws.map SP.v).take (cpt es).length = (cpt es).map SP.v := by rw [← List.map_take, hwo]
            rw [htk]
            refine ⟨?_, ?_⟩
            · have h1 := zcib_ ((cpt es).map SP.v) (List.replicate (es.length - (cpt es).length) zSP)
              rw [zcj_, zcic_, Bool.and_self] at h1
              exact h1
            · rw [hf]
              simp -implicitDefEqProofs [zSP]
        · rw [Nat.add_sub_cancel, hek] at hb
          injection hb with hb
          subst hb
          exact hx
      · rw [if_neg hc] at hx
        have hc' : (cmpS e a == 0) = false := by simpa using hc
        simp -implicitDefEqProofs [hB, zpk_, h0, h1, h5, htoL, hlt, hw1, ia1, ia2, ld1, ld2, hE, hc', ar1]
        refine K (k + 1) _ _ (by omega) ⟨?_, rfl, by omega, hlt, fun b hb => ?_⟩
        · simp [h0, h1, hw]
        · rw [Nat.add_sub_cancel, hek] at hb
          injection hb with hb
          subst hb
          rw [hx, zchp_ hek]
          simp
    · obtain rfl : k = es.length := by omega
      rw [List.drop_of_length_le (Nat.le_refl _), zzq_, List.append_nil, List.take_length] at hx
      have := hr1 hx
      subst this
      simp -implicitDefEqProofs [hB, hf, zpk_, h0, h1, h5, htoL, hl]
end Go.Proofs.Sl
namespace Go.Proofs.Sl
theorem zty_ {n : Nat} {c : Nat → Nat → Int} (hO : Go.Sort.SWO (cmpLt n c)) : (zbj_ n c).Perm (List.range n) ∧ (zbj_ n c).Pairwise fun a b => ¬ c b a < 0 := by
  unfold zbj_
  by_cases h0 : n = 0
  · subst h0; simp
  · rw [if_neg h0]
    have hd : (Array.range n).size = n := by simp
    have hps := Go.Sort.pdq_sorts (cmpLt n c) hO (Array.range n) 0 n (zia_ n) true true (Nat.zero_le _) (by rw [hd]; exact Nat.le_refl _) (Or.inl rfl)
    generalize Go.Sort.pdq (cmpLt n c) (Array.range n) 0 n (zia_ n) true true = dd at hps
    obtain ⟨⟨hs1, _, hp⟩, hs2⟩ := hps
    rw [hd] at hs1
    have e1 : (dd.extract 0 n).toList = dd.toList := by
      rw [Array.toList_extract, List.extract_eq_take_drop, List.drop_zero, Nat.sub_zero, List.take_of_length_le (by rw [Array.length_toList, hs1]; exact Nat.le_refl _)]
    have e2 : ((Array.range n).extract 0 n).toList = List.range n := by
      rw [Array.toList_extract, List.extract_eq_take_drop]
      simp
    rw [e1, e2] at hp
    refine ⟨hp, ?_⟩
    have hmem : ∀ i, i < n → dd[i]! < n := fun i hi => by
      have : dd[i]! ∈ dd.toList := by
        rw [getElem!_pos dd i (by omega)]
        exact Array.mem_toList_iff.2 (Array.getElem_mem _)
      exact List.mem_range.1 (hp.mem_iff.1 this)
    rw [List.pairwise_iff_getElem]
    intro i j hi hj hij
    rw [Array.length_toList] at hi hj
    have := hs2 i j (Nat.zero_le _) hij (by omega)
    have h1 := hmem i (by omega)
    have h2 := hmem j (by omega)
    simp only [cmpLt, decide_eq_false_iff_not] at this
    rw [show clampI n dd[j]! = dd[j]! by simp [clampI, h2], show clampI n dd[i]! = dd[i]! by simp [clampI, h1], getElem!_pos dd i (by omega), getElem!_pos dd j (by omega)] at this
    simpa using this
def cI (l : List SP) (i j : Nat) : Int := cmpS (l.getD i SP.z) (l.getD j SP.z)
def srt (l : List SP) : List SP := (zbj_ l.length (cI l)).map fun i => l.getD i SP.z
theorem cI_swo (l : List SP) : Go.Sort.SWO (cmpLt l.length (cI l)) where
  irrefl := fun x => by simp [cmpLt, cI, zeh_.self]
  trans := fun x y z h k => by
    simp only [cmpLt, decide_eq_true_eq] at h k ⊢
    simp only [cI] at h k ⊢
    exact zeh_.lt_of_lt_le h (by omega)
  ntrans := fun x y z h k => by
    simp only [cmpLt, decide_eq_false_iff_not] at h k ⊢
    simp only [cI] at h k ⊢
    generalize l.getD (clampI l.length x) SP.z = a at *
    generalize l.getD (clampI l.length y) SP.z = b at *
    generalize l.getD (clampI l.length z) SP.z = c at *
    have h1 := zeh_.anti a b
    have h2 := zeh_.anti b c
    have h3 := zeh_.anti a c
    have := zeh_.trans c b a (by omega) (by omega)
    omega
theorem zcik_ (l : List SP) : (List.range l.length).map (fun i => l.getD i SP.z) = l := by
  apply List.ext_getElem
  · simp
  · intro i h1 h2
    simp at h1
    simp [h1]
theorem ztz_ (l : List SP) : (srt l).Perm l := by
  have := ((zty_ (cI_swo l)).1).map fun i => l.getD i SP.z
  rw [zcik_] at this
  exact this
theorem zcil_ (l : List SP) : (srt l).Pairwise fun a b => cmpS a b ≤ 0 := by
  have := (zty_ (cI_swo l)).2
  rw [srt, List.pairwise_map]
  refine this.imp fun {a b} h => ?_
  simp only [cI] at h
  have := zeh_.anti (l.getD a SP.z) (l.getD b SP.z)
  omega
theorem zpu_ (l : List SP) : (srt l).length = l.length := (ztz_ l).length_eq
theorem zzr_ {l : List SP} {a : SP} : a ∈ srt l ↔ a ∈ l := (ztz_ l).mem_iff
theorem zcim_ (l : List SP) : pickEs (l.map SP.v) (zbj_ l.length (cI l)) = (srt l).map SP.v := by
  unfold pickEs srt
  rw [List.map_map]
  apply List.map_congr_left
  intro i hi
  have : i < l.length := List.mem_range.1 ((zty_ (cI_swo l)).1.mem_iff.1 hi)
  simp [this]
theorem zua_ {f : Nat} {F : XF} {k : NK} (e : XP f = some F) (hk : F.nat = some k) (args : List V) (h : H) : run XP f args h = xnat (run XP) args h k := by
  rw [run_eq, e, zab_]
  unfold xfun
  rw [hk]
theorem zub_ : ∀ l : List SP, allAgg (l.map SP.v) = true
  | [] => rfl
  | a :: l => zub_ l
theorem zcin_ (h : H) (f : V) : run XP zor_ [vnil, f] h = some (.tup [], h) := by
  rw [zua_ zyq_ rfl]
  rfl
theorem zcio_ {h : H} {l : Nat} {es : List SP} (he : h[l]? = some (.arr false 14 (es.map SP.v))) (hs : ∀ e ∈ es, e.Sm) (hn : es.length ≤ 100000) :
    run XP zor_ [.ref l es.length, .fn zhl_ [] []] h = some (.tup [], h.set l (.arr false 14 ((srt es).map SP.v))) := by
  rw [zua_ zyq_ rfl]
  simp only [xnat]
  rw [zgx_]
  refine ⟨es.map SP.v, cI es, he, by simp, by omega, zcj_ es, rfl, rfl, ⟨rfl, zub_ es⟩, ⟨?_, by simpa using cI_swo es⟩, by rw [zcim_]⟩
  intro i j x y hx hy
  rw [List.getElem?_map] at hx hy
  obtain ⟨a, ha, rfl⟩ : ∃ a, es[i]? = some a ∧ a.v = x := by simpa using hx
  obtain ⟨b, hb, rfl⟩ : ∃ a, es[j]? = some a ∧ a.v = y := by simpa using hy
  have := zzj_ [] (hs a (List.mem_of_getElem? ha)).len (hs b (List.mem_of_getElem? hb)).len
  simp only [List.nil_append, List.append_nil]
  rw [this]
  simp [cI, ha, hb]
def LV (v : V) (es : List SP) : Prop := (es = [] ∧ v = vnil) ∨ v = .lst 14 (es.map SP.v)
theorem zcip_ {h : H} {v : V} {es : List SP} (hv : LV v es) (hn : es.length ≤ 100000) : run XP ztb_ [vnil, .fn zcw_ [] [.fptr (.agg [v]) 0]] h = some (if es = [] then vnil else .own 14 (es.map SP.v), h) := by
  rw [zua_ zbwo_ rfl]
  simp only [xnat]
  rcases hv with ⟨rfl, rfl⟩ | rfl
  · rfl
  · show (if _ then _ else _) = _
    rw [if_pos ⟨rfl, rfl, by simp; omega, zzo_ es, zcj_ es, zub_ es⟩]
    cases es with
    | nil => rfl
    | cons a r => rfl
theorem zciq_ {h : H} {v : V} {es : List SP} (hv : LV v es) (hn : es.length ≤ 100000) : run XP zta_ [.fn zcw_ [] [.fptr (.agg [v]) 0]] h = some (if es = [] then vnil else .own 14 (es.map SP.v), h) := by
  have h1 := fun h => zcip_ (h := h) hv hn
  have h2 := zcj_ es
  rw [run_eq, zbwn_]
  by_cases he : es = []
  · simp -implicitDefEqProofs [zjp_, h1, he]
  · simp -implicitDefEqProofs [zjp_, h1, he, h2]
theorem zcir_ {h : H} {v : V} {es : List SP} (hv : LV v es) (hs : ∀ e ∈ es, e.Sm) (hn : es.length ≤ 100000) :
    run XP zsx_ [.fn zcw_ [] [.fptr (.agg [v]) 0], .fn zhl_ [] []] h = some (if es = [] then vnil else .own 14 ((srt es).map SP.v), h) := by
  have h1 := fun h => zciq_ (h := h) hv hn
  have h2 := zcj_ (srt es)
  have h4 := zpu_ es
  rw [run_eq, zbwk_]
  by_cases he : es = []
  · have h3 := fun h => zcin_ h (.fn zhl_ [] [])
    simp -implicitDefEqProofs [zjl_, h1, he, h3]
  · have h3 := zcio_ (h := h ++ [.arr false 14 (es.map SP.v)]) (l := h.length) (by simp) hs hn
    simp -implicitDefEqProofs [zjl_, h1, he, h2, h3, h4]
end Go.Proofs.Sl
namespace Go.Proofs.Sl
def nl (es : List SP) : V := if es = [] then vnil else .lst 14 (es.map SP.v)
theorem nl_LV (es : List SP) : LV (nl es) es := by
  unfold nl
  split
  · rename_i h; exact .inl ⟨h, rfl⟩
  · exact .inr rfl
theorem LV.rd {v : V} {es : List SP} (l : LV v es) (h : H) : Rd h 14 v (es.map SP.v) := by
  rcases l with ⟨rfl, rfl⟩ | rfl
  · exact .nil
  · exact .lst _
theorem zcis_ {es : List SP} : cpt es = [] ↔ es = [] := by cases es <;> simp [cpt]
theorem zuc_ : ∀ (r : List SP) (a : SP), (cptA a r).Sublist r
  | [], a => List.Sublist.slnil
  | b :: r, a => by
    rw [cptA]
    split
    · exact (zuc_ r b).cons b
    · exact (zuc_ r b).cons_cons b
theorem zzs_ : ∀ es : List SP, (cpt es).Sublist es
  | [] => List.Sublist.slnil
  | a :: r => (zuc_ r a).cons_cons a
def dst (es : List SP) : List SP := cpt (srt es)
theorem zcit_ {es : List SP} : dst es = [] ↔ es = [] := by
  unfold dst
  rw [zcis_]
  constructor
  · intro h
    have := zpu_ es
    rw [h] at this
    exact List.eq_nil_of_length_eq_zero this.symm
  · rintro rfl
    rfl
theorem zzt_ {es : List SP} {a : SP} (h : a ∈ dst es) : a ∈ es := zzr_.1 ((zzs_ _).subset h)
theorem zzu_ (es : List SP) : (dst es).length ≤ es.length := by
  have := (zzs_ (srt es)).length_le
  rw [zpu_] at this
  exact this
theorem zzv_ {h : H} {v : V} {es : List SP} (hv : LV v es) : run XP zgk_ [v] h = some (.fn zcw_ [] [.fptr (.agg [v]) 0], h) := by
  rw [run_eq, zyp_]
  rcases hv with ⟨rfl, rfl⟩ | rfl <;> simp -implicitDefEqProofs [zjm_, V.closed]
theorem zciu_ {h : H} {l : Nat} {z : Bool} {es : List SP} (he : h[l]? = some (.arr z 14 (es.map SP.v))) :
    run XP zgk_ [.ref l es.length] h = some (.fn zcw_ [] [.fptr (.agg [.lst 14 (es.map SP.v)]) 0], h.set l (.arr true 14 (es.map SP.v))) := by
  have h1 := zcj_ es
  rw [run_eq, zyp_]
  have hl : (h.set l (O.arr true 14 (es.map SP.v))).length = h.length := by simp
  simp -implicitDefEqProofs [zjm_, V.closed, he, h1]
theorem zciv_ (h : H) : run XP zko_ [vnil, .fn zgi_ [] []] h = some (vnil, h) := by
  rw [run_eq, zto_]
  simp -implicitDefEqProofs [zhv_]
theorem zzw_ {h h2 : H} {v v2 : V} {es : List SP} (hv : LV v2 es) (h1 : arg0 v = some v) (hval : run XP zgk_ [v] h = some (.fn zcw_ [] [.fptr (.agg [v2]) 0], h2)) (hl2 : h2.length = h.length) (hs : ∀ e ∈ es, e.Sm) (hn : es.length ≤ 100000) :
    ∃ R, run XP zol_ [v] h = some (R, h2) ∧ res0 R = nl (dst es) := by
  have hS := fun h => zcir_ (h := h) hv hs hn
  have htk : h2.take h.length = h2 := List.take_of_length_le (by omega)
  by_cases he : es = []
  · subst he
    refine ⟨vnil, ?_, by rw [show dst [] = [] from rfl]; rfl⟩
    have hC := zciv_
    rw [run_eq, ztn_]
    simp -implicitDefEqProofs [zhq_, h1, hval, hS, hC, htk]
  · have hlen := zpu_ es
    obtain ⟨r, hr, hc⟩ := zcij_ (h := h2 ++ [.arr false 14 ((srt es).map SP.v)]) (l := h2.length) (es := srt es) (by simp) (fun e he => hs e (zzr_.1 he)) (by omega)
    rw [hlen] at hr hc
    have hd : dst es ≠ [] := fun h => he (zcit_.1 h)
    have hcl := zcj_ (srt es)
    have hnl : ¬ h2.length < h.length := by omega
    have htk3 : (h2 ++ [O.arr false 14 ((srt es).map SP.v)]).take h.length = h2 := by rw [← hl2]; simp
    rcases hc with ⟨rfl, hcc⟩ | ⟨o, rfl⟩
    · refine ⟨.own 14 ((srt es).map SP.v), ?_, by rw [nl, if_neg hd]; show V.lst 14 _ = V.lst 14 ((cpt (srt es)).map SP.v); rw [hcc]⟩
      rw [run_eq, ztn_]
      simp -implicitDefEqProofs [zhq_, h1, hval, hS, he, hr, htk, htk3, hcl, hlen, hnl]
    · refine ⟨.lst 14 ((dst es).map SP.v), ?_, by rw [nl, if_neg hd]; rfl⟩
      rw [run_eq, ztn_]
      have htk2 : (h2 ++ [o]).take h.length = h2 := by rw [← hl2]; simp
      simp -implicitDefEqProofs [zhq_, h1, hval, hS, he, hr, htk2, hcl, hlen, dst]
theorem zciw_ (es : List SP) : ∀ k, selA (fun _ => true) k es = es := by
  induction es with
  | nil => exact fun _ => rfl
  | cons a r ih => intro k; rw [selA, if_pos rfl, ih]
theorem zcix_ (h : H) (k : Nat) : run XP zom_ [vi k] h = some (vb true, h) := by
  rw [run_eq, zbwa_]
  simp -implicitDefEqProofs [ztm_]
theorem nl_res (es : List SP) : res0 (if es = [] then vnil else V.own 14 (es.map SP.v)) = nl es := by
  unfold nl
  split <;> rfl
def ow (es : List SP) : V := if es = [] then vnil else .own 14 (es.map SP.v)
theorem zzx_ (es : List SP) : res0 (ow es) = nl es := nl_res es
theorem zjs_ (es : List SP) : arg0 (nl es) = some (nl es) := by unfold nl; split <;> rfl
theorem nl_ret (b : Nat) (h : H) (es : List SP) (t : List O) : retV b h .v (nl es) t = some (nl es, t) := by unfold nl; split <;> simp
theorem zpv_ (l o : Nat) (es : List SP) : rdCell l o (nl es) = nl es := by unfold nl; split <;> rfl
theorem zciy_ (es : List SP) : (nl es).cells = [nl es] := by unfold nl; split <;> rfl
theorem zciz_ (base l : Nat) (h : H) (es : List SP) : stNew base l (nl es) h = some (nl es, h) := by
  unfold nl
  split <;> exact if_pos (.inr (Nat.zero_le _))
theorem zcja_ {h h2 : H} {v v2 : V} {es : List SP} (hv : LV v2 es) (h1 : arg0 v = some v) (hval : run XP zgk_ [v] h = some (.fn zcw_ [] [.fptr (.agg [v2]) 0], h2)) (hl2 : h2.length = h.length) (hs : ∀ e ∈ es, e.Sm) (hn : es.length ≤ 100000) :
    run XP zsk_ [v] h = some (ow (dst es), h2) := by
  obtain ⟨R, hR, hR0⟩ := zzw_ hv h1 hval hl2 hs hn
  have htk : h2.take h.length = h2 := List.take_of_length_le (by omega)
  have hC := ztv_ (h := h2) (v := nl (dst es)) (es := dst es) (fun t => (nl_LV _).rd _) (fun e he => hs e (zzt_ he)) (by have := zzu_ es; omega) (f := zom_) (b := []) rfl (p := fun _ => true) (fun k t _ => zcix_ _ k)
  rw [zciw_] at hC
  have hcl := zcj_ (dst es)
  have hnl : ¬ h2.length < h.length := by omega
  have htk3 : ∀ o : O, (h2 ++ [o]).take h.length = h2 := fun o => by rw [← hl2]; simp
  rw [run_eq, zbvd_, ow]
  by_cases hd : dst es = []
  · rw [if_pos hd] at hC ⊢
    simp -implicitDefEqProofs [zpn_, h1, hR, hR0, zjs_, hC, htk]
  · rw [if_neg hd] at hC ⊢
    simp -implicitDefEqProofs [zpn_, h1, hR, hR0, zjs_, hC, hcl, hnl, htk3]
def winL : List SP → List SP
  | [] => []
  | [a] => [a]
  | a :: b :: r => if a.tr = b.tr ∧ a.id = b.id then winL (b :: r) else a :: winL (b :: r)
def pW (D : List SP) (k : Nat) : Bool := k + 1 == D.length || !((D.getD (k + 1) SP.z).tr == (D.getD k SP.z).tr && (D.getD (k + 1) SP.z).id == (D.getD k SP.z).id)
theorem zzy_ (D : List SP) : ∀ (r : List SP) (k : Nat), D.drop k = r → selA (pW D) k r = winL r
  | [], k, _ => rfl
  | [a], k, h => by
    have hk : k + 1 = D.length := by
      have := congrArg List.length h
      rw [List.length_drop] at this
      simp at this
      omega
    simp [selA, pW, hk, winL]
  | a :: b :: r, k, h => by
    have h1 : D.drop (k + 1) = b :: r := by rw [← List.tail_drop, h]; rfl
    have e1 : D.getD k SP.z = a := by
      have := congrArg (fun l => l[0]?) h
      simp at this
      simp [this]
    have e2 : D.getD (k + 1) SP.z = b := by
      have := congrArg (fun l => l[0]?) h1
      simp at this
      simp [this]
    have hk : ¬ k + 1 = D.length := by
      intro hk
      rw [List.drop_of_length_le (by omega)] at h1
      cases h1
    rw [selA, zzy_ D (b :: r) (k + 1) h1, winL]
    have hp : pW D k = !(b.tr == a.tr && b.id == a.id) := by simp only [pW, e1, e2]; simp [hk]
    rw [hp]
    by_cases hc : a.tr = b.tr ∧ a.id = b.id
    · rw [if_pos hc, if_neg (by simp [hc.1, hc.2])]
    · rw [if_neg hc, if_pos]
      simp only [Bool.not_eq_true', Bool.and_eq_false_iff, beq_eq_false_iff_ne]
      by_cases h1 : a.tr = b.tr
      · exact .inr fun h2 => hc ⟨h1, h2.symm⟩
      · exact .inl fun h2 => h1 h2.symm
theorem nl_at {D : List SP} {k : Nat} {a : SP} (ha : D[k]? = some a) (h : H) : iaddrV h 14 (nl D) k = some (.fptr a.v 0) := by
  have : D ≠ [] := by rintro rfl; simp at ha
  rw [nl, if_neg this]
  have h2 : (D.map SP.v)[k]? = some a.v := by rw [List.getElem?_map, ha]; rfl
  rw [zrs_, if_pos rfl, h2, zab_]
theorem zcjb_ {h : H} {l : Nat} {z : Bool} {D : List SP} (hl : h[l]? = some (.box z [nl D])) {k : Nat} (hk : k < D.length) (hn : D.length ≤ 100000) : run XP zon_ [vi k, .ptr l 0] h = some (vb (pW D k), h) := by
  have hw : IntKind.i64.wrap ((k : Int) + 1) = (k : Int) + 1 := zan_ (by omega) (by omega)
  have hL := ((nl_LV D).rd h).toL
  have h0k : (0 : Int) ≤ (k : Int) + 1 := by omega
  obtain ⟨a, ha⟩ : ∃ a, D[k]? = some a := ⟨_, List.getElem?_eq_getElem hk⟩
  have i1 := nl_at ha h
  have d1 : D.getD k SP.z = a := by simp [ha]
  rw [run_eq, zbwb_]
  by_cases hk1 : k + 1 = D.length
  · have hb : ((k : Int) + 1 == (D.length : Int)) = true := by rw [← hk1]; simp
    have hp : pW D k = true := by simp [pW, hk1]
    simp -implicitDefEqProofs [zjc_, hl, zpv_, hw, hL, hb, hp, zcq_, optEq]
  · have hb : ((k : Int) + 1 == (D.length : Int)) = false := by simp; omega
    obtain ⟨b, hb2⟩ : ∃ b, D[k + 1]? = some b := ⟨_, List.getElem?_eq_getElem (by omega)⟩
    have i2 := nl_at hb2 h
    have d2 : D.getD (k + 1) SP.z = b := by simp [hb2]
    have r1 := fun h => zzk_ h a
    have r2 := fun h => zzk_ h b
    have hp : pW D k = !(b.tr == a.tr && b.id == a.id) := by simp only [pW, d1, d2]; simp [hk1]
    simp only [SP.v, RF.v] at r1 r2 i1 i2
    rw [hp]
    simp -implicitDefEqProofs [zjc_, hl, zpv_, hw, hL, hb, zcq_, optEq, i1, i2, r1, r2, h0k]
def wns (es : List SP) : List SP := winL (dst es)
theorem zcjc_ {h h2 : H} {v v2 : V} {es : List SP} (hv : LV v2 es) (h1 : arg0 v = some v) (hval : run XP zgk_ [v] h = some (.fn zcw_ [] [.fptr (.agg [v2]) 0], h2)) (hl2 : h2.length = h.length) (hs : ∀ e ∈ es, e.Sm) (hn : es.length ≤ 100000) :
    run XP zoi_ [v] h = some (nl (wns es), h2) := by
  obtain ⟨R, hR, hR0⟩ := zzw_ hv h1 hval hl2 hs hn
  have htk : h2.take h.length = h2 := List.take_of_length_le (by omega)
  have hdl := zzu_ es
  have hC := ztv_ (h := h2 ++ [.box false [nl (dst es)]]) (v := nl (dst es)) (es := dst es) (fun t => (nl_LV _).rd _) (fun e he => hs e (zzt_ he)) (by omega) (f := zon_) (b := [.ptr h2.length 0]) rfl (p := pW (dst es))
    (fun k t hk => zcjb_ (z := false) (by rw [List.append_assoc, ziq_]; rfl) hk (by omega))
  rw [zzy_ (dst es) (dst es) 0 rfl] at hC
  have hh : h2.length = h.length := hl2
  rw [run_eq, zbve_]
  have htk2 : ∀ x : O, (h2 ++ [x]).take h.length = h2 := fun x => by rw [← hl2]; simp
  simp -implicitDefEqProofs [zlb_, h1, hR, hR0, zjs_, zciy_, zciz_, zpv_, hC, nl_res, nl_ret, htk2, wns]
end Go.Proofs.Sl
namespace Go.Proofs.Sl
def wthn (lo hi : Int) : List UInt8 → Bool
  | [] => true
  | b :: l => if (b.toNat : Int) < lo ∨ hi < (b.toNat : Int) then false else wthn lo hi l
theorem zcjd_ {s : ByteArray} {k : Nat} {c : UInt8} (h : (bts s)[k]? = some c) : s.data[k]? = some c := by simpa [bts] using h
theorem zzz_ (h : H) (s : ByteArray) (lo hi : Int) (hs : s.size ≤ 9223372036854775807) : run XP zok_ [vs s, vk .u8 lo, vk .u8 hi] h = some (vb (wthn lo hi (bts s)), h) := by
  have hlen := zchi_ s
  rw [run_eq, zbvv_]
  simp -implicitDefEqProofs [zmf_]
  refine zbo_ (bts s) (fun k s' h' => Sees s' [(0, vs s), (1, vk .u8 lo), (2, vk .u8 hi), (9, vi s.size), (10, vi k)] ∧ h' = h ∧ wthn lo hi (bts s) = wthn lo hi ((bts s).drop k)) ?_ ?_ _ _ ⟨by simp, rfl, rfl⟩
  · rintro B f hB hf k c s' h' he hk ⟨⟨h0, h1, h2, h9, h10, -⟩, rfl, hx⟩ K
    have hlt : (k : Int) < s.size := by omega
    have hw : IntKind.i64.wrap ((k : Int) + 1) = (k : Int) + 1 := zan_ (by omega) (by omega)
    have hd := zcjd_ he
    rw [zbq_ he, wthn] at hx
    by_cases c1 : (c.toNat : Int) < lo
    · rw [if_pos (.inl c1)] at hx
      simp -implicitDefEqProofs [hB, hf, zme_, h0, h1, h2, h9, h10, hlt, hd, c1, hx]
    · by_cases c2 : hi < (c.toNat : Int)
      · rw [if_pos (.inr c2)] at hx
        simp -implicitDefEqProofs [hB, hf, zme_, h0, h1, h2, h9, h10, hlt, hd, c1, c2, hx]
      · rw [if_neg (by omega)] at hx
        simp -implicitDefEqProofs [hB, zme_, h0, h1, h2, h9, h10, hlt, hd, c1, c2]
        refine K _ _ ⟨?_, rfl, hx⟩
        simp [h0, h1, h2, h9, hw]
  · rintro B hB s' h' ⟨⟨h0, h1, h2, h9, h10, -⟩, rfl, hx⟩
    rw [hlen] at h10
    rw [hlen, List.drop_of_length_le (by omega), wthn] at hx
    simp -implicitDefEqProofs [hB, zme_, h0, h1, h2, h9, h10, hx]
def eS : ByteArray := ⟨#[]⟩
def isNm (s : ByteArray) : Bool := !(decide (s = eS)) && (decide (s.size ≤ 64) && wthn 33 126 (bts s))
theorem isE (s : ByteArray) : s.toList.isEmpty = decide (s = eS) := by
  have := bl_eq (a := s) (b := eS)
  rw [← this]
  have h : eS.toList = [] := by rw [ByteArray.toList_eq]; rfl
  rw [h]
  cases s.toList <;> rfl
theorem zbd_ (h : H) (s : ByteArray) (hs : s.size ≤ 9223372036854775807) : run XP zec_ [vs s] h = some (vb (isNm s), h) := by
  have h1 := fun h => zzz_ h s 33 126 hs
  have h2 := isE s
  rw [run_eq, zbvg_]
  unfold isNm
  by_cases c1 : s = eS
  · have h3 : s.toList.isEmpty = true := by rw [h2]; simp [c1]
    rw [show decide (s = eS) = true by simp [c1]]
    simp only [Bool.not_true, Bool.false_and]
    simp -implicitDefEqProofs [zhs_, h3]
  · have h3 : s.toList.isEmpty = false := by rw [h2]; simp [c1]
    rw [show decide (s = eS) = false by simp [c1]]
    simp only [Bool.not_false, Bool.true_and]
    by_cases c2 : s.size ≤ 64
    · have c2' : (s.size : Int) ≤ 64 := by omega
      simp -implicitDefEqProofs [zhs_, h3, c2, c2', h1]
    · have c2' : ¬ (s.size : Int) ≤ 64 := by omega
      simp -implicitDefEqProofs [zhs_, h3, c2, c2']
def fin5 (sz : Nat) (ok : Bool) : Int := if 4096 < sz then 5 else if ok = true then 0 else 3
def okV (k : Int) (t : ByteArray) (n : Int) : Bool := if k = 1 then wthn 32 126 (bts t) && decide (n = 0) else if k = 2 then decide (t = eS) && (decide (-1099511627776 ≤ n) && decide (n ≤ 1099511627776)) else decide (t = eS) && (decide (n = 0) || decide (n = 1))
def chkV (v : AV) : Int := if v.k = 1 ∨ v.k = 2 ∨ v.k = 3 then fin5 v.t.size (okV v.k v.t v.n) else 12
theorem zdz_ (h : H) (v : AV) (hs : v.t.size ≤ 9223372036854775807) : run XP zoe_ [v.v] h = some (vi (chkV v), h) := by
  obtain ⟨k, t, n⟩ := v
  simp only at hs
  have h1 := fun h => zzz_ h t 32 126 hs
  rw [run_eq, zbuu_]
  by_cases hl : 4096 < t.size
  · have hl' : (4096 : Int) < t.size := by omega
    by_cases k1 : k = 1
    · cases hw : wthn 32 126 (bts t)
      · simp -implicitDefEqProofs [zaw_, AV.v, h1, chkV, fin5, okV, hl, hl', k1, hw]
      · by_cases n0 : n = 0
        · simp -implicitDefEqProofs [zaw_, AV.v, h1, chkV, fin5, okV, hl, hl', k1, hw, n0]
        · have n0' : (n == 0) = false := by simpa using n0
          simp -implicitDefEqProofs [zaw_, AV.v, h1, chkV, fin5, okV, hl, hl', k1, hw, n0, n0']
    · have k1' : (k == 1) = false := by simpa using k1
      by_cases k2 : k = 2
      · by_cases te : t = eS
        · have te' : t.toList.isEmpty = true := by rw [isE]; simp [te]
          have teP : t = eS ↔ True := iff_true_intro te
          by_cases n1 : -1099511627776 ≤ n
          · by_cases n2 : n ≤ 1099511627776
            · simp -implicitDefEqProofs [zaw_, AV.v, h1, chkV, fin5, okV, hl, hl', k1, k1', k2, te', teP, n1, n2]
            · simp -implicitDefEqProofs [zaw_, AV.v, h1, chkV, fin5, okV, hl, hl', k1, k1', k2, te', teP, n1, n2]
          · simp -implicitDefEqProofs [zaw_, AV.v, h1, chkV, fin5, okV, hl, hl', k1, k1', k2, te', teP, n1]
        · have te' : t.toList.isEmpty = false := by rw [isE]; simp [te]
          have teP : t = eS ↔ False := iff_false_intro te
          simp -implicitDefEqProofs [zaw_, AV.v, h1, chkV, fin5, okV, hl, hl', k1, k1', k2, te', teP]
      · have k2' : (k == 2) = false := by simpa using k2
        by_cases k3 : k = 3
        · by_cases te : t = eS
          · have te' : t.toList.isEmpty = true := by rw [isE]; simp [te]
            have teP : t = eS ↔ True := iff_true_intro te
            by_cases n0 : n = 0
            · simp -implicitDefEqProofs [zaw_, AV.v, h1, chkV, fin5, okV, hl, hl', k1, k1', k2, k2', k3, te', teP, n0]
            · have n0' : (n == 0) = false := by simpa using n0
              by_cases n1 : n = 1
              · simp -implicitDefEqProofs [zaw_, AV.v, h1, chkV, fin5, okV, hl, hl', k1, k1', k2, k2', k3, te', teP, n0, n0', n1]
              · have n1' : (n == 1) = false := by simpa using n1
                simp -implicitDefEqProofs [zaw_, AV.v, h1, chkV, fin5, okV, hl, hl', k1, k1', k2, k2', k3, te', teP, n0, n0', n1, n1']
          · have te' : t.toList.isEmpty = false := by rw [isE]; simp [te]
            have teP : t = eS ↔ False := iff_false_intro te
            simp -implicitDefEqProofs [zaw_, AV.v, h1, chkV, fin5, okV, hl, hl', k1, k1', k2, k2', k3, te', teP]
        · have k3' : (k == 3) = false := by simpa using k3
          simp -implicitDefEqProofs [zaw_, AV.v, h1, chkV, fin5, okV, hl, hl', k1, k1', k2, k2', k3, k3']
  · have hl' : ¬ ((4096 : Int) < t.size) := by omega
    by_cases k1 : k = 1
    · cases hw : wthn 32 126 (bts t)
      · simp -implicitDefEqProofs [zaw_, AV.v, h1, chkV, fin5, okV, hl, hl', k1, hw]
      · by_cases n0 : n = 0
        · simp -implicitDefEqProofs [zaw_, AV.v, h1, chkV, fin5, okV, hl, hl', k1, hw, n0]
        · have n0' : (n == 0) = false := by simpa using n0
          simp -implicitDefEqProofs [zaw_, AV.v, h1, chkV, fin5, okV, hl, hl', k1, hw, n0, n0']
    · have k1' : (k == 1) = false := by simpa using k1
      by_cases k2 : k = 2
      · by_cases te : t = eS
        · have te' : t.toList.isEmpty = true := by rw [isE]; simp [te]
          have teP : t = eS ↔ True := iff_true_intro te
          by_cases n1 : -1099511627776 ≤ n
          · by_cases n2 : n ≤ 1099511627776
            · simp -implicitDefEqProofs [zaw_, AV.v, h1, chkV, fin5, okV, hl, hl', k1, k1', k2, te', teP, n1, n2]
            · simp -implicitDefEqProofs [zaw_, AV.v, h1, chkV, fin5, okV, hl, hl', k1, k1', k2, te', teP, n1, n2]
          · simp -implicitDefEqProofs [zaw_, AV.v, h1, chkV, fin5, okV, hl, hl', k1, k1', k2, te', teP, n1]
        · have te' : t.toList.isEmpty = false := by rw [isE]; simp [te]
          have teP : t = eS ↔ False := iff_false_intro te
          simp -implicitDefEqProofs [zaw_, AV.v, h1, chkV, fin5, okV, hl, hl', k1, k1', k2, te', teP]
      · have k2' : (k == 2) = false := by simpa using k2
        by_cases k3 : k = 3
        · by_cases te : t = eS
          · have te' : t.toList.isEmpty = true := by rw [isE]; simp [te]
            have teP : t = eS ↔ True := iff_true_intro te
            by_cases n0 : n = 0
            · simp -implicitDefEqProofs [zaw_, AV.v, h1, chkV, fin5, okV, hl, hl', k1, k1', k2, k2', k3, te', teP, n0]
            · have n0' : (n == 0) = false := by simpa using n0
              by_cases n1 : n = 1
              · simp -implicitDefEqProofs [zaw_, AV.v, h1, chkV, fin5, okV, hl, hl', k1, k1', k2, k2', k3, te', teP, n0, n0', n1]
              · have n1' : (n == 1) = false := by simpa using n1
                simp -implicitDefEqProofs [zaw_, AV.v, h1, chkV, fin5, okV, hl, hl', k1, k1', k2, k2', k3, te', teP, n0, n0', n1, n1']
          · have te' : t.toList.isEmpty = false := by rw [isE]; simp [te]
            have teP : t = eS ↔ False := iff_false_intro te
            simp -implicitDefEqProofs [zaw_, AV.v, h1, chkV, fin5, okV, hl, hl', k1, k1', k2, k2', k3, te', teP]
        · have k3' : (k == 3) = false := by simpa using k3
          simp -implicitDefEqProofs [zaw_, AV.v, h1, chkV, fin5, okV, hl, hl', k1, k1', k2, k2', k3, k3']
end Go.Proofs.Sl
namespace Go.Proofs.Sl
theorem zcje_ (h : H) (ns : List Int) (hl : ns.length ≤ 10000) : run XP zsl_ [.lst 1 (il ns)] h = some (vi (orl ns), h) := by
  have hv : Rd h 1 (.lst 1 (il ns)) (il ns) := .lst _
  rw [run_eq, zbvh_]
  simp -implicitDefEqProofs [zlq_, zcx_]
  refine zbo_ ns (fun k s h' => Sees s [(3, vi 0), (6, .lst 1 (il ns)), (7, vi ns.length), (8, vi k)] ∧ h' = h ∧ orl ns = orl (ns.drop k)) ?_ ?_ _ _ ⟨by simp, rfl, rfl⟩
  · rintro B f hB hf k e s h' he hk ⟨⟨h3, h6, h7, h8, -⟩, rfl, hx⟩ K
    obtain ⟨p, hp, hld⟩ := hv.at1 (il_at he) rfl
    have hlt : (k : Int) < ns.length := by omega
    rw [zbq_ he, orl] at hx
    by_cases h0 : e = 0
    · rw [if_neg (by simpa using h0)] at hx
      simp -implicitDefEqProofs [hB, zpf_, h3, h6, h7, h8, hlt, hp, hld, h0]
      refine K _ _ ⟨?_, rfl, hx⟩
      simp [h3, h6, h7, zhw_ (by omega : k < 100000000000)]
    · rw [if_pos h0] at hx
      have h0' : (e != 0) = true := by simpa using h0
      simp -implicitDefEqProofs [hB, hf, zpf_, h3, h6, h7, h8, hlt, hp, hld, h0', hx]
  · rintro B hB s h' ⟨⟨h3, h6, h7, h8, -⟩, rfl, hx⟩
    simp -implicitDefEqProofs [hB, zpf_, h3, h7, h8, hx, orl]
def rngd (n lo hi : Int) : Bool := decide (lo ≤ n) && decide (n ≤ hi)
theorem zpw_ (h : H) (n : Int) : run XP zis_ [vi n] h = some (vb (!rngd n 1 1099511627776), h) := by
  rw [run_eq, zbvf_]
  unfold rngd
  by_cases c1 : 1 ≤ n
  · have c1' : ¬ n < 1 := by omega
    by_cases c2 : n ≤ 1099511627776
    · have c2' : ¬ 1099511627776 < n := by omega
      simp -implicitDefEqProofs [zhr_, c1, c2, c1', c2']
    · have c2' : 1099511627776 < n := by omega
      simp -implicitDefEqProofs [zhr_, c1, c2, c1', c2']
  · have c1' : n < 1 := by omega
    simp -implicitDefEqProofs [zhr_, c1, c1']
def leqT (a b : ByteArray) : Bool := Op.bytesLess a.toList b.toList || a.toList == b.toList
def chkAs : Option AT → List AT → Int
  | _, [] => 0
  | p, a :: r => if isNm a.key = false then 11 else if (match p with
      | none => false
      | some q => leqT a.key q.key) = true then 8 else if chkV a.val ≠ 0 then chkV a.val else chkAs (some a) r
theorem zcjf_ (p : Option AT) : chkAs p [] = 0 := by rw [chkAs]
theorem zcjg_ (p : Option AT) (a : AT) (r : List AT) : chkAs p (a :: r) = if isNm a.key = false then 11 else if (match p with
      | none => false
      | some q => leqT a.key q.key) = true then 8 else if chkV a.val ≠ 0 then chkV a.val else chkAs (some a) r := by cases p <;> rfl
def chkAL (l : List AT) : Int := if 32 < l.length then 6 else chkAs none l
def prevA {α : Type} (l : List α) (k : Nat) : Option α := if k = 0 then none else l[k - 1]?
theorem zpx_ {α : Type} {l : List α} {k : Nat} {a : α} (h : l[k]? = some a) : prevA l (k + 1) = some a := by simp [prevA, h]
structure AT.Sz (a : AT) : Prop where
  key : a.key.size ≤ 9223372036854775807
  t : a.val.t.size ≤ 9223372036854775807
theorem zgr_ {α : Type} {f : α → V} {l : List α} {n : Bool} (hn : n = true → l = []) {i : Nat} {a : α} (ha : l[i]? = some a) (h : H) (k : Nat) : iaddrV h k (lv k (slc f l n)) i = some (.fptr (f a) 0) := by
  cases n with
  | true => rw [hn rfl] at ha; simp at ha
  | false =>
    show iaddrV h k (.lst k (l.map f)) i = _
    have : (l.map f)[i]? = some (f a) := by rw [List.getElem?_map, ha]; rfl
    rw [zrs_, if_pos rfl, this, zab_]
theorem zcjh_ {h : H} {l : List AT} {n : Bool} (hn : n = true → l = []) (hs : ∀ a ∈ l, a.Sz) : run XP zsm_ [lv 4 (slc AT.v l n)] h = some (vi (chkAL l), h) := by
  have hv := fun h => rd_slc h 4 AT.v hn
  obtain ⟨v, hvv⟩ : ∃ v, v = lv 4 (slc AT.v l n) := ⟨_, rfl⟩
  rw [← hvv] at hv ⊢
  rw [run_eq, zbvi_]
  by_cases hl : 32 < l.length
  · have hl' : (32 : Int) < l.length := by omega
    simp -implicitDefEqProofs [zje_, (hv _).toL, hl, hl', chkAL]
  · have hl' : ¬ (32 : Int) < l.length := by omega
    rw [chkAL, if_neg hl]
    simp -implicitDefEqProofs [zje_, (hv _).toL, hl, hl']
    refine zbo_ l (fun k s h' => Sees s [(0, v), (9, v), (10, vi l.length), (11, vi k)] ∧ (∃ t, h' = h ++ t) ∧ chkAs none l = chkAs (prevA l k) (l.drop k)) ?_ ?_ _ _ ⟨by simp, ⟨[], by simp⟩, rfl⟩
    · rintro B f hB hf k e s h' he hk ⟨⟨h0, h9, h10, h11, -⟩, ⟨t, rfl⟩, hx⟩ K
      have hlt : (k : Int) < l.length := by omega
      obtain ⟨p, hp, hld⟩ := (hv (h ++ t)).at (i := k) (e := e.v) (by simp [he])
      have hw : IntKind.i64.wrap ((k : Int) + 1) = (k : Int) + 1 := zan_ (by omega) (by omega)
      have hsz := hs e (List.mem_of_getElem? he)
      have hN := fun h => zbd_ h e.key hsz.key
      have hV := fun h => zdz_ h e.val hsz.t
      simp only [AT.v, AV.v, V.cells] at hld hV
      rw [zbq_ he, zcjg_] at hx
      cases hnm : isNm e.key with
      | false =>
        rw [if_pos hnm] at hx
        simp -implicitDefEqProofs [hB, hf, zgp_, h0, h9, h10, h11, hlt, hp, hld, hN, hnm, hx]
      | true =>
        rw [if_neg (by simp [hnm])] at hx
        by_cases hk0 : k = 0
        · subst hk0
          simp only [prevA, if_true, Bool.false_eq_true, if_false] at hx
          by_cases hz : chkV e.val = 0
          · rw [if_neg (by simpa using hz)] at hx
            simp -implicitDefEqProofs [hB, zgp_, h0, h9, h10, h11, hk, hp, hld, hN, hnm, hV, hz]
            refine K _ _ ⟨?_, ⟨_, rfl⟩, by rw [zpx_ he]; exact hx⟩
            simpa [h0, h9, h10] using hw
          · rw [if_pos hz] at hx
            have hz' : (chkV e.val != 0) = true := by simpa using hz
            simp -implicitDefEqProofs [hB, hf, zgp_, h0, h9, h10, h11, hk, hp, hld, hN, hnm, hV, hz', hx]
        · obtain ⟨q, hq⟩ : ∃ q, l[k - 1]? = some q := ⟨_, List.getElem?_eq_getElem (by omega)⟩
          have hp2 := zgr_ (f := AT.v) hn hq (h ++ (t ++ [.box false e.v.cells])) 4
          rw [← hvv] at hp2
          have hw1 : IntKind.i64.wrap ((k : Int) - 1) = ((k - 1 : Nat) : Int) := by rw [zan_ (by omega) (by omega)]; omega
          have hk0' : (0 : Int) < k := by omega
          have hk0n : 0 < k := by omega
          simp only [AT.v, V.cells] at hp2
          have hpv : prevA l k = some q := by simp [prevA, hk0, hq]
          rw [hpv] at hx
          replace hx : chkAs none l = if leqT e.key q.key = true then 8 else if chkV e.val ≠ 0 then chkV e.val else chkAs (some e) (l.drop (k + 1)) := hx
          cases hle0 : leqT e.key q.key with
          | true =>
            rw [if_pos hle0] at hx
            have hle : (Op.bytesLess e.key.toList q.key.toList || e.key.toList == q.key.toList) = true := hle0
            simp -implicitDefEqProofs [hB, hf, zgp_, h0, h9, h10, h11, hlt, hp, hld, hN, hnm, hk0', hk0n, hw1, hp2, hle, hx]
          | false =>
            rw [if_neg (by simp [hle0])] at hx
            have hle : (Op.bytesLess e.key.toList q.key.toList || e.key.toList == q.key.toList) = false := hle0
            by_cases hz : chkV e.val = 0
            · rw [if_neg (by simpa using hz)] at hx
              simp -implicitDefEqProofs [hB, zgp_, h0, h9, h10, h11, hlt, hp, hld, hN, hnm, hk0', hk0n, hw1, hp2, hle, hV, hz]
              refine K _ _ ⟨?_, ⟨_, rfl⟩, by rw [zpx_ he]; exact hx⟩
              simp [h0, h9, h10, hw]
            · rw [if_pos hz] at hx
              have hz' : (chkV e.val != 0) = true := by simpa using hz
              simp -implicitDefEqProofs [hB, hf, zgp_, h0, h9, h10, h11, hlt, hp, hld, hN, hnm, hk0', hk0n, hw1, hp2, hle, hV, hz', hx]
    · rintro B hB s h' ⟨⟨h0, h9, h10, h11, -⟩, ⟨t, rfl⟩, hx⟩
      rw [List.drop_of_length_le (Nat.le_refl _), zcjf_] at hx
      simp -implicitDefEqProofs [hB, zgp_, h0, h9, h10, h11, hx]
def okR (r : RF) : Bool := rngd r.t 1 1099511627776 && rngd r.i 1 1099511627776
def chkLs : Option RF → List RF → Int
  | _, [] => 0
  | p, r :: l => if okR r = false then 2 else if (match p with
      | none => false
      | some q => decide (0 ≤ cmpR q r)) = true then 8 else chkLs (some r) l
theorem zcji_ (p : Option RF) : chkLs p [] = 0 := by rw [chkLs]
theorem zcjj_ (p : Option RF) (r : RF) (l : List RF) : chkLs p (r :: l) = if okR r = false then 2 else if (match p with
      | none => false
      | some q => decide (0 ≤ cmpR q r)) = true then 8 else chkLs (some r) l := by cases p <;> rfl
def chkLL (l : List RF) : Int := if 16 < l.length then 6 else chkLs none l
theorem zcjk_ {h : H} {l : List RF} {n : Bool} (hn : n = true → l = []) : run XP zsn_ [lv 2 (slc RF.v l n)] h = some (vi (chkLL l), h) := by
  have hv := fun h => rd_slc h 2 RF.v hn
  obtain ⟨v, hvv⟩ : ∃ v, v = lv 2 (slc RF.v l n) := ⟨_, rfl⟩
  rw [← hvv] at hv ⊢
  rw [run_eq, zbvj_]
  by_cases hl : 16 < l.length
  · have hl' : (16 : Int) < l.length := by omega
    simp -implicitDefEqProofs [zjf_, (hv _).toL, hl, hl', chkLL]
  · have hl' : ¬ (16 : Int) < l.length := by omega
    rw [chkLL, if_neg hl]
    simp -implicitDefEqProofs [zjf_, (hv _).toL, hl, hl']
    refine zbo_ l (fun k s h' => Sees s [(0, v), (8, v), (9, vi l.length), (10, vi k)] ∧ (∃ t, h' = h ++ t) ∧ chkLs none l = chkLs (prevA l k) (l.drop k)) ?_ ?_ _ _ ⟨by simp, ⟨[], by simp⟩, rfl⟩
    · rintro B f hB hf k e s h' he hk ⟨⟨h0, h8, h9, h10, -⟩, ⟨t, rfl⟩, hx⟩ K
      have hlt : (k : Int) < l.length := by omega
      have hp := zgr_ (f := RF.v) hn he (h ++ t) 2
      rw [← hvv] at hp
      have hw : IntKind.i64.wrap ((k : Int) + 1) = (k : Int) + 1 := zan_ (by omega) (by omega)
      have b1 := fun h => zpw_ h e.t
      have b2 := fun h => zpw_ h e.i
      simp only [RF.v] at hp
      rw [zbq_ he, zcjj_] at hx
      cases r1 : rngd e.t 1 1099511627776 with
      | false =>
        rw [if_pos (by simp [okR, r1])] at hx
        simp -implicitDefEqProofs [hB, hf, zht_, h0, h8, h9, h10, hlt, hk, hp, b1, r1, hx]
      | true =>
        cases r2 : rngd e.i 1 1099511627776 with
        | false =>
          rw [if_pos (by simp [okR, r2])] at hx
          simp -implicitDefEqProofs [hB, hf, zht_, h0, h8, h9, h10, hlt, hk, hp, b1, b2, r1, r2, hx]
        | true =>
          rw [if_neg (by simp [okR, r1, r2])] at hx
          by_cases hk0 : k = 0
          · subst hk0
            simp only [prevA, if_true, Bool.false_eq_true, if_false] at hx
            simp -implicitDefEqProofs [hB, zht_, h0, h8, h9, h10, hk, hp, b1, b2, r1, r2]
            refine K _ _ ⟨?_, ⟨_, rfl⟩, by rw [zpx_ he]; exact hx⟩
            simpa [h0, h8, h9] using hw
          · obtain ⟨q, hq⟩ : ∃ q, l[k - 1]? = some q := ⟨_, List.getElem?_eq_getElem (by omega)⟩
            have hp2 := zgr_ (f := RF.v) hn hq (h ++ (t ++ [.box false e.v.cells])) 2
            rw [← hvv] at hp2
            have hw1 : IntKind.i64.wrap ((k : Int) - 1) = ((k - 1 : Nat) : Int) := by rw [zan_ (by omega) (by omega)]; omega
            have hk0' : (0 : Int) < k := by omega
            have hk0n : 0 < k := by omega
            have hc := fun h => zzi_ h q e
            simp only [RF.v, V.cells] at hp2 hc
            have hpv : prevA l k = some q := by simp [prevA, hk0, hq]
            rw [hpv] at hx
            replace hx : chkLs none l = if decide (0 ≤ cmpR q e) = true then 8 else chkLs (some e) (l.drop (k + 1)) := hx
            by_cases hle : 0 ≤ cmpR q e
            · rw [if_pos (by simpa using hle)] at hx
              simp -implicitDefEqProofs [hB, hf, zht_, h0, h8, h9, h10, hlt, hk, hp, b1, b2, r1, r2, hk0', hk0n, hw1, hp2, hc, hle, hx]
            · rw [if_neg (by simpa using hle)] at hx
              simp -implicitDefEqProofs [hB, zht_, h0, h8, h9, h10, hlt, hk, hp, b1, b2, r1, r2, hk0', hk0n, hw1, hp2, hc, hle]
              refine K _ _ ⟨?_, ⟨_, rfl⟩, by rw [zpx_ he]; exact hx⟩
              simp [h0, h8, h9, hw]
    · rintro B hB s h' ⟨⟨h0, h8, h9, h10, -⟩, ⟨t, rfl⟩, hx⟩
      rw [List.drop_of_length_le (Nat.le_refl _), zcji_] at hx
      simp -implicitDefEqProofs [hB, zht_, h0, h8, h9, h10, hx]
end Go.Proofs.Sl
namespace Go.Proofs.Sl
theorem zgs_ {n lo hi : Int} : rngd n lo hi = true ↔ lo ≤ n ∧ n ≤ hi := by simp [rngd]
def chkSp (a : SP) : Int :=
  if (rngd a.tr 1 1099511627776 && (rngd a.id 1 1099511627776 && (rngd a.par 0 1099511627776 && (rngd a.rev 0 1048576 && rngd a.clk 1 1048576)))) = false then 2
  else if rngd a.kind 1 5 = false then 12
  else if (isNm a.sv && (isNm a.op && (decide (a.vr = eS) || isNm a.vr))) = false then 11
  else if (rngd a.st (-1099511627776) 1099511627776 && rngd a.en (-1099511627776) 1099511627776) = false then 32
  else if a.en < a.st then 8
  else if 1099511627776 < a.en - a.st then 32
  else orl [chkAL a.ats, chkLL a.lks]
structure SP.Sz (a : SP) : Prop where
  sv : a.sv.size ≤ 9223372036854775807
  vr : a.vr.size ≤ 9223372036854775807
  op : a.op.size ≤ 9223372036854775807
  ats : ∀ e ∈ a.ats, e.Sz
  an : a.an = true → a.ats = []
  ln : a.ln = true → a.lks = []
theorem vcase (vr : ByteArray) (h : (decide (vr = eS) || isNm vr) = true) : (vr.toList.isEmpty = true ∧ True) ∨ (vr.toList.isEmpty = false ∧ isNm vr = true) := by
  by_cases e : vr = eS
  · exact .inl ⟨by rw [isE]; simp [e], trivial⟩
  · exact .inr ⟨by rw [isE]; simp [e], by simpa [e] using h⟩
theorem zcjl_ (h : H) {a : SP} (ha : a.Sz) : run XP zkj_ [a.v] h = some (vi (chkSp a), h) := by
  obtain ⟨q1, q2, q3, q4, q5, q6⟩ := ha
  obtain ⟨tr, id, par, rev, clk, kind, sv, vr, op, st, en, er, ats, lks, an, ln⟩ := a
  simp only at q1 q2 q3 q4 q5 q6
  have i1 := fun h => zbd_ h sv q1
  have i2 := fun h => zbd_ h vr q2
  have i3 := fun h => zbd_ h op q3
  have ca := fun h => zcjh_ (h := h) q5 q4
  have aa := (rd_slc h 4 AT.v q5).arg0
  have ab := (rd_slc h 2 RF.v q6).arg0
  have b1 := fun h => zpw_ h tr
  have b2 := fun h => zpw_ h id
  have cl := fun h => zcjk_ (h := h) q6
  have co := fun h => zcje_ h [chkAL ats, chkLL lks] (by simp)
  simp only [il, List.map_cons, List.map_nil] at co
  rw [run_eq]
  cases r_tr : rngd tr 1 1099511627776
  · (rw [zbk_]; simp -implicitDefEqProofs [zbb_, SP.v, chkSp, i1, i2, i3, b1, b2, r_tr])
  ·
    cases r_id : rngd id 1 1099511627776
    · (rw [zbk_]; simp -implicitDefEqProofs [zbb_, SP.v, chkSp, i1, i2, i3, b1, b2, r_tr, r_id])
    ·
      by_cases c_par : par < 0
      · have r_par : rngd par 0 1099511627776 = false := by simp [rngd]; omega
        (rw [zbk_]; simp -implicitDefEqProofs [zbb_, SP.v, chkSp, i1, i2, i3, b1, b2, r_tr, r_id, c_par, r_par])
      ·
        by_cases d_par : 1099511627776 < par
        · have r_par : rngd par 0 1099511627776 = false := by simp [rngd]; omega
          (rw [zbk_]; simp -implicitDefEqProofs [zbb_, SP.v, chkSp, i1, i2, i3, b1, b2, r_tr, r_id, c_par, d_par, r_par])
        ·
          have r_par : rngd par 0 1099511627776 = true := by simp [rngd]; omega
          by_cases c_rev : rev < 0
          · have r_rev : rngd rev 0 1048576 = false := by simp [rngd]; omega
            (rw [zbk_]; simp -implicitDefEqProofs [zbb_, SP.v, chkSp, i1, i2, i3, b1, b2, r_tr, r_id, c_par, d_par, r_par, c_rev, r_rev])
          ·
            by_cases d_rev : 1048576 < rev
            · have r_rev : rngd rev 0 1048576 = false := by simp [rngd]; omega
              (rw [zbk_]; simp -implicitDefEqProofs [zbb_, SP.v, chkSp, i1, i2, i3, b1, b2, r_tr, r_id, c_par, d_par, r_par, c_rev, d_rev, r_rev])
            ·
              have r_rev : rngd rev 0 1048576 = true := by simp [rngd]; omega
              by_cases c_clk : clk < 1
              · have r_clk : rngd clk 1 1048576 = false := by simp [rngd]; omega
                (rw [zbk_]; simp -implicitDefEqProofs [zbb_, SP.v, chkSp, i1, i2, i3, b1, b2, r_tr, r_id, c_par, d_par, r_par, c_rev, d_rev, r_rev, c_clk, r_clk])
              ·
                by_cases d_clk : 1048576 < clk
                · have r_clk : rngd clk 1 1048576 = false := by simp [rngd]; omega
                  (rw [zbk_]; simp -implicitDefEqProofs [zbb_, SP.v, chkSp, i1, i2, i3, b1, b2, r_tr, r_id, c_par, d_par, r_par, c_rev, d_rev, r_rev, c_clk, d_clk, r_clk])
                ·
                  have r_clk : rngd clk 1 1048576 = true := by simp [rngd]; omega
                  by_cases c_kind : kind < 1
                  · have r_kind : rngd kind 1 5 = false := by simp [rngd]; omega
                    (rw [zbk_]; simp -implicitDefEqProofs [zbb_, SP.v, chkSp, i1, i2, i3, b1, b2, r_tr, r_id, c_par, d_par, r_par, c_rev, d_rev, r_rev, c_clk, d_clk, r_clk, c_kind, r_kind])
                  ·
                    by_cases d_kind : 5 < kind
                    · have r_kind : rngd kind 1 5 = false := by simp [rngd]; omega
                      (rw [zbk_]; simp -implicitDefEqProofs [zbb_, SP.v, chkSp, i1, i2, i3, b1, b2, r_tr, r_id, c_par, d_par, r_par, c_rev, d_rev, r_rev, c_clk, d_clk, r_clk, c_kind, d_kind, r_kind])
                    ·
                      have r_kind : rngd kind 1 5 = true := by simp [rngd]; omega
                      cases n_sv : isNm sv
                      · (rw [zbk_]; simp -implicitDefEqProofs [zbb_, SP.v, chkSp, i1, i2, i3, b1, b2, r_tr, r_id, c_par, d_par, r_par, c_rev, d_rev, r_rev, c_clk, d_clk, r_clk, c_kind, d_kind, r_kind, n_sv])
                      ·
                        cases n_op : isNm op
                        · (rw [zbk_]; simp -implicitDefEqProofs [zbb_, SP.v, chkSp, i1, i2, i3, b1, b2, r_tr, r_id, c_par, d_par, r_par, c_rev, d_rev, r_rev, c_clk, d_clk, r_clk, c_kind, d_kind, r_kind, n_sv, n_op])
                        ·
                          have tail : ∀ (q : Bool), q = (decide (vr = eS) || isNm vr) → q = true → ob (XP zkj_) (fun F => xfun (run XP) loopW F [SP.v ⟨tr, id, par, rev, clk, kind, sv, vr, op, st, en, er, ats, lks, an, ln⟩] h) = some (vi (chkSp ⟨tr, id, par, rev, clk, kind, sv, vr, op, st, en, er, ats, lks, an, ln⟩), h) := by
                            intro q hq hq1
                            rw [hq1] at hq
                            replace hq := hq.symm
                            rcases vcase vr hq with ⟨v1, v2⟩ | ⟨v1, v2⟩
                            all_goals
                              by_cases o1 : en < st
                              · have o3 : ¬ st < en := by omega
                                by_cases t1 : en < -1099511627776
                                · have r_en : rngd en (-1099511627776) 1099511627776 = false := by (cases h : rngd en (-1099511627776) 1099511627776; rfl; have := zgs_.1 h; omega)
                                  (rw [zbk_]; simp -implicitDefEqProofs [zbb_, SP.v, chkSp, i1, i2, i3, b1, b2, r_tr, r_id, c_par, d_par, r_par, c_rev, d_rev, r_rev, c_clk, d_clk, r_clk, c_kind, d_kind, r_kind, n_sv, n_op, hq, v1, v2, o1, o3, t1, r_en, Bool.and_false])
                                · by_cases t2 : 1099511627776 < st
                                  · have r_st : rngd st (-1099511627776) 1099511627776 = false := by (cases h : rngd st (-1099511627776) 1099511627776; rfl; have := zgs_.1 h; omega)
                                    (rw [zbk_]; simp -implicitDefEqProofs [zbb_, SP.v, chkSp, i1, i2, i3, b1, b2, r_tr, r_id, c_par, d_par, r_par, c_rev, d_rev, r_rev, c_clk, d_clk, r_clk, c_kind, d_kind, r_kind, n_sv, n_op, hq, v1, v2, o1, o3, t1, t2, r_st])
                                  · have r_st : rngd st (-1099511627776) 1099511627776 = true := zgs_.2 (by omega)
                                    have r_en : rngd en (-1099511627776) 1099511627776 = true := zgs_.2 (by omega)
                                    (rw [zbk_]; simp -implicitDefEqProofs [zbb_, SP.v, chkSp, i1, i2, i3, b1, b2, r_tr, r_id, c_par, d_par, r_par, c_rev, d_rev, r_rev, c_clk, d_clk, r_clk, c_kind, d_kind, r_kind, n_sv, n_op, hq, v1, v2, o1, o3, t1, t2, r_st, r_en])
                              · have hmx : (if st < en then en else st) = en := by split <;> omega
                                by_cases t1 : st < -1099511627776
                                · have r_st : rngd st (-1099511627776) 1099511627776 = false := by (cases h : rngd st (-1099511627776) 1099511627776; rfl; have := zgs_.1 h; omega)
                                  (rw [zbk_]; simp -implicitDefEqProofs [zbb_, SP.v, chkSp, i1, i2, i3, b1, b2, r_tr, r_id, c_par, d_par, r_par, c_rev, d_rev, r_rev, c_clk, d_clk, r_clk, c_kind, d_kind, r_kind, n_sv, n_op, hq, v1, v2, o1, hmx, t1, r_st])
                                · by_cases t2 : 1099511627776 < en
                                  · have r_en : rngd en (-1099511627776) 1099511627776 = false := by (cases h : rngd en (-1099511627776) 1099511627776; rfl; have := zgs_.1 h; omega)
                                    (rw [zbk_]; simp -implicitDefEqProofs [zbb_, SP.v, chkSp, i1, i2, i3, b1, b2, r_tr, r_id, c_par, d_par, r_par, c_rev, d_rev, r_rev, c_clk, d_clk, r_clk, c_kind, d_kind, r_kind, n_sv, n_op, hq, v1, v2, o1, hmx, t1, t2, r_en, Bool.and_false])
                                  · have r_st : rngd st (-1099511627776) 1099511627776 = true := zgs_.2 (by omega)
                                    have r_en : rngd en (-1099511627776) 1099511627776 = true := zgs_.2 (by omega)
                                    have hw : IntKind.i64.wrap (en - st) = en - st := zan_ (by omega) (by omega)
                                    by_cases o2 : 1099511627776 < en - st
                                    · (rw [zbk_]; simp -implicitDefEqProofs [zbb_, SP.v, chkSp, i1, i2, i3, b1, b2, r_tr, r_id, c_par, d_par, r_par, c_rev, d_rev, r_rev, c_clk, d_clk, r_clk, c_kind, d_kind, r_kind, n_sv, n_op, hq, v1, v2, o1, hmx, t1, t2, r_st, r_en, hw, o2])
                                    ·
                                      rw [zbk_]; simp -implicitDefEqProofs [zbb_, SP.v, chkSp, i1, i2, i3, b1, b2, ca, cl, co, aa, ab, zcq_, optEq, r_tr, r_id, c_par, d_par, r_par, c_rev, d_rev, r_rev, c_clk, d_clk, r_clk, c_kind, d_kind, r_kind, n_sv, n_op, hq, v1, v2, o1, hmx, t1, t2, r_st, r_en, hw, o2]
                          by_cases e_vr : vr = eS
                          · exact tail _ rfl (by simp [e_vr])
                          · cases n_vr : isNm vr
                            · have e_vr' : vr.toList.isEmpty = false := by rw [isE]; simp [e_vr]
                              have hq : (decide (vr = eS) || isNm vr) = false := by simp [e_vr, n_vr]
                              (rw [zbk_]; simp -implicitDefEqProofs [zbb_, SP.v, chkSp, i1, i2, i3, b1, b2, r_tr, r_id, c_par, d_par, r_par, c_rev, d_rev, r_rev, c_clk, d_clk, r_clk, c_kind, d_kind, r_kind, n_sv, n_op, e_vr', e_vr, n_vr, hq])
                            · exact tail _ rfl (by simp [n_vr])
end Go.Proofs.Sl
namespace Go.Proofs.Sl
theorem zud_ (l o k : Nat) (x : Option (List V)) : rdCell l o (lv k x) = lv k x := by cases x <;> rfl
end Go.Proofs.Sl
namespace Go.Proofs.Sl
def ixT : List ByteArray → ByteArray → Nat → Int
  | [], _, _ => -1
  | t :: r, s, k => if s = t then k else ixT r s (k + 1)
theorem vs_get {ss : List ByteArray} {k : Nat} {e : ByteArray} (h : ss[k]? = some e) : (ss.map vs)[k]? = some (vs e) := by simp [h]
theorem zcjm_ (h : H) (ss : List ByteArray) (s : ByteArray) (hl : ss.length ≤ 10000) : run XP zst_ [.lst 1 (ss.map vs), vs s] h = some (vi (ixT ss s 0), h) := by
  have hv : Rd h 1 (.lst 1 (ss.map vs)) (ss.map vs) := .lst _
  rw [run_eq, zbvy_]
  simp -implicitDefEqProofs [zmn_]
  refine zbo_ ss (fun k s' h' => Sees s' [(0, .lst 1 (ss.map vs)), (1, vs s), (7, vi ss.length), (8, vi k)] ∧ h' = h ∧ ixT ss s 0 = ixT (ss.drop k) s k) ?_ ?_ _ _ ⟨by simp, rfl, rfl⟩
  · rintro B f hB hf k e s' h' he hk ⟨⟨h0, h1, h7, h8, -⟩, rfl, hx⟩ K
    obtain ⟨p, hp, hld⟩ := hv.at1 (vs_get he) rfl
    have hlt : (k : Int) < ss.length := by omega
    rw [zbq_ he, ixT] at hx
    have hb := bl_eq (a := s) (b := e)
    by_cases h0' : s = e
    · rw [if_pos h0'] at hx
      have hb' : (s.toList == e.toList) = true := by rw [hb]; simp [h0']
      simp -implicitDefEqProofs [hB, hf, zpl_, h0, h1, h7, h8, hlt, hk, hp, hld, hb', hx]
    · rw [if_neg h0'] at hx
      have hb' : (s.toList == e.toList) = false := by rw [hb]; simp [h0']
      simp -implicitDefEqProofs [hB, zpl_, h0, h1, h7, h8, hlt, hk, hp, hld, hb']
      refine K _ _ ⟨?_, rfl, hx⟩
      simp [h0, h1, h7, zhw_ (by omega : k < 100000000000)]
  · rintro B hB s' h' ⟨⟨h0, h1, h7, h8, -⟩, rfl, hx⟩
    rw [List.drop_of_length_le (Nat.le_refl _), ixT] at hx
    simp -implicitDefEqProofs [hB, zpl_, h0, h1, h7, h8, hx]
theorem zcb_ (h : H) (ss : List ByteArray) (s : ByteArray) (hl : ss.length ≤ 10000) : run XP zsq_ [.lst 1 (ss.map vs), vs s] h = some (vb (decide (0 ≤ ixT ss s 0)), h) := by
  have h1 := fun h => zcjm_ h ss s hl
  rw [run_eq, zbvu_]
  simp -implicitDefEqProofs [zmb_, h1]
def sClock : ByteArray := ⟨#[99, 108, 111, 99, 107]⟩
def sDur : ByteArray := ⟨#[100, 117, 114, 97, 116, 105, 111, 110]⟩
def flds : List ByteArray := [sClock, sDur, ⟨#[101, 110, 100]⟩, ⟨#[101, 114, 114, 111, 114]⟩, ⟨#[105, 100]⟩, ⟨#[107, 105, 110, 100]⟩, ⟨#[111, 112, 101, 114, 97, 116, 105, 111, 110]⟩, ⟨#[112, 97, 114, 101, 110, 116]⟩, ⟨#[114, 101, 118, 105, 115, 105, 111, 110]⟩, ⟨#[114, 111, 111, 116]⟩,
  ⟨#[115, 101, 114, 118, 105, 99, 101]⟩, ⟨#[115, 108, 111, 116]⟩, ⟨#[115, 116, 97, 114, 116]⟩, ⟨#[116, 114, 97, 99, 101]⟩, ⟨#[118, 101, 114, 115, 105, 111, 110]⟩]
theorem zbx_ (h : H) : run XP zod_ [] h = some (.lst 1 (flds.map vs), h) := by
  rw [run_eq, zbus_]
  simp -implicitDefEqProofs [zld_, flds, sClock, sDur]
theorem zbaa_ (h : H) (n : Int) : run XP zog_ [vi n] h = some (vi (n.fdiv 1048576), h) := by
  rw [run_eq, zbuz_]
  simp -implicitDefEqProofs [zlr_, zrt_]
  rfl
theorem zcjn_ (h : H) (n : Int) : run XP zoh_ [vi n] h = some (vi ((n.fdiv 1048576).fdiv 16), h) := by
  have h1 := fun h => zbaa_ h n
  rw [run_eq, zbva_]
  simp -implicitDefEqProofs [zlc_, h1, zrt_]
  rfl
theorem zbab_ (h : H) (a : SP) : run XP zsh_ [a.v] h = some (vi (IntKind.i64.wrap (a.en - a.st)), h) := by
  rw [run_eq, zbuy_]
  simp -implicitDefEqProofs [zmd_, SP.v]
theorem zgt_ {l : List UInt8} (h : ([100, 117, 114, 97, 116, 105, 111, 110] == l) = false) : (sDur.toList == l) = false := by
  rw [ByteArray.toList_eq]
  exact h
theorem zcjo_ (h : H) : run XP zbh_ [vs sDur] h = some (.tup [vi 2, vb true], h) := by
  have h1 := fun h => zbx_ h
  have h2 := fun h => zcb_ h flds sDur (by decide)
  have h3 : ixT flds sDur 0 = 1 := by decide
  rw [h3] at h2
  have e1 := zgt_ (l := [107, 105, 110, 100]) rfl
  have e2 := zgt_ (l := [111, 112, 101, 114, 97, 116, 105, 111, 110]) rfl
  have e3 := zgt_ (l := [115, 101, 114, 118, 105, 99, 101]) rfl
  have e4 := zgt_ (l := [118, 101, 114, 115, 105, 111, 110]) rfl
  have e5 := zgt_ (l := [101, 114, 114, 111, 114]) rfl
  have e6 := zgt_ (l := [114, 111, 111, 116]) rfl
  rw [run_eq, zca_]
  simp -implicitDefEqProofs [zbi_, h1, h2, e1, e2, e3, e4, e5, e6]
theorem zcjp_ (h : H) (a : SP) : run XP zdd_ [a.v, vs sDur] h = some (vi (IntKind.i64.wrap (a.en - a.st)), h) := by
  have h1 := fun h => zbab_ h a
  have e1 := zgt_ (l := [99, 108, 111, 99, 107]) rfl
  have e2 : (sDur.toList == [100, 117, 114, 97, 116, 105, 111, 110]) = true := by rw [ByteArray.toList_eq]; rfl
  simp only [SP.v] at h1
  rw [run_eq, zdy_]
  simp -implicitDefEqProofs [zcs_, SP.v, h1, e1, e2]
theorem zcjq_ (h : H) (a : SP) : run XP zay_ [a.v, vs sDur, vs ⟨#[]⟩] h = some (.tup [.agg [vi 2, vs ⟨#[]⟩, vi (IntKind.i64.wrap (a.en - a.st))], vb true], h) := by
  have h1 := fun h => zcjo_ h
  have h2 := fun h => zcjp_ h a
  have e1 := zgt_ (l := [97, 116, 116, 114]) rfl
  simp only [SP.v] at h2
  rw [run_eq, zbw_]
  simp -implicitDefEqProofs [zbc_, SP.v, h1, h2, e1]
def exA : SP := ⟨1, 2, 0, 1, 1, 3, ⟨#[115]⟩, ⟨#[]⟩, ⟨#[111]⟩, 4, 9, false, [], [], true, true⟩
def exB : SP := ⟨1, 2, 0, 0, 1, 3, ⟨#[115]⟩, ⟨#[]⟩, ⟨#[111]⟩, 4, 12, false, [], [], true, true⟩
theorem exBA : wns [exB, exA] = [exA] := by
  have c1 : cmpS exA exB = 1 := by decide +kernel
  have hs : srt [exB, exA] = [exB, exA] := by
    have hp := ztz_ [exB, exA]
    have ho := zcil_ [exB, exA]
    generalize srt [exB, exA] = l at hp ho
    match l, hp.length_eq with
    | [x, y], _ =>
      have hx : x ∈ [exB, exA] := hp.mem_iff.1 (by simp)
      simp only [List.mem_cons, List.not_mem_nil, or_false] at hx
      rcases hx with rfl | rfl
      · have := List.Perm.cons_inv hp
        rw [List.perm_singleton] at this
        injection this with this
        rw [this]
      · have h2 : [exA, y].Perm [exA, exB] := hp.trans (List.Perm.swap exA exB [])
        have := List.Perm.cons_inv h2
        rw [List.perm_singleton] at this
        injection this with this
        subst this
        simp only [List.pairwise_cons, List.mem_singleton, forall_eq] at ho
        rw [c1] at ho
        exact absurd ho.1 (by decide)
  have h2 : cpt [exB, exA] = [exB, exA] := by simp [cpt, cptA, c1]
  rw [wns, dst, hs, h2]
  simp [winL, exA, exB]
theorem zcjr_ : chkSp exA = 0 := by decide +kernel
theorem zcjs_ (h : H) : run XP zoa_ [] h = some (vb true, h) := by
  have sA : exA.Sm := ⟨by decide, by decide, fun _ => rfl, fun _ => rfl⟩
  have sB : exB.Sm := ⟨by decide, by decide, fun _ => rfl, fun _ => rfl⟩
  have hW : ∀ h, run XP zoi_ [.lst 14 [V.agg [vi 1, vi 2, vi 0, vi 0, vi 1, vi 3, vs ⟨#[115]⟩, vs ⟨#[]⟩, vs ⟨#[111]⟩, vi 4, vi 12, vb false, vnil, vnil], V.agg [vi 1, vi 2, vi 0, vi 1, vi 1, vi 3, vs ⟨#[115]⟩, vs ⟨#[]⟩, vs ⟨#[111]⟩, vi 4, vi 9, vb false, vnil, vnil]]] h = some (.lst 14 [V.agg [vi 1, vi 2, vi 0, vi 1, vi 1, vi 3, vs ⟨#[115]⟩, vs ⟨#[]⟩, vs ⟨#[111]⟩, vi 4, vi 9, vb false, vnil, vnil]], h) := fun h => by
    have := zcjc_ (h := h) (h2 := h) (v := .lst 14 [exB.v, exA.v]) (es := [exB, exA]) (.inr rfl) rfl (zzv_ (es := [exB, exA]) (.inr rfl)) rfl (by simp [sA, sB]) (by simp)
    rw [exBA] at this
    exact this
  have hV : ∀ h, run XP zay_ [V.agg [vi 1, vi 2, vi 0, vi 1, vi 1, vi 3, vs ⟨#[115]⟩, vs ⟨#[]⟩, vs ⟨#[111]⟩, vi 4, vi 9, vb false, vnil, vnil], vs ⟨#[100, 117, 114, 97, 116, 105, 111, 110]⟩, vs ⟨#[]⟩] h = some (.tup [.agg [vi 2, vs ⟨#[]⟩, vi 5], vb true], h) := fun h => zcjq_ h exA
  have hC : ∀ h, run XP zkj_ [V.agg [vi 1, vi 2, vi 0, vi 1, vi 1, vi 3, vs ⟨#[115]⟩, vs ⟨#[]⟩, vs ⟨#[111]⟩, vi 4, vi 9, vb false, vnil, vnil]] h = some (vi 0, h) := fun h => by
    have := zcjl_ h (a := exA) ⟨by decide, by decide, by decide, by simp [exA], fun _ => rfl, fun _ => rfl⟩
    rw [zcjr_] at this
    exact this
  have hP : ∀ h, run XP zoh_ [vi 16777216] h = some (vi 1, h) := fun h => zcjn_ h 16777216
  have hF := fun h => zbx_ h
  have hfl : (flds.map vs).length = 15 := rfl
  generalize flds.map vs = fl at hF hfl
  have hbe : ((⟨#[]⟩ : ByteArray) == ⟨#[]⟩) = true := by decide
  rw [run_eq, zbuk_]
  simp -implicitDefEqProofs [zkr_, hW, hV, hC, hP, hF, hfl, hbe]
end Go.Proofs.Sl
namespace Go.Proofs.Sl
def kInt : ByteArray := ⟨#[105, 110, 116, 101, 114, 110, 97, 108]⟩
def kCli : ByteArray := ⟨#[99, 108, 105, 101, 110, 116]⟩
def kSer : ByteArray := ⟨#[115, 101, 114, 118, 101, 114]⟩
def kPro : ByteArray := ⟨#[112, 114, 111, 100, 117, 99, 101, 114]⟩
def kCon : ByteArray := ⟨#[99, 111, 110, 115, 117, 109, 101, 114]⟩
def kNs : List ByteArray := [kInt, kCli, kSer, kPro, kCon]
def kAll : List ByteArray := ⟨#[]⟩ :: kNs
theorem zcjt_ (h : H) : run XP zss_ [] h = some (.lst 1 (kAll.map vs), h) := by
  rw [run_eq, zbvx_]
  simp -implicitDefEqProofs [zmo_, kAll, kNs, kInt, kCli, kSer, kPro, kCon]
theorem zcju_ (h : H) : run XP zsg_ [] h = some (.lst 1 (kNs.map vs), h) := by
  rw [run_eq, zbux_]
  simp -implicitDefEqProofs [zlf_, kNs, kInt, kCli, kSer, kPro, kCon]
theorem zcjv_ (h : H) {k : Nat} {s : ByteArray} (hk : kNs[k]? = some s) : run XP zsf_ [vi ((k : Int) + 1)] h = some (.tup [vs s, vi 0], h) := by
  have h1 := fun h => zcjt_ h
  have hlt : k < 5 := (List.getElem?_eq_some_iff.1 hk).1
  have c1 : ¬ (k : Int) + 1 < 1 := by omega
  have c2 : ¬ 5 < (k : Int) + 1 := by omega
  have hv : Rd h 1 (.lst 1 (kAll.map vs)) (kAll.map vs) := .lst _
  obtain ⟨p, hp, hld⟩ := hv.at1 (vs_get (ss := kAll) (k := k + 1) (e := s) (by simpa [kAll] using hk)) rfl
  have c3 : 0 ≤ (k : Int) + 1 := by omega
  rw [run_eq, zbuw_]
  simp -implicitDefEqProofs [zmc_, h1, c1, c2, c3, hp, hld]
end Go.Proofs.Sl
namespace Go.Proofs.Sl
theorem tl_f {x : ByteArray} {y : List UInt8} (h : (x.data.toList == y) = false) : (x.toList == y) = false := by
  rw [ByteArray.toList_eq]
  exact h
theorem tl_t {x : ByteArray} {y : List UInt8} (h : (x.data.toList == y) = true) : (x.toList == y) = true := by
  rw [ByteArray.toList_eq]
  exact h
def zaz_ : ByteArray := ⟨#[99, 108, 111, 99, 107]⟩
def zas_ : ByteArray := ⟨#[100, 117, 114, 97, 116, 105, 111, 110]⟩
def f_end : ByteArray := ⟨#[101, 110, 100]⟩
def zbr_ : ByteArray := ⟨#[101, 114, 114, 111, 114]⟩
def f_id : ByteArray := ⟨#[105, 100]⟩
def f_kind : ByteArray := ⟨#[107, 105, 110, 100]⟩
def zcl_ : ByteArray := ⟨#[111, 112, 101, 114, 97, 116, 105, 111, 110]⟩
def zax_ : ByteArray := ⟨#[112, 97, 114, 101, 110, 116]⟩
def zat_ : ByteArray := ⟨#[114, 101, 118, 105, 115, 105, 111, 110]⟩
def f_root : ByteArray := ⟨#[114, 111, 111, 116]⟩
def zcm_ : ByteArray := ⟨#[115, 101, 114, 118, 105, 99, 101]⟩
def f_slot : ByteArray := ⟨#[115, 108, 111, 116]⟩
def zao_ : ByteArray := ⟨#[115, 116, 97, 114, 116]⟩
def zav_ : ByteArray := ⟨#[116, 114, 97, 99, 101]⟩
def zcc_ : ByteArray := ⟨#[118, 101, 114, 115, 105, 111, 110]⟩
theorem zcjw_ : flds = [zaz_, zas_, f_end, zbr_, f_id, f_kind, zcl_, zax_, zat_, f_root, zcm_, f_slot, zao_, zav_, zcc_] := rfl
theorem zcn_ : ((⟨#[118, 101, 114, 115, 105, 111, 110]⟩ : ByteArray) == ⟨#[115, 101, 114, 118, 105, 99, 101]⟩) = false := by decide
theorem zco_ : ((⟨#[111, 112, 101, 114, 97, 116, 105, 111, 110]⟩ : ByteArray) == ⟨#[115, 101, 114, 118, 105, 99, 101]⟩) = false := by decide
theorem zcp_ : ((⟨#[111, 112, 101, 114, 97, 116, 105, 111, 110]⟩ : ByteArray) == ⟨#[118, 101, 114, 115, 105, 111, 110]⟩) = false := by decide
theorem zei_ : ((⟨#[105, 100]⟩ : ByteArray) == ⟨#[116, 114, 97, 99, 101]⟩) = false := by decide
theorem zej_ : ((⟨#[112, 97, 114, 101, 110, 116]⟩ : ByteArray) == ⟨#[116, 114, 97, 99, 101]⟩) = false := by decide
theorem zek_ : ((⟨#[112, 97, 114, 101, 110, 116]⟩ : ByteArray) == ⟨#[105, 100]⟩) = false := by decide
theorem zel_ : ((⟨#[114, 101, 118, 105, 115, 105, 111, 110]⟩ : ByteArray) == ⟨#[116, 114, 97, 99, 101]⟩) = false := by decide
theorem zem_ : ((⟨#[114, 101, 118, 105, 115, 105, 111, 110]⟩ : ByteArray) == ⟨#[105, 100]⟩) = false := by decide
theorem zen_ : ((⟨#[114, 101, 118, 105, 115, 105, 111, 110]⟩ : ByteArray) == ⟨#[112, 97, 114, 101, 110, 116]⟩) = false := by decide
theorem zeo_ : ((⟨#[99, 108, 111, 99, 107]⟩ : ByteArray) == ⟨#[116, 114, 97, 99, 101]⟩) = false := by decide
theorem zep_ : ((⟨#[99, 108, 111, 99, 107]⟩ : ByteArray) == ⟨#[105, 100]⟩) = false := by decide
theorem zeq_ : ((⟨#[99, 108, 111, 99, 107]⟩ : ByteArray) == ⟨#[112, 97, 114, 101, 110, 116]⟩) = false := by decide
theorem zer_ : ((⟨#[99, 108, 111, 99, 107]⟩ : ByteArray) == ⟨#[114, 101, 118, 105, 115, 105, 111, 110]⟩) = false := by decide
theorem zes_ : ((⟨#[115, 116, 97, 114, 116]⟩ : ByteArray) == ⟨#[116, 114, 97, 99, 101]⟩) = false := by decide
theorem zet_ : ((⟨#[115, 116, 97, 114, 116]⟩ : ByteArray) == ⟨#[105, 100]⟩) = false := by decide
theorem zeu_ : ((⟨#[115, 116, 97, 114, 116]⟩ : ByteArray) == ⟨#[112, 97, 114, 101, 110, 116]⟩) = false := by decide
theorem zev_ : ((⟨#[115, 116, 97, 114, 116]⟩ : ByteArray) == ⟨#[114, 101, 118, 105, 115, 105, 111, 110]⟩) = false := by decide
theorem zew_ : ((⟨#[115, 116, 97, 114, 116]⟩ : ByteArray) == ⟨#[99, 108, 111, 99, 107]⟩) = false := by decide
theorem zex_ : ((⟨#[101, 110, 100]⟩ : ByteArray) == ⟨#[116, 114, 97, 99, 101]⟩) = false := by decide
theorem zey_ : ((⟨#[101, 110, 100]⟩ : ByteArray) == ⟨#[105, 100]⟩) = false := by decide
theorem zez_ : ((⟨#[101, 110, 100]⟩ : ByteArray) == ⟨#[112, 97, 114, 101, 110, 116]⟩) = false := by decide
theorem zfa_ : ((⟨#[101, 110, 100]⟩ : ByteArray) == ⟨#[114, 101, 118, 105, 115, 105, 111, 110]⟩) = false := by decide
theorem zfb_ : ((⟨#[101, 110, 100]⟩ : ByteArray) == ⟨#[99, 108, 111, 99, 107]⟩) = false := by decide
theorem zfc_ : ((⟨#[101, 110, 100]⟩ : ByteArray) == ⟨#[115, 116, 97, 114, 116]⟩) = false := by decide
theorem zfd_ : ((⟨#[100, 117, 114, 97, 116, 105, 111, 110]⟩ : ByteArray) == ⟨#[116, 114, 97, 99, 101]⟩) = false := by decide
theorem zfe_ : ((⟨#[100, 117, 114, 97, 116, 105, 111, 110]⟩ : ByteArray) == ⟨#[105, 100]⟩) = false := by decide
theorem zff_ : ((⟨#[100, 117, 114, 97, 116, 105, 111, 110]⟩ : ByteArray) == ⟨#[112, 97, 114, 101, 110, 116]⟩) = false := by decide
theorem zfg_ : ((⟨#[100, 117, 114, 97, 116, 105, 111, 110]⟩ : ByteArray) == ⟨#[114, 101, 118, 105, 115, 105, 111, 110]⟩) = false := by decide
theorem zfh_ : ((⟨#[100, 117, 114, 97, 116, 105, 111, 110]⟩ : ByteArray) == ⟨#[99, 108, 111, 99, 107]⟩) = false := by decide
theorem zfi_ : ((⟨#[100, 117, 114, 97, 116, 105, 111, 110]⟩ : ByteArray) == ⟨#[115, 116, 97, 114, 116]⟩) = false := by decide
theorem zfj_ : ((⟨#[100, 117, 114, 97, 116, 105, 111, 110]⟩ : ByteArray) == ⟨#[101, 110, 100]⟩) = false := by decide
theorem zfk_ : ((⟨#[115, 108, 111, 116]⟩ : ByteArray) == ⟨#[116, 114, 97, 99, 101]⟩) = false := by decide
theorem zfl_ : ((⟨#[115, 108, 111, 116]⟩ : ByteArray) == ⟨#[105, 100]⟩) = false := by decide
theorem zfm_ : ((⟨#[115, 108, 111, 116]⟩ : ByteArray) == ⟨#[112, 97, 114, 101, 110, 116]⟩) = false := by decide
theorem zfn_ : ((⟨#[115, 108, 111, 116]⟩ : ByteArray) == ⟨#[114, 101, 118, 105, 115, 105, 111, 110]⟩) = false := by decide
theorem zfo_ : ((⟨#[115, 108, 111, 116]⟩ : ByteArray) == ⟨#[99, 108, 111, 99, 107]⟩) = false := by decide
theorem zfp_ : ((⟨#[115, 108, 111, 116]⟩ : ByteArray) == ⟨#[115, 116, 97, 114, 116]⟩) = false := by decide
theorem zfq_ : ((⟨#[115, 108, 111, 116]⟩ : ByteArray) == ⟨#[101, 110, 100]⟩) = false := by decide
theorem zfr_ : ((⟨#[115, 108, 111, 116]⟩ : ByteArray) == ⟨#[100, 117, 114, 97, 116, 105, 111, 110]⟩) = false := by decide
theorem zbac_ (h : H) : run XP zbh_ [vs zaz_] h = some (.tup [vi 2, vb true], h) := by
  have h1 := fun h => zbx_ h
  have h2 := fun h => zcb_ h flds zaz_ (by decide)
  have h3 : decide (0 ≤ ixT flds zaz_ 0) = true := by decide
  rw [h3] at h2
  have e0 : (zaz_.toList == [107, 105, 110, 100]) = false := tl_f rfl
  have e1 : (zaz_.toList == [111, 112, 101, 114, 97, 116, 105, 111, 110]) = false := tl_f rfl
  have e2 : (zaz_.toList == [115, 101, 114, 118, 105, 99, 101]) = false := tl_f rfl
  have e3 : (zaz_.toList == [118, 101, 114, 115, 105, 111, 110]) = false := tl_f rfl
  have e4 : (zaz_.toList == [101, 114, 114, 111, 114]) = false := tl_f rfl
  have e5 : (zaz_.toList == [114, 111, 111, 116]) = false := tl_f rfl
  rw [run_eq, zca_]
  simp -implicitDefEqProofs [zbi_, h1, h2, e0, e1, e2, e3, e4, e5]
theorem zbad_ (h : H) : run XP zbh_ [vs zas_] h = some (.tup [vi 2, vb true], h) := by
  have h1 := fun h => zbx_ h
  have h2 := fun h => zcb_ h flds zas_ (by decide)
  have h3 : decide (0 ≤ ixT flds zas_ 0) = true := by decide
  rw [h3] at h2
  have e0 : (zas_.toList == [107, 105, 110, 100]) = false := tl_f rfl
  have e1 : (zas_.toList == [111, 112, 101, 114, 97, 116, 105, 111, 110]) = false := tl_f rfl
  have e2 : (zas_.toList == [115, 101, 114, 118, 105, 99, 101]) = false := tl_f rfl
  have e3 : (zas_.toList == [118, 101, 114, 115, 105, 111, 110]) = false := tl_f rfl
  have e4 : (zas_.toList == [101, 114, 114, 111, 114]) = false := tl_f rfl
  have e5 : (zas_.toList == [114, 111, 111, 116]) = false := tl_f rfl
  rw [run_eq, zca_]
  simp -implicitDefEqProofs [zbi_, h1, h2, e0, e1, e2, e3, e4, e5]
theorem kd_end (h : H) : run XP zbh_ [vs f_end] h = some (.tup [vi 2, vb true], h) := by
  have h1 := fun h => zbx_ h
  have h2 := fun h => zcb_ h flds f_end (by decide)
  have h3 : decide (0 ≤ ixT flds f_end 0) = true := by decide
  rw [h3] at h2
  have e0 : (f_end.toList == [107, 105, 110, 100]) = false := tl_f rfl
  have e1 : (f_end.toList == [111, 112, 101, 114, 97, 116, 105, 111, 110]) = false := tl_f rfl
  have e2 : (f_end.toList == [115, 101, 114, 118, 105, 99, 101]) = false := tl_f rfl
  have e3 : (f_end.toList == [118, 101, 114, 115, 105, 111, 110]) = false := tl_f rfl
  have e4 : (f_end.toList == [101, 114, 114, 111, 114]) = false := tl_f rfl
  have e5 : (f_end.toList == [114, 111, 111, 116]) = false := tl_f rfl
  rw [run_eq, zca_]
  simp -implicitDefEqProofs [zbi_, h1, h2, e0, e1, e2, e3, e4, e5]
theorem zbae_ (h : H) : run XP zbh_ [vs zbr_] h = some (.tup [vi 3, vb true], h) := by
  have h1 := fun h => zbx_ h
  have h2 := fun h => zcb_ h flds zbr_ (by decide)
  have h3 : decide (0 ≤ ixT flds zbr_ 0) = true := by decide
  rw [h3] at h2
  have e0 : (zbr_.toList == [107, 105, 110, 100]) = false := tl_f rfl
  have e1 : (zbr_.toList == [111, 112, 101, 114, 97, 116, 105, 111, 110]) = false := tl_f rfl
  have e2 : (zbr_.toList == [115, 101, 114, 118, 105, 99, 101]) = false := tl_f rfl
  have e3 : (zbr_.toList == [118, 101, 114, 115, 105, 111, 110]) = false := tl_f rfl
  have e4 : (zbr_.toList == [101, 114, 114, 111, 114]) = true := tl_t rfl
  rw [run_eq, zca_]
  simp -implicitDefEqProofs [zbi_, h1, h2, e0, e1, e2, e3, e4]
theorem kd_id (h : H) : run XP zbh_ [vs f_id] h = some (.tup [vi 2, vb true], h) := by
  have h1 := fun h => zbx_ h
  have h2 := fun h => zcb_ h flds f_id (by decide)
  have h3 : decide (0 ≤ ixT flds f_id 0) = true := by decide
  rw [h3] at h2
  have e0 : (f_id.toList == [107, 105, 110, 100]) = false := tl_f rfl
  have e1 : (f_id.toList == [111, 112, 101, 114, 97, 116, 105, 111, 110]) = false := tl_f rfl
  have e2 : (f_id.toList == [115, 101, 114, 118, 105, 99, 101]) = false := tl_f rfl
  have e3 : (f_id.toList == [118, 101, 114, 115, 105, 111, 110]) = false := tl_f rfl
  have e4 : (f_id.toList == [101, 114, 114, 111, 114]) = false := tl_f rfl
  have e5 : (f_id.toList == [114, 111, 111, 116]) = false := tl_f rfl
  rw [run_eq, zca_]
  simp -implicitDefEqProofs [zbi_, h1, h2, e0, e1, e2, e3, e4, e5]
theorem zbaf_ (h : H) : run XP zbh_ [vs f_kind] h = some (.tup [vi 1, vb true], h) := by
  have h1 := fun h => zbx_ h
  have h2 := fun h => zcb_ h flds f_kind (by decide)
  have h3 : decide (0 ≤ ixT flds f_kind 0) = true := by decide
  rw [h3] at h2
  have e0 : (f_kind.toList == [107, 105, 110, 100]) = true := tl_t rfl
  rw [run_eq, zca_]
  simp -implicitDefEqProofs [zbi_, h1, h2, e0]
theorem zbag_ (h : H) : run XP zbh_ [vs zcl_] h = some (.tup [vi 1, vb true], h) := by
  have h1 := fun h => zbx_ h
  have h2 := fun h => zcb_ h flds zcl_ (by decide)
  have h3 : decide (0 ≤ ixT flds zcl_ 0) = true := by decide
  rw [h3] at h2
  have e0 : (zcl_.toList == [107, 105, 110, 100]) = false := tl_f rfl
  have e1 : (zcl_.toList == [111, 112, 101, 114, 97, 116, 105, 111, 110]) = true := tl_t rfl
  rw [run_eq, zca_]
  simp -implicitDefEqProofs [zbi_, h1, h2, e0, e1]
theorem zbah_ (h : H) : run XP zbh_ [vs zax_] h = some (.tup [vi 2, vb true], h) := by
  have h1 := fun h => zbx_ h
  have h2 := fun h => zcb_ h flds zax_ (by decide)
  have h3 : decide (0 ≤ ixT flds zax_ 0) = true := by decide
  rw [h3] at h2
  have e0 : (zax_.toList == [107, 105, 110, 100]) = false := tl_f rfl
  have e1 : (zax_.toList == [111, 112, 101, 114, 97, 116, 105, 111, 110]) = false := tl_f rfl
  have e2 : (zax_.toList == [115, 101, 114, 118, 105, 99, 101]) = false := tl_f rfl
  have e3 : (zax_.toList == [118, 101, 114, 115, 105, 111, 110]) = false := tl_f rfl
  have e4 : (zax_.toList == [101, 114, 114, 111, 114]) = false := tl_f rfl
  have e5 : (zax_.toList == [114, 111, 111, 116]) = false := tl_f rfl
  rw [run_eq, zca_]
  simp -implicitDefEqProofs [zbi_, h1, h2, e0, e1, e2, e3, e4, e5]
theorem zbai_ (h : H) : run XP zbh_ [vs zat_] h = some (.tup [vi 2, vb true], h) := by
  have h1 := fun h => zbx_ h
  have h2 := fun h => zcb_ h flds zat_ (by decide)
  have h3 : decide (0 ≤ ixT flds zat_ 0) = true := by decide
  rw [h3] at h2
  have e0 : (zat_.toList == [107, 105, 110, 100]) = false := tl_f rfl
  have e1 : (zat_.toList == [111, 112, 101, 114, 97, 116, 105, 111, 110]) = false := tl_f rfl
  have e2 : (zat_.toList == [115, 101, 114, 118, 105, 99, 101]) = false := tl_f rfl
  have e3 : (zat_.toList == [118, 101, 114, 115, 105, 111, 110]) = false := tl_f rfl
  have e4 : (zat_.toList == [101, 114, 114, 111, 114]) = false := tl_f rfl
  have e5 : (zat_.toList == [114, 111, 111, 116]) = false := tl_f rfl
  rw [run_eq, zca_]
  simp -implicitDefEqProofs [zbi_, h1, h2, e0, e1, e2, e3, e4, e5]
theorem zbaj_ (h : H) : run XP zbh_ [vs f_root] h = some (.tup [vi 3, vb true], h) := by
  have h1 := fun h => zbx_ h
  have h2 := fun h => zcb_ h flds f_root (by decide)
  have h3 : decide (0 ≤ ixT flds f_root 0) = true := by decide
  rw [h3] at h2
  have e0 : (f_root.toList == [107, 105, 110, 100]) = false := tl_f rfl
  have e1 : (f_root.toList == [111, 112, 101, 114, 97, 116, 105, 111, 110]) = false := tl_f rfl
  have e2 : (f_root.toList == [115, 101, 114, 118, 105, 99, 101]) = false := tl_f rfl
  have e3 : (f_root.toList == [118, 101, 114, 115, 105, 111, 110]) = false := tl_f rfl
  have e4 : (f_root.toList == [101, 114, 114, 111, 114]) = false := tl_f rfl
  have e5 : (f_root.toList == [114, 111, 111, 116]) = true := tl_t rfl
  rw [run_eq, zca_]
  simp -implicitDefEqProofs [zbi_, h1, h2, e0, e1, e2, e3, e4, e5]
theorem zbak_ (h : H) : run XP zbh_ [vs zcm_] h = some (.tup [vi 1, vb true], h) := by
  have h1 := fun h => zbx_ h
  have h2 := fun h => zcb_ h flds zcm_ (by decide)
  have h3 : decide (0 ≤ ixT flds zcm_ 0) = true := by decide
  rw [h3] at h2
  have e0 : (zcm_.toList == [107, 105, 110, 100]) = false := tl_f rfl
  have e1 : (zcm_.toList == [111, 112, 101, 114, 97, 116, 105, 111, 110]) = false := tl_f rfl
  have e2 : (zcm_.toList == [115, 101, 114, 118, 105, 99, 101]) = true := tl_t rfl
  rw [run_eq, zca_]
  simp -implicitDefEqProofs [zbi_, h1, h2, e0, e1, e2]
theorem zbal_ (h : H) : run XP zbh_ [vs f_slot] h = some (.tup [vi 2, vb true], h) := by
  have h1 := fun h => zbx_ h
  have h2 := fun h => zcb_ h flds f_slot (by decide)
  have h3 : decide (0 ≤ ixT flds f_slot 0) = true := by decide
  rw [h3] at h2
  have e0 : (f_slot.toList == [107, 105, 110, 100]) = false := tl_f rfl
  have e1 : (f_slot.toList == [111, 112, 101, 114, 97, 116, 105, 111, 110]) = false := tl_f rfl
  have e2 : (f_slot.toList == [115, 101, 114, 118, 105, 99, 101]) = false := tl_f rfl
  have e3 : (f_slot.toList == [118, 101, 114, 115, 105, 111, 110]) = false := tl_f rfl
  have e4 : (f_slot.toList == [101, 114, 114, 111, 114]) = false := tl_f rfl
  have e5 : (f_slot.toList == [114, 111, 111, 116]) = false := tl_f rfl
  rw [run_eq, zca_]
  simp -implicitDefEqProofs [zbi_, h1, h2, e0, e1, e2, e3, e4, e5]
theorem zbam_ (h : H) : run XP zbh_ [vs zao_] h = some (.tup [vi 2, vb true], h) := by
  have h1 := fun h => zbx_ h
  have h2 := fun h => zcb_ h flds zao_ (by decide)
  have h3 : decide (0 ≤ ixT flds zao_ 0) = true := by decide
  rw [h3] at h2
  have e0 : (zao_.toList == [107, 105, 110, 100]) = false := tl_f rfl
  have e1 : (zao_.toList == [111, 112, 101, 114, 97, 116, 105, 111, 110]) = false := tl_f rfl
  have e2 : (zao_.toList == [115, 101, 114, 118, 105, 99, 101]) = false := tl_f rfl
  have e3 : (zao_.toList == [118, 101, 114, 115, 105, 111, 110]) = false := tl_f rfl
  have e4 : (zao_.toList == [101, 114, 114, 111, 114]) = false := tl_f rfl
  have e5 : (zao_.toList == [114, 111, 111, 116]) = false := tl_f rfl
  rw [run_eq, zca_]
  simp -implicitDefEqProofs [zbi_, h1, h2, e0, e1, e2, e3, e4, e5]
theorem zban_ (h : H) : run XP zbh_ [vs zav_] h = some (.tup [vi 2, vb true], h) := by
  have h1 := fun h => zbx_ h
  have h2 := fun h => zcb_ h flds zav_ (by decide)
  have h3 : decide (0 ≤ ixT flds zav_ 0) = true := by decide
  rw [h3] at h2
  have e0 : (zav_.toList == [107, 105, 110, 100]) = false := tl_f rfl
  have e1 : (zav_.toList == [111, 112, 101, 114, 97, 116, 105, 111, 110]) = false := tl_f rfl
  have e2 : (zav_.toList == [115, 101, 114, 118, 105, 99, 101]) = false := tl_f rfl
  have e3 : (zav_.toList == [118, 101, 114, 115, 105, 111, 110]) = false := tl_f rfl
  have e4 : (zav_.toList == [101, 114, 114, 111, 114]) = false := tl_f rfl
  have e5 : (zav_.toList == [114, 111, 111, 116]) = false := tl_f rfl
  rw [run_eq, zca_]
  simp -implicitDefEqProofs [zbi_, h1, h2, e0, e1, e2, e3, e4, e5]
theorem zbao_ (h : H) : run XP zbh_ [vs zcc_] h = some (.tup [vi 1, vb true], h) := by
  have h1 := fun h => zbx_ h
  have h2 := fun h => zcb_ h flds zcc_ (by decide)
  have h3 : decide (0 ≤ ixT flds zcc_ 0) = true := by decide
  rw [h3] at h2
  have e0 : (zcc_.toList == [107, 105, 110, 100]) = false := tl_f rfl
  have e1 : (zcc_.toList == [111, 112, 101, 114, 97, 116, 105, 111, 110]) = false := tl_f rfl
  have e2 : (zcc_.toList == [115, 101, 114, 118, 105, 99, 101]) = false := tl_f rfl
  have e3 : (zcc_.toList == [118, 101, 114, 115, 105, 111, 110]) = true := tl_t rfl
  rw [run_eq, zca_]
  simp -implicitDefEqProofs [zbi_, h1, h2, e0, e1, e2, e3]
theorem zcjx_ (h : H) (a : SP) : run XP zdd_ [a.v, vs zaz_] h = some (vi (a.clk), h) := by
  have e0 : (zaz_.toList == [99, 108, 111, 99, 107]) = true := tl_t rfl
  rw [run_eq, zdy_]
  simp -implicitDefEqProofs [zcs_, SP.v, e0]
theorem zcjy_ (h : H) (a : SP) : run XP zay_ [a.v, vs zaz_, vs ⟨#[]⟩] h = some (.tup [.agg [vi 2, vs ⟨#[]⟩, vi (a.clk)], vb true], h) := by
  have h1 := fun h => zbac_ h
  have e0 : (zaz_.toList == [97, 116, 116, 114]) = false := tl_f rfl
  have h2 := fun h => zcjx_ h a
  simp only [SP.v] at h2
  rw [run_eq, zbw_]
  simp -implicitDefEqProofs [zbc_, SP.v, h1, e0, h2]
theorem zcjz_ (h : H) (a : SP) : run XP zdd_ [a.v, vs zas_] h = some (vi (IntKind.i64.wrap (a.en - a.st)), h) := by
  have e0 : (zas_.toList == [99, 108, 111, 99, 107]) = false := tl_f rfl
  have e1 : (zas_.toList == [100, 117, 114, 97, 116, 105, 111, 110]) = true := tl_t rfl
  have h1 := fun h => zbab_ h a
  simp only [SP.v] at h1
  rw [run_eq, zdy_]
  simp -implicitDefEqProofs [zcs_, SP.v, e0, e1, h1]
theorem zcka_ (h : H) (a : SP) : run XP zay_ [a.v, vs zas_, vs ⟨#[]⟩] h = some (.tup [.agg [vi 2, vs ⟨#[]⟩, vi (IntKind.i64.wrap (a.en - a.st))], vb true], h) := by
  have h1 := fun h => zbad_ h
  have e0 : (zas_.toList == [97, 116, 116, 114]) = false := tl_f rfl
  have h2 := fun h => zcjz_ h a
  simp only [SP.v] at h2
  rw [run_eq, zbw_]
  simp -implicitDefEqProofs [zbc_, SP.v, h1, e0, h2]
theorem nb_end (h : H) (a : SP) : run XP zdd_ [a.v, vs f_end] h = some (vi (a.en), h) := by
  have e0 : (f_end.toList == [99, 108, 111, 99, 107]) = false := tl_f rfl
  have e1 : (f_end.toList == [100, 117, 114, 97, 116, 105, 111, 110]) = false := tl_f rfl
  have e2 : (f_end.toList == [101, 110, 100]) = true := tl_t rfl
  rw [run_eq, zdy_]
  simp -implicitDefEqProofs [zcs_, SP.v, e0, e1, e2]
theorem vl_end (h : H) (a : SP) : run XP zay_ [a.v, vs f_end, vs ⟨#[]⟩] h = some (.tup [.agg [vi 2, vs ⟨#[]⟩, vi (a.en)], vb true], h) := by
  have h1 := fun h => kd_end h
  have e0 : (f_end.toList == [97, 116, 116, 114]) = false := tl_f rfl
  have h2 := fun h => nb_end h a
  simp only [SP.v] at h2
  rw [run_eq, zbw_]
  simp -implicitDefEqProofs [zbc_, SP.v, h1, e0, h2]
theorem zckb_ (h : H) (a : SP) : run XP zay_ [a.v, vs zbr_, vs ⟨#[]⟩] h = some (.tup [.agg [vi 3, vs ⟨#[]⟩, vi (flg a.er)], vb true], h) := by
  have h1 := fun h => zbae_ h
  have e0 : (zbr_.toList == [97, 116, 116, 114]) = false := tl_f rfl
  have d0 : (zbr_.toList == [101, 114, 114, 111, 114]) = true := tl_t rfl
  have d1 : (zbr_.toList == [114, 111, 111, 116]) = false := tl_f rfl
  have h2 := fun h b => zpr_ h b
  rw [run_eq, zbw_]
  cases her : a.er <;> simp -implicitDefEqProofs [zbc_, SP.v, h1, e0, d0, d1, h2, her, flg]
theorem nb_id (h : H) (a : SP) : run XP zdd_ [a.v, vs f_id] h = some (vi (a.id), h) := by
  have e0 : (f_id.toList == [99, 108, 111, 99, 107]) = false := tl_f rfl
  have e1 : (f_id.toList == [100, 117, 114, 97, 116, 105, 111, 110]) = false := tl_f rfl
  have e2 : (f_id.toList == [101, 110, 100]) = false := tl_f rfl
  have e3 : (f_id.toList == [105, 100]) = true := tl_t rfl
  rw [run_eq, zdy_]
  simp -implicitDefEqProofs [zcs_, SP.v, e0, e1, e2, e3]
theorem vl_id (h : H) (a : SP) : run XP zay_ [a.v, vs f_id, vs ⟨#[]⟩] h = some (.tup [.agg [vi 2, vs ⟨#[]⟩, vi (a.id)], vb true], h) := by
  have h1 := fun h => kd_id h
  have e0 : (f_id.toList == [97, 116, 116, 114]) = false := tl_f rfl
  have h2 := fun h => nb_id h a
  simp only [SP.v] at h2
  rw [run_eq, zbw_]
  simp -implicitDefEqProofs [zbc_, SP.v, h1, e0, h2]
theorem zckc_ (h : H) (a : SP) {j : Nat} {q : ByteArray} (hj : kNs[j]? = some q) (hk : a.kind = (j : Int) + 1) : run XP ziv_ [a.v, vs f_kind] h = some (vs q, h) := by
  have e0 : (f_kind.toList == [107, 105, 110, 100]) = true := tl_t rfl
  have h1 := fun h => zcjv_ h hj
  rw [run_eq, zpo_]
  simp -implicitDefEqProofs [zgo_, SP.v, e0, h1, hk]
theorem zckd_ (h : H) (a : SP) {j : Nat} {q : ByteArray} (hj : kNs[j]? = some q) (hk : a.kind = (j : Int) + 1) : run XP zay_ [a.v, vs f_kind, vs ⟨#[]⟩] h = some (.tup [.agg [vi 1, vs q, vi 0], vb true], h) := by
  have h1 := fun h => zbaf_ h
  have e0 : (f_kind.toList == [97, 116, 116, 114]) = false := tl_f rfl
  have h2 := fun h => zckc_ h a hj hk
  simp only [SP.v] at h2
  rw [run_eq, zbw_]
  simp -implicitDefEqProofs [zbc_, SP.v, h1, e0, h2]
theorem zcke_ (h : H) (a : SP) : run XP ziv_ [a.v, vs zcl_] h = some (vs a.op, h) := by
  have e0 : (zcl_.toList == [107, 105, 110, 100]) = false := tl_f rfl
  have e1 : (zcl_.toList == [111, 112, 101, 114, 97, 116, 105, 111, 110]) = true := tl_t rfl
  rw [run_eq, zpo_]
  simp -implicitDefEqProofs [zgo_, SP.v, e0, e1]
theorem zckf_ (h : H) (a : SP) : run XP zay_ [a.v, vs zcl_, vs ⟨#[]⟩] h = some (.tup [.agg [vi 1, vs a.op, vi 0], vb true], h) := by
  have h1 := fun h => zbag_ h
  have e0 : (zcl_.toList == [97, 116, 116, 114]) = false := tl_f rfl
  have h2 := fun h => zcke_ h a
  simp only [SP.v] at h2
  rw [run_eq, zbw_]
  simp -implicitDefEqProofs [zbc_, SP.v, h1, e0, h2]
theorem zckg_ (h : H) (a : SP) : run XP zdd_ [a.v, vs zax_] h = some (vi (a.par), h) := by
  have e0 : (zax_.toList == [99, 108, 111, 99, 107]) = false := tl_f rfl
  have e1 : (zax_.toList == [100, 117, 114, 97, 116, 105, 111, 110]) = false := tl_f rfl
  have e2 : (zax_.toList == [101, 110, 100]) = false := tl_f rfl
  have e3 : (zax_.toList == [105, 100]) = false := tl_f rfl
  have e4 : (zax_.toList == [112, 97, 114, 101, 110, 116]) = true := tl_t rfl
  rw [run_eq, zdy_]
  simp -implicitDefEqProofs [zcs_, SP.v, e0, e1, e2, e3, e4]
theorem zckh_ (h : H) (a : SP) : run XP zay_ [a.v, vs zax_, vs ⟨#[]⟩] h = some (.tup [.agg [vi 2, vs ⟨#[]⟩, vi (a.par)], vb true], h) := by
  have h1 := fun h => zbah_ h
  have e0 : (zax_.toList == [97, 116, 116, 114]) = false := tl_f rfl
  have h2 := fun h => zckg_ h a
  simp only [SP.v] at h2
  rw [run_eq, zbw_]
  simp -implicitDefEqProofs [zbc_, SP.v, h1, e0, h2]
theorem zcki_ (h : H) (a : SP) : run XP zdd_ [a.v, vs zat_] h = some (vi (a.rev), h) := by
  have e0 : (zat_.toList == [99, 108, 111, 99, 107]) = false := tl_f rfl
  have e1 : (zat_.toList == [100, 117, 114, 97, 116, 105, 111, 110]) = false := tl_f rfl
  have e2 : (zat_.toList == [101, 110, 100]) = false := tl_f rfl
  have e3 : (zat_.toList == [105, 100]) = false := tl_f rfl
  have e4 : (zat_.toList == [112, 97, 114, 101, 110, 116]) = false := tl_f rfl
  have e5 : (zat_.toList == [114, 101, 118, 105, 115, 105, 111, 110]) = true := tl_t rfl
  rw [run_eq, zdy_]
  simp -implicitDefEqProofs [zcs_, SP.v, e0, e1, e2, e3, e4, e5]
theorem zckj_ (h : H) (a : SP) : run XP zay_ [a.v, vs zat_, vs ⟨#[]⟩] h = some (.tup [.agg [vi 2, vs ⟨#[]⟩, vi (a.rev)], vb true], h) := by
  have h1 := fun h => zbai_ h
  have e0 : (zat_.toList == [97, 116, 116, 114]) = false := tl_f rfl
  have h2 := fun h => zcki_ h a
  simp only [SP.v] at h2
  rw [run_eq, zbw_]
  simp -implicitDefEqProofs [zbc_, SP.v, h1, e0, h2]
theorem zckk_ (h : H) (a : SP) : run XP zay_ [a.v, vs f_root, vs ⟨#[]⟩] h = some (.tup [.agg [vi 3, vs ⟨#[]⟩, vi (flg (a.par == 0))], vb true], h) := by
  have h1 := fun h => zbaj_ h
  have e0 : (f_root.toList == [97, 116, 116, 114]) = false := tl_f rfl
  have d0 : (f_root.toList == [101, 114, 114, 111, 114]) = false := tl_f rfl
  have d1 : (f_root.toList == [114, 111, 111, 116]) = true := tl_t rfl
  have h2 := fun h b => zpr_ h b
  rw [run_eq, zbw_]
  simp -implicitDefEqProofs [zbc_, SP.v, h1, e0, d0, d1, h2]
theorem zckl_ (h : H) (a : SP) : run XP ziv_ [a.v, vs zcm_] h = some (vs a.sv, h) := by
  have e0 : (zcm_.toList == [107, 105, 110, 100]) = false := tl_f rfl
  have e1 : (zcm_.toList == [111, 112, 101, 114, 97, 116, 105, 111, 110]) = false := tl_f rfl
  have e2 : (zcm_.toList == [115, 101, 114, 118, 105, 99, 101]) = true := tl_t rfl
  rw [run_eq, zpo_]
  simp -implicitDefEqProofs [zgo_, SP.v, e0, e1, e2]
theorem zckm_ (h : H) (a : SP) : run XP zay_ [a.v, vs zcm_, vs ⟨#[]⟩] h = some (.tup [.agg [vi 1, vs a.sv, vi 0], vb true], h) := by
  have h1 := fun h => zbak_ h
  have e0 : (zcm_.toList == [97, 116, 116, 114]) = false := tl_f rfl
  have h2 := fun h => zckl_ h a
  simp only [SP.v] at h2
  rw [run_eq, zbw_]
  simp -implicitDefEqProofs [zbc_, SP.v, h1, e0, h2]
theorem zckn_ (h : H) (a : SP) : run XP zdd_ [a.v, vs f_slot] h = some (vi (a.tr.fdiv 1048576), h) := by
  have e0 : (f_slot.toList == [99, 108, 111, 99, 107]) = false := tl_f rfl
  have e1 : (f_slot.toList == [100, 117, 114, 97, 116, 105, 111, 110]) = false := tl_f rfl
  have e2 : (f_slot.toList == [101, 110, 100]) = false := tl_f rfl
  have e3 : (f_slot.toList == [105, 100]) = false := tl_f rfl
  have e4 : (f_slot.toList == [112, 97, 114, 101, 110, 116]) = false := tl_f rfl
  have e5 : (f_slot.toList == [114, 101, 118, 105, 115, 105, 111, 110]) = false := tl_f rfl
  have e6 : (f_slot.toList == [115, 108, 111, 116]) = true := tl_t rfl
  have h1 := fun h => zbaa_ h a.tr
  rw [run_eq, zdy_]
  simp -implicitDefEqProofs [zcs_, SP.v, e0, e1, e2, e3, e4, e5, e6, h1]
theorem zcko_ (h : H) (a : SP) : run XP zay_ [a.v, vs f_slot, vs ⟨#[]⟩] h = some (.tup [.agg [vi 2, vs ⟨#[]⟩, vi (a.tr.fdiv 1048576)], vb true], h) := by
  have h1 := fun h => zbal_ h
  have e0 : (f_slot.toList == [97, 116, 116, 114]) = false := tl_f rfl
  have h2 := fun h => zckn_ h a
  simp only [SP.v] at h2
  rw [run_eq, zbw_]
  simp -implicitDefEqProofs [zbc_, SP.v, h1, e0, h2]
theorem zckp_ (h : H) (a : SP) : run XP zdd_ [a.v, vs zao_] h = some (vi (a.st), h) := by
  have e0 : (zao_.toList == [99, 108, 111, 99, 107]) = false := tl_f rfl
  have e1 : (zao_.toList == [100, 117, 114, 97, 116, 105, 111, 110]) = false := tl_f rfl
  have e2 : (zao_.toList == [101, 110, 100]) = false := tl_f rfl
  have e3 : (zao_.toList == [105, 100]) = false := tl_f rfl
  have e4 : (zao_.toList == [112, 97, 114, 101, 110, 116]) = false := tl_f rfl
  have e5 : (zao_.toList == [114, 101, 118, 105, 115, 105, 111, 110]) = false := tl_f rfl
  have e6 : (zao_.toList == [115, 108, 111, 116]) = false := tl_f rfl
  have e7 : (zao_.toList == [115, 116, 97, 114, 116]) = true := tl_t rfl
  rw [run_eq, zdy_]
  simp -implicitDefEqProofs [zcs_, SP.v, e0, e1, e2, e3, e4, e5, e6, e7]
theorem zckq_ (h : H) (a : SP) : run XP zay_ [a.v, vs zao_, vs ⟨#[]⟩] h = some (.tup [.agg [vi 2, vs ⟨#[]⟩, vi (a.st)], vb true], h) := by
  have h1 := fun h => zbam_ h
  have e0 : (zao_.toList == [97, 116, 116, 114]) = false := tl_f rfl
  have h2 := fun h => zckp_ h a
  simp only [SP.v] at h2
  rw [run_eq, zbw_]
  simp -implicitDefEqProofs [zbc_, SP.v, h1, e0, h2]
theorem zckr_ (h : H) (a : SP) : run XP zdd_ [a.v, vs zav_] h = some (vi (a.tr), h) := by
  have e0 : (zav_.toList == [99, 108, 111, 99, 107]) = false := tl_f rfl
  have e1 : (zav_.toList == [100, 117, 114, 97, 116, 105, 111, 110]) = false := tl_f rfl
  have e2 : (zav_.toList == [101, 110, 100]) = false := tl_f rfl
  have e3 : (zav_.toList == [105, 100]) = false := tl_f rfl
  have e4 : (zav_.toList == [112, 97, 114, 101, 110, 116]) = false := tl_f rfl
  have e5 : (zav_.toList == [114, 101, 118, 105, 115, 105, 111, 110]) = false := tl_f rfl
  have e6 : (zav_.toList == [115, 108, 111, 116]) = false := tl_f rfl
  have e7 : (zav_.toList == [115, 116, 97, 114, 116]) = false := tl_f rfl
  rw [run_eq, zdy_]
  simp -implicitDefEqProofs [zcs_, SP.v, e0, e1, e2, e3, e4, e5, e6, e7]
theorem zcks_ (h : H) (a : SP) : run XP zay_ [a.v, vs zav_, vs ⟨#[]⟩] h = some (.tup [.agg [vi 2, vs ⟨#[]⟩, vi (a.tr)], vb true], h) := by
  have h1 := fun h => zban_ h
  have e0 : (zav_.toList == [97, 116, 116, 114]) = false := tl_f rfl
  have h2 := fun h => zckr_ h a
  simp only [SP.v] at h2
  rw [run_eq, zbw_]
  simp -implicitDefEqProofs [zbc_, SP.v, h1, e0, h2]
theorem zckt_ (h : H) (a : SP) : run XP ziv_ [a.v, vs zcc_] h = some (vs a.vr, h) := by
  have e0 : (zcc_.toList == [107, 105, 110, 100]) = false := tl_f rfl
  have e1 : (zcc_.toList == [111, 112, 101, 114, 97, 116, 105, 111, 110]) = false := tl_f rfl
  have e2 : (zcc_.toList == [115, 101, 114, 118, 105, 99, 101]) = false := tl_f rfl
  rw [run_eq, zpo_]
  simp -implicitDefEqProofs [zgo_, SP.v, e0, e1, e2]
theorem zcku_ (h : H) (a : SP) : run XP zay_ [a.v, vs zcc_, vs ⟨#[]⟩] h = some (.tup [.agg [vi 1, vs a.vr, vi 0], vb true], h) := by
  have h1 := fun h => zbao_ h
  have e0 : (zcc_.toList == [97, 116, 116, 114]) = false := tl_f rfl
  have h2 := fun h => zckt_ h a
  simp only [SP.v] at h2
  rw [run_eq, zbw_]
  simp -implicitDefEqProofs [zbc_, SP.v, h1, e0, h2]
end Go.Proofs.Sl
namespace Go.Proofs.Sl
theorem zckv_ (h : H) (a : SP) : run XP zbv_ [a.v, vs zaz_] h = some (.agg [vi 2, vs ⟨#[]⟩, vi (a.clk)], h) := by
  have q0 : (zaz_ == (⟨#[115, 101, 114, 118, 105, 99, 101]⟩ : ByteArray)) = false := by decide
  have q1 : (zaz_ == (⟨#[118, 101, 114, 115, 105, 111, 110]⟩ : ByteArray)) = false := by decide
  have q2 : (zaz_ == (⟨#[111, 112, 101, 114, 97, 116, 105, 111, 110]⟩ : ByteArray)) = false := by decide
  have e0 : (zaz_.toList == [107, 105, 110, 100]) = false := tl_f rfl
  have e1 : (zaz_.toList == [101, 114, 114, 111, 114]) = false := tl_f rfl
  have e2 : (zaz_.toList == [114, 111, 111, 116]) = false := tl_f rfl
  have r0 : (zaz_ == (⟨#[116, 114, 97, 99, 101]⟩ : ByteArray)) = false := by decide
  have r1 : (zaz_ == (⟨#[105, 100]⟩ : ByteArray)) = false := by decide
  have r2 : (zaz_ == (⟨#[112, 97, 114, 101, 110, 116]⟩ : ByteArray)) = false := by decide
  have r3 : (zaz_ == (⟨#[114, 101, 118, 105, 115, 105, 111, 110]⟩ : ByteArray)) = false := by decide
  have r4 : (zaz_ == (⟨#[99, 108, 111, 99, 107]⟩ : ByteArray)) = true := by decide
  rw [run_eq, zci_]
  simp -implicitDefEqProofs [zbp_, SP.v, xmput, xmget, mapAt, mapEls, mapPut, zbm_, keyVal, keyEq, V.closed, q0, q1, q2, zcn_, zco_, zcp_, e0, e1, e2, r0, r1, r2, r3, r4, zei_, zej_, zek_, zel_, zem_, zen_, zeo_, zep_, zeq_, zer_, zes_, zet_, zeu_, zev_, zew_, zex_, zey_, zez_, zfa_, zfb_, zfc_, zfd_, zfe_, zff_, zfg_, zfh_, zfi_, zfj_, zfk_, zfl_, zfm_, zfn_, zfo_, zfp_, zfq_, zfr_]
theorem zckw_ (h : H) (a : SP) : run XP zbv_ [a.v, vs zas_] h = some (.agg [vi 2, vs ⟨#[]⟩, vi (IntKind.i64.wrap (a.en - a.st))], h) := by
  have q0 : (zas_ == (⟨#[115, 101, 114, 118, 105, 99, 101]⟩ : ByteArray)) = false := by decide
  have q1 : (zas_ == (⟨#[118, 101, 114, 115, 105, 111, 110]⟩ : ByteArray)) = false := by decide
  have q2 : (zas_ == (⟨#[111, 112, 101, 114, 97, 116, 105, 111, 110]⟩ : ByteArray)) = false := by decide
  have e0 : (zas_.toList == [107, 105, 110, 100]) = false := tl_f rfl
  have e1 : (zas_.toList == [101, 114, 114, 111, 114]) = false := tl_f rfl
  have e2 : (zas_.toList == [114, 111, 111, 116]) = false := tl_f rfl
  have r0 : (zas_ == (⟨#[116, 114, 97, 99, 101]⟩ : ByteArray)) = false := by decide
  have r1 : (zas_ == (⟨#[105, 100]⟩ : ByteArray)) = false := by decide
  have r2 : (zas_ == (⟨#[112, 97, 114, 101, 110, 116]⟩ : ByteArray)) = false := by decide
  have r3 : (zas_ == (⟨#[114, 101, 118, 105, 115, 105, 111, 110]⟩ : ByteArray)) = false := by decide
  have r4 : (zas_ == (⟨#[99, 108, 111, 99, 107]⟩ : ByteArray)) = false := by decide
  have r5 : (zas_ == (⟨#[115, 116, 97, 114, 116]⟩ : ByteArray)) = false := by decide
  have r6 : (zas_ == (⟨#[101, 110, 100]⟩ : ByteArray)) = false := by decide
  have r7 : (zas_ == (⟨#[100, 117, 114, 97, 116, 105, 111, 110]⟩ : ByteArray)) = true := by decide
  rw [run_eq, zci_]
  simp -implicitDefEqProofs [zbp_, SP.v, xmput, xmget, mapAt, mapEls, mapPut, zbm_, keyVal, keyEq, V.closed, q0, q1, q2, zcn_, zco_, zcp_, e0, e1, e2, r0, r1, r2, r3, r4, r5, r6, r7, zei_, zej_, zek_, zel_, zem_, zen_, zeo_, zep_, zeq_, zer_, zes_, zet_, zeu_, zev_, zew_, zex_, zey_, zez_, zfa_, zfb_, zfc_, zfd_, zfe_, zff_, zfg_, zfh_, zfi_, zfj_, zfk_, zfl_, zfm_, zfn_, zfo_, zfp_, zfq_, zfr_]
theorem lv_end (h : H) (a : SP) : run XP zbv_ [a.v, vs f_end] h = some (.agg [vi 2, vs ⟨#[]⟩, vi (a.en)], h) := by
  have q0 : (f_end == (⟨#[115, 101, 114, 118, 105, 99, 101]⟩ : ByteArray)) = false := by decide
  have q1 : (f_end == (⟨#[118, 101, 114, 115, 105, 111, 110]⟩ : ByteArray)) = false := by decide
  have q2 : (f_end == (⟨#[111, 112, 101, 114, 97, 116, 105, 111, 110]⟩ : ByteArray)) = false := by decide
  have e0 : (f_end.toList == [107, 105, 110, 100]) = false := tl_f rfl
  have e1 : (f_end.toList == [101, 114, 114, 111, 114]) = false := tl_f rfl
  have e2 : (f_end.toList == [114, 111, 111, 116]) = false := tl_f rfl
  have r0 : (f_end == (⟨#[116, 114, 97, 99, 101]⟩ : ByteArray)) = false := by decide
  have r1 : (f_end == (⟨#[105, 100]⟩ : ByteArray)) = false := by decide
  have r2 : (f_end == (⟨#[112, 97, 114, 101, 110, 116]⟩ : ByteArray)) = false := by decide
  have r3 : (f_end == (⟨#[114, 101, 118, 105, 115, 105, 111, 110]⟩ : ByteArray)) = false := by decide
  have r4 : (f_end == (⟨#[99, 108, 111, 99, 107]⟩ : ByteArray)) = false := by decide
  have r5 : (f_end == (⟨#[115, 116, 97, 114, 116]⟩ : ByteArray)) = false := by decide
  have r6 : (f_end == (⟨#[101, 110, 100]⟩ : ByteArray)) = true := by decide
  rw [run_eq, zci_]
  simp -implicitDefEqProofs [zbp_, SP.v, xmput, xmget, mapAt, mapEls, mapPut, zbm_, keyVal, keyEq, V.closed, q0, q1, q2, zcn_, zco_, zcp_, e0, e1, e2, r0, r1, r2, r3, r4, r5, r6, zei_, zej_, zek_, zel_, zem_, zen_, zeo_, zep_, zeq_, zer_, zes_, zet_, zeu_, zev_, zew_, zex_, zey_, zez_, zfa_, zfb_, zfc_, zfd_, zfe_, zff_, zfg_, zfh_, zfi_, zfj_, zfk_, zfl_, zfm_, zfn_, zfo_, zfp_, zfq_, zfr_]
theorem zckx_ (h : H) (a : SP) : run XP zbv_ [a.v, vs zbr_] h = some (.agg [vi 3, vs ⟨#[]⟩, vi (flg a.er)], h) := by
  have q0 : (zbr_ == (⟨#[115, 101, 114, 118, 105, 99, 101]⟩ : ByteArray)) = false := by decide
  have q1 : (zbr_ == (⟨#[118, 101, 114, 115, 105, 111, 110]⟩ : ByteArray)) = false := by decide
  have q2 : (zbr_ == (⟨#[111, 112, 101, 114, 97, 116, 105, 111, 110]⟩ : ByteArray)) = false := by decide
  have e0 : (zbr_.toList == [107, 105, 110, 100]) = false := tl_f rfl
  have e1 : (zbr_.toList == [101, 114, 114, 111, 114]) = true := tl_t rfl
  have h2 := fun h b => zps_ h b
  rw [run_eq, zci_]
  simp -implicitDefEqProofs [zbp_, SP.v, xmput, xmget, mapAt, mapEls, mapPut, zbm_, keyVal, keyEq, V.closed, q0, q1, q2, zcn_, zco_, zcp_, e0, e1, h2]
theorem lv_id (h : H) (a : SP) : run XP zbv_ [a.v, vs f_id] h = some (.agg [vi 2, vs ⟨#[]⟩, vi (a.id)], h) := by
  have q0 : (f_id == (⟨#[115, 101, 114, 118, 105, 99, 101]⟩ : ByteArray)) = false := by decide
  have q1 : (f_id == (⟨#[118, 101, 114, 115, 105, 111, 110]⟩ : ByteArray)) = false := by decide
  have q2 : (f_id == (⟨#[111, 112, 101, 114, 97, 116, 105, 111, 110]⟩ : ByteArray)) = false := by decide
  have e0 : (f_id.toList == [107, 105, 110, 100]) = false := tl_f rfl
  have e1 : (f_id.toList == [101, 114, 114, 111, 114]) = false := tl_f rfl
  have e2 : (f_id.toList == [114, 111, 111, 116]) = false := tl_f rfl
  have r0 : (f_id == (⟨#[116, 114, 97, 99, 101]⟩ : ByteArray)) = false := by decide
  have r1 : (f_id == (⟨#[105, 100]⟩ : ByteArray)) = true := by decide
  rw [run_eq, zci_]
  simp -implicitDefEqProofs [zbp_, SP.v, xmput, xmget, mapAt, mapEls, mapPut, zbm_, keyVal, keyEq, V.closed, q0, q1, q2, zcn_, zco_, zcp_, e0, e1, e2, r0, r1, zei_, zej_, zek_, zel_, zem_, zen_, zeo_, zep_, zeq_, zer_, zes_, zet_, zeu_, zev_, zew_, zex_, zey_, zez_, zfa_, zfb_, zfc_, zfd_, zfe_, zff_, zfg_, zfh_, zfi_, zfj_, zfk_, zfl_, zfm_, zfn_, zfo_, zfp_, zfq_, zfr_]
theorem zcky_ (h : H) (a : SP) {j : Nat} {q : ByteArray} (hj : kNs[j]? = some q) (hk : a.kind = (j : Int) + 1) : run XP zbv_ [a.v, vs f_kind] h = some (.agg [vi 1, vs q, vi 0], h) := by
  have q0 : (f_kind == (⟨#[115, 101, 114, 118, 105, 99, 101]⟩ : ByteArray)) = false := by decide
  have q1 : (f_kind == (⟨#[118, 101, 114, 115, 105, 111, 110]⟩ : ByteArray)) = false := by decide
  have q2 : (f_kind == (⟨#[111, 112, 101, 114, 97, 116, 105, 111, 110]⟩ : ByteArray)) = false := by decide
  have e0 : (f_kind.toList == [107, 105, 110, 100]) = true := tl_t rfl
  have h1 := fun h => zcju_ h
  have hlt : j < 5 := (List.getElem?_eq_some_iff.1 hj).1
  have hw : IntKind.i64.wrap (j : Int) = (j : Int) := zan_ (by omega) (by omega)
  have hv : ∀ h, Rd h 1 (.lst 1 (kNs.map vs)) (kNs.map vs) := fun h => .lst _
  have c3 : (0 : Int) ≤ (j : Int) := by omega
  rw [run_eq, zci_]
  simp -implicitDefEqProofs [zbp_, SP.v, xmput, xmget, mapAt, mapEls, mapPut, zbm_, keyVal, keyEq, V.closed, q0, q1, q2, zcn_, zco_, zcp_, e0, h1, hk, hw, hj, c3, zcq_, optEq]
theorem zckz_ (h : H) (a : SP) : run XP zbv_ [a.v, vs zcl_] h = some (.agg [vi 1, vs a.op, vi 0], h) := by
  have q0 : (zcl_ == (⟨#[115, 101, 114, 118, 105, 99, 101]⟩ : ByteArray)) = false := by decide
  have q1 : (zcl_ == (⟨#[118, 101, 114, 115, 105, 111, 110]⟩ : ByteArray)) = false := by decide
  have q2 : (zcl_ == (⟨#[111, 112, 101, 114, 97, 116, 105, 111, 110]⟩ : ByteArray)) = true := by decide
  rw [run_eq, zci_]
  simp -implicitDefEqProofs [zbp_, SP.v, xmput, xmget, mapAt, mapEls, mapPut, zbm_, keyVal, keyEq, V.closed, q0, q1, q2, zcn_, zco_, zcp_]
theorem zcla_ (h : H) (a : SP) : run XP zbv_ [a.v, vs zax_] h = some (.agg [vi 2, vs ⟨#[]⟩, vi (a.par)], h) := by
  have q0 : (zax_ == (⟨#[115, 101, 114, 118, 105, 99, 101]⟩ : ByteArray)) = false := by decide
  have q1 : (zax_ == (⟨#[118, 101, 114, 115, 105, 111, 110]⟩ : ByteArray)) = false := by decide
  have q2 : (zax_ == (⟨#[111, 112, 101, 114, 97, 116, 105, 111, 110]⟩ : ByteArray)) = false := by decide
  have e0 : (zax_.toList == [107, 105, 110, 100]) = false := tl_f rfl
  have e1 : (zax_.toList == [101, 114, 114, 111, 114]) = false := tl_f rfl
  have e2 : (zax_.toList == [114, 111, 111, 116]) = false := tl_f rfl
  have r0 : (zax_ == (⟨#[116, 114, 97, 99, 101]⟩ : ByteArray)) = false := by decide
  have r1 : (zax_ == (⟨#[105, 100]⟩ : ByteArray)) = false := by decide
  have r2 : (zax_ == (⟨#[112, 97, 114, 101, 110, 116]⟩ : ByteArray)) = true := by decide
  rw [run_eq, zci_]
  simp -implicitDefEqProofs [zbp_, SP.v, xmput, xmget, mapAt, mapEls, mapPut, zbm_, keyVal, keyEq, V.closed, q0, q1, q2, zcn_, zco_, zcp_, e0, e1, e2, r0, r1, r2, zei_, zej_, zek_, zel_, zem_, zen_, zeo_, zep_, zeq_, zer_, zes_, zet_, zeu_, zev_, zew_, zex_, zey_, zez_, zfa_, zfb_, zfc_, zfd_, zfe_, zff_, zfg_, zfh_, zfi_, zfj_, zfk_, zfl_, zfm_, zfn_, zfo_, zfp_, zfq_, zfr_]
theorem zclb_ (h : H) (a : SP) : run XP zbv_ [a.v, vs zat_] h = some (.agg [vi 2, vs ⟨#[]⟩, vi (a.rev)], h) := by
  have q0 : (zat_ == (⟨#[115, 101, 114, 118, 105, 99, 101]⟩ : ByteArray)) = false := by decide
  have q1 : (zat_ == (⟨#[118, 101, 114, 115, 105, 111, 110]⟩ : ByteArray)) = false := by decide
  have q2 : (zat_ == (⟨#[111, 112, 101, 114, 97, 116, 105, 111, 110]⟩ : ByteArray)) = false := by decide
  have e0 : (zat_.toList == [107, 105, 110, 100]) = false := tl_f rfl
  have e1 : (zat_.toList == [101, 114, 114, 111, 114]) = false := tl_f rfl
  have e2 : (zat_.toList == [114, 111, 111, 116]) = false := tl_f rfl
  have r0 : (zat_ == (⟨#[116, 114, 97, 99, 101]⟩ : ByteArray)) = false := by decide
  have r1 : (zat_ == (⟨#[105, 100]⟩ : ByteArray)) = false := by decide
  have r2 : (zat_ == (⟨#[112, 97, 114, 101, 110, 116]⟩ : ByteArray)) = false := by decide
  have r3 : (zat_ == (⟨#[114, 101, 118, 105, 115, 105, 111, 110]⟩ : ByteArray)) = true := by decide
  rw [run_eq, zci_]
  simp -implicitDefEqProofs [zbp_, SP.v, xmput, xmget, mapAt, mapEls, mapPut, zbm_, keyVal, keyEq, V.closed, q0, q1, q2, zcn_, zco_, zcp_, e0, e1, e2, r0, r1, r2, r3, zei_, zej_, zek_, zel_, zem_, zen_, zeo_, zep_, zeq_, zer_, zes_, zet_, zeu_, zev_, zew_, zex_, zey_, zez_, zfa_, zfb_, zfc_, zfd_, zfe_, zff_, zfg_, zfh_, zfi_, zfj_, zfk_, zfl_, zfm_, zfn_, zfo_, zfp_, zfq_, zfr_]
theorem zclc_ (h : H) (a : SP) : run XP zbv_ [a.v, vs f_root] h = some (.agg [vi 3, vs ⟨#[]⟩, vi (flg (a.par == 0))], h) := by
  have q0 : (f_root == (⟨#[115, 101, 114, 118, 105, 99, 101]⟩ : ByteArray)) = false := by decide
  have q1 : (f_root == (⟨#[118, 101, 114, 115, 105, 111, 110]⟩ : ByteArray)) = false := by decide
  have q2 : (f_root == (⟨#[111, 112, 101, 114, 97, 116, 105, 111, 110]⟩ : ByteArray)) = false := by decide
  have e0 : (f_root.toList == [107, 105, 110, 100]) = false := tl_f rfl
  have e1 : (f_root.toList == [101, 114, 114, 111, 114]) = false := tl_f rfl
  have e2 : (f_root.toList == [114, 111, 111, 116]) = true := tl_t rfl
  have h2 := fun h b => zps_ h b
  rw [run_eq, zci_]
  simp -implicitDefEqProofs [zbp_, SP.v, xmput, xmget, mapAt, mapEls, mapPut, zbm_, keyVal, keyEq, V.closed, q0, q1, q2, zcn_, zco_, zcp_, e0, e1, e2, h2]
theorem zcld_ (h : H) (a : SP) : run XP zbv_ [a.v, vs zcm_] h = some (.agg [vi 1, vs a.sv, vi 0], h) := by
  have q0 : (zcm_ == (⟨#[115, 101, 114, 118, 105, 99, 101]⟩ : ByteArray)) = true := by decide
  rw [run_eq, zci_]
  simp -implicitDefEqProofs [zbp_, SP.v, xmput, xmget, mapAt, mapEls, mapPut, zbm_, keyVal, keyEq, V.closed, q0, zcn_, zco_, zcp_]
theorem zcle_ (h : H) (a : SP) : run XP zbv_ [a.v, vs f_slot] h = some (.agg [vi 2, vs ⟨#[]⟩, vi (IntKind.i64.wrap (a.tr.tdiv 1048576))], h) := by
  have q0 : (f_slot == (⟨#[115, 101, 114, 118, 105, 99, 101]⟩ : ByteArray)) = false := by decide
  have q1 : (f_slot == (⟨#[118, 101, 114, 115, 105, 111, 110]⟩ : ByteArray)) = false := by decide
  have q2 : (f_slot == (⟨#[111, 112, 101, 114, 97, 116, 105, 111, 110]⟩ : ByteArray)) = false := by decide
  have e0 : (f_slot.toList == [107, 105, 110, 100]) = false := tl_f rfl
  have e1 : (f_slot.toList == [101, 114, 114, 111, 114]) = false := tl_f rfl
  have e2 : (f_slot.toList == [114, 111, 111, 116]) = false := tl_f rfl
  have r0 : (f_slot == (⟨#[116, 114, 97, 99, 101]⟩ : ByteArray)) = false := by decide
  have r1 : (f_slot == (⟨#[105, 100]⟩ : ByteArray)) = false := by decide
  have r2 : (f_slot == (⟨#[112, 97, 114, 101, 110, 116]⟩ : ByteArray)) = false := by decide
  have r3 : (f_slot == (⟨#[114, 101, 118, 105, 115, 105, 111, 110]⟩ : ByteArray)) = false := by decide
  have r4 : (f_slot == (⟨#[99, 108, 111, 99, 107]⟩ : ByteArray)) = false := by decide
  have r5 : (f_slot == (⟨#[115, 116, 97, 114, 116]⟩ : ByteArray)) = false := by decide
  have r6 : (f_slot == (⟨#[101, 110, 100]⟩ : ByteArray)) = false := by decide
  have r7 : (f_slot == (⟨#[100, 117, 114, 97, 116, 105, 111, 110]⟩ : ByteArray)) = false := by decide
  have r8 : (f_slot == (⟨#[115, 108, 111, 116]⟩ : ByteArray)) = true := by decide
  rw [run_eq, zci_]
  simp -implicitDefEqProofs [zbp_, SP.v, xmput, xmget, mapAt, mapEls, mapPut, zbm_, keyVal, keyEq, V.closed, q0, q1, q2, zcn_, zco_, zcp_, e0, e1, e2, r0, r1, r2, r3, r4, r5, r6, r7, r8, zei_, zej_, zek_, zel_, zem_, zen_, zeo_, zep_, zeq_, zer_, zes_, zet_, zeu_, zev_, zew_, zex_, zey_, zez_, zfa_, zfb_, zfc_, zfd_, zfe_, zff_, zfg_, zfh_, zfi_, zfj_, zfk_, zfl_, zfm_, zfn_, zfo_, zfp_, zfq_, zfr_]
theorem zclf_ (h : H) (a : SP) : run XP zbv_ [a.v, vs zao_] h = some (.agg [vi 2, vs ⟨#[]⟩, vi (a.st)], h) := by
  have q0 : (zao_ == (⟨#[115, 101, 114, 118, 105, 99, 101]⟩ : ByteArray)) = false := by decide
  have q1 : (zao_ == (⟨#[118, 101, 114, 115, 105, 111, 110]⟩ : ByteArray)) = false := by decide
  have q2 : (zao_ == (⟨#[111, 112, 101, 114, 97, 116, 105, 111, 110]⟩ : ByteArray)) = false := by decide
  have e0 : (zao_.toList == [107, 105, 110, 100]) = false := tl_f rfl
  have e1 : (zao_.toList == [101, 114, 114, 111, 114]) = false := tl_f rfl
  have e2 : (zao_.toList == [114, 111, 111, 116]) = false := tl_f rfl
  have r0 : (zao_ == (⟨#[116, 114, 97, 99, 101]⟩ : ByteArray)) = false := by decide
  have r1 : (zao_ == (⟨#[105, 100]⟩ : ByteArray)) = false := by decide
  have r2 : (zao_ == (⟨#[112, 97, 114, 101, 110, 116]⟩ : ByteArray)) = false := by decide
  have r3 : (zao_ == (⟨#[114, 101, 118, 105, 115, 105, 111, 110]⟩ : ByteArray)) = false := by decide
  have r4 : (zao_ == (⟨#[99, 108, 111, 99, 107]⟩ : ByteArray)) = false := by decide
  have r5 : (zao_ == (⟨#[115, 116, 97, 114, 116]⟩ : ByteArray)) = true := by decide
  rw [run_eq, zci_]
  simp -implicitDefEqProofs [zbp_, SP.v, xmput, xmget, mapAt, mapEls, mapPut, zbm_, keyVal, keyEq, V.closed, q0, q1, q2, zcn_, zco_, zcp_, e0, e1, e2, r0, r1, r2, r3, r4, r5, zei_, zej_, zek_, zel_, zem_, zen_, zeo_, zep_, zeq_, zer_, zes_, zet_, zeu_, zev_, zew_, zex_, zey_, zez_, zfa_, zfb_, zfc_, zfd_, zfe_, zff_, zfg_, zfh_, zfi_, zfj_, zfk_, zfl_, zfm_, zfn_, zfo_, zfp_, zfq_, zfr_]
theorem zclg_ (h : H) (a : SP) : run XP zbv_ [a.v, vs zav_] h = some (.agg [vi 2, vs ⟨#[]⟩, vi (a.tr)], h) := by
  have q0 : (zav_ == (⟨#[115, 101, 114, 118, 105, 99, 101]⟩ : ByteArray)) = false := by decide
  have q1 : (zav_ == (⟨#[118, 101, 114, 115, 105, 111, 110]⟩ : ByteArray)) = false := by decide
  have q2 : (zav_ == (⟨#[111, 112, 101, 114, 97, 116, 105, 111, 110]⟩ : ByteArray)) = false := by decide
  have e0 : (zav_.toList == [107, 105, 110, 100]) = false := tl_f rfl
  have e1 : (zav_.toList == [101, 114, 114, 111, 114]) = false := tl_f rfl
  have e2 : (zav_.toList == [114, 111, 111, 116]) = false := tl_f rfl
  have r0 : (zav_ == (⟨#[116, 114, 97, 99, 101]⟩ : ByteArray)) = true := by decide
  rw [run_eq, zci_]
  simp -implicitDefEqProofs [zbp_, SP.v, xmput, xmget, mapAt, mapEls, mapPut, zbm_, keyVal, keyEq, V.closed, q0, q1, q2, zcn_, zco_, zcp_, e0, e1, e2, r0, zei_, zej_, zek_, zel_, zem_, zen_, zeo_, zep_, zeq_, zer_, zes_, zet_, zeu_, zev_, zew_, zex_, zey_, zez_, zfa_, zfb_, zfc_, zfd_, zfe_, zff_, zfg_, zfh_, zfi_, zfj_, zfk_, zfl_, zfm_, zfn_, zfo_, zfp_, zfq_, zfr_]
theorem zclh_ (h : H) (a : SP) : run XP zbv_ [a.v, vs zcc_] h = some (.agg [vi 1, vs a.vr, vi 0], h) := by
  have q0 : (zcc_ == (⟨#[115, 101, 114, 118, 105, 99, 101]⟩ : ByteArray)) = false := by decide
  have q1 : (zcc_ == (⟨#[118, 101, 114, 115, 105, 111, 110]⟩ : ByteArray)) = true := by decide
  rw [run_eq, zci_]
  simp -implicitDefEqProofs [zbp_, SP.v, xmput, xmget, mapAt, mapEls, mapPut, zbm_, keyVal, keyEq, V.closed, q0, q1, zcn_, zco_, zcp_]
end Go.Proofs.Sl
namespace Go.Proofs.Sl
def isF (s : ByteArray) : Bool := decide (0 ≤ ixT flds s 0)
theorem zbap_ {s : ByteArray} : ∀ {l : List ByteArray} {k : Nat}, 0 ≤ ixT l s k → s ∈ l
  | [], k, h => by simp [ixT] at h
  | t :: r, k, h => by
    rw [ixT] at h
    by_cases e : s = t
    · simp [e]
    · rw [if_neg e] at h
      exact List.mem_cons_of_mem _ (zbap_ h)
theorem zpy_ {s : ByteArray} (h : isF s = true) : s ∈ flds := zbap_ (of_decide_eq_true h)
theorem zcli_ (h : H) : run XP zse_ [] h = some (.lst 1 (flds.map vs), h) := by
  rw [run_eq, zbut_]
  simp -implicitDefEqProofs [zkv_, flds, sClock, sDur]
theorem kd_no (h : H) {s : ByteArray} (hs : isF s = false) : run XP zbh_ [vs s] h = some (.tup [vi 0, vb false], h) := by
  have h1 := fun h => zbx_ h
  have h2 := fun h => zcb_ h flds s (by decide)
  have h3 : decide (0 ≤ ixT flds s 0) = false := hs
  rw [h3] at h2
  rw [run_eq, zca_]
  simp -implicitDefEqProofs [zbi_, h1, h2]
def sAttr : ByteArray := ⟨#[97, 116, 116, 114]⟩
theorem vl_no (h : H) (a : SP) {s q : ByteArray} {k : Int} {b : Bool} (hs : s ≠ sAttr) (hk : ∀ h, run XP zbh_ [vs s] h = some (.tup [vi k, vb b], h)) (hb : b = false ∨ q ≠ ⟨#[]⟩) :
    run XP zay_ [a.v, vs s, vs q] h = some (.tup [.agg [vi 0, vs ⟨#[]⟩, vi 0], vb false], h) := by
  have e0 : (s.toList == [97, 116, 116, 114]) = false := by
    have : (s.toList == sAttr.toList) = false := by rw [bl_eq]; simpa using hs
    rwa [show sAttr.toList = [97, 116, 116, 114] from by rw [ByteArray.toList_eq]; rfl] at this
  rw [run_eq, zbw_]
  cases b with
  | false => simp -implicitDefEqProofs [zbc_, SP.v, e0, hk]
  | true =>
    have hq : q ≠ ⟨#[]⟩ := by simpa using hb
    have e1 : q.toList.isEmpty = false := by rw [isE, decide_eq_false_iff_not]; exact hq
    simp -implicitDefEqProofs [zbc_, SP.v, e0, hk, e1]
end Go.Proofs.Sl
namespace Go.Proofs.Sl
def bsW (c : Nat → Int) (i j : Nat) : Nat := if h : i < j then (if c ((i + j) / 2) < 0 then bsW c ((i + j) / 2 + 1) j else bsW c i ((i + j) / 2)) else i
termination_by j - i
decreasing_by all_goals omega
def cAt (ats : List AT) (q : ByteArray) (m : Nat) : Int := match ats[m]? with
  | some e => wrd e.key q
  | none => 0
def posA (ats : List AT) (q : ByteArray) : Nat := bsW (cAt ats q) 0 ats.length
def fndA (ats : List AT) (q : ByteArray) : Bool := decide (posA ats q < ats.length) && (cAt ats q (posA ats q) == 0)
theorem zbaq_ (h : H) (a : AT) (q : ByteArray) : run XP zkn_ [a.v, vs q] h = some (vi (wrd a.key q), h) := by
  have h1 := fun h => zjr_ h a.key q
  rw [run_eq, zbwi_]
  simp -implicitDefEqProofs [zmm_, AT.v, h1]
set_option maxHeartbeats 1000000 in
theorem run_BS (h : H) {v : V} {ats : List AT} (q : ByteArray) (hv : Rd h 4 v (ats.map AT.v)) (hl : ats.length ≤ 10000) :
    run XP zsv_ [v, vs q, .fn zkn_ [] []] h = some (.tup [vi (posA ats q), vb (fndA ats q)], h) := by
  have hL := hv.toL
  have ha0 := hv.arg0
  rw [run_eq, zbwh_]
  simp -implicitDefEqProofs [zml_, ha0, hL]
  refine znw_ (fun p : Nat × Nat => p.2 - p.1) (fun p s h' => h' = h ∧ Sees s [(0, v), (1, vs q), (2, .fn zkn_ [] []), (8, vi ats.length), (9, vi p.1), (10, vi p.2)] ∧ p.1 ≤ p.2 ∧ p.2 ≤ ats.length ∧ posA ats q = bsW (cAt ats q) p.1 p.2) ?_ (0, ats.length) _ _ ⟨rfl, by simp, Nat.zero_le _, Nat.le_refl _, rfl⟩
  rintro B f hB hf ⟨i, j⟩ s h' ⟨rfl, ⟨g0, g1, g2, g8, g9, g10, -⟩, hij, hjn, hp⟩ K
  simp only at g9 g10 hij hjn hp K
  rw [bsW] at hp
  by_cases c : i < j
  · rw [dif_pos c] at hp
    have c' : (i : Int) < j := by omega
    obtain ⟨m, hm⟩ : ∃ m, m = (i + j) / 2 := ⟨_, rfl⟩
    rw [← hm] at hp
    obtain ⟨e, he⟩ : ∃ e, ats[m]? = some e := ⟨_, List.getElem?_eq_getElem (by omega)⟩
    obtain ⟨p, hpp, hpl⟩ := hv.at (i := m) (e := e.v) (by simp [he])
    have w1 : IntKind.i64.wrap ((i : Int) + j) = (i : Int) + j := zan_ (by omega) (by omega)
    have w2 : IntKind.u64.wrap ((i : Int) + j) = (i : Int) + j := by rw [zchg_]; omega
    have w3 : ((i : Int) + j).fdiv (2 ^ min 1 IntKind.u64.bits) = (m : Int) := by
      show ((i : Int) + j).fdiv 2 = _
      rw [Int.fdiv_eq_ediv_of_nonneg _ (by decide)]
      omega
    have w4 : IntKind.i64.wrap (m : Int) = (m : Int) := zan_ (by omega) (by omega)
    have w5 : IntKind.i64.wrap ((m : Int) + 1) = (m : Int) + 1 := zan_ (by omega) (by omega)
    have hc : cAt ats q m = wrd e.key q := by rw [cAt, he]
    have h1 := fun h => zbaq_ h e q
    rw [hc] at hp
    generalize wrd e.key q = z at *
    simp only [AT.v, V.cells] at hpl h1
    by_cases hz : z < 0
    · rw [if_pos hz] at hp
      simp -implicitDefEqProofs [hB, zmk_, g0, g1, g2, g8, g9, g10, c, w1, w2, w3, w4, w5, hpp, hpl, h1, hz]
      refine K (m + 1, j) _ _ (by simp only; omega) ⟨rfl, ?_, by simp only; omega, hjn, hp⟩
      simp [g0, g1, g2, g8, g10]
    · rw [if_neg hz] at hp
      simp -implicitDefEqProofs [hB, zmk_, g0, g1, g2, g8, g9, g10, c, w1, w2, w3, w4, hpp, hpl, h1, hz]
      refine K (i, m) _ _ (by simp only; omega) ⟨rfl, ?_, by simp only; omega, by simp only; omega, hp⟩
      simp [g0, g1, g2, g8, g9]
  · rw [dif_neg c] at hp
    by_cases hn : i < ats.length
    · obtain ⟨e, he⟩ : ∃ e, ats[i]? = some e := ⟨_, List.getElem?_eq_getElem hn⟩
      obtain ⟨p, hpp, hpl⟩ := hv.at (i := i) (e := e.v) (by simp [he])
      have hc : cAt ats q i = wrd e.key q := by rw [cAt, he]
      have hfd : fndA ats q = (wrd e.key q == 0) := by rw [fndA, hp, hc]; simp [hn]
      have h1 := fun h => zbaq_ h e q
      rw [hp, hfd]
      generalize wrd e.key q = z at *
      simp only [AT.v, V.cells] at hpl h1
      simp -implicitDefEqProofs [hB, hf, zmk_, g0, g1, g2, g8, g9, g10, c, hn, hpp, hpl, h1]
    · have hfd : fndA ats q = false := by rw [fndA, hp]; simp [hn]
      rw [hp, hfd]
      simp -implicitDefEqProofs [hB, hf, zmk_, g0, g1, g2, g8, g9, g10, c, hn]
theorem zclj_ (h : H) {v : V} {ats : List AT} (q : ByteArray) (hv : Rd h 4 v (ats.map AT.v)) (hl : ats.length ≤ 10000) : run XP zsr_ [v, vs q] h = some (.tup [vi (posA ats q), vb (fndA ats q)], h) := by
  have h1 := run_BS h q hv hl
  have ha0 := hv.arg0
  rw [run_eq, zbvw_]
  simp -implicitDefEqProofs [zma_, ha0, h1]
def getA (ats : List AT) (q : ByteArray) : AV := if fndA ats q = true then (match ats[posA ats q]? with
  | some e => e.val
  | none => ⟨0, ⟨#[]⟩, 0⟩) else ⟨0, ⟨#[]⟩, 0⟩
theorem zclk_ (h : H) {v : V} {ats : List AT} (q : ByteArray) (hv : ∀ h, Rd h 4 v (ats.map AT.v)) (hl : ats.length ≤ 10000) : run XP zof_ [v, vs q] h = some (.tup [(getA ats q).v, vb (fndA ats q)], h) := by
  have h1 := fun h => zclj_ h q (hv h) hl
  have ha0 := (hv h).arg0
  rw [run_eq, zbuv_]
  cases hf : fndA ats q with
  | false =>
    rw [getA, hf]
    rw [hf] at h1
    simp -implicitDefEqProofs [zjd_, ha0, h1, AV.v]
  | true =>
    have hlt : posA ats q < ats.length := by
      have := hf
      simp only [fndA, Bool.and_eq_true, decide_eq_true_eq] at this
      exact this.1
    obtain ⟨e, he⟩ : ∃ e, ats[posA ats q]? = some e := ⟨_, List.getElem?_eq_getElem hlt⟩
    rw [getA, hf, if_pos rfl, he]
    rw [hf] at h1
    generalize posA ats q = p at *
    have hv0 : v = .lst 4 (ats.map AT.v) := by
      have := hv []
      generalize hg : ats.map AT.v = l at this
      cases this with
      | nil =>
        have : ats = [] := by simpa using hg
        rw [this] at hlt
        simp at hlt
      | lst es => rfl
      | ref n z es e => simp at e
    subst hv0
    have hx : (ats.map AT.v)[p]? = some e.v := by simp [he]
    simp -implicitDefEqProofs [zjd_, h1, he, AV.v, AT.v]
end Go.Proofs.Sl
namespace Go.Proofs.Sl
def att4 (x y : AT) : List Int := [wrd x.key y.key, sgn x.val.k y.val.k, wrd x.val.t y.val.t, sgn x.val.n y.val.n]
def zipA : List AT → List AT → List Int
  | x :: xs, y :: ys => att4 x y ++ zipA xs ys
  | _, _ => []
def zipR : List RF → List RF → List Int
  | x :: xs, y :: ys => cmpR x y :: zipR xs ys
  | _, _ => []
theorem zbar_ : ∀ {xs ys : List AT} {k : Nat} {x y : AT}, xs[k]? = some x → ys[k]? = some y → zipA (xs.take (k + 1)) (ys.take (k + 1)) = zipA (xs.take k) (ys.take k) ++ att4 x y
  | [], _, _, _, _, h, _ => by simp at h
  | _ :: _, [], _, _, _, _, h => by simp at h
  | a :: xs, b :: ys, 0, x, y, h, k => by
    simp only [List.getElem?_cons_zero, Option.some.injEq] at h k
    subst h k
    simp [zipA]
  | a :: xs, b :: ys, n + 1, x, y, h, k => by
    simp only [List.getElem?_cons_succ] at h k
    simp only [List.take_succ_cons, zipA, zbar_ h k, List.append_assoc]
theorem zbas_ : ∀ {xs ys : List RF} {k : Nat} {x y : RF}, xs[k]? = some x → ys[k]? = some y → zipR (xs.take (k + 1)) (ys.take (k + 1)) = zipR (xs.take k) (ys.take k) ++ [cmpR x y]
  | [], _, _, _, _, h, _ => by simp at h
  | _ :: _, [], _, _, _, _, h => by simp at h
  | a :: xs, b :: ys, 0, x, y, h, k => by
    simp only [List.getElem?_cons_zero, Option.some.injEq] at h k
    subst h k
    simp [zipR]
  | a :: xs, b :: ys, n + 1, x, y, h, k => by
    simp only [List.getElem?_cons_succ] at h k
    simp only [List.take_succ_cons, zipR, zbas_ h k, List.cons_append]
theorem zbat_ : ∀ (xs ys : List AT), zipA (xs.take (min xs.length ys.length)) (ys.take (min xs.length ys.length)) = zipA xs ys
  | [], _ => by simp [zipA]
  | _ :: _, [] => by simp [zipA]
  | a :: xs, b :: ys => by
    simp only [List.length_cons, Nat.add_min_add_right, List.take_succ_cons, zipA, zbat_ xs ys]
theorem zbau_ : ∀ (xs ys : List RF), zipR (xs.take (min xs.length ys.length)) (ys.take (min xs.length ys.length)) = zipR xs ys
  | [], _ => by simp [zipR]
  | _ :: _, [] => by simp [zipR]
  | a :: xs, b :: ys => by
    simp only [List.length_cons, Nat.add_min_add_right, List.take_succ_cons, zipR, zbau_ xs ys]
theorem zbav_ (n m : Nat) : sgn ((n + 1 : Nat) : Int) ((m + 1 : Nat) : Int) = sgn n m := by
  have e : ∀ a b : Nat, (((a + 1 : Nat) : Int) < ((b + 1 : Nat) : Int)) = ((a : Int) < b) := fun a b => propext (by omega)
  simp only [sgn, e]
theorem zcll_ (x y : AT) : orl (att4 x y) = cmpA x y := by
  simp only [att4, cmpA, cmpV, orl]
  by_cases h1 : wrd x.key y.key = 0 <;> by_cases h2 : sgn x.val.k y.val.k = 0 <;> by_cases h3 : wrd x.val.t y.val.t = 0 <;> by_cases h4 : sgn x.val.n y.val.n = 0 <;> simp [h1, h2, h3, h4]
theorem zbaw_ : ∀ (xs ys : List AT), orl (zipA xs ys ++ [sgn xs.length ys.length]) = lexc cmpA xs ys
  | [], [] => rfl
  | [], _ :: ys => by simp [zipA, lexc, orl, sgn] <;> omega
  | _ :: xs, [] => by simp [zipA, lexc, orl, sgn] <;> omega
  | a :: xs, b :: ys => by
    simp only [zipA, List.append_assoc, List.length_cons, zbav_, lexc]
    rw [zjq_, zcll_, zbaw_ xs ys]
theorem zbax_ : ∀ (xs ys : List RF), orl (zipR xs ys ++ [sgn xs.length ys.length]) = lexc cmpR xs ys
  | [], [] => rfl
  | [], _ :: ys => by simp [zipR, lexc, orl, sgn] <;> omega
  | _ :: xs, [] => by simp [zipR, lexc, orl, sgn] <;> omega
  | a :: xs, b :: ys => by
    simp only [zipR, List.cons_append, List.length_cons, zbav_, lexc]
    rw [show cmpR a b :: (zipR xs ys ++ [sgn xs.length ys.length]) = [cmpR a b] ++ (zipR xs ys ++ [sgn xs.length ys.length]) from rfl, zjq_, zbax_ xs ys]
    simp only [orl]
    by_cases h : cmpR a b = 0 <;> simp [h]
def sp12 (a b : SP) : List Int := [sgn a.tr b.tr, sgn a.id b.id, sgn a.rev b.rev, sgn a.par b.par, sgn a.clk b.clk, sgn a.kind b.kind, wrd a.sv b.sv, wrd a.vr b.vr, wrd a.op b.op, sgn a.st b.st, sgn a.en b.en, sgn (flg a.er) (flg b.er)]
theorem zclm_ (a b : SP) : cmpS a b = orl (sp12 a b ++ (zipA a.ats b.ats ++ [sgn a.ats.length b.ats.length] ++ (zipR a.lks b.lks ++ [sgn a.lks.length b.lks.length]))) := by
  have h1 := zjq_ (sp12 a b) [lexc cmpA a.ats b.ats, lexc cmpR a.lks b.lks]
  have h2 : cmpS a b = orl (sp12 a b ++ [lexc cmpA a.ats b.ats, lexc cmpR a.lks b.lks]) := rfl
  rw [h2, h1, zjq_, zjq_, zbaw_, zbax_]
  simp only [orl]
  by_cases h : lexc cmpR a.lks b.lks = 0 <;> simp [h]
theorem zue_ : ∀ (xs ys : List AT), (zipA xs ys).length = 4 * min xs.length ys.length
  | [], _ => by simp [zipA]
  | _ :: _, [] => by simp [zipA]
  | a :: xs, b :: ys => by simp [zipA, att4, zue_ xs ys, Nat.add_min_add_right]; omega
theorem zuf_ : ∀ (xs ys : List RF), (zipR xs ys).length = min xs.length ys.length
  | [], _ => by simp [zipR]
  | _ :: _, [] => by simp [zipR]
  | a :: xs, b :: ys => by simp [zipR, zuf_ xs ys, Nat.add_min_add_right]
theorem zcln_ (a b : List Int) : il (a ++ b) = il a ++ il b := by simp [il]
theorem zbay_ : ∀ l : List Int, wide 1 (il l) = true
  | [] => rfl
  | n :: l => by
    have := zbay_ l
    simp only [il] at this
    simp only [il, List.map_cons, wide, this, Bool.and_true]
    rfl
theorem zbaz_ : ∀ l : List Int, V.closed.closeds (il l) = true
  | [] => rfl
  | n :: l => by
    have := zbaz_ l
    simp only [il] at this
    simp only [il, List.map_cons, V.closed.closeds, this, Bool.and_true]
    rfl
structure At3 (h : H) (n : Nat) (ca cb : List V) (ns : List Int) : Prop where
  a : h[n]? = some (.box false ca)
  b : h[n + 1]? = some (.box false cb)
  l : h[n + 2]? = some (.arr false 1 (il ns))
theorem At3.app {h : H} {n : Nat} {ca cb : List V} {ns : List Int} (A : At3 h n ca cb ns) (t : H) : At3 (h ++ t) n ca cb ns := by
  have := (List.getElem?_eq_some_iff.1 A.l).1
  exact ⟨by rw [List.getElem?_append_left (by omega)]; exact A.a, by rw [List.getElem?_append_left (by omega)]; exact A.b, by rw [List.getElem?_append_left (by omega)]; exact A.l⟩
theorem At3.set {h : H} {n : Nat} {ca cb : List V} {ns : List Int} (A : At3 h n ca cb ns) (ms : List Int) : At3 (h.set (n + 2) (.arr false 1 (il ms))) n ca cb ms := by
  have := (List.getElem?_eq_some_iff.1 A.l).1
  exact ⟨by rw [List.getElem?_set_ne (by omega)]; exact A.a, by rw [List.getElem?_set_ne (by omega)]; exact A.b, by rw [List.getElem?_set_self this]⟩
theorem At3.len {h : H} {n : Nat} {ca cb : List V} {ns : List Int} (A : At3 h n ca cb ns) : n + 2 < h.length := (List.getElem?_eq_some_iff.1 A.l).1
theorem At3.grow {h : H} {n : Nat} {ca cb : List V} {ns : List Int} (A : At3 h n ca cb ns) (ms : List Int) (hl : ns.length + ms.length ≤ 17592186044416) : zbs_ h 1 17592186044416 (.ref (n + 2) ns.length) (.lst 1 (il ms)) = some (.ref (n + 2) (ns ++ ms).length, h.set (n + 2) (.arr false 1 (il (ns ++ ms)))) := by
  have h1 : arrN h (n + 2) ns.length = some (false, 1, il ns) := by simp [arrN, arrAt, A.l, zab_, zcx_]
  have ea : appEls h (.lst 1 (il ms)) = some (il ms) := rfl
  have hl' : ns.length + (il ms).length ≤ 17592186044416 := by rw [zcx_]; exact hl
  simp only [zbs_, ea, zab_, zbay_, zbaz_, and_self, if_true, h1, true_and, hl, zcln_, List.length_append, zcx_]
theorem At3.takeSet {h : H} {n : Nat} (o : O) (hn : h.length ≥ n) : (h.set (n + 2) o).take n = h.take n := by rw [List.take_set, List.set_eq_of_length_le (by simp; omega)]
end Go.Proofs.Sl
