/- A part of the proof. -/
import Derived.Test.YtlhniejmohghgaaGreatSlA
set_option linter.unusedVariables false
set_option linter.unusedSimpArgs false
set_option linter.unnecessarySimpa false
namespace Go.Proofs.Sl

section
variable {cf : CallF} {lp : LoopF} {base : Nat} {s : Sl} {h : H} {st : St}

theorem upd_same (s : Sl) (t : Nat) (v : V) : upd s t v t = v := by simp [upd]
theorem upd_ne (s : Sl) (t u : Nat) (v : V) (h : u ≠ t) : upd s t v u = s u := by simp [upd, h]
theorem args0_apply (args : List V) (t : Nat) : args0 args t = args.getD t .u := Eq.trans rfl rfl

/-! ### Code -/
/-- A branch: nothing but the test is looked at. -/
def brV {α : Type} (v : V) (x y : Option α) : Option α := match v with
  | .s (.bool t) => if t = true then x else y
  | _ => none
theorem brV_true {α : Type} (x y : Option α) : brV (.s (.bool true)) x y = x := Eq.trans rfl rfl
theorem brV_false {α : Type} (x y : Option α) : brV (.s (.bool false)) x y = y := Eq.trans rfl rfl
theorem brV_congr {α : Type} {v v' : V} {x y : Option α} (h : v = v') : brV v x y = brV v' x y := by rw [h]

theorem xcode_skip : xcode cf lp base .skip st = some (.norm, st) := Eq.trans rfl rfl
theorem xcode_exit (i : Nat) : xcode cf lp base (.exit i) st = some (.exit i, st) := Eq.trans rfl rfl
theorem xcode_ret : xcode cf lp base .ret st = some (.ret, st) := Eq.trans rfl rfl
theorem xcode_seq (a b : XC) : xcode cf lp base (.seq a b) st = ob (xcode cf lp base a st) fun r => thenC (xcode cf lp base b) r := Eq.trans rfl rfl
theorem xcode_block (i : Nat) (b : XC) : xcode cf lp base (.block i b) st = ob (xcode cf lp base b st) fun r => some (outOf i r) := Eq.trans rfl rfl
theorem xcode_loop (b : XC) : xcode cf lp base (.loop b) st = lp (xcode cf lp base b) st := Eq.trans rfl rfl
theorem xcode_cond (c : Opd) (a b : XC) : xcode cf lp base (.cond c a b) st = brV (c.ev st.s) (xcode cf lp base a st) (xcode cf lp base b st) := Eq.trans rfl rfl
theorem xcode_region (ops : List XOp) : xcode cf lp base (.region ops none) st = ob (xops cf base ops st) fun st => some (.norm, st) := Eq.trans rfl rfl
theorem xcode_drawn (ops : List XOp) (c : Nat × Option Nat) (d : List (Nat × Option Nat)) : xcode cf lp base (.region ops (some (c :: d))) st = ob (ob (xtrace cf base ops st) fun tr => if stable ops tr (c :: d) = true then lastSt tr else none) fun st => some (.norm, st) := Eq.trans rfl rfl
theorem xtrace_some (ops : List XOp) : ∀ st, ob (xtrace cf base ops st) lastSt = xops cf base ops st := by
  induction ops with
  | nil => exact fun st => rfl
  | cons o r ih =>
    intro st
    simp only [xtrace, xops, ob_ob]
    cases xstep cf base o st with
    | none => rfl
    | some st' =>
      simp only [ob_some]
      rw [← ih st']
      cases hx : xtrace cf base r st' with
      | none => rfl
      | some l =>
        simp only [ob_some]
        cases l with
        | nil =>
          exfalso
          cases r with
          | nil => cases hx
          | cons o' r' =>
            simp only [xtrace] at hx
            obtain ⟨_, _, hx⟩ := ob_eq_some.1 hx
            obtain ⟨_, _, hx⟩ := ob_eq_some.1 hx
            cases hx
        | cons a l => rfl
theorem xcode_drawn0 (ops : List XOp) : xcode cf lp base (.region ops (some [])) st = ob (xops cf base ops st) fun st => some (.norm, st) := by
  rw [← xtrace_some]
  rfl

theorem thenC_norm (b : Body) : thenC b (.norm, st) = b st := Eq.trans rfl rfl
theorem thenC_exit (b : Body) (i : Nat) : thenC b (.exit i, st) = some (.exit i, st) := Eq.trans rfl rfl
theorem thenC_ret (b : Body) : thenC b (.ret, st) = some (.ret, st) := Eq.trans rfl rfl
theorem outOf_norm (i : Nat) : outOf i (.norm, st) = (.norm, st) := Eq.trans rfl rfl
theorem outOf_ret (i : Nat) : outOf i (.ret, st) = (.ret, st) := Eq.trans rfl rfl
theorem outOf_same (i : Nat) : outOf i (.exit i, st) = (.norm, st) := by simp [outOf]
theorem outOf_ne (i j : Nat) (h : i ≠ j) : outOf i (.exit j, st) = (.exit j, st) := by simp [outOf, h]

theorem xops_nil : xops cf base [] st = some st := Eq.trans rfl rfl
theorem xops_cons (o : XOp) (r : List XOp) : xops cf base (o :: r) st = ob (xstep cf base o st) fun st => xops cf base r st := Eq.trans rfl rfl
/-- What an operation leaves. -/
def nextSt (s : Sl) (d : Option Nat) (p : V × H) : Option St := some ⟨put s d p.1, p.2⟩
theorem nextSt_some (t : Nat) (v : V) : nextSt s (some t) (v, h) = some ⟨upd s t v, h⟩ := Eq.trans rfl rfl
theorem nextSt_none (v : V) : nextSt s none (v, h) = some ⟨s, h⟩ := Eq.trans rfl rfl
theorem xstep_go (d : Option Nat) (op : XO) : xstep cf base ⟨d, op, none⟩ ⟨s, h⟩ = ob (xop cf base s h op) (nextSt s d) := Eq.trans rfl rfl
/-- A guarded one: nothing but the test is looked at. -/
def grd {α : Type} (v : V) (b : Bool) (x y : Option α) : Option α := match v with
  | .s (.bool c) => if (c == b) = true then x else y
  | .s (.tuple _) => y
  | _ => none
theorem grd_tt {α : Type} (x y : Option α) : grd (.s (.bool true)) true x y = x := Eq.trans rfl rfl
theorem grd_tf {α : Type} (x y : Option α) : grd (.s (.bool true)) false x y = y := Eq.trans rfl rfl
theorem grd_ft {α : Type} (x y : Option α) : grd (.s (.bool false)) true x y = y := Eq.trans rfl rfl
theorem grd_ff {α : Type} (x y : Option α) : grd (.s (.bool false)) false x y = x := Eq.trans rfl rfl
theorem grd_u {α : Type} (a : Array Value) (b : Bool) (x y : Option α) : grd (.s (.tuple a)) b x y = y := Eq.trans rfl rfl
theorem grd_congr {α : Type} {v v' : V} {b : Bool} {x y : Option α} (h : v = v') : grd v b x y = grd v' b x y := by rw [h]
theorem xstep_grd (d : Option Nat) (op : XO) (t : Nat) (b : Bool) : xstep cf base ⟨d, op, some (t, b)⟩ ⟨s, h⟩ = grd (s t) b (ob (xop cf base s h op) (nextSt s d)) (some ⟨put s d .u, h⟩) := by
  unfold xstep grd
  simp only [wanted]
  cases s t with
  | s x =>
    cases x with
    | bool c => cases c <;> cases b <;> rfl
    | tuple a => rfl
    | _ => rfl
  | _ => rfl
theorem put_some (t : Nat) (v : V) : put s (some t) v = upd s t v := Eq.trans rfl rfl
theorem put_none (v : V) : put s none v = s := Eq.trans rfl rfl
theorem ev_t (n : Nat) : (Opd.t n).ev s = s n := Eq.trans rfl rfl
theorem ev_c (v : V) : (Opd.c v).ev s = v := Eq.trans rfl rfl
theorem evs_nil : evs s [] = [] := Eq.trans rfl rfl
theorem evs_cons (x : Opd) (l : List Opd) : evs s (x :: l) = x.ev s :: evs s l := Eq.trans rfl rfl
theorem evParts_nil : evParts s [] = [] := Eq.trans rfl rfl
theorem evParts_cons (p : Nat × Nat × Opd) (l : List (Nat × Nat × Opd)) : evParts s (p :: l) = p.2.2.ev s :: evParts s l := Eq.trans rfl rfl
theorem evOpt_some (x : Opd) : evOpt s (some x) = some (x.ev s) := Eq.trans rfl rfl
theorem evOpt_none : evOpt s none = none := Eq.trans rfl rfl

/-! ### Operations -/
/-- A value, and the heap as it is. -/
def pureV (h : H) (v : V) : Option (V × H) := some (v, h)
theorem pureV_eq (v : V) : pureV h v = some (v, h) := Eq.trans rfl rfl
theorem xop_cp (x : Opd) : xop cf base s h (.cp x) = some (x.ev s, h) := Eq.trans rfl rfl
theorem xop_pick (c a b : Opd) : xop cf base s h (.pick c a b) = brV (c.ev s) (some (a.ev s, h)) (some (b.ev s, h)) := by
  simp only [xop, XO.cls, xpure, brV]
  cases c.ev s with
  | s x => cases x with
    | bool t => cases t <;> rfl
    | _ => rfl
  | _ => rfl
theorem xop_build0 (z : List V) (parts : List (Nat × Nat × Opd)) : xop cf base s h (.build false z parts) = ob (ob (keep0s (evParts s parts)) fun l => ob (setParts (addParts parts l) z) fun cs => some (.agg cs)) (pureV h) := Eq.trans rfl rfl
theorem xop_build1 (z : List V) (parts : List (Nat × Nat × Opd)) : xop cf base s h (.build true z parts) = ob (keeps true h (evParts s parts)) fun p => ob (setParts (addParts parts p.1) z) fun cs => some (.agg cs, p.2) := Eq.trans rfl rfl
theorem xop_bslice0 (k : Nat) (parts : List Opd) : xop cf base s h (.bslice false k parts) = ob (ob (keep0s (evs s parts)) fun l => if V.closed.closeds l = true ∧ wide k l = true then some (.lst k l) else none) (pureV h) := Eq.trans rfl rfl
theorem xop_bslice1 (k : Nat) (parts : List Opd) : xop cf base s h (.bslice true k parts) = ob (keeps true h (evs s parts)) fun p => if wide k p.1 = true then some (.ref p.2.length p.1.length, p.2 ++ [.arr false k p.1]) else none := Eq.trans rfl rfl
theorem xop_nilchk (x : Opd) : xop cf base s h (.nilchk x) = ob (ob (isNilPtr (x.ev s)) fun b => if b = true then none else some (x.ev s)) (pureV h) := Eq.trans rfl rfl
theorem xop_bin (op : BinOp) (x y : Opd) : xop cf base s h (.bin op x y) = ob (xbin op (x.ev s) (y.ev s)) (pureV h) := Eq.trans rfl rfl
theorem xop_eqv (k : EK) (n : Bool) (x y : Opd) : xop cf base s h (.eqv k n x y) = ob (xeqv n k (x.ev s) (y.ev s)) (pureV h) := Eq.trans rfl rfl
theorem xop_un (op : UnOp) (x : Opd) : xop cf base s h (.un op x) = ob (xun op (x.ev s)) (pureV h) := Eq.trans rfl rfl
theorem xop_conv (k : IntKind) (x : Opd) : xop cf base s h (.conv k x) = ob (xpure s (.conv k x)) (pureV h) := Eq.trans rfl rfl
theorem xop_mkfn0 (f : Nat) (a b : List Opd) : xop cf base s h (.mkfn false f a b) = ob (ob (keep0s (evs s a)) fun a => ob (keep0s (evs s b)) fun b => some (.fn f a b)) (pureV h) := Eq.trans rfl rfl
theorem xop_mkfn1 (f : Nat) (a b : List Opd) : xop cf base s h (.mkfn true f a b) = ob (keeps true h (evs s a)) fun p => ob (keeps true p.2 (evs s b)) fun q => some (.fn f p.1 q.1, q.2) := Eq.trans rfl rfl
theorem xop_slStr (x : Opd) (lo hi : Option Opd) : xop cf base s h (.slStr x lo hi) = ob (xpure s (.slStr x lo hi)) (pureV h) := Eq.trans rfl rfl
theorem xop_faddr (x : Opd) (off : Nat) : xop cf base s h (.faddr x off) = ob (xpure s (.faddr x off)) (pureV h) := Eq.trans rfl rfl
theorem xop_idxS (x i : Opd) : xop cf base s h (.idxS x i) = ob (xpure s (.idxS x i)) (pureV h) := Eq.trans rfl rfl
theorem xop_idxA (n k : Nat) (g : Bool) (x i : Opd) : xop cf base s h (.idxA n k g x i) = ob (xpure s (.idxA n k g x i)) (pureV h) := Eq.trans rfl rfl
theorem xop_field (off n : Nat) (g : Bool) (x : Opd) : xop cf base s h (.field off n g x) = ob (xpure s (.field off n g x)) (pureV h) := Eq.trans rfl rfl
theorem xop_extract (x : Opd) (i : Nat) : xop cf base s h (.extract x i) = ob (xpure s (.extract x i)) (pureV h) := Eq.trans rfl rfl
theorem xop_minmax (m : Bool) (xs : List Opd) : xop cf base s h (.minmax m xs) = ob (xpure s (.minmax m xs)) (pureV h) := Eq.trans rfl rfl
theorem xop_load (n : Nat) (g : Bool) (x : Opd) : xop cf base s h (.load n g x) = ob (xload h n g (x.ev s)) (pureV h) := Eq.trans rfl rfl
/-- How long a text is. -/
def lenT : V → Option V
  | .s (.string b) => some (vi b.size)
  | _ => none
theorem lenT_str (b : ByteArray) : lenT (.s (.string b)) = some (vi b.size) := Eq.trans rfl rfl
theorem xop_lenT (x : Opd) : xop cf base s h (.len true x) = ob (lenT (x.ev s)) (pureV h) := Eq.trans rfl rfl
theorem xop_len (x : Opd) : xop cf base s h (.len false x) = ob (ob ((x.ev s).toL h) fun es => some (vi es.length)) (pureV h) := Eq.trans rfl rfl
/-- The address of an element. -/
def iaddrV (h : H) (k : Nat) (v : V) (i : Nat) : Option V := match v with
  | .ref l n => ob (arrN h l n) fun p => if i < n ∧ k = p.2.1 then some (.eptr l n i 0) else none
  | .lst k' es => if k = k' then ob es[i]? fun e => some (.fptr e 0) else none
  | .lnk _ _ k' es => if k = k' then ob es[i]? fun e => some (.fptr e 0) else none
  | v => xiaddr2 h k v i
theorem iaddrV_bref (k l n i : Nat) : iaddrV h k (.bref l n) i = if i < n ∧ k = 1 then some (.ptr l i) else none := Eq.trans rfl rfl
theorem iaddrV_win (k l n a b i : Nat) : iaddrV h k (.win l n a b) i = ob (arrN h l n) fun p => if a + i < b ∧ b ≤ n ∧ k = p.2.1 then some (.eptr l n (a + i) 0) else none := Eq.trans rfl rfl
theorem xop_iaddr (k : Nat) (x i : Opd) : xop cf base s h (.iaddr k x i) = ob (ob (asNat (i.ev s)) fun i => iaddrV h k (x.ev s) i) (pureV h) := Eq.trans rfl rfl
theorem iaddrV_ref (k l n i : Nat) : iaddrV h k (.ref l n) i = ob (arrN h l n) fun p => if i < n ∧ k = p.2.1 then some (.eptr l n i 0) else none := Eq.trans rfl rfl
theorem iaddrV_lst (k k' i : Nat) (es : List V) : iaddrV h k (.lst k' es) i = if k = k' then ob es[i]? fun e => some (.fptr e 0) else none := Eq.trans rfl rfl
theorem iaddrV_lnk (l o k k' i : Nat) (es : List V) : iaddrV h k (.lnk l o k' es) i = if k = k' then ob es[i]? fun e => some (.fptr e 0) else none := Eq.trans rfl rfl
/-- A part of a slice. -/
def slV (h : H) (k : Nat) (v : V) (lo hi : Option V) : Option V := match v with
  | .lst k' es => if k = k' then ob (bounds es.length lo hi) fun p => some (.lst k ((es.take p.2).drop p.1)) else none
  | .lnk _ _ k' es => if k = k' then ob (bounds es.length lo hi) fun p => some (.lst k ((es.take p.2).drop p.1)) else none
  | .s (.slice none 0 0) => ob (bounds 0 lo hi) fun _ => some vnil
  | .ref l n => ob (arrN h l n) fun p => if k = p.2.1 then ob (bounds n lo hi) fun q => some (.win l n q.1 q.2) else none
  | _ => none
theorem slV_lst (k k' : Nat) (es : List V) (lo hi : Option V) : slV h k (.lst k' es) lo hi = if k = k' then ob (bounds es.length lo hi) fun p => some (.lst k ((es.take p.2).drop p.1)) else none := Eq.trans rfl rfl
theorem slV_lnk (l o k k' : Nat) (es : List V) (lo hi : Option V) : slV h k (.lnk l o k' es) lo hi = if k = k' then ob (bounds es.length lo hi) fun p => some (.lst k ((es.take p.2).drop p.1)) else none := Eq.trans rfl rfl
theorem slV_nil (k : Nat) (lo hi : Option V) : slV h k vnil lo hi = ob (bounds 0 lo hi) fun _ => some vnil := Eq.trans rfl rfl
theorem slV_ref (k l n : Nat) (lo hi : Option V) : slV h k (.ref l n) lo hi = ob (arrN h l n) fun p => if k = p.2.1 then ob (bounds n lo hi) fun q => some (.win l n q.1 q.2) else none := Eq.trans rfl rfl
theorem xop_iaddrA (n k : Nat) (x i : Opd) : xop cf base s h (.iaddrA n k x i) = ob (xread s h (.iaddrA n k x i)) (pureV h) := Eq.trans rfl rfl
theorem xop_slLst (k : Nat) (x : Opd) (lo hi : Option Opd) : xop cf base s h (.slLst k x lo hi) = ob (slV h k (x.ev s) (evOpt s lo) (evOpt s hi)) (pureV h) := by
  simp only [xop, XO.cls, xread, slV]
  rfl
theorem xop_slBox (n : Nat) (x : Opd) : xop cf base s h (.slBox n x) = ob (xpure s (.slBox n x)) (pureV h) := Eq.trans rfl rfl
theorem xop_slFrz (k : Nat) (x : Opd) (lo hi : Option Opd) : xop cf base s h (.slFrz k x lo hi) = xslFrz h k (x.ev s) (evOpt s lo) (evOpt s hi) := Eq.trans rfl rfl
theorem xop_clear (k : Nat) (z : V) (x : Opd) : xop cf base s h (.clear k z x) = xclear h k z (x.ev s) := Eq.trans rfl rfl
theorem xslFrz_nil (k : Nat) (lo hi : Option V) : xslFrz h k vnil lo hi = ob (bounds 0 lo hi) fun _ => some (vnil, h) := Eq.trans rfl rfl
theorem xslFrz_lst (k k' : Nat) (es : List V) (lo hi : Option V) : xslFrz h k (.lst k' es) lo hi = if k = k' then ob (bounds es.length lo hi) fun p => some (.lst k ((es.take p.2).drop p.1), h) else none := Eq.trans rfl rfl
theorem xslFrz_ref (k l n : Nat) (lo hi : Option V) : xslFrz h k (.ref l n) lo hi = ob (arrN h l n) fun p => if V.closed.closeds p.2.2 = true ∧ k = p.2.1 then ob (bounds p.2.2.length lo hi) fun q => some (.lst k ((p.2.2.take q.2).drop q.1), h.set l (.arr true p.2.1 p.2.2)) else none := by
  simp only [xslFrz, frz, ob_ob]
  cases arrN h l n with
  | none => rfl
  | some p => by_cases h1 : V.closed.closeds p.2.2 = true <;> by_cases h2 : k = p.2.1 <;> simp [ob, h1, h2]
theorem xclear_nil (k : Nat) (z : V) : xclear h k z vnil = some (.u, h) := Eq.trans rfl rfl
theorem xclear_win (k l n a b : Nat) (z : V) : xclear h k z (.win l n a b) = ob (arrN h l n) fun p => if p.1 = false ∧ k = p.2.1 ∧ wide k [z] = true ∧ z.closed = true ∧ a ≤ n ∧ b = n then some (.u, h.set l (.arr false k (p.2.2.take a ++ List.replicate (n - a) z))) else none := Eq.trans rfl rfl
theorem xop_toStr (x : Opd) : xop cf base s h (.toStr x) = ob (xread s h (.toStr x)) (pureV h) := Eq.trans rfl rfl
theorem xop_alloc (z : List V) : xop cf base s h (.alloc z) = some (.ptr h.length 0, h ++ [.box false z]) := Eq.trans rfl rfl
theorem xop_box (r : Bool) (x : Opd) : xop cf base s h (.box r x) = xeff cf base s h (.box r x) := Eq.trans rfl rfl
theorem xop_store (n : Nat) (x v : Opd) : xop cf base s h (.store n x v) = ob (xstore base h n (x.ev s) (v.ev s)) fun h => some (.u, h) := Eq.trans rfl rfl
theorem xop_slArr (n : Nat) (x : Opd) : xop cf base s h (.slArr n x) = xeff cf base s h (.slArr n x) := Eq.trans rfl rfl
theorem xop_mkmap : xop cf base s h .mkmap = some (.mref h.length, h ++ [.mp []]) := Eq.trans rfl rfl
theorem xop_mput (kk : CK) (m k v : Opd) : xop cf base s h (.mput kk m k v) = ob (xmput h kk (m.ev s) (k.ev s) (v.ev s)) fun h => some (.u, h) := Eq.trans rfl rfl
theorem xop_mget (kk : CK) (ok : Bool) (z : V) (m k : Opd) : xop cf base s h (.mget kk ok z m k) = ob (xmget h kk ok z (m.ev s) (k.ev s)) (pureV h) := Eq.trans rfl rfl
theorem xop_append (k lim : Nat) (x y : Opd) : xop cf base s h (.append k lim x y) = xappend h k lim (x.ev s) (y.ev s) := Eq.trans rfl rfl
theorem xop_call (f : Nat) (args : List Opd) : xop cf base s h (.call false f args) = ob (arg0s (evs s args)) fun a => ob (cf f a h) fun r => some (res0 r.1, r.2) := by
  simp only [xop, XO.cls, xeff, xcall]
  rfl
theorem xop_callM (f : Nat) (args : List Opd) : xop cf base s h (.call true f args) = ob (arg0s (evs s args)) fun a => ob (cf f a h) fun r => resM r.2 r.1 := by
  simp only [xop, XO.cls, xeff, xcall]
  rfl
/-- A call through a value. -/
def callV (cf : CallF) (h : H) (m : Bool) (g : V) (args : List V) : Option (V × H) := match g with
  | .fn f a b => xcall cf h m f (a ++ args ++ b)
  | _ => none
theorem callV_fn (cf : CallF) (h : H) (m : Bool) (f : Nat) (a b args : List V) : callV cf h m (.fn f a b) args = xcall cf h m f (a ++ args ++ b) := Eq.trans rfl rfl
theorem xop_callv (m : Bool) (f : Opd) (args : List Opd) : xop cf base s h (.callv m f args) = callV cf h m (f.ev s) (evs s args) := by
  simp only [xop, XO.cls, xeff, callV]
  cases f.ev s <;> rfl
theorem xcall_false (f : Nat) (args : List V) : xcall cf h false f args = ob (arg0s args) fun a => ob (cf f a h) fun r => some (res0 r.1, r.2) := Eq.trans rfl rfl

/-! ### Functions -/
/-- Back from a call. -/
def backV (res : List ((Nat ⊕ (Nat × Nat × Bool)) × RK)) (h : H) (st : St) : Option (V × H) := ob (retVs h.length st.s st.h res []) fun p => some (V.ofRes p.1, st.h.take h.length ++ p.2)
def backR (res : List ((Nat ⊕ (Nat × Nat × Bool)) × RK)) (h : H) (r : Ex × St) : Option (V × H) := match r.1 with
  | .exit _ => none
  | _ => backV res h r.2
theorem backR_norm (res : List ((Nat ⊕ (Nat × Nat × Bool)) × RK)) (st : St) : backR res h (.norm, st) = backV res h st := Eq.trans rfl rfl
theorem backR_ret (res : List ((Nat ⊕ (Nat × Nat × Bool)) × RK)) (st : St) : backR res h (.ret, st) = backV res h st := Eq.trans rfl rfl
theorem backV_eq (res : List ((Nat ⊕ (Nat × Nat × Bool)) × RK)) (s : Sl) (h' : H) : backV res h ⟨s, h'⟩ = ob (retVs h.length s h' res []) fun p => some (V.ofRes p.1, h'.take h.length ++ p.2) := Eq.trans rfl rfl
theorem xfun_mk (np : Nat) (body : XC) (res : List ((Nat ⊕ (Nat × Nat × Bool)) × RK)) (args : List V) (e : args.length = np) : xfun cf lp ⟨np, body, res, none⟩ args h = ob (xcode cf lp h.length body ⟨args0 args, h⟩) (backR res h) := by
  unfold xfun xfun0
  simp only
  rw [if_pos e]
  congr 1
theorem run_fun {XP : Nat → Option XF} {f : Nat} {np : Nat} {body : XC} {res : List ((Nat ⊕ (Nat × Nat × Bool)) × RK)} {args : List V} (e : XP f = some ⟨np, body, res, none⟩) (hn : args.length = np) : run XP f args h = ob (xcode (run XP) loopW h.length body ⟨args0 args, h⟩) (backR res h) := by
  rw [run_eq, e]
  exact xfun_mk _ _ _ _ hn
theorem retVs_nil (tail : List O) : retVs base s h [] tail = some ([], tail) := Eq.trans rfl rfl
theorem retVs_cons (t : Nat) (k : RK) (l : List ((Nat ⊕ (Nat × Nat × Bool)) × RK)) (tail : List O) : retVs base s h ((.inl t, k) :: l) tail = ob (retV base h k (s t) tail) fun q => ob (retVs base s h l q.2) fun r => some (q.1 :: r.1, r.2) := Eq.trans rfl rfl
theorem retVs_box (t n : Nat) (g : Bool) (k : RK) (l : List ((Nat ⊕ (Nat × Nat × Bool)) × RK)) (tail : List O) : retVs base s h ((.inr (t, n, g), k) :: l) tail = ob (xload h n g (s t)) fun v => ob (retV base h k v tail) fun q => ob (retVs base s h l q.2) fun r => some (q.1 :: r.1, r.2) := Eq.trans rfl rfl

theorem loopW_norm {b : Body} {st st' : St} (e : b st = some (.norm, st')) : loopW b st = loopW b st' := by rw [loopW_eq, e]; rfl
theorem loopW_exit {b : Body} {st st' : St} {i : Nat} (e : b st = some (.exit i, st')) : loopW b st = some (.exit i, st') := by rw [loopW_eq, e]; rfl
theorem loopW_ret {b : Body} {st st' : St} (e : b st = some (.ret, st')) : loopW b st = some (.ret, st') := by rw [loopW_eq, e]; rfl
end

/-- One round of a loop, what follows it kept whole. -/
theorem loopW_cps {b : Body} {st : St} {β : Type} {f : Ex × St → Option β} : ob (loopW b st) f = ob (b st) fun r => ob (thenC (loopW b) r) f := by rw [loopW_eq, ob_ob]

/-! ### Whole numbers, bools, texts -/
def xorI (k : IntKind) (a b : Int) : Int := k.wrap (BitVec.ofInt k.bits a ^^^ BitVec.ofInt k.bits b).toNat
def orI (k : IntKind) (a b : Int) : Int := k.wrap (BitVec.ofInt k.bits a ||| BitVec.ofInt k.bits b).toNat
def andI (k : IntKind) (a b : Int) : Int := k.wrap (BitVec.ofInt k.bits a &&& BitVec.ofInt k.bits b).toNat
section
variable (k : IntKind) (a b : Int) (x y : ByteArray)
theorem xbin_add : xbin .add (vk k a) (vk k b) = some (vk k (k.wrap (a + b))) := by simp [xbin, intOp, ob_some]
theorem xbin_sub : xbin .sub (vk k a) (vk k b) = some (vk k (k.wrap (a - b))) := by simp [xbin, intOp, ob_some]
theorem xbin_mul : xbin .mul (vk k a) (vk k b) = some (vk k (k.wrap (a * b))) := by simp [xbin, intOp, ob_some]
theorem xbin_quo (h : b ≠ 0) : xbin .quo (vk k a) (vk k b) = some (vk k (k.wrap (a.tdiv b))) := by simp [xbin, intOp, h, ob_some]
theorem xbin_rem (h : b ≠ 0) : xbin .rem (vk k a) (vk k b) = some (vk k (a.tmod b)) := by simp [xbin, intOp, h, ob_some]
theorem xbin_and : xbin .and (vk k a) (vk k b) = some (vk k (andI k a b)) := by simp only [xbin, intOp, if_true, ob_some, andI, orI, xorI]
theorem xbin_or : xbin .or (vk k a) (vk k b) = some (vk k (orI k a b)) := by simp only [xbin, intOp, if_true, ob_some, andI, orI, xorI]
theorem xbin_xor : xbin .xor (vk k a) (vk k b) = some (vk k (xorI k a b)) := by simp only [xbin, intOp, if_true, ob_some, andI, orI, xorI]
theorem xbin_eql : xbin .eql (vk k a) (vk k b) = some (vb (a == b)) := by simp [xbin, intOp, ob_some]
theorem xbin_neq : xbin .neq (vk k a) (vk k b) = some (vb (a != b)) := by simp [xbin, intOp, ob_some]
theorem xbin_lss : xbin .lss (vk k a) (vk k b) = some (vb (decide (a < b))) := by simp [xbin, intOp, ob_some]
theorem xbin_leq : xbin .leq (vk k a) (vk k b) = some (vb (decide (a ≤ b))) := by simp [xbin, intOp, ob_some]
theorem xbin_gtr : xbin .gtr (vk k a) (vk k b) = some (vb (decide (a > b))) := by simp [xbin, intOp, ob_some]
theorem xbin_geq : xbin .geq (vk k a) (vk k b) = some (vb (decide (a ≥ b))) := by simp [xbin, intOp, ob_some]
theorem xbin_shl (k' : IntKind) (h : 0 ≤ b) : xbin .shl (vk k a) (vk k' b) = some (vk k (k.wrap (a * 2 ^ (min b.toNat k.bits)))) := by
  have : ¬ b < 0 := by omega
  simp [xbin, this]
theorem xbin_shr (k' : IntKind) (h : 0 ≤ b) : xbin .shr (vk k a) (vk k' b) = some (vk k (a.fdiv (2 ^ (min b.toNat k.bits)))) := by
  have : ¬ b < 0 := by omega
  simp [xbin, this]
theorem xbin_str (op : BinOp) : xbin op (vs x) (vs y) = ob (strOp op x y) fun v => some (.s v) := Eq.trans rfl rfl
theorem xun_not (t : Bool) : xun .not (vb t) = some (vb (!t)) := Eq.trans rfl rfl
theorem xun_neg : xun .neg (vk k a) = some (vk k (k.wrap (0 - a))) := Eq.trans rfl rfl
end

/-! ### The heap -/
section
variable {h t : H} {l : Nat} {x : O}
theorem at_left (e : l < h.length) : (h ++ t)[l]? = h[l]? := List.getElem?_append_left e
theorem take_set : (h.set l x).take h.length = h.set l x := List.take_of_length_le (by simp)
theorem take_set_app : (h.set l x ++ t).take h.length = h.set l x := by rw [List.take_append_of_le_length (by simp)]; exact take_set
theorem take_app : (h ++ t).take h.length = h := by simp
theorem at_right (k : Nat) : (h.set l x ++ t)[h.length + k]? = t[k]? := by rw [List.getElem?_append_right (by simp)]; simp
theorem at_right0 : (h.set l x ++ t)[h.length]? = t[0]? := at_right 0
theorem at_app (k : Nat) : (h ++ t)[h.length + k]? = t[k]? := by rw [List.getElem?_append_right (by simp)]; simp
theorem at_app0 : (h ++ t)[h.length]? = t[0]? := at_app 0
theorem set_right (k : Nat) (y : O) : (h.set l x ++ t).set (h.length + k) y = h.set l x ++ t.set k y := by rw [List.set_append_right _ _ (by simp)]; simp
theorem set_right0 (y : O) : (h.set l x ++ t).set h.length y = h.set l x ++ t.set 0 y := set_right 0 y
theorem set_app (k : Nat) (y : O) : (h ++ t).set (h.length + k) y = h ++ t.set k y := by rw [List.set_append_right _ _ (by simp)]; simp
theorem set_app0 (y : O) : (h ++ t).set h.length y = h ++ t.set 0 y := set_app 0 y
theorem set_left (e : l < h.length) : (h ++ t).set l x = h.set l x ++ t := List.set_append_left _ _ e
end

/-! ### Values of one cell that nothing changes -/
def V.plain : V → Bool
  | .s (.agg _) | .s (.tuple _) => false
  | .s _ | .lst .. => true
  | _ => false
section
variable {v : V} (hv : v.plain = true)
include hv
theorem plain_cells : v.cells = [v] := by cases v <;> simp [V.plain] at hv <;> rfl
theorem plain_frz0 : frz0 v = some v := by cases v <;> simp [V.plain] at hv <;> rfl
theorem plain_arg0 : arg0 v = some v := by cases v <;> simp [V.plain] at hv <;> rfl
theorem plain_rdCell (l o : Nat) : rdCell l o v = v := by cases v <;> simp [V.plain] at hv <;> rfl
theorem plain_rdCells : rdCells v = v := by cases v <;> simp [V.plain] at hv <;> rfl
theorem plain_closed : v.closed = true := by cases v <;> simp [V.plain] at hv <;> rfl
theorem plain_cell : v.cell = true := by
  cases v with
  | s x => cases x <;> first | rfl | simp [V.plain] at hv
  | lst k es => rfl
  | _ => simp [V.plain] at hv
theorem plain_top : v.top = 0 := by cases v <;> simp [V.plain] at hv <;> rfl
theorem plain_res0 : res0 v = v := by cases v <;> simp [V.plain] at hv <;> rfl
theorem plain_stCell (base l o : Nat) (old : V) (ho : old.plain = true) (h : H) : stCell base l o old v h = some (v, h) := by
  have ht := plain_top hv
  cases v with
  | s x =>
    cases old with
    | s y => cases x <;> first | (simp [V.plain] at hv; done) | simp [stCell, V.top]
    | lst k es => cases x <;> first | (simp [V.plain] at hv; done) | simp [stCell, V.top]
    | _ => simp [V.plain] at ho
  | lst k es =>
    cases old with
    | s y => simp [stCell, V.top]
    | lst k' es' => simp [stCell, V.top]
    | _ => simp [V.plain] at ho
  | _ => simp [V.plain] at hv
theorem plain_retV (base : Nat) (h : H) (tail : List O) : retV base h .v v tail = some (v, tail) := by
  cases v with
  | s x => cases x <;> first | (simp [V.plain] at hv; done) | simp [retV, V.top]
  | lst k es => simp [retV, V.top]
  | _ => simp [V.plain] at hv
theorem plain_noOwn (l : List V) : noOwn (v :: l) = noOwn l := by cases v <;> simp [V.plain] at hv <;> rfl
end

/-! ### Rules by the shape of a value -/
section
variable (x : Value) (cs ds es gs : List V) (k l o n i j q r base : Nat) (t : V) (h : H) (tail : List O) (g : Bool)
theorem cells_s : V.cells (.s x) = [(.s x)] := Eq.trans rfl rfl
theorem frz0_s : frz0 (.s x) = some (.s x) := Eq.trans rfl rfl
theorem arg0_s : arg0 (.s x) = some (.s x) := Eq.trans rfl rfl
theorem rdCell_s : rdCell q r (.s x) = (.s x) := Eq.trans rfl rfl
theorem rdCells_s : rdCells (.s x) = (.s x) := Eq.trans rfl rfl
theorem res0_s : res0 (.s x) = (.s x) := Eq.trans rfl rfl
theorem frz_s : frz h (.s x) = ob (frz0 (.s x)) fun v => some (v, h) := Eq.trans rfl rfl
theorem retV_s : retV base h .v (.s x) tail = if V.top (.s x) ≤ base then some ((.s x), tail) else none := Eq.trans rfl rfl
theorem cells_agg : V.cells (.agg cs) = cs := Eq.trans rfl rfl
theorem frz0_agg : frz0 (.agg cs) = some (.agg cs) := Eq.trans rfl rfl
theorem arg0_agg : arg0 (.agg cs) = some (.agg cs) := Eq.trans rfl rfl
theorem rdCell_agg : rdCell q r (.agg cs) = (.agg cs) := Eq.trans rfl rfl
theorem rdCells_agg : rdCells (.agg cs) = (.agg cs) := Eq.trans rfl rfl
theorem res0_agg : res0 (.agg cs) = (.agg cs) := Eq.trans rfl rfl
theorem cell_agg : V.cell (.agg cs) = false := Eq.trans rfl rfl
theorem frz_agg : frz h (.agg cs) = ob (frz0 (.agg cs)) fun v => some (v, h) := Eq.trans rfl rfl
theorem retV_agg : retV base h .v (.agg cs) tail = if V.top (.agg cs) ≤ base then some ((.agg cs), tail) else none := Eq.trans rfl rfl
theorem cells_tup : V.cells (.tup cs) = [(.tup cs)] := Eq.trans rfl rfl
theorem frz0_tup : frz0 (.tup cs) = some (.tup cs) := Eq.trans rfl rfl
theorem arg0_tup : arg0 (.tup cs) = some (.tup cs) := Eq.trans rfl rfl
theorem rdCell_tup : rdCell q r (.tup cs) = (.tup cs) := Eq.trans rfl rfl
theorem rdCells_tup : rdCells (.tup cs) = (.tup cs) := Eq.trans rfl rfl
theorem res0_tup : res0 (.tup cs) = (.tup cs) := Eq.trans rfl rfl
theorem cell_tup : V.cell (.tup cs) = false := Eq.trans rfl rfl
theorem frz_tup : frz h (.tup cs) = ob (frz0 (.tup cs)) fun v => some (v, h) := Eq.trans rfl rfl
theorem retV_tup : retV base h .v (.tup cs) tail = if V.top (.tup cs) ≤ base then some ((.tup cs), tail) else none := Eq.trans rfl rfl
theorem cells_lst : V.cells (.lst k es) = [(.lst k es)] := Eq.trans rfl rfl
theorem frz0_lst : frz0 (.lst k es) = some (.lst k es) := Eq.trans rfl rfl
theorem arg0_lst : arg0 (.lst k es) = some (.lst k es) := Eq.trans rfl rfl
theorem rdCell_lst : rdCell q r (.lst k es) = (.lst k es) := Eq.trans rfl rfl
theorem rdCells_lst : rdCells (.lst k es) = (.lst k es) := Eq.trans rfl rfl
theorem res0_lst : res0 (.lst k es) = (.lst k es) := Eq.trans rfl rfl
theorem cell_lst : V.cell (.lst k es) = true := Eq.trans rfl rfl
theorem frz_lst : frz h (.lst k es) = ob (frz0 (.lst k es)) fun v => some (v, h) := Eq.trans rfl rfl
theorem retV_lst : retV base h .v (.lst k es) tail = if V.top (.lst k es) ≤ base then some ((.lst k es), tail) else none := Eq.trans rfl rfl
theorem cells_lnk : V.cells (.lnk l o k es) = [(.lnk l o k es)] := Eq.trans rfl rfl
theorem frz0_lnk : frz0 (.lnk l o k es) = some (.lst k es) := Eq.trans rfl rfl
theorem arg0_lnk : arg0 (.lnk l o k es) = some (.lst k es) := Eq.trans rfl rfl
theorem rdCell_lnk : rdCell q r (.lnk l o k es) = (.lnk l o k es) := Eq.trans rfl rfl
theorem rdCells_lnk : rdCells (.lnk l o k es) = (.lnk l o k es) := Eq.trans rfl rfl
theorem res0_lnk : res0 (.lnk l o k es) = (.lnk l o k es) := Eq.trans rfl rfl
theorem cell_lnk : V.cell (.lnk l o k es) = false := Eq.trans rfl rfl
theorem frz_lnk : frz h (.lnk l o k es) = ob (frz0 (.lnk l o k es)) fun v => some (v, h) := Eq.trans rfl rfl
theorem cells_gro : V.cells (.gro l o k es) = [(.gro l o k es)] := Eq.trans rfl rfl
theorem frz0_gro : frz0 (.gro l o k es) = none := Eq.trans rfl rfl
theorem arg0_gro : arg0 (.gro l o k es) = none := Eq.trans rfl rfl
theorem rdCell_gro : rdCell q r (.gro l o k es) = (.gro l o k es) := Eq.trans rfl rfl
theorem rdCells_gro : rdCells (.gro l o k es) = (.gro l o k es) := Eq.trans rfl rfl
theorem res0_gro : res0 (.gro l o k es) = (.gro l o k es) := Eq.trans rfl rfl
theorem cell_gro : V.cell (.gro l o k es) = false := Eq.trans rfl rfl
theorem frz_gro : frz h (.gro l o k es) = ob (frz0 (.gro l o k es)) fun v => some (v, h) := Eq.trans rfl rfl
theorem retV_gro : retV base h .v (.gro l o k es) tail = none := Eq.trans rfl rfl
theorem cells_own : V.cells (.own k es) = [(.own k es)] := Eq.trans rfl rfl
theorem frz0_own : frz0 (.own k es) = none := Eq.trans rfl rfl
theorem arg0_own : arg0 (.own k es) = none := Eq.trans rfl rfl
theorem rdCell_own : rdCell q r (.own k es) = .lnk q r k es := Eq.trans rfl rfl
theorem rdCells_own : rdCells (.own k es) = .lst k es := Eq.trans rfl rfl
theorem res0_own : res0 (.own k es) = .lst k es := Eq.trans rfl rfl
theorem cell_own : V.cell (.own k es) = true := Eq.trans rfl rfl
theorem frz_own : frz h (.own k es) = ob (frz0 (.own k es)) fun v => some (v, h) := Eq.trans rfl rfl
theorem q_retV_own : retV base h .v (.own k es) tail = none := Eq.trans rfl rfl
theorem cells_spent : V.cells (.spent k es gs) = [(.spent k es gs)] := Eq.trans rfl rfl
theorem frz0_spent : frz0 (.spent k es gs) = none := Eq.trans rfl rfl
theorem arg0_spent : arg0 (.spent k es gs) = none := Eq.trans rfl rfl
theorem rdCell_spent : rdCell q r (.spent k es gs) = .lst k es := Eq.trans rfl rfl
theorem rdCells_spent : rdCells (.spent k es gs) = .lst k es := Eq.trans rfl rfl
theorem res0_spent : res0 (.spent k es gs) = (.spent k es gs) := Eq.trans rfl rfl
theorem cell_spent : V.cell (.spent k es gs) = true := Eq.trans rfl rfl
theorem frz_spent : frz h (.spent k es gs) = ob (frz0 (.spent k es gs)) fun v => some (v, h) := Eq.trans rfl rfl
theorem retV_spent : retV base h .v (.spent k es gs) tail = none := Eq.trans rfl rfl
theorem cells_ref : V.cells (.ref l n) = [(.ref l n)] := Eq.trans rfl rfl
theorem frz0_ref : frz0 (.ref l n) = none := Eq.trans rfl rfl
theorem arg0_ref : arg0 (.ref l n) = some (.ref l n) := Eq.trans rfl rfl
theorem rdCell_ref : rdCell q r (.ref l n) = (.ref l n) := Eq.trans rfl rfl
theorem rdCells_ref : rdCells (.ref l n) = (.ref l n) := Eq.trans rfl rfl
theorem res0_ref : res0 (.ref l n) = (.ref l n) := Eq.trans rfl rfl
theorem cell_ref : V.cell (.ref l n) = false := Eq.trans rfl rfl
theorem cells_ptr : V.cells (.ptr l o) = [(.ptr l o)] := Eq.trans rfl rfl
theorem frz0_ptr : frz0 (.ptr l o) = some (.ptr l o) := Eq.trans rfl rfl
theorem arg0_ptr : arg0 (.ptr l o) = some (.ptr l o) := Eq.trans rfl rfl
theorem rdCell_ptr : rdCell q r (.ptr l o) = (.ptr l o) := Eq.trans rfl rfl
theorem rdCells_ptr : rdCells (.ptr l o) = (.ptr l o) := Eq.trans rfl rfl
theorem res0_ptr : res0 (.ptr l o) = (.ptr l o) := Eq.trans rfl rfl
theorem cell_ptr : V.cell (.ptr l o) = true := Eq.trans rfl rfl
theorem frz_ptr : frz h (.ptr l o) = ob (frz0 (.ptr l o)) fun v => some (v, h) := Eq.trans rfl rfl
theorem retV_ptr : retV base h .v (.ptr l o) tail = if V.top (.ptr l o) ≤ base then some ((.ptr l o), tail) else none := Eq.trans rfl rfl
theorem cells_eptr : V.cells (.eptr l n i j) = [(.eptr l n i j)] := Eq.trans rfl rfl
theorem frz0_eptr : frz0 (.eptr l n i j) = none := Eq.trans rfl rfl
theorem arg0_eptr : arg0 (.eptr l n i j) = some (.eptr l n i j) := Eq.trans rfl rfl
theorem rdCell_eptr : rdCell q r (.eptr l n i j) = (.eptr l n i j) := Eq.trans rfl rfl
theorem rdCells_eptr : rdCells (.eptr l n i j) = (.eptr l n i j) := Eq.trans rfl rfl
theorem res0_eptr : res0 (.eptr l n i j) = (.eptr l n i j) := Eq.trans rfl rfl
theorem cell_eptr : V.cell (.eptr l n i j) = false := Eq.trans rfl rfl
theorem frz_eptr : frz h (.eptr l n i j) = ob (frz0 (.eptr l n i j)) fun v => some (v, h) := Eq.trans rfl rfl
theorem retV_eptr : retV base h .v (.eptr l n i j) tail = if V.top (.eptr l n i j) ≤ base then some ((.eptr l n i j), tail) else none := Eq.trans rfl rfl
theorem cells_fptr : V.cells (.fptr t o) = [(.fptr t o)] := Eq.trans rfl rfl
theorem frz0_fptr : frz0 (.fptr t o) = some (.fptr t o) := Eq.trans rfl rfl
theorem arg0_fptr : arg0 (.fptr t o) = some (.fptr t o) := Eq.trans rfl rfl
theorem rdCell_fptr : rdCell q r (.fptr t o) = (.fptr t o) := Eq.trans rfl rfl
theorem rdCells_fptr : rdCells (.fptr t o) = (.fptr t o) := Eq.trans rfl rfl
theorem res0_fptr : res0 (.fptr t o) = (.fptr t o) := Eq.trans rfl rfl
theorem cell_fptr : V.cell (.fptr t o) = true := Eq.trans rfl rfl
theorem frz_fptr : frz h (.fptr t o) = ob (frz0 (.fptr t o)) fun v => some (v, h) := Eq.trans rfl rfl
theorem retV_fptr : retV base h .v (.fptr t o) tail = if V.top (.fptr t o) ≤ base then some ((.fptr t o), tail) else none := Eq.trans rfl rfl
theorem cells_fn : V.cells (.fn l cs ds) = [(.fn l cs ds)] := Eq.trans rfl rfl
theorem frz0_fn : frz0 (.fn l cs ds) = some (.fn l cs ds) := Eq.trans rfl rfl
theorem arg0_fn : arg0 (.fn l cs ds) = some (.fn l cs ds) := Eq.trans rfl rfl
theorem rdCell_fn : rdCell q r (.fn l cs ds) = (.fn l cs ds) := Eq.trans rfl rfl
theorem rdCells_fn : rdCells (.fn l cs ds) = (.fn l cs ds) := Eq.trans rfl rfl
theorem res0_fn : res0 (.fn l cs ds) = (.fn l cs ds) := Eq.trans rfl rfl
theorem cell_fn : V.cell (.fn l cs ds) = true := Eq.trans rfl rfl
theorem frz_fn : frz h (.fn l cs ds) = ob (frz0 (.fn l cs ds)) fun v => some (v, h) := Eq.trans rfl rfl
theorem retV_fn : retV base h .v (.fn l cs ds) tail = if V.top (.fn l cs ds) ≤ base then some ((.fn l cs ds), tail) else none := Eq.trans rfl rfl
theorem retV_lnk : retV base h .v (.lnk l o k es) tail = some (.lst k es, tail) := Eq.trans rfl rfl
theorem retV_ref : retV base h .v (.ref l n) tail = if l < base then some (.ref l n, tail) else ob (arrN h l n) fun p => if V.closed.closeds p.2.2 = true then some (if p.1 = true then .lst p.2.1 p.2.2 else .own p.2.1 p.2.2, tail) else none := Eq.trans rfl rfl
theorem retV_o : retV base h .o (.ptr l 0) tail = if l < base then some (.ptr l 0, tail) else ob (boxAt h l) fun p => if V.top.tops p.2 ≤ base ∧ tail.length = 0 then some (.ptr (base + tail.length) 0, tail ++ [.box p.1 p.2]) else none := Eq.trans rfl rfl
theorem retV_onil : retV base h .o (.s (.pointer none)) tail = some (.s (.pointer none), tail) := Eq.trans rfl rfl
theorem retV_f : retV base h .f (.ptr l o) tail = if l < base then none else ob (boxAt h l) fun p => if V.closed.closeds (p.2.map rdCells) = true then some (.fptr (.agg (p.2.map rdCells)) o, tail) else none := Eq.trans rfl rfl
theorem retV_ff : retV base h .f (.fptr t o) tail = some (.fptr t o, tail) := Eq.trans rfl rfl
theorem retV_fnil : retV base h .f (.s (.pointer none)) tail = some (.s (.pointer none), tail) := Eq.trans rfl rfl
theorem frz_ref : frz h (.ref l n) = ob (arrN h l n) fun p => if V.closed.closeds p.2.2 = true then some (.lst p.2.1 p.2.2, h.set l (.arr true p.2.1 p.2.2)) else none := Eq.trans rfl rfl
theorem keep_false : keep false h t = ob (frz0 t) fun v => some (v, h) := Eq.trans rfl rfl
theorem keep_true : keep true h t = frz h t := Eq.trans rfl rfl
theorem toL_nil : V.toL h vnil = some [] := Eq.trans rfl rfl
theorem toL_lst : V.toL h (.lst k es) = some es := Eq.trans rfl rfl
theorem toL_lnk : V.toL h (.lnk l o k es) = some es := Eq.trans rfl rfl
theorem toL_gro : V.toL h (.gro l o k es) = some es := Eq.trans rfl rfl
theorem toL_ref : V.toL h (.ref l n) = ob (arrN h l n) fun p => some p.2.2 := by
  simp only [V.toL, arrN, arrAt]
  cases h[l]? with
  | none => rfl
  | some y =>
    cases y with
    | arr z k es => by_cases hn : es.length = n <;> simp [ob, hn]
    | _ => rfl
theorem toL_bref : V.toL h (.bref l n) = ob (boxAt h l) fun p => if p.2.length = n then some (p.2.map rdCells) else none := by
  simp only [V.toL, V.toL2, boxAt]
  cases h[l]? with
  | none => rfl
  | some y => cases y <;> rfl
theorem toL_win : V.toL h (.win l n i j) = ob (arrN h l n) fun p => if j ≤ n then some ((p.2.2.take j).drop i) else none := by
  simp only [V.toL, V.toL2, arrN, arrAt]
  cases h[l]? with
  | none => rfl
  | some y =>
    cases y with
    | arr z k es => by_cases hn : es.length = n <;> simp [ob, hn]
    | _ => rfl
theorem cells_bref : V.cells (.bref l n) = [(.bref l n)] := Eq.trans rfl rfl
theorem frz0_bref : frz0 (.bref l n) = none := Eq.trans rfl rfl
theorem arg0_bref : arg0 (.bref l n) = some (.bref l n) := Eq.trans rfl rfl
theorem rdCell_bref : rdCell q r (.bref l n) = (.bref l n) := Eq.trans rfl rfl
theorem rdCells_bref : rdCells (.bref l n) = (.bref l n) := Eq.trans rfl rfl
theorem res0_bref : res0 (.bref l n) = (.bref l n) := Eq.trans rfl rfl
theorem cell_bref : V.cell (.bref l n) = false := Eq.trans rfl rfl
theorem nilSl_bref : isNilSl (.bref l n) = some false := Eq.trans rfl rfl
theorem appEls_bref : appEls h (.bref l n) = V.toL h (.bref l n) := Eq.trans rfl rfl
theorem cells_win : V.cells (.win l n i j) = [(.win l n i j)] := Eq.trans rfl rfl
theorem frz0_win : frz0 (.win l n i j) = none := Eq.trans rfl rfl
theorem arg0_win : arg0 (.win l n i j) = some (.win l n i j) := Eq.trans rfl rfl
theorem rdCell_win : rdCell q r (.win l n i j) = (.win l n i j) := Eq.trans rfl rfl
theorem rdCells_win : rdCells (.win l n i j) = (.win l n i j) := Eq.trans rfl rfl
theorem res0_win : res0 (.win l n i j) = (.win l n i j) := Eq.trans rfl rfl
theorem cell_win : V.cell (.win l n i j) = false := Eq.trans rfl rfl
theorem nilSl_win : isNilSl (.win l n i j) = some false := Eq.trans rfl rfl
theorem appEls_win : appEls h (.win l n i j) = V.toL h (.win l n i j) := Eq.trans rfl rfl
theorem retV_c : retV base h .c (.fn n [] [.ptr l 0]) tail = if l < base then none else ob (boxAt h l) fun p => if V.closed.closeds p.2 = true then some (.fn n [] [.fptr (.agg p.2) 0], tail) else none := Eq.trans rfl rfl
theorem cell_int (kk : IntKind) (y : Int) : V.cell (.s (.int kk y)) = true := Eq.trans rfl rfl
theorem cell_bool : V.cell (.s (.bool g)) = true := Eq.trans rfl rfl
theorem cell_string (y : ByteArray) : V.cell (.s (.string y)) = true := Eq.trans rfl rfl
theorem cell_ptr0 (y : Option Addr) : V.cell (.s (.pointer y)) = true := Eq.trans rfl rfl
theorem cell_slice (y : Option Addr) (a b : Nat) : V.cell (.s (.slice y a b)) = true := Eq.trans rfl rfl
theorem nilPtr_nil : isNilPtr vnp = some true := Eq.trans rfl rfl
theorem nilPtr_ptr : isNilPtr (.ptr l o) = some false := Eq.trans rfl rfl
theorem nilPtr_fptr : isNilPtr (.fptr t o) = some false := Eq.trans rfl rfl
theorem nilPtr_eptr : isNilPtr (.eptr l n i j) = some false := Eq.trans rfl rfl
theorem nilSl_nil : isNilSl vnil = some true := Eq.trans rfl rfl
theorem nilSl_lst : isNilSl (.lst k es) = some false := Eq.trans rfl rfl
theorem nilSl_lnk : isNilSl (.lnk l o k es) = some false := Eq.trans rfl rfl
theorem nilSl_gro : isNilSl (.gro l o k es) = some false := Eq.trans rfl rfl
theorem nilSl_ref : isNilSl (.ref l n) = some false := Eq.trans rfl rfl
theorem asNat_int (kk : IntKind) (y : Int) : asNat (.s (.int kk y)) = if 0 ≤ y then some y.toNat else none := Eq.trans rfl rfl
theorem optNat_some : optNat n (some t) = asNat t := Eq.trans rfl rfl
theorem optNat_none : optNat n none = some n := Eq.trans rfl rfl
theorem appEls_str (y : ByteArray) : appEls h (.s (.string y)) = some (ofBytes y) := Eq.trans rfl rfl
theorem appEls_nil : appEls h vnil = some [] := Eq.trans rfl rfl
theorem appEls_lst : appEls h (.lst k es) = some es := Eq.trans rfl rfl
theorem appEls_lnk : appEls h (.lnk l o k es) = some es := Eq.trans rfl rfl
theorem appEls_gro : appEls h (.gro l o k es) = some es := Eq.trans rfl rfl
theorem appEls_ref : appEls h (.ref l n) = V.toL h (.ref l n) := Eq.trans rfl rfl
theorem xload_ptr : xload h n g (.ptr l o) = ob (boxAt h l) fun p => if g = true then rdRow n true o (p.2.map rdCells) else ob p.2[o]? fun c => some (rdCell l o c) := Eq.trans rfl rfl
theorem xload_fptr : xload h n g (.fptr t o) = rdRow n g o t.cells := Eq.trans rfl rfl
theorem xload_eptr : xload h q g (.eptr l n i j) = ob (arrN h l n) fun p => ob p.2.2[i]? fun e => rdRow q g j e.cells := Eq.trans rfl rfl
theorem resM_own : resM h (.own k es) = some (.ref h.length es.length, h ++ [.arr false k es]) := Eq.trans rfl rfl
theorem resM_s : resM h (.s x) = some (.s x, h) := Eq.trans rfl rfl
theorem resM_lst : resM h (.lst k es) = some (.lst k es, h) := Eq.trans rfl rfl
theorem resM_ref : resM h (.ref l n) = some (.ref l n, h) := Eq.trans rfl rfl
theorem xstore_ptr : xstore base h n (.ptr l o) t = if t.cells.length = n then ob (boxAt h l) fun p => if p.1 = true then none else ob (stCells base l o t.cells h p.2) fun q => some (q.2.set l (.box false q.1)) else none := Eq.trans rfl rfl
theorem xstore_eptr : xstore base h q (.eptr l n i j) t = if t.cells.length = q then ob (arrN h l n) fun p => if p.1 = true then none else ob p.2.2[i]? fun e => ob (keep0s t.cells) fun cs => if j + q ≤ e.cells.length ∧ V.closed.closeds cs = true ∧ cellsOk cs = true then some (h.set l (.arr false p.2.1 (p.2.2.set i (putEl j cs e)))) else none else none := Eq.trans rfl rfl
/-- What a cell that holds no list of one's own takes. -/
def stNew (base l : Nat) (new : V) (h : H) : Option (V × H) := match new with
    | .gro .. | .own .. | .spent .. | .eptr .. | .agg .. | .tup .. | .bref .. | .win .. | .s (.agg _) | .s (.tuple _) => none
    | .lnk _ _ k es => some (.lst k es, h)
    | .ref l' n => ob (arrN h l' n) fun p => if p.1 = true then some (.lst p.2.1 p.2.2, h) else if V.closed.closeds p.2.2 = true then some (.own p.2.1 p.2.2, h.set l' .dead) else none
    | v => if base ≤ l ∨ v.top ≤ l + 1 then some (v, h) else none
theorem stCell_s : stCell base q r (.s x) t h = stNew base q t h := by cases t <;> rfl
theorem stCell_lst : stCell base q r (.lst k es) t h = stNew base q t h := by cases t <;> rfl
theorem stCell_ptr : stCell base q r (.ptr l o) t h = stNew base q t h := by cases t <;> rfl
theorem stCell_fptr : stCell base q r (.fptr t o) t h = stNew base q t h := by cases t <;> rfl
theorem stCell_fn : stCell base q r (.fn l cs ds) t h = stNew base q t h := by cases t <;> rfl
theorem stCell_own : stCell base q r (.own k es) (.lnk l o n gs) h = if q = l ∧ r = o ∧ k = n ∧ es.length = gs.length then some (.own k es, h) else none := Eq.trans rfl rfl
theorem stCell_spent : stCell base q r (.spent k es gs) (.gro l o n ds) h = if q = l ∧ r = o ∧ k = n ∧ gs.length = ds.length then some (.own k gs, h) else none := Eq.trans rfl rfl
theorem stNew_lnk : stNew base q (.lnk l o k es) h = some (.lst k es, h) := Eq.trans rfl rfl
theorem stNew_ref : stNew base q (.ref l n) h = ob (arrN h l n) fun p => if p.1 = true then some (.lst p.2.1 p.2.2, h) else if V.closed.closeds p.2.2 = true then some (.own p.2.1 p.2.2, h.set l .dead) else none := Eq.trans rfl rfl
theorem stNew_ptr : stNew base q (.ptr l o) h = if base ≤ q ∨ V.top (.ptr l o) ≤ q + 1 then some ((.ptr l o), h) else none := Eq.trans rfl rfl
theorem stNew_fptr : stNew base q (.fptr t o) h = if base ≤ q ∨ V.top (.fptr t o) ≤ q + 1 then some ((.fptr t o), h) else none := Eq.trans rfl rfl
theorem stNew_fn : stNew base q (.fn l cs ds) h = if base ≤ q ∨ V.top (.fn l cs ds) ≤ q + 1 then some ((.fn l cs ds), h) else none := Eq.trans rfl rfl
theorem stNew_plain (hv : t.plain = true) : stNew base q t h = some (t, h) := by
  cases t with
  | s x => cases x <;> first | (simp [V.plain] at hv; done) | simp [stNew, V.top]
  | lst k es => simp [stNew, V.top]
  | _ => simp [V.plain] at hv
theorem xappend_nil : xappend h k n vnil t = ob (appEls h t) fun ys => if wide k ys = true ∧ V.closed.closeds ys = true then (if ys.length = 0 then some (vnil, h) else if ys.length ≤ n then some (.ref h.length ys.length, h ++ [.arr false k ys]) else none) else none := Eq.trans rfl rfl
theorem xappend_ref : xappend h k q (.ref l n) t = ob (appEls h t) fun ys => if wide k ys = true ∧ V.closed.closeds ys = true then (ob (arrN h l n) fun p => if p.1 = false ∧ k = p.2.1 ∧ n + ys.length ≤ q then some (.ref l (n + ys.length), h.set l (.arr false k (p.2.2 ++ ys))) else none) else none := Eq.trans rfl rfl
/-- append to the list of a cell. -/
def appCell (l o k k' lim : Nat) (h : H) (z : Bool) (cs es ys : List V) (c : V) : Option (V × H) := match c with
  | .own k'' es' => if z = false ∧ es'.length = es.length ∧ k = k' ∧ k = k'' ∧ es'.length + ys.length ≤ lim then
      if ys.length = 0 then some (.lnk l o k es', h) else some (.gro l o k (es' ++ ys), h.set l (.box false (cs.set o (.spent k es' (es' ++ ys))))) else none
  | _ => none
theorem appCell_own : appCell l o k n q h g cs es ds (.own r gs) = if g = false ∧ gs.length = es.length ∧ k = n ∧ k = r ∧ gs.length + ds.length ≤ q then (if ds.length = 0 then some (.lnk l o k gs, h) else some (.gro l o k (gs ++ ds), h.set l (.box false (cs.set o (.spent k gs (gs ++ ds)))))) else none := Eq.trans rfl rfl
theorem xappend_lnk : xappend h k n (.lnk l o q es) t = ob (appEls h t) fun ys => if wide k ys = true ∧ V.closed.closeds ys = true then (ob (boxAt h l) fun p => ob p.2[o]? fun c => appCell l o k q n h p.1 p.2 es ys c) else none := Eq.trans rfl rfl
end

theorem plain_int (kk : IntKind) (y : Int) : V.plain (.s (.int kk y)) = true := Eq.trans rfl rfl
theorem plain_bool (y : Bool) : V.plain (.s (.bool y)) = true := Eq.trans rfl rfl
theorem plain_string (y : ByteArray) : V.plain (.s (.string y)) = true := Eq.trans rfl rfl
theorem plain_pointer (y : Option Addr) : V.plain (.s (.pointer y)) = true := Eq.trans rfl rfl
theorem plain_slice (y : Option Addr) (a b : Nat) : V.plain (.s (.slice y a b)) = true := Eq.trans rfl rfl
theorem plain_lst (k : Nat) (es : List V) : V.plain (.lst k es) = true := Eq.trans rfl rfl
theorem wanted_none (s : Sl) : wanted s none = some true := Eq.trans rfl rfl
/-- Does this test let it run? -/
def wantV (v : V) (b : Bool) : Option Bool := match v with
  | .s (.bool c) => some (c == b)
  | .s (.tuple _) => some false
  | _ => none
theorem wanted_some (s : Sl) (t : Nat) (b : Bool) : wanted s (some (t, b)) = wantV (s t) b := Eq.trans rfl rfl
theorem wantV_bool (c b : Bool) : wantV (.s (.bool c)) b = some (c == b) := Eq.trans rfl rfl
theorem wantV_u (a : Array Value) (b : Bool) : wantV (.s (.tuple a)) b = some false := Eq.trans rfl rfl
theorem optEq_self (v : V) : optEq (some v) (some v) = true := same_self v
/-- A slice that nobody writes to. -/
def lv (k : Nat) : Option (List V) → V
  | none => vnil
  | some es => .lst k es
theorem lv_plain (k : Nat) (o : Option (List V)) : (lv k o).plain = true := by cases o <;> rfl
theorem lv_nilSl (k : Nat) (o : Option (List V)) : isNilSl (lv k o) = some o.isNone := by cases o <;> rfl
theorem lv_appEls (k : Nat) (o : Option (List V)) (h : H) : appEls h (lv k o) = some (o.getD []) := by cases o <;> rfl
theorem lv_toL (k : Nat) (o : Option (List V)) (h : H) : (lv k o).toL h = some (o.getD []) := by cases o <;> rfl
theorem iaddrV_lv (h : H) (k i : Nat) (o : Option (List V)) : iaddrV h k (lv k o) i = ob (o.getD [])[i]? fun e => some (.fptr e 0) := by
  cases o with
  | none => simp [lv, iaddrV, xiaddr2, ob]
  | some es => simp [lv, iaddrV]
theorem slV_lv (h : H) (k : Nat) (o : Option (List V)) (lo hi : Option V) : slV h k (lv k o) lo hi = ob (bounds (o.getD []).length lo hi) fun p => some (lv k (o.map fun es => (es.take p.2).drop p.1)) := by
  cases o with
  | none => simp [lv, slV]
  | some es => simp [lv, slV]
/-- An element of it. -/
theorem lv_at {k i : Nat} {o : Option (List V)} {e : V} (he : (o.getD [])[i]? = some e) : ∃ es, lv k o = .lst k es ∧ es[i]? = some e := by
  cases o with
  | none => simp at he
  | some es => exact ⟨es, rfl, he⟩

attribute [simp] cells_s frz0_s arg0_s rdCell_s rdCells_s res0_s frz_s retV_s cells_agg frz0_agg arg0_agg rdCell_agg rdCells_agg res0_agg cell_agg frz_agg retV_agg cells_tup frz0_tup arg0_tup rdCell_tup rdCells_tup res0_tup cell_tup frz_tup retV_tup cells_lst frz0_lst arg0_lst rdCell_lst rdCells_lst res0_lst cell_lst frz_lst retV_lst cells_lnk frz0_lnk arg0_lnk rdCell_lnk rdCells_lnk res0_lnk cell_lnk frz_lnk cells_gro frz0_gro arg0_gro rdCell_gro rdCells_gro res0_gro cell_gro frz_gro retV_gro cells_own frz0_own arg0_own rdCell_own rdCells_own res0_own cell_own frz_own q_retV_own cells_spent frz0_spent arg0_spent rdCell_spent rdCells_spent res0_spent cell_spent frz_spent retV_spent cells_ref frz0_ref arg0_ref rdCell_ref rdCells_ref res0_ref cell_ref cells_ptr frz0_ptr arg0_ptr rdCell_ptr rdCells_ptr res0_ptr cell_ptr frz_ptr retV_ptr cells_eptr frz0_eptr arg0_eptr rdCell_eptr rdCells_eptr res0_eptr cell_eptr frz_eptr retV_eptr cells_fptr frz0_fptr arg0_fptr rdCell_fptr rdCells_fptr res0_fptr cell_fptr frz_fptr retV_fptr cells_fn frz0_fn arg0_fn rdCell_fn rdCells_fn res0_fn cell_fn frz_fn retV_fn retV_lnk retV_ref retV_o retV_onil retV_f retV_ff retV_fnil frz_ref keep_false keep_true toL_nil toL_lst toL_lnk toL_gro toL_ref cell_int cell_bool cell_string cell_ptr0 cell_slice nilPtr_nil nilPtr_ptr nilPtr_fptr nilPtr_eptr nilSl_nil nilSl_lst nilSl_lnk nilSl_gro nilSl_ref asNat_int optNat_some optNat_none appEls_str appEls_nil appEls_lst appEls_lnk appEls_gro appEls_ref xload_ptr xload_fptr xload_eptr resM_own resM_s resM_lst resM_ref xstore_ptr xstore_eptr stCell_s stCell_lst stCell_ptr stCell_fptr stCell_fn stCell_own stCell_spent stNew_lnk stNew_ref stNew_ptr stNew_fptr stNew_fn stNew_plain xappend_nil xappend_ref appCell_own xappend_lnk
attribute [congr] brV_congr grd_congr
attribute [simp] plain_int plain_bool plain_string plain_pointer plain_slice plain_lst
attribute [simp] toL_bref toL_win cells_bref frz0_bref arg0_bref rdCell_bref rdCells_bref res0_bref cell_bref nilSl_bref appEls_bref cells_win frz0_win arg0_win rdCell_win rdCells_win res0_win cell_win nilSl_win appEls_win retV_c iaddrV_bref iaddrV_win xslFrz_nil xslFrz_lst xslFrz_ref xclear_nil xclear_win
attribute [simp] iaddrV_ref iaddrV_lst iaddrV_lnk slV_lst slV_lnk slV_nil slV_ref iaddrV_lv slV_lv
attribute [simp] lenT_str same_self wanted_none wanted_some wantV_bool wantV_u optEq_self
attribute [simp high] plain_cells plain_frz0 plain_arg0 plain_rdCell plain_rdCells plain_closed plain_cell plain_top plain_res0 plain_stCell plain_retV plain_noOwn lv_plain lv_toL lv_nilSl lv_appEls
attribute [simp] xbin_add xbin_sub xbin_mul xbin_quo xbin_rem xbin_and xbin_or xbin_xor xbin_eql xbin_neq xbin_lss xbin_leq xbin_gtr xbin_geq xbin_shl xbin_shr xbin_str xun_not xun_neg
attribute [simp ↓] ob_some ob_none upd_same upd_ne brV_true brV_false xcode_skip xcode_exit xcode_ret xcode_seq xcode_block xcode_loop xcode_cond xcode_region xcode_drawn xcode_drawn0 thenC_norm thenC_exit thenC_ret
  outOf_norm outOf_ret outOf_same outOf_ne xops_nil xops_cons nextSt_some nextSt_none xstep_go grd_tt grd_tf grd_ft grd_ff grd_u xstep_grd put_some put_none ev_t ev_c evs_nil evs_cons evParts_nil evParts_cons evOpt_some evOpt_none
  pureV_eq xop_cp xop_pick xop_build0 xop_build1 xop_bslice0 xop_bslice1 xop_nilchk xop_bin xop_eqv xop_un xop_conv xop_mkfn0 xop_mkfn1 xop_slStr xop_faddr xop_idxS xop_idxA xop_field xop_extract xop_minmax xop_load xop_lenT xop_len xop_iaddr xop_iaddrA
  xop_slLst xop_slBox xop_slFrz xop_clear xop_toStr xop_alloc xop_box xop_store xop_slArr xop_append xop_mkmap xop_mput xop_mget xop_call xop_callM callV_fn xop_callv xcall_false backR_norm backR_ret backV_eq xfun_mk retVs_nil retVs_cons retVs_box
attribute [simp] take_set take_set_app take_app at_right at_right0 at_app at_app0 set_right set_right0 set_app set_app0 ob_ob ob_ite args0_apply xpure xread xeff arg0s V.ofRes stCells keeps keep0s arrN boxAt arrAt rdRow strOp xeqv eqRes eqCells eqCell xun bounds setParts addParts putRow wide cellsOk V.closed V.closed.closeds V.top V.top.tops List.getD xtrace stable stable1 lastSt

end Go.Proofs.Sl

namespace Go.Proofs.Sl

theorem xop_mkslice (cf : CallF) (base : Nat) (s : Sl) (h : H) (k : Nat) (z : V) (lim : Nat) (l c : Opd) : xop cf base s h (.mkslice k z lim l c) =
    ob (asNat (l.ev s)) fun l => ob (asNat (c.ev s)) fun c => if l ≤ c ∧ c ≤ lim ∧ wide k [z] = true ∧ z.closed = true then some (.ref h.length l, h ++ [.arr false k (List.replicate l z)]) else none := Eq.trans rfl rfl
attribute [simp ↓] xop_mkslice

/-- These slots hold these values. -/
def Sees (s : Sl) : List (Nat × V) → Prop
  | [] => True
  | p :: r => s p.1 = p.2 ∧ Sees s r
theorem sees_nil (s : Sl) : Sees s [] = True := Eq.trans rfl rfl
theorem sees_cons (s : Sl) (t : Nat) (v : V) (r : List (Nat × V)) : Sees s ((t, v) :: r) = (s t = v ∧ Sees s r) := Eq.trans rfl rfl
attribute [simp] sees_nil sees_cons

section
variable {B : Body} {β : Type} {f : Ex × St → Option β} {b : Option β}
/-- A loop whose rounds lessen something. -/
theorem loop_ind {σ : Type} (m : σ → Nat) (I : σ → Sl → H → Prop)
    (step : ∀ (B' : Body) (f' : Ex × St → Option β), (∀ st, B' st = B st) → (∀ r, f' r = f r) → ∀ a s h, I a s h → (∀ a' s' h', m a' < m a → I a' s' h' → ob (loopW B' ⟨s', h'⟩) f' = b) →
      ob (B' ⟨s, h⟩) (fun r => ob (thenC (loopW B') r) f') = b) : ∀ a s h, I a s h → ob (loopW B ⟨s, h⟩) f = b := by
  have key : ∀ n a s h, m a = n → I a s h → ob (loopW B ⟨s, h⟩) f = b := by
    intro n
    induction n using Nat.strongRecOn with
    | ind n ih =>
      intro a s h e i
      rw [loopW_cps]
      exact step B f (fun _ => rfl) (fun _ => rfl) a s h i fun a' s' h' hm i' => ih _ (by omega) a' s' h' rfl i'
  exact fun a s h i => key _ a s h rfl i
/-- A loop over a list: what holds behind k rounds. -/
theorem loop_list {α : Type} (es : List α) (I : Nat → Sl → H → Prop)
    (step : ∀ (B' : Body) (f' : Ex × St → Option β), (∀ st, B' st = B st) → (∀ r, f' r = f r) → ∀ k e s h, es[k]? = some e → k < es.length → I k s h → (∀ s' h', I (k + 1) s' h' → ob (loopW B' ⟨s', h'⟩) f' = b) →
      ob (B' ⟨s, h⟩) (fun r => ob (thenC (loopW B') r) f') = b)
    (last : ∀ (B' : Body), (∀ st, B' st = B st) → ∀ s h, I es.length s h → ob (B' ⟨s, h⟩) (fun r => ob (thenC (loopW B') r) f) = b) :
    ∀ s h, I 0 s h → ob (loopW B ⟨s, h⟩) f = b := by
  have := loop_ind (B := B) (f := f) (b := b) (σ := Nat) (fun k => es.length - k) (fun k s h => k ≤ es.length ∧ I k s h) (fun B' f' hB hf k s h ⟨hk, i⟩ kk => by
    by_cases hl : k < es.length
    · exact step B' f' hB hf k _ s h (List.getElem?_eq_getElem hl) hl i fun s' h' i' => kk (k + 1) s' h' (by omega) ⟨by omega, i'⟩
    · obtain rfl : k = es.length := by omega
      have := last B' hB s h i
      rw [← this]
      congr 1
      funext r
      congr 1
      exact funext hf)
  exact fun s h i => this 0 s h ⟨by omega, i⟩
/-- A loop that counts to n. -/
theorem loop_up (n : Nat) (I : Nat → Sl → H → Prop)
    (step : ∀ (B' : Body) (f' : Ex × St → Option β), (∀ st, B' st = B st) → (∀ r, f' r = f r) → ∀ k s h, k < n → I k s h → (∀ s' h', I (k + 1) s' h' → ob (loopW B' ⟨s', h'⟩) f' = b) →
      ob (B' ⟨s, h⟩) (fun r => ob (thenC (loopW B') r) f') = b)
    (last : ∀ (B' : Body), (∀ st, B' st = B st) → ∀ s h, I n s h → ob (B' ⟨s, h⟩) (fun r => ob (thenC (loopW B') r) f) = b) :
    ∀ s h, I 0 s h → ob (loopW B ⟨s, h⟩) f = b := by
  have := loop_list (B := B) (f := f) (b := b) (List.range n) I (fun B' f' hB hf k _ s h _ hl i kk => step B' f' hB hf k s h (by simpa using hl) i kk) (by simpa using last)
  exact this
end

/-! ### A slice, whatever it is made of -/
/-- What a slice holds: nil, a list that nobody writes to, a whole array. -/
inductive Rd (h : H) (k : Nat) : V → List V → Prop
  | nil : Rd h k vnil []
  | lst (es : List V) : Rd h k (.lst k es) es
  | ref (n : Nat) (z : Bool) (es : List V) (e : h[n]? = some (.arr z k es)) : Rd h k (.ref n es.length) es
section
variable {h : H} {k : Nat} {v : V} {es : List V}
theorem Rd.lv (h : H) (k : Nat) (o : Option (List V)) : Rd h k (lv k o) (o.getD []) := by
  cases o with
  | none => exact .nil
  | some es => exact .lst es
theorem Rd.toL (r : Rd h k v es) : v.toL h = some es := by
  cases r with
  | nil => simp
  | lst es => simp
  | ref n z es e => simp [e]
theorem Rd.appEls (r : Rd h k v es) : appEls h v = some es := by
  cases r with
  | nil => simp
  | lst es => simp
  | ref n z es e => simp [e]
theorem Rd.arg0 (r : Rd h k v es) : arg0 v = some v := by cases r <;> simp
theorem Rd.res0 (r : Rd h k v es) : res0 v = v := by cases r <;> simp
theorem Rd.at (r : Rd h k v es) {i : Nat} {e : V} (he : es[i]? = some e) : ∃ p, iaddrV h k v i = some p ∧ ∀ c g, xload h c g p = rdRow c g 0 e.cells := by
  cases r with
  | nil => simp at he
  | lst es => exact ⟨.fptr e 0, by simp [he], fun c g => by rw [xload_fptr]⟩
  | ref n z es e' =>
    have hi : i < es.length := (List.getElem?_eq_some_iff.1 he).1
    exact ⟨.eptr n es.length i 0, by simp [e', hi], fun c g => by rw [xload_eptr]; simp [e', he]⟩
theorem Rd.at1 (r : Rd h k v es) {i : Nat} {e : V} (he : es[i]? = some e) (hp : e.plain = true) : ∃ p, iaddrV h k v i = some p ∧ xload h 1 false p = some e := by
  obtain ⟨p, h1, h2⟩ := r.at he
  exact ⟨p, h1, by rw [h2]; simp [rdRow, hp]⟩
theorem Rd.set (r : Rd h k v es) {l : Nat} {c : O} (hl : ∀ z k es, h[l]? ≠ some (.arr z k es)) : Rd (h.set l c) k v es := by
  cases r with
  | nil => exact .nil
  | lst es => exact .lst es
  | ref n z es e =>
    refine .ref n z es ?_
    rw [List.getElem?_set_ne]
    · exact e
    · rintro rfl
      exact hl _ _ _ e
theorem Rd.app (r : Rd h k v es) (t : H) : Rd (h ++ t) k v es := by
  cases r with
  | nil => exact .nil
  | lst es => exact .lst es
  | ref n z es e =>
    refine .ref n z es ?_
    rw [List.getElem?_append_left (List.getElem?_eq_some_iff.1 e).1]
    exact e
/-- A box at l that is no array. -/
theorem Rd.setBox (r : Rd h k v es) {l : Nat} {c : O} {z : Bool} {cs : List V} (hl : h[l]? = some (.box z cs)) : Rd (h.set l c) k v es := r.set fun _ _ _ e => by rw [hl] at e; cases e
end

/-! ### A slice that is appended to, in a variable -/
def gv (n : Nat) (es : List V) : V := if es = [] then vnil else .ref n es.length
def gt (k : Nat) (es : List V) : H := if es = [] then [] else [.arr false k es]
theorem gv_nil (n : Nat) : gv n [] = vnil := by simp [gv]
theorem gt_nil (k : Nat) : gt k [] = [] := by simp [gt]
theorem gv_rd {h : H} {n : Nat} (k : Nat) (es : List V) (hn : n = h.length) (t : H) : Rd (h ++ (gt k es ++ t)) k (gv n es) es := by
  subst hn
  by_cases he : es = []
  · subst he
    rw [gv_nil]
    exact .nil
  · rw [gv, if_neg he]
    exact .ref _ false _ (by simp [gt, he])
theorem gv_rd0 {h : H} {n : Nat} (k : Nat) (es : List V) (hn : n = h.length) : Rd (h ++ gt k es) k (gv n es) es := by
  have := gv_rd k es hn []
  rwa [List.append_nil] at this
theorem gv_app {h : H} {k n lim : Nat} {es ys : List V} (hn : n = h.length) (hw : wide k ys = true) (hc : V.closed.closeds ys = true) (hy : ys ≠ []) (hl : es.length + ys.length ≤ lim) :
    xappend (h ++ gt k es) k lim (gv n es) (.lst k ys) = some (gv n (es ++ ys), h ++ gt k (es ++ ys)) := by
  subst hn
  have hy' : ys.length ≠ 0 := by simpa using hy
  by_cases he : es = []
  · subst he
    have hl' : ys.length ≤ lim := by simpa using hl
    simp [gv, gt, hw, hc, hy, hl', xappend]
  · have : es ++ ys ≠ [] := by simp [he]
    simp [gv, gt, hw, hc, he, hl, this, xappend]
end Go.Proofs.Sl
