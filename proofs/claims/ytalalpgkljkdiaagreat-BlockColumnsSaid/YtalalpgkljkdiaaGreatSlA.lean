/- A part of the proof. -/
import GoSem.Dispatch
import Derived.Sort.Statements
import Derived.WalkKit
import Derived.WalkLawsBesides
import Derived.MapKept
set_option linter.unusedVariables false
set_option linter.unusedSimpArgs false
set_option linter.unnecessarySimpa false
namespace Go.Proofs.Sl
def ob {α β:Type} (x:Option α) (f:α→Option β):Option β:=match x with
 | some a=>f a
 | none=>none
theorem zab_ {α β:Type} (a:α) (f:α→Option β):ob (some a) f=f a:=rfl
theorem zbls_ {α β:Type} (f:α→Option β):ob (none:Option α) f=none:=rfl
theorem ob_ob {α β γ:Type} (x:Option α) (f:α→Option β) (g:β→Option γ):ob (ob x f) g=ob x fun a=>ob (f a) g:=by cases x <;> rfl
@[congr] theorem zdkw_ {α β:Type} {x y:Option α} {f:α→Option β} (h:x=y):ob x f=ob y f:=by rw [h]
theorem zaa_ {α β:Type} {x:Option α} {f:α→Option β} {b:β}:ob x f=some b↔∃ a,x=some a∧f a=some b:=by
 cases x <;> simp [ob]
theorem ob_ite {α β:Type} (c:Prop) [Decidable c] (x y:Option α) (f:α→Option β):ob (if c then x else y) f=if c then ob x f else ob y f:=by split <;> rfl
inductive V where
 | s (x:Value)
 | agg (cs:List V)
 | tup (vs:List V)
 | lst (k:Nat) (es:List V)
 | lnk (l o k:Nat) (es:List V)
 | gro (l o k:Nat) (es:List V)
 | own (k:Nat) (es:List V)
 | spent (k:Nat) (es gs:List V)
 | ref (l n:Nat)
 | ptr (l o:Nat)
 | eptr (l n i j:Nat)
 | fptr (v:V) (o:Nat)
 | fn (f:Nat) (first cap:List V)
 | bref (l n:Nat)
 | win (l n a b:Nat)
 | mref (l:Nat)
 | ifc (t:Nat) (v:V)
 deriving Inhabited
inductive O where
 | box (z:Bool) (cs:List V)
 | arr (z:Bool) (k:Nat) (es:List V)
 | dead
 | mp (es:List (Value × V))
 deriving Inhabited
abbrev H:=List O
abbrev V.u:V:=.s (.tuple #[])
abbrev vi (n:Int):V:=.s (.int .i64 n)
abbrev vk (k:IntKind) (n:Int):V:=.s (.int k n)
abbrev vb (b:Bool):V:=.s (.bool b)
abbrev vs (s:ByteArray):V:=.s (.string s)
abbrev vnil:V:=.s (.slice none 0 0)
abbrev vnp:V:=.s (.pointer none)
def V.cells:V→List V
 | .agg cs=>cs
 | v=>[v]
def V.top:V→Nat
 | .s _ | .lst .. | .own .. | .spent .. | .fptr ..=>0
 | .agg cs=>tops cs
 | .tup cs=>tops cs
 | .lnk l .. | .gro l .. | .ref l _ | .ptr l _ | .eptr l .. | .bref l _ | .win l .. | .mref l=>l + 1
 | .fn _ a b=>max (tops a) (tops b)
 | .ifc _ v=>v.top
where tops:List V→Nat
 | []=>0
 | v :: r=>max v.top (tops r)
def V.closed:V→Bool
 | .s _ | .lst .. | .fptr ..=>true
 | .agg cs=>closeds cs
 | .tup cs=>closeds cs
 | .fn _ a b=>closeds a && closeds b
 | .ifc _ v=>v.closed
 | _=>false
where closeds:List V→Bool
 | []=>true
 | v :: r=>v.closed && closeds r
def V.cell:V→Bool
 | .agg _ | .tup _ | .gro .. | .lnk .. | .eptr .. | .bref .. | .win .. | .s (.agg _) | .s (.tuple _)=>false
 | _=>true
def zai_:List V→Bool
 | []=>true
 | v :: l=>v.cell && zai_ l
def noOwn:List V→Bool
 | []=>true
 | .own .. :: _=>false
 | .spent .. :: _=>false
 | .ref .. :: _=>false
 | _ :: l=>noOwn l
def V.heldB:V→Bool
 | .own .. | .spent ..=>true
 | _=>false
def valEq:Value→Value→Bool
 | .bool a,.bool b=>a == b
 | .int k a,.int k' b=>k == k' && a == b
 | .string a,.string b=>a == b
 | .pointer a,.pointer b=>a == b
 | .slice a n c,.slice a' n' c'=>a == a' && n == n' && c == c'
 | .map a,.map b=>a == b
 | .nilFunc,.nilFunc=>true
 | .nilIface,.nilIface=>true
 | .tuple a,.tuple b=>a.isEmpty && b.isEmpty
 | _,_=>false
def V.eq:V→V→Bool
 | .s x,.s y=>valEq x y
 | .agg a,.agg b=>eqs a b
 | .tup a,.tup b=>eqs a b
 | .lst k a,.lst k' b=>k == k' && eqs a b
 | .lnk l o k a,.lnk l' o' k' b=>l == l' && o == o' && k == k' && eqs a b
 | .gro l o k a,.gro l' o' k' b=>l == l' && o == o' && k == k' && eqs a b
 | .own k a,.own k' b=>k == k' && eqs a b
 | .spent k a c,.spent k' b d=>k == k' && eqs a b && eqs c d
 | .ref l n,.ref l' n'=>l == l' && n == n'
 | .ptr l n,.ptr l' n'=>l == l' && n == n'
 | .eptr l n i j,.eptr l' n' i' j'=>l == l' && n == n' && i == i' && j == j'
 | .fptr v o,.fptr v' o'=>v.eq v' && o == o'
 | .fn f a b,.fn f' a' b'=>f == f' && eqs a a' && eqs b b'
 | .bref l n,.bref l' n'=>l == l' && n == n'
 | .win l n a b,.win l' n' a' b'=>l == l' && n == n' && a == a' && b == b'
 | .mref l,.mref l'=>l == l'
 | .ifc t v,.ifc t' v'=>t == t' && v.eq v'
 | _,_=>false
where eqs:List V→List V→Bool
 | [],[]=>true
 | x :: a,y :: b=>x.eq y && eqs a b
 | _,_=>false
def mpEq:List (Value × V)→List (Value × V)→Bool
 | [],[]=>true
 | x :: a,y :: b=>valEq x.1 y.1 && x.2.eq y.2 && mpEq a b
 | _,_=>false
def O.eq:O→O→Bool
 | .box z a,.box z' b=>z == z' && V.eq.eqs a b
 | .arr z k a,.arr z' k' b=>z == z' && k == k' && V.eq.eqs a b
 | .dead,.dead=>true
 | .mp a,.mp b=>mpEq a b
 | _,_=>false
def H.eq:H→H→Bool
 | [],[]=>true
 | x :: a,y :: b=>x.eq y && H.eq a b
 | _,_=>false
inductive Opd where
 | t (n:Nat)
 | c (v:V)
 deriving Inhabited
inductive CK where
 | b | i | t
 deriving Inhabited,DecidableEq
inductive EK where
 | b | p | s
 | a (ks:List CK)
 deriving Inhabited,DecidableEq
inductive XO where
 | cp (x:Opd)
 | pick (c a b:Opd)
 | alloc (z:List V)
 | box (r:Bool) (x:Opd)
 | build (r:Bool) (z:List V) (parts:List (Nat × Nat × Opd))
 | buildR (z:List V) (parts:List (Nat × Nat × Opd))
 | bslice (m:Bool) (k:Nat) (parts:List Opd)
 | load (n:Nat) (agg:Bool) (x:Opd)
 | store (n:Nat) (x v:Opd)
 | storeR (x v:Opd)
 | nilchk (x:Opd)
 | bin (op:BinOp) (x y:Opd)
 | eqv (k:EK) (neg:Bool) (x y:Opd)
 | un (op:UnOp) (x:Opd)
 | conv (k:IntKind) (x:Opd)
 | toStr (x:Opd)
 | mkfn (r:Bool) (f:Nat) (first cap:List Opd)
 | mkslice (k:Nat) (z:V) (lim:Nat) (l c:Opd)
 | slStr (x:Opd) (lo hi:Option Opd)
 | slLst (k:Nat) (x:Opd) (lo hi:Option Opd)
 | slArr (n:Nat) (x:Opd)
 | slBox (n:Nat) (x:Opd)
 | slFrz (k:Nat) (x:Opd) (lo hi:Option Opd)
 | clear (k:Nat) (z:V) (x:Opd)
 | faddr (x:Opd) (off:Nat)
 | iaddr (k:Nat) (x i:Opd)
 | iaddrA (n k:Nat) (x i:Opd)
 | idxS (x i:Opd)
 | idxA (n k:Nat) (agg:Bool) (x i:Opd)
 | field (off n:Nat) (agg:Bool) (x:Opd)
 | extract (x:Opd) (i:Nat)
 | len (str:Bool) (x:Opd)
 | minmax (isMax:Bool) (xs:List Opd)
 | append (k lim:Nat) (x y:Opd)
 | call (m:Bool) (f:Nat) (args:List Opd)
 | callv (m:Bool) (f:Opd) (args:List Opd)
 | mkifc (t:Nat) (x:Opd)
 | calli (m:Bool) (tb:List (Nat × Nat)) (x:Opd) (args:List Opd)
 | callK (f:Nat) (args:List Opd)
 | loadF (n:Nat) (agg:Bool) (x:Opd)
 | mkmap
 | mput (kk:CK) (m k v:Opd)
 | mget (kk:CK) (ok:Bool) (z:V) (m k:Opd)
 deriving Inhabited
structure XOp where
 dst:Option Nat
 op:XO
 guard:Option (Nat × Bool):=none
 deriving Inhabited
inductive XC where
 | skip
 | region (ops:List XOp) (d:Option (List (Nat × Option Nat)))
 | seq (a b:XC)
 | cond (c:Opd) (a b:XC)
 | block (id:Nat) (b:XC)
 | loop (b:XC)
 | exit (id:Nat)
 | ret
 deriving Inhabited
inductive RK where
 | v | o | f | c
 | m
 deriving Inhabited
inductive NK where
 | sort (k:Nat)
 | seq (it k lim:Nat)
 | grow (k lim:Nat)
 | keep
 | srt (str:Bool)
 | rd (sem:List V→H→Option V)
 | none
 deriving Inhabited
structure XF where
 np:Nat
 body:XC
 results:List ((Nat ⊕ (Nat × Nat × Bool)) × RK)
 nat:Option NK:=none
 deriving Inhabited
inductive Ex where
 | norm
 | exit (id:Nat)
 | ret
 deriving Inhabited
abbrev Sl:=Nat→V
def upd (s:Sl) (t:Nat) (v:V):Sl:=fun u=>if u=t then v else s u
def put (s:Sl):Option Nat→V→Sl
 | some t,v=>upd s t v
 | none,_=>s
def Opd.ev (s:Sl):Opd→V
 | .t n=>s n
 | .c v=>v
structure St where
 s:Sl
 h:H
def rdCell (l o:Nat):V→V
 | .own k es=>.lnk l o k es
 | .spent k es _=>.lst k es
 | v=>v
def zan_:V→V
 | .own k es=>.lst k es
 | .spent k es _=>.lst k es
 | v=>v
def V.toL2 (h:H):V→Option (List V)
 | .bref l n=>match h[l]? with
  | some (.box _ cs)=>if cs.length=n then some (cs.map zan_) else none
  | _=>none
 | .win l n a b=>match h[l]? with
  | some (.arr _ _ es)=>if es.length=n∧b≤n then some ((es.take b).drop a) else none
  | _=>none
 | _=>none
def V.toL (h:H):V→Option (List V)
 | .s (.slice none 0 0)=>some []
 | .lst _ es | .lnk _ _ _ es | .gro _ _ _ es=>some es
 | .ref l n=>match h[l]? with
  | some (.arr _ _ es)=>if es.length=n then some es else none
  | _=>none
 | v=>v.toL2 h
def frz0:V→Option V
 | .lnk _ _ k es=>some (.lst k es)
 | .gro .. | .own .. | .spent .. | .eptr .. | .ref .. | .bref .. | .win ..=>none
 | v=>some v
def arrAt (h:H) (l:Nat):Option (Bool × Nat × List V):=match h[l]? with
 | some (.arr z k es)=>some (z,k,es)
 | _=>none
def mpAt (h:H) (l:Nat):Option (List (Value × V)):=match h[l]? with
 | some (.mp es)=>some es
 | _=>none
def boxAt (h:H) (l:Nat):Option (Bool × List V):=match h[l]? with
 | some (.box z cs)=>some (z,cs)
 | _=>none
def arrN (h:H) (l n:Nat):Option (Bool × Nat × List V):=ob (arrAt h l) fun p=>if p.2.2.length=n then some p else none
def frz (h:H):V→Option (V × H)
 | .ref l n=>ob (arrN h l n) fun p=>if V.closed.closeds p.2.2=true then some (.lst p.2.1 p.2.2,h.set l (.arr true p.2.1 p.2.2)) else none
 | v=>ob (frz0 v) fun v=>some (v,h)
def keep (r:Bool) (h:H) (v:V):Option (V × H):=if r=true then frz h v else ob (frz0 v) fun v=>some (v,h)
def keeps (r:Bool):H→List V→Option (List V × H)
 | h,[]=>some ([],h)
 | h,v :: l=>ob (keep r h v) fun p=>ob (keeps r p.2 l) fun q=>some (p.1 :: q.1,q.2)
def keep0s:List V→Option (List V)
 | []=>some []
 | v :: l=>ob (frz0 v) fun v=>ob (keep0s l) fun l=>some (v :: l)
def rdRow (n:Nat) (agg:Bool) (o:Nat) (cs:List V):Option V :=
 if agg=true then (if o + n≤cs.length then some (.agg ((cs.drop o).take n)) else none) else cs[o]?
def xload (h:H) (n:Nat) (agg:Bool):V→Option V
 | .ptr l o=>ob (boxAt h l) fun p=>if agg=true then rdRow n true o (p.2.map zan_) else ob p.2[o]? fun c=>some (rdCell l o c)
 | .fptr v o=>rdRow n agg o v.cells
 | .eptr l m i j=>ob (arrN h l m) fun p=>ob p.2.2[i]? fun e=>rdRow n agg j e.cells
 | _=>none
def stCell (base l o:Nat) (old new:V) (h:H):Option (V × H) :=
 match old with
 | .spent k _ gs=>match new with
  | .gro l' o' k' es=>if l=l'∧o=o'∧k=k'∧gs.length=es.length then some (.own k gs,h) else none
  | _=>none
 | .own k es=>match new with
  | .lnk l' o' k' es'=>if l=l'∧o=o'∧k=k'∧es.length=es'.length then some (.own k es,h) else none
  | _=>none
 | _=>match new with
  | .gro .. | .own .. | .spent .. | .eptr .. | .agg .. | .tup .. | .bref .. | .win .. | .s (.agg _) | .s (.tuple _)=>none
  | .lnk _ _ k es=>some (.lst k es,h)
  | .ref l' n=>ob (arrN h l' n) fun p=>if p.1=true then some (.lst p.2.1 p.2.2,h) else if V.closed.closeds p.2.2=true then some (.own p.2.1 p.2.2,h.set l' .dead) else none
  | v=>if base≤l∨v.top≤l + 1 then some (v,h) else none
def zbi_ (base l:Nat):Nat→List V→H→List V→Option (List V × H)
 | _,[],h,cs=>some (cs,h)
 | o,n :: ns,h,cs=>ob cs[o]? fun old=>ob (stCell base l o old n h) fun p=>zbi_ base l (o + 1) ns p.2 (cs.set o p.1)
def putRow (o:Nat):List V→List V→List V
 | [],cs=>cs
 | n :: ns,cs=>putRow (o + 1) ns (cs.set o n)
def putEl (j:Nat) (cs:List V):V→V
 | .agg c=>.agg (putRow j cs c)
 | v=>cs.headD v
def xstore (base:Nat) (h:H) (n:Nat) (x v:V):Option H :=
 if v.cells.length=n then match x with
  | .ptr l o=>ob (boxAt h l) fun p=>if p.1=true then none else ob (zbi_ base l o v.cells h p.2) fun q=>some (q.2.set l (.box false q.1))
  | .eptr l m i j=>ob (arrN h l m) fun p=>if p.1=true then none else ob p.2.2[i]? fun e=>ob (keep0s v.cells) fun cs =>
    if j + n≤e.cells.length∧V.closed.closeds cs=true∧zai_ cs=true then some (h.set l (.arr false p.2.1 (p.2.2.set i (putEl j cs e)))) else none
  | _=>none
 else none
def zdb_ (base:Nat) (h:H) (x v:V):Option H :=
 match x,v with
 | .ptr l o,.ref l' n=>ob (boxAt h l) fun p=>ob (arrN h l' n) fun _=>ob p.2[o]? fun old =>
   if p.1=false∧old.heldB=false∧(base≤l∨l'≤l) then some (h.set l (.box false (p.2.set o (.ref l' n)))) else none
 | x,v=>xstore base h 1 x v
def zcm_:V→Option Bool
 | .s (.pointer none)=>some true
 | .ptr .. | .fptr .. | .eptr ..=>some false
 | _=>none
def zcn_:V→Option Bool
 | .s (.slice none 0 0)=>some true
 | .lst .. | .lnk .. | .gro .. | .ref .. | .bref .. | .win ..=>some false
 | _=>none
def intOp (op:BinOp) (k:IntKind) (a b:Int):Option Value :=
 match op with
 | .add=>some (.int k (k.wrap (a + b)))
 | .sub=>some (.int k (k.wrap (a - b)))
 | .mul=>some (.int k (k.wrap (a * b)))
 | .quo=>if b=0 then none else some (.int k (k.wrap (a.tdiv b)))
 | .rem=>if b=0 then none else some (.int k (a.tmod b))
 | .and=>some (.int k (k.wrap (BitVec.ofInt k.bits a &&& BitVec.ofInt k.bits b).toNat))
 | .or=>some (.int k (k.wrap (BitVec.ofInt k.bits a ||| BitVec.ofInt k.bits b).toNat))
 | .xor=>some (.int k (k.wrap (BitVec.ofInt k.bits a ^^^ BitVec.ofInt k.bits b).toNat))
 | .andNot=>some (.int k (k.wrap (BitVec.ofInt k.bits a &&& ~~~(BitVec.ofInt k.bits b)).toNat))
 | .eql=>some (.bool (a == b))
 | .neq=>some (.bool (a != b))
 | .lss=>some (.bool (a < b))
 | .leq=>some (.bool (a≤b))
 | .gtr=>some (.bool (a > b))
 | .geq=>some (.bool (a ≥ b))
 | _=>none
def strOp (op:BinOp) (x y:ByteArray):Option Value :=
 match op with
 | .add=>if ((x.size + y.size:Nat):Int) > 9223372036854775807 then none else some (.string (x++y))
 | .eql=>some (.bool (x.toList == y.toList))
 | .neq=>some (.bool (!(x.toList == y.toList)))
 | .lss=>some (.bool (Op.bytesLess x.toList y.toList))
 | .leq=>some (.bool (Op.bytesLess x.toList y.toList || x.toList == y.toList))
 | .gtr=>some (.bool (!(Op.bytesLess x.toList y.toList || x.toList == y.toList)))
 | .geq=>some (.bool (!(Op.bytesLess x.toList y.toList)))
 | _=>none
def eqCell:CK→V→V→Option Bool
 | .i,.s (.int k a),.s (.int k' b)=>if k=k' then some (a == b) else none
 | .b,.s (.bool a),.s (.bool b)=>some (a == b)
 | .t,.s (.string a),.s (.string b)=>some (a == b)
 | _,_,_=>none
def zbc_:List CK→List V→List V→Option Bool
 | [],[],[]=>some true
 | k :: l,a :: x,b :: y=>ob (eqCell k a b) fun p=>ob (zbc_ l x y) fun q=>some (p && q)
 | _,_,_=>none
def eqRes (neg:Bool) (p:Bool):Option V:=some (vb (if neg=true then !p else p))
def xbin (op:BinOp):V→V→Option V
 | .s (.int k a),.s (.int k' b)=>match op with
  | .shl=>if b < 0 then none else some (vk k (k.wrap (a * 2 ^ (min b.toNat k.bits))))
  | .shr=>if b < 0 then none else some (vk k (a.fdiv (2 ^ (min b.toNat k.bits))))
  | _=>if k=k' then ob (intOp op k a b) fun v=>some (.s v) else none
 | .s (.string a),.s (.string b)=>ob (strOp op a b) fun v=>some (.s v)
 | _,_=>none
def xeqv (neg:Bool) (k:EK) (x y:V):Option V:=match k with
 | .b=>match x,y with
  | .s (.bool a),.s (.bool b)=>eqRes neg (a == b)
  | _,_=>none
 | .p=>match y with
  | .s (.pointer none)=>ob (zcm_ x) fun p=>eqRes neg p
  | _=>match x with
   | .s (.pointer none)=>ob (zcm_ y) fun p=>eqRes neg p
   | _=>none
 | .s=>match y with
  | .s (.slice none 0 0)=>ob (zcn_ x) fun p=>eqRes neg p
  | _=>none
 | .a ks=>match x,y with
  | .agg a,.agg b=>ob (zbc_ ks a b) fun p=>eqRes neg p
  | _,_=>none
def xun (op:UnOp):V→Option V
 | .s (.int k n)=>match op with
  | .neg=>some (vk k (k.wrap (0 - n)))
  | .xor=>ob (intOp .xor k (if k.signed then -1 else k.max) n) fun v=>some (.s v)
  | _=>none
 | .s (.bool b)=>match op with
  | .not=>some (vb (!b))
  | _=>none
 | _=>none
def zdc_:List V→Option (List UInt8)
 | []=>some []
 | .s (.int .u8 n) :: r=>ob (zdc_ r) fun l=>some (UInt8.ofNat n.toNat :: l)
 | _ :: _=>none
def zdu_ (s:ByteArray):List V:=s.data.toList.map fun b=>.s (.int .u8 b.toNat)
def asNat (v:V):Option Nat:=match v with
 | .s (.int _ n)=>if 0≤n then some n.toNat else none
 | _=>none
def optNat (d:Nat):Option V→Option Nat
 | some v=>asNat v
 | none=>some d
def bounds (len:Nat) (lo hi:Option V):Option (Nat × Nat) :=
 ob (optNat len hi) fun b=>ob (optNat 0 lo) fun a=>if a≤b∧b≤len then some (a,b) else none
def zco_:List (Nat × Nat × V)→List V→Option (List V)
 | [],cs=>some cs
 | (o,n,v) :: r,cs=>if v.cells.length=n∧o + n≤cs.length then zco_ r (putRow o v.cells cs) else none
def zcp_:List (Nat × Nat × Opd)→List V→List (Nat × Nat × V)
 | p :: r,v :: l=>(p.1,p.2.1,v) :: zcp_ r l
 | _,_=>[]
def wide (k:Nat):List V→Bool
 | []=>true
 | v :: l=>(v.cells.length == k && zai_ v.cells) && wide k l
def evs (s:Sl):List Opd→List V
 | []=>[]
 | x :: l=>x.ev s :: evs s l
def zbo_ (s:Sl):List (Nat × Nat × Opd)→List V
 | []=>[]
 | p :: l=>p.2.2.ev s :: zbo_ s l
def evOpt (s:Sl):Option Opd→Option V
 | some x=>some (x.ev s)
 | none=>none
def xpure (s:Sl):XO→Option V
 | .cp x=>some (x.ev s)
 | .pick c a b=>match c.ev s with
  | .s (.bool t)=>some (if t=true then a.ev s else b.ev s)
  | _=>none
 | .build false z parts=>ob (keep0s (zbo_ s parts)) fun l=>ob (zco_ (zcp_ parts l) z) fun cs=>some (.agg cs)
 | .buildR z parts=>ob (zco_ (zcp_ parts (zbo_ s parts)) z) fun cs=>some (.agg cs)
 | .mkifc t x=>ob (frz0 (x.ev s)) fun v=>some (.ifc t v)
 | .bslice false k parts=>ob (keep0s (evs s parts)) fun l=>if V.closed.closeds l=true∧wide k l=true then some (.lst k l) else none
 | .nilchk x=>ob (zcm_ (x.ev s)) fun b=>if b=true then none else some (x.ev s)
 | .bin op x y=>xbin op (x.ev s) (y.ev s)
 | .eqv k neg x y=>xeqv neg k (x.ev s) (y.ev s)
 | .un op x=>xun op (x.ev s)
 | .conv k x=>match x.ev s with
  | .s (.int _ n)=>some (vk k (k.wrap n))
  | _=>none
 | .mkfn false f a b=>ob (keep0s (evs s a)) fun a=>ob (keep0s (evs s b)) fun b=>some (.fn f a b)
 | .slStr x lo hi=>match x.ev s with
  | .s (.string b)=>ob (bounds b.size (evOpt s lo) (evOpt s hi)) fun p=>some (vs (b.extract p.1 p.2))
  | _=>none
 | .faddr x off=>match x.ev s with
  | .ptr l o=>some (.ptr l (o + off))
  | .fptr v o=>some (.fptr v (o + off))
  | .eptr l n i j=>some (.eptr l n i (j + off))
  | _=>none
 | .idxS x i=>match x.ev s with
  | .s (.string b)=>ob (asNat (i.ev s)) fun i=>ob b.data[i]? fun c=>some (vk .u8 c.toNat)
  | _=>none
 | .idxA n k g x i=>match x.ev s with
  | .agg cs=>ob (asNat (i.ev s)) fun i=>if i < n then rdRow k g (i * k) cs else none
  | _=>none
 | .field off n g x=>match x.ev s with
  | .agg cs=>rdRow n g off cs
  | _=>none
 | .extract x i=>match x.ev s with
  | .tup l=>l[i]?
  | _=>none
 | .slBox n x=>match x.ev s with
  | .ptr l 0=>some (.bref l n)
  | _=>none
 | .minmax m xs=>match evs s xs with
  | [V.s (.int k a),V.s (.int k' b)]=>if k=k' then some (vk k (if m=true then (if a < b then b else a) else (if b < a then b else a))) else none
  | _=>none
 | _=>none
def zgn_ (h:H) (k:Nat) (v:V) (i:Nat):Option V:=match v with
 | .bref l n=>if i < n∧k=1 then some (.ptr l i) else none
 | .win l n a b=>ob (arrN h l n) fun p=>if a + i < b∧b≤n∧k=p.2.1 then some (.eptr l n (a + i) 0) else none
 | _=>none
def mapAt (h:H) (l:Nat):Option (List (Value × V)):=match h[l]? with
 | some (.mp es)=>some es
 | _=>none
def keyVal:CK→V→Option Value
 | .i,.s (.int k n)=>some (.int k n)
 | .t,.s (.string b)=>some (.string b)
 | .b,.s (.bool b)=>some (.bool b)
 | _,_=>none
def keyEq:Value→Value→Option Bool
 | .int k a,.int k' b=>if k=k' then some (a == b) else none
 | .string a,.string b=>some (a == b)
 | .bool a,.bool b=>some (a == b)
 | _,_=>none
def zbl_ (k:Value):List (Value × V)→Option (Option V)
 | []=>some none
 | e :: es=>ob (keyEq k e.1) fun b=>if b=true then some (some e.2) else zbl_ k es
def mapPut (k:Value) (v:V):List (Value × V)→Option (List (Value × V))
 | []=>some [(k,v)]
 | e :: es=>ob (keyEq k e.1) fun b=>if b=true then some ((k,v) :: es) else ob (mapPut k v es) fun es=>some (e :: es)
def mapEls (h:H):V→Option (List (Value × V))
 | .mref l=>mapAt h l
 | .s (.map none)=>some []
 | _=>none
def xmget (h:H) (kk:CK) (ok:Bool) (z m k:V):Option V:=ob (mapEls h m) fun es=>ob (keyVal kk k) fun k=>ob (zbl_ k es) fun r=>match r with
 | some v=>some (if ok=true then .tup [v,vb true] else v)
 | none=>some (if ok=true then .tup [z,vb false] else z)
def xmput (h:H) (kk:CK) (m k v:V):Option H:=match m with
 | .mref l=>ob (mapAt h l) fun es=>ob (keyVal kk k) fun k=>if v.closed=true then ob (mapPut k v es) fun es=>some (h.set l (.mp es)) else none
 | _=>none
def xread (s:Sl) (h:H):XO→Option V
 | .load n g x=>xload h n g (x.ev s)
 | .len true x=>match x.ev s with
  | .s (.string b)=>some (vi b.size)
  | _=>none
 | .len false x=>ob ((x.ev s).toL h) fun es=>some (vi es.length)
 | .iaddr k x i=>ob (asNat (i.ev s)) fun i=>match x.ev s with
   | .ref l n=>ob (arrN h l n) fun p=>if i < n∧k=p.2.1 then some (.eptr l n i 0) else none
   | .lst k' es=>if k=k' then ob es[i]? fun e=>some (.fptr e 0) else none
   | .lnk _ _ k' es=>if k=k' then ob es[i]? fun e=>some (.fptr e 0) else none
   | v=>zgn_ h k v i
 | .iaddrA n k x i=>ob (asNat (i.ev s)) fun i=>if i < n then match x.ev s with
    | .ptr l o=>some (.ptr l (o + i * k))
    | .fptr v o=>some (.fptr v (o + i * k))
    | _=>none
   else none
 | .slLst k x lo hi=>match x.ev s with
  | .lst k' es=>if k=k' then ob (bounds es.length (evOpt s lo) (evOpt s hi)) fun p=>some (.lst k ((es.take p.2).drop p.1)) else none
  | .lnk _ _ k' es=>if k=k' then ob (bounds es.length (evOpt s lo) (evOpt s hi)) fun p=>some (.lst k ((es.take p.2).drop p.1)) else none
  | .s (.slice none 0 0)=>ob (bounds 0 (evOpt s lo) (evOpt s hi)) fun _=>some vnil
  | .ref l n=>ob (arrN h l n) fun p=>if k=p.2.1 then ob (bounds n (evOpt s lo) (evOpt s hi)) fun q=>some (.win l n q.1 q.2) else none
  | _=>none
 | .toStr x=>ob ((x.ev s).toL h) fun es=>ob (zdc_ es) fun l=>some (vs ⟨l.toArray⟩)
 | .mget kk ok z m k=>xmget h kk ok z (m.ev s) (k.ev s)
 | _=>none
def appEls (h:H):V→Option (List V)
 | .s (.string b)=>some (zdu_ b)
 | v=>v.toL h
def zao_ (h:H) (k lim:Nat) (x y:V):Option (V × H) :=
 ob (appEls h y) fun ys=>if wide k ys=true∧V.closed.closeds ys=true then match x with
   | .s (.slice none 0 0)=>if ys.length=0 then some (vnil,h) else if ys.length≤lim then some (.ref h.length ys.length,h++[.arr false k ys]) else none
   | .ref l n=>ob (arrN h l n) fun p=>if p.1=false∧k=p.2.1∧n + ys.length≤lim then some (.ref l (n + ys.length),h.set l (.arr false k (p.2.2++ys))) else none
   | .lnk l o k' es=>ob (boxAt h l) fun p=>ob p.2[o]? fun c=>match c with
     | .own k'' es'=>if p.1=false∧es'.length=es.length∧k=k'∧k=k''∧es'.length + ys.length≤lim then
       if ys.length=0 then some (.lnk l o k es',h) else some (.gro l o k (es'++ys),h.set l (.box false (p.2.set o (.spent k es' (es'++ys))))) else none
     | _=>none
   | _=>none
  else none
def arg0:V→Option V
 | .lnk _ _ k es=>some (.lst k es)
 | .gro .. | .own .. | .spent ..=>none
 | v=>some v
def arg0s:List V→Option (List V)
 | []=>some []
 | v :: r=>ob (arg0 v) fun v=>ob (arg0s r) fun r=>some (v :: r)
def res0:V→V
 | .own k es=>.lst k es
 | v=>v
abbrev CallF:=Nat→List V→H→Option (V × H)
abbrev bsV (b:Nat):V:=.gro b 0 0 []
def resM (h:H):V→Option (V × H)
 | .own k es=>some (.ref h.length es.length,h++[.arr false k es])
 | .s x=>some (.s x,h)
 | .ref l n=>some (.ref l n,h)
 | .lst k es=>some (.lst k es,h)
 | _=>none
def xcall (cf:CallF) (h:H) (m:Bool) (f:Nat) (args:List V):Option (V × H) :=
 ob (arg0s args) fun args=>ob (cf f args h) fun r=>if m=true then resM r.2 r.1 else some (res0 r.1,r.2)
def xslFrz (h:H) (k:Nat) (v:V) (lo hi:Option V):Option (V × H):=match v with
 | .s (.slice none 0 0)=>ob (bounds 0 lo hi) fun _=>some (vnil,h)
 | v=>ob (frz h v) fun q=>match q.1 with
  | .lst k' es=>if k=k' then ob (bounds es.length lo hi) fun p=>some (.lst k ((es.take p.2).drop p.1),q.2) else none
  | _=>none
def xclear (h:H) (k:Nat) (z:V) (v:V):Option (V × H):=match v with
 | .win l n a b=>ob (arrN h l n) fun p=>if p.1=false∧k=p.2.1∧wide k [z]=true∧z.closed=true∧a≤n∧b=n then some (.u,h.set l (.arr false k (p.2.2.take a++List.replicate (n - a) z))) else none
 | .s (.slice none 0 0)=>some (.u,h)
 | _=>none
def zgo_:List V→Bool
 | []=>true
 | .ref .. :: l=>zgo_ l
 | v :: l=>v.cell && zgo_ l
def xboxR (base:Nat) (h:H) (cs:List V):Option (V × H) :=
 if zgo_ cs=true then ob (zbi_ base h.length 0 cs (h++[.box false (cs.map fun _=>vnil)]) (cs.map fun _=>vnil)) fun q=>some (.ptr h.length 0,q.2.set h.length (.box false q.1)) else none
def xeff (cf:CallF) (base:Nat) (s:Sl) (h:H):XO→Option (V × H)
 | .alloc z=>some (.ptr h.length 0,h++[.box false z])
 | .box r x=>match x.ev s with
  | .agg cs=>if zai_ cs=true∧noOwn cs=true then some (.ptr h.length 0,h++[.box false cs]) else xboxR base h cs
  | v=>ob (keep r h v) fun p=>if p.1.cell=true then some (.ptr p.2.length 0,p.2++[.box false [p.1]]) else none
 | .build true z parts=>ob (keeps true h (zbo_ s parts)) fun p=>ob (zco_ (zcp_ parts p.1) z) fun cs=>some (.agg cs,p.2)
 | .bslice true k parts=>ob (keeps true h (evs s parts)) fun p=>if wide k p.1=true then some (.ref p.2.length p.1.length,p.2++[.arr false k p.1]) else none
 | .mkfn true f a b=>ob (keeps true h (evs s a)) fun p=>ob (keeps true p.2 (evs s b)) fun q=>some (.fn f p.1 q.1,q.2)
 | .store n x v=>ob (xstore base h n (x.ev s) (v.ev s)) fun h=>some (.u,h)
 | .storeR x v=>ob (zdb_ base h (x.ev s) (v.ev s)) fun h=>some (.u,h)
 | .mkslice k z lim l c=>ob (asNat (l.ev s)) fun l=>ob (asNat (c.ev s)) fun c=>if l≤c∧c≤lim∧wide k [z]=true∧z.closed=true then some (.ref h.length l,h++[.arr false k (List.replicate l z)]) else none
 | .slArr n x=>match x.ev s with
  | .ptr l 0=>ob (boxAt h l) fun p=>if p.2.length=n∧V.closed.closeds p.2=true then some (.lst 1 p.2,h.set l (.box true p.2)) else none
  | _=>none
 | .append k lim x y=>zao_ h k lim (x.ev s) (y.ev s)
 | .slFrz k x lo hi=>xslFrz h k (x.ev s) (evOpt s lo) (evOpt s hi)
 | .clear k z x=>xclear h k z (x.ev s)
 | .call m f args=>xcall cf h m f (evs s args)
 | .callv m f args=>match f.ev s with
  | .fn f a b=>xcall cf h m f (a++evs s args++b)
  | _=>none
 | .calli m tb x args=>match x.ev s with
  | .ifc t v=>ob (tb.lookup t) fun f=>xcall cf h m f (v :: evs s args)
  | _=>none
 | .callK f args=>ob (arg0s (evs s args)) fun a=>ob (cf f (bsV base :: a) h) fun r=>some (res0 r.1,r.2)
 | .loadF n g x=>ob (xload h n g (x.ev s)) fun v=>match v with
  | .agg cs=>ob (keeps true h cs) fun p=>some (.agg p.1,p.2)
  | v=>ob (keep true h v) fun p=>some p
 | .mkmap=>some (.mref h.length,h++[.mp []])
 | .mput kk m k v=>ob (xmput h kk (m.ev s) (k.ev s) (v.ev s)) fun h=>some (.u,h)
 | _=>none
def XO.cls:XO→Nat
 | .alloc _ | .box .. | .build true .. | .bslice true .. | .mkfn true .. | .store .. | .storeR .. | .mkslice .. | .slArr .. | .slFrz .. | .clear .. | .append .. | .call .. | .callv .. | .calli .. | .callK .. | .loadF .. | .mkmap | .mput ..=>2
 | .load .. | .len .. | .iaddr .. | .iaddrA .. | .slLst .. | .toStr .. | .mget ..=>1
 | _=>0
def xop (cf:CallF) (base:Nat) (s:Sl) (h:H) (o:XO):Option (V × H) :=
 match o.cls with
 | 0=>ob (xpure s o) fun v=>some (v,h)
 | 1=>ob (xread s h o) fun v=>some (v,h)
 | _=>xeff cf base s h o
def wanted (s:Sl):Option (Nat × Bool)→Option Bool
 | none=>some true
 | some (t,b)=>match s t with
  | .s (.bool c)=>some (c == b)
  | .s (.tuple _)=>some false
  | _=>none
def xstep (cf:CallF) (base:Nat) (o:XOp) (st:St):Option St :=
 ob (wanted st.s o.guard) fun w=>if w=true then ob (xop cf base st.s st.h o.op) fun p=>some ⟨put st.s o.dst p.1,p.2⟩ else some ⟨put st.s o.dst .u,st.h⟩
def xops (cf:CallF) (base:Nat):List XOp→St→Option St
 | [],st=>some st
 | o :: r,st=>ob (xstep cf base o st) fun st=>xops cf base r st
def xtrace (cf:CallF) (base:Nat):List XOp→St→Option (List St)
 | [],st=>some [st]
 | o :: r,st=>ob (xstep cf base o st) fun st'=>ob (xtrace cf base r st') fun l=>some (st :: l)
open Classical in
noncomputable def same {α:Type} (a b:α):Bool:=decide (a=b)
theorem zaw_ {α:Type} (a:α):same a a=true:=by simp [same]
theorem zbbt_ {α:Type} {a b:α} (h:same a b=true):a=b:=by simpa [same] using h
noncomputable def optEq:Option V→Option V→Bool
 | some a,some b=>same a b
 | _,_=>false
noncomputable section
def zpn_ (ops:List XOp) (tr:List St) (c:Nat × Option Nat):Bool :=
 match tr[c.1]?,tr[c.1 + 1]? with
 | some a,some b=>match c.2 with
  | none=>same a.h b.h
  | some r=>match tr[r]?,ops[r]? with
   | some q,some o=>(match wanted q.s o.guard with
    | some false=>true
    | _=>optEq (xread q.s q.h o.op) (xread q.s (if c.1 < r then a.h else b.h) o.op))
   | _,_=>false
 | _,_=>false
def stable (ops:List XOp) (tr:List St):List (Nat × Option Nat)→Bool
 | []=>true
 | c :: d=>zpn_ ops tr c && stable ops tr d
def lastSt:List St→Option St
 | []=>none
 | [st]=>some st
 | _ :: l=>lastSt l
def zdn_ (cf:CallF) (base:Nat) (ops:List XOp) (d:Option (List (Nat × Option Nat))) (st:St):Option St :=
 match d with
 | none=>xops cf base ops st
 | some d=>ob (xtrace cf base ops st) fun tr=>if stable ops tr d=true then lastSt tr else none
abbrev Body:=St→Option (Ex × St)
abbrev LoopF:=Body→Body
def thenC (b:Body) (r:Ex × St):Option (Ex × St):=match r.1 with
 | .norm=>b r.2
 | e=>some (e,r.2)
def outOf (i:Nat) (r:Ex × St):Ex × St:=match r.1 with
 | .exit j=>if i=j then (.norm,r.2) else (.exit j,r.2)
 | e=>(e,r.2)
def xcode (cf:CallF) (lp:LoopF) (base:Nat):XC→Body
 | .skip,st=>some (.norm,st)
 | .region ops d,st=>ob (zdn_ cf base ops d st) fun st=>some (.norm,st)
 | .seq a b,st=>ob (xcode cf lp base a st) fun r=>thenC (xcode cf lp base b) r
 | .cond c a b,st=>match c.ev st.s with
  | .s (.bool t)=>if t=true then xcode cf lp base a st else xcode cf lp base b st
  | _=>none
 | .block i b,st=>ob (xcode cf lp base b st) fun r=>some (outOf i r)
 | .loop b,st=>lp (xcode cf lp base b) st
 | .exit i,st=>some (.exit i,st)
 | .ret,st=>some (.ret,st)
def loopN:Nat→LoopF
 | 0,_,_=>none
 | n + 1,b,st=>ob (b st) fun r=>thenC (loopN n b) r
def retV (base:Nat) (h:H) (k:RK) (v:V) (tail:List O):Option (V × List O) :=
 match k with
 | .v=>match v with
  | .ref l n=>if l < base then some (v,tail) else ob (arrN h l n) fun p=>if V.closed.closeds p.2.2=true then some (if p.1=true then .lst p.2.1 p.2.2 else .own p.2.1 p.2.2,tail) else none
  | .lnk _ _ k es=>some (.lst k es,tail)
  | .gro .. | .own .. | .spent ..=>none
  | v=>if v.top≤base then some (v,tail) else none
 | .o=>match v with
  | .ptr l 0=>if l < base then some (v,tail) else ob (boxAt h l) fun p=>if V.top.tops p.2≤base∧tail.length=0 then some (.ptr (base + tail.length) 0,tail++[.box p.1 p.2]) else none
  | .s (.pointer none)=>some (v,tail)
  | _=>none
 | .f=>match v with
  | .ptr l o=>if l < base then none else ob (boxAt h l) fun p=>if V.closed.closeds (p.2.map zan_)=true then some (.fptr (.agg (p.2.map zan_)) o,tail) else none
  | .fptr ..=>some (v,tail)
  | .s (.pointer none)=>some (v,tail)
  | _=>none
 | .c=>match v with
  | .fn f [] [.ptr l 0]=>if l < base then none else ob (boxAt h l) fun p=>if V.closed.closeds p.2=true then some (.fn f [] [.fptr (.agg p.2) 0],tail) else none
  | _=>none
 | .m=>match v with
  | .mref l=>if l < base then some (v,tail) else ob (mpAt h l) fun es=>if tail.length=0 then some (.mref (base + tail.length),tail++[.mp es]) else none
  | _=>none
def resV (s:Sl) (h:H):Nat ⊕ (Nat × Nat × Bool)→Option V
 | .inl t=>some (s t)
 | .inr (t,n,g)=>xload h n g (s t)
def retVs (base:Nat) (s:Sl) (h:H):List ((Nat ⊕ (Nat × Nat × Bool)) × RK)→List O→Option (List V × List O)
 | [],tail=>some ([],tail)
 | p :: l,tail=>ob (resV s h p.1) fun v=>ob (retV base h p.2 v tail) fun q=>ob (retVs base s h l q.2) fun r=>some (q.1 :: r.1,r.2)
def V.ofRes:List V→V
 | [v]=>v
 | l=>.tup (l.map res0)
def args0 (args:List V):Sl:=fun t=>args.getD t .u
def xback (F:XF) (h:H) (r:Ex × St):Option (V × H):=match r.1 with
 | .exit _=>none
 | _=>ob (retVs h.length r.2.s r.2.h F.results []) fun p=>some (V.ofRes p.1,r.2.h.take h.length++p.2)
def xfun0 (cf:CallF) (lp:LoopF) (F:XF) (args:List V) (h:H):Option (V × H) :=
 if args.length=F.np then ob (xcode cf lp h.length F.body ⟨args0 args,h⟩) fun r=>xback F h r else none
def resKs (s:Sl) (h:H):List ((Nat ⊕ (Nat × Nat × Bool)) × RK)→Option (List V)
 | []=>some []
 | p :: l=>ob (resV s h p.1) fun v=>ob (arg0 v) fun v=>ob (resKs s h l) fun r=>some (v :: r)
def V.ofResK:List V→V
 | [v]=>v
 | l=>.tup l
def xbackK (res:List ((Nat ⊕ (Nat × Nat × Bool)) × RK)) (r:Ex × St):Option (V × H):=match r.1 with
 | .exit _=>none
 | _=>ob (resKs r.2.s r.2.h res) fun vs=>some (V.ofResK vs,r.2.h)
def xfunK (cf:CallF) (lp:LoopF) (F:XF) (args:List V) (h:H):Option (V × H):=match args with
 | .gro b _ _ _ :: as=>if as.length=F.np∧b≤h.length then ob (xcode cf lp b F.body ⟨args0 as,h⟩) fun r=>xbackK F.results r else none
 | _=>none
def clampI (n i:Nat):Nat:=if i < n then i else 0
def CmpIs (cf:CallF) (f:Nat) (a b es:List V) (c:Nat→Nat→Int):Prop:=∀ (i j:Nat) (x y:V),es[i]?=some x→es[j]?=some y→cf f (a++[x,y]++b) []=some (.s (.int .i64 (c i j)),[])
def cmpLt (n:Nat) (c:Nat→Nat→Int) (i j:Nat):Bool:=decide (c (clampI n i) (clampI n j) < 0)
def zgp_ (n:Nat):Nat:=if n=0 then 0 else n.log2 + 1
def zbf_ (n:Nat) (c:Nat→Nat→Int):List Nat:=if n=0 then [] else (Go.Sort.pdq (cmpLt n c) (Array.range n) 0 n (zgp_ n) true true).toList
def pickEs (es:List V) (is:List Nat):List V:=is.map fun i=>es.getD i .u
def allAgg:List V→Bool
 | []=>true
 | .agg _ :: l=>allAgg l
 | _ :: _=>false
def SortC (cf:CallF) (f:Nat) (a b es:List V) (c:Nat→Nat→Int):Prop:=CmpIs cf f a b es c∧Go.Sort.SWO (cmpLt es.length c)
open Classical in
def xsort (cf:CallF) (k:Nat) (h:H):List V→Option (V × H)
 | [.s (.slice none 0 0),_]=>some (.tup [],h)
 | [.ref l n,.fn f a b]=>ob (arrN h l n) fun p =>
   if hc:(p.1=false∧p.2.1=k∧n < 4611686018427387904∧V.closed.closeds p.2.2=true∧V.closed.closeds a=true∧V.closed.closeds b=true∧a=[]∧allAgg p.2.2=true)∧∃ c,SortC cf f a b p.2.2 c then
    some (.tup [],h.set l (.arr false k (pickEs p.2.2 (zbf_ n hc.2.choose)))) else none
 | _=>none
def xseq (it k lim:Nat) (h:H):List V→Option (V × H)
 | [.s (.slice none 0 0),.fn f [] [.fptr (.agg [.s (.slice none 0 0)]) 0]]=>if f=it then some (vnil,h) else none
 | [.s (.slice none 0 0),.fn f [] [.fptr (.agg [.lst k' es]) 0]]=>if f=it∧k'=k∧es.length≤lim∧wide k es=true∧V.closed.closeds es=true∧allAgg es=true then (if es.length=0 then some (vnil,h) else some (.own k es,h)) else none
 | _=>none
def xgrow (k lim:Nat) (h:H):List V→Option (V × H)
 | [.s (.slice none 0 0),.s (.int .i64 n)]=>if 0 < n∧n≤lim then some (.own k [],h) else if n=0 then some (vnil,h) else none
 | _=>none
def intsV:List V→Option (List Int)
 | []=>some []
 | .s (.int .i64 x) :: l=>ob (intsV l) fun r=>some (x :: r)
 | _ :: _=>none
def strsV:List V→Option (List ByteArray)
 | []=>some []
 | .s (.string x) :: l=>ob (strsV l) fun r=>some (x :: r)
 | _ :: _=>none
def zbp_ (l:List Int):List Int:=l.mergeSort fun x y=>decide (x≤y)
def sortStr (l:List ByteArray):List ByteArray:=l.mergeSort fun x y=>decide (x.data.toList≤y.data.toList)
def xsrt (str:Bool) (h:H):List V→Option (V × H)
 | [.s (.slice none 0 0)]=>some (.tup [],h)
 | [.ref l n]=>ob (arrN h l n) fun p=>if p.1=false∧p.2.1=1∧n < 4611686018427387904 then
   (if str=true then ob (strsV p.2.2) fun q=>some (.tup [],h.set l (.arr false 1 ((sortStr q).map fun x=>.s (.string x))))
    else ob (intsV p.2.2) fun q=>some (.tup [],h.set l (.arr false 1 ((zbp_ q).map fun x=>.s (.int .i64 x)))))
   else none
 | _=>none
def xnat (cf:CallF) (args:List V) (h:H):NK→Option (V × H)
 | .sort k=>xsort cf k h args
 | .seq it k lim=>xseq it k lim h args
 | .grow k lim=>xgrow k lim h args
 | .rd sem=>ob (sem args h) fun v=>some (v,h)
 | .srt str=>xsrt str h args
 | .keep=>none
 | .none=>none
def xfun (cf:CallF) (lp:LoopF) (F:XF) (args:List V) (h:H):Option (V × H):=match F.nat with
 | none=>xfun0 cf lp F args h
 | some .keep=>xfunK cf lp F args h
 | some k=>xnat cf args h k
def runN (XP:Nat→Option XF):Nat→CallF
 | 0,_,_,_=>none
 | n + 1,f,args,h=>ob (XP f) fun F=>xfun (runN XP n) (loopN n) F args h
end
end Go.Proofs.Sl
namespace Go.Proofs.Sl
def Le {α:Type} (x y:Option α):Prop:=∀ a,x=some a→y=some a
theorem Le.refl {α:Type} (x:Option α):Le x x:=fun _ h=>h
theorem Le.trans {α:Type} {x y z:Option α} (h:Le x y) (k:Le y z):Le x z:=fun a e=>k a (h a e)
theorem Le.none {α:Type} (x:Option α):Le none x:=fun _ h=>by cases h
theorem Le.ob {α β:Type} {x y:Option α} {f g:α→Option β} (h:Le x y) (k:∀ a,Le (f a) (g a)):Le (ob x f) (ob y g):=by
 intro b e
 obtain ⟨a,ha,hb⟩:=zaa_.1 e
 exact zaa_.2 ⟨a,h a ha,k a b hb⟩
theorem Le.ite {α:Type} {c:Prop} [Decidable c] {x y x' y':Option α} (h:Le x x') (k:Le y y'):Le (if c then x else y) (if c then x' else y'):=by split <;> assumption
open Classical in
noncomputable def lim {α:Type} (f:Nat→Option α):Option α:=if h:∃ a,∃ n,f n=some a then some h.choose else none
def Up {α:Type} (f:Nat→Option α):Prop:=∀ n m,n≤m→Le (f n) (f m)
theorem zdv_ {α:Type} {f:Nat→Option α} {a:α} (h:lim f=some a):∃ n,f n=some a:=by
 unfold lim at h
 split at h
 ·rename_i hx
  obtain ⟨n,hn⟩:=hx.choose_spec
  injection h with h
  exact ⟨n,by rw [hn,h]⟩
 ·cases h
theorem lim_of {α:Type} {f:Nat→Option α} (hu:Up f) {a:α} {n:Nat} (h:f n=some a):lim f=some a:=by
 unfold lim
 have hx:∃ a,∃ n,f n=some a:=⟨a,n,h⟩
 rw [dif_pos hx]
 obtain ⟨m,hm⟩:=hx.choose_spec
 have h1:=hu n (max n m) (Nat.le_max_left _ _) a h
 have h2:=hu m (max n m) (Nat.le_max_right _ _) _ hm
 rw [h1] at h2
 exact h2.symm
theorem le_lim {α:Type} {f:Nat→Option α} (hu:Up f) (n:Nat):Le (f n) (lim f):=fun _ h=>lim_of hu h
def CLe (c c':CallF):Prop:=∀ f a h,Le (c f a h) (c' f a h)
def BLe (b b':Body):Prop:=∀ st,Le (b st) (b' st)
def LLe (l l':LoopF):Prop:=∀ b b',BLe b b'→BLe (l b) (l' b')
theorem zto_ {c c':CallF} (hc:CLe c c') (h:H) (m:Bool) (f:Nat) (args:List V):Le (xcall c h m f args) (xcall c' h m f args):=by
 unfold xcall
 exact Le.ob (Le.refl _) fun a=>Le.ob (hc _ _ _) fun r=>Le.refl _
theorem zblt_ {c c':CallF} (hc:CLe c c') (base:Nat) (s:Sl) (h:H) (o:XO):Le (xeff c base s h o) (xeff c' base s h o):=by
 cases o with
 | call m f args=>exact zto_ hc _ _ _ _
 | callv m f args =>
  simp only [xeff]
  cases f.ev s <;> first | exact Le.refl _ | exact zto_ hc _ _ _ _
 | calli m tb x args =>
  simp only [xeff]
  cases x.ev s <;> first | exact Le.refl _ | exact Le.ob (Le.refl _) fun _=>zto_ hc _ _ _ _
 | callK f args=>exact Le.ob (Le.refl _) fun a=>Le.ob (hc _ _ _) fun r=>Le.refl _
 | build r _ _=>cases r <;> exact Le.refl _
 | bslice r _ _=>cases r <;> exact Le.refl _
 | mkfn r _ _ _=>cases r <;> exact Le.refl _
 | _=>exact Le.refl _
theorem zblu_ {c c':CallF} (hc:CLe c c') (base:Nat) (s:Sl) (h:H) (o:XO):Le (xop c base s h o) (xop c' base s h o):=by
 unfold xop
 split
 ·exact Le.refl _
 ·exact Le.refl _
 ·exact zblt_ hc _ _ _ _
theorem zbbu_ {c c':CallF} (hc:CLe c c') (base:Nat) (o:XOp) (st:St):Le (xstep c base o st) (xstep c' base o st):=by
 unfold xstep
 exact Le.ob (Le.refl _) fun w=>Le.ite (Le.ob (zblu_ hc _ _ _ _) fun _=>Le.refl _) (Le.refl _)
theorem zblv_ {c c':CallF} (hc:CLe c c') (base:Nat) (l:List XOp):∀ st,Le (xops c base l st) (xops c' base l st):=by
 induction l with
 | nil=>exact fun st=>Le.refl _
 | cons o r ih=>exact fun st=>Le.ob (zbbu_ hc _ _ _) ih
theorem zblw_ {c c':CallF} (hc:CLe c c') (base:Nat) (l:List XOp):∀ st,Le (xtrace c base l st) (xtrace c' base l st):=by
 induction l with
 | nil=>exact fun st=>Le.refl _
 | cons o r ih=>exact fun st=>Le.ob (zbbu_ hc _ _ _) fun st'=>Le.ob (ih st') fun _=>Le.refl _
theorem zblx_ {c c':CallF} (hc:CLe c c') (base:Nat) (l:List XOp) (d:Option (List (Nat × Option Nat))) (st:St):Le (zdn_ c base l d st) (zdn_ c' base l d st):=by
 cases d with
 | none=>exact zblv_ hc _ _ _
 | some d=>exact Le.ob (zblw_ hc _ _ _) fun _=>Le.refl _
theorem ztp_ {b b':Body} (h:BLe b b') (r:Ex × St):Le (thenC b r) (thenC b' r):=by
 obtain ⟨e,st⟩:=r
 cases e <;> first | exact h _ | exact Le.refl _
theorem zbbv_ {c c':CallF} (hc:CLe c c') {l l':LoopF} (hl:LLe l l') (base:Nat) (x:XC):BLe (xcode c l base x) (xcode c' l' base x):=by
 induction x with
 | skip=>exact fun st=>Le.refl _
 | region ops d=>exact fun st=>Le.ob (zblx_ hc _ _ _ _) fun _=>Le.refl _
 | seq a b iha ihb=>exact fun st=>Le.ob (iha _) fun r=>ztp_ ihb r
 | cond x a b iha ihb =>
  intro st
  simp only [xcode]
  cases hx:x.ev st.s with
  | s y =>
   cases y with
   | bool t=>exact Le.ite (iha _) (ihb _)
   | _=>exact Le.refl _
  | _=>exact Le.refl _
 | block i b ih=>exact fun st=>Le.ob (ih _) fun _=>Le.refl _
 | loop b ih=>exact fun st=>hl _ _ ih st
 | exit i=>exact fun st=>Le.refl _
 | ret=>exact fun st=>Le.refl _
theorem zjo_:∀ n m,n≤m→LLe (loopN n) (loopN m)
 | 0,_,_,_,_,_,st=>Le.none _
 | n + 1,0,h,_,_,_,_=>absurd h (by omega)
 | n + 1,m + 1,h,b,b',hb,st=>Le.ob (hb st) fun r=>ztp_ (fun s=>zjo_ n m (by omega) b b' hb s) r
theorem CmpIs.mono {c c':CallF} (hc:CLe c c') {f:Nat} {a b es:List V} {q:Nat→Nat→Int} (k:CmpIs c f a b es q):CmpIs c' f a b es q:=fun i j x y h1 h2=>hc _ _ _ _ (k i j x y h1 h2)
theorem CmpIs.same {cf:CallF} {f:Nat} {a b es:List V} {q r:Nat→Nat→Int} (k:CmpIs cf f a b es q) (k':CmpIs cf f a b es r) {i j:Nat} (hi:i < es.length) (hj:j < es.length):q i j=r i j:=by
 have h1:=k i j _ _ (List.getElem?_eq_getElem hi) (List.getElem?_eq_getElem hj)
 rw [k' i j _ _ (List.getElem?_eq_getElem hi) (List.getElem?_eq_getElem hj)] at h1
 simp only [Option.some.injEq,Prod.mk.injEq,V.s.injEq,Value.int.injEq,true_and,and_true] at h1
 exact h1.symm
theorem ztq_ {n i:Nat} (hn:0 < n):clampI n i < n:=by unfold clampI; split <;> assumption
theorem zbly_ {n:Nat} {q r:Nat→Nat→Int} (k:∀ i j,i < n→j < n→q i j=r i j) (hn:0 < n):cmpLt n q=cmpLt n r:=by
 funext i j
 simp only [cmpLt,k _ _ (ztq_ hn) (ztq_ hn)]
theorem zblz_ {es:List V} {n:Nat} {q r:Nat→Nat→Int} (k:∀ i j,i < n→j < n→q i j=r i j):pickEs es (zbf_ n q)=pickEs es (zbf_ n r):=by
 rcases Nat.eq_zero_or_pos n with rfl | hn
 ·rfl
 ·simp only [zbf_,zbly_ k hn]
theorem SortC.pick {cf:CallF} {f:Nat} {a b es:List V} {q r:Nat→Nat→Int} (k:SortC cf f a b es q) (k':SortC cf f a b es r):pickEs es (zbf_ es.length q)=pickEs es (zbf_ es.length r) :=
 zblz_ fun _ _ hi hj=>k.1.same k'.1 hi hj
theorem zew_ {cf:CallF} {k l n f:Nat} {a b:List V} {h:H} {r:V × H}:xsort cf k h [.ref l n,.fn f a b]=some r↔∃ es c,h[l]?=some (.arr false k es)∧es.length=n∧n < 4611686018427387904∧V.closed.closeds es=true∧V.closed.closeds a=true∧V.closed.closeds b=true∧(a=[]∧allAgg es=true) ∧
  SortC cf f a b es c∧r=(.tup [],h.set l (.arr false k (pickEs es (zbf_ n c)))):=by
 simp only [xsort]
 constructor
 ·intro e
  obtain ⟨p,e1,e⟩:=zaa_.1 e
  unfold arrN at e1
  obtain ⟨q,e2,e1⟩:=zaa_.1 e1
  split at e1
  ·rename_i hn
   injection e1 with e1
   subst e1
   unfold arrAt at e2
   split at e2
   ·rename_i z k' es hl
    injection e2 with e2
    subst e2
    split at e
    ·rename_i hc
     injection e with e
     obtain ⟨⟨h1,h2,h3,h4,h5,h6,h0⟩,h7⟩:=hc
     simp only at h1 h2 hn h4
     subst h1 h2
     exact ⟨es,h7.choose,hl,hn,h3,h4,h5,h6,h0,h7.choose_spec,e.symm⟩
    ·cases e
   ·cases e2
  ·cases e1
 ·rintro ⟨es,c,h1,h2,h3,h4,h5,h6,h0,h7,rfl⟩
  have e1:arrN h l n=some (false,k,es):=by simp [arrN,arrAt,h1,ob,h2]
  rw [e1,zab_,dif_pos ⟨⟨rfl,rfl,h3,h4,h5,h6,h0⟩,c,h7⟩]
  have hx:∃ c,SortC cf f a b es c:=⟨c,h7⟩
  have:=SortC.pick hx.choose_spec h7
  rw [h2] at this
  rw [this]
theorem zbma_ {c c':CallF} (hc:CLe c c') (k:NK) (args:List V) (h:H):Le (xnat c args h k) (xnat c' args h k):=by
 cases k with
 | sort k =>
  intro r e
  simp only [xnat] at e ⊢
  unfold xsort at e
  split at e
  ·exact e
  ·rename_i l n f a b
   have e':xsort c k h [.ref l n,.fn f a b]=some r:=by simpa only [xsort] using e
   obtain ⟨es,q,h1,h2,h3,h4,h5,h6,h0,h7,h8⟩:=zew_.1 e'
   exact zew_.2 ⟨es,q,h1,h2,h3,h4,h5,h6,h0,⟨h7.1.mono hc,h7.2⟩,h8⟩
  ·cases e
 | _=>exact Le.refl _
theorem zbmb_ {c c':CallF} (hc:CLe c c') {l l':LoopF} (hl:LLe l l') (F:XF) (args:List V) (h:H):Le (xfunK c l F args h) (xfunK c' l' F args h):=by
 unfold xfunK
 split
 ·split
  ·exact Le.ob (zbbv_ hc hl _ _ _) fun _=>Le.refl _
  ·exact Le.refl _
 ·exact Le.refl _
theorem zbbw_ {c c':CallF} (hc:CLe c c') {l l':LoopF} (hl:LLe l l') (F:XF) (args:List V) (h:H):Le (xfun c l F args h) (xfun c' l' F args h):=by
 unfold xfun
 split
 ·unfold xfun0
  exact Le.ite (Le.ob (zbbv_ hc hl _ _ _) fun _=>Le.refl _) (Le.refl _)
 ·exact zbmb_ hc hl _ _ _
 ·exact zbma_ hc _ _ _
theorem zbbx_ (XP:Nat→Option XF):∀ n m,n≤m→CLe (runN XP n) (runN XP m)
 | 0,_,_,_,_,_=>Le.none _
 | n + 1,0,h,_,_,_=>absurd h (by omega)
 | n + 1,m + 1,h,f,a,hh=>Le.ob (Le.refl _) fun F=>zbbw_ (zbbx_ XP n m (by omega)) (zjo_ n m (by omega)) F a hh
noncomputable def loopW:LoopF:=fun b st=>lim fun n=>loopN n b st
noncomputable def run (XP:Nat→Option XF):CallF:=fun f a h=>lim fun n=>runN XP n f a h
theorem zpo_ (b:Body) (st:St):Up fun n=>loopN n b st:=fun n m h=>zjo_ n m h b b (fun _=>Le.refl _) st
theorem zjp_ (XP:Nat→Option XF) (f:Nat) (a:List V) (h:H):Up fun n=>runN XP n f a h:=fun n m hn=>zbbx_ XP n m hn f a h
theorem zbby_ (n:Nat):LLe (loopN n) loopW:=fun b b' hb st =>
 (zjo_ n n (Nat.le_refl _) b b' hb st).trans (le_lim (f:=fun n=>loopN n b' st) (zpo_ b' st) n)
theorem zbmc_ (XP:Nat→Option XF) (n:Nat):CLe (runN XP n) (run XP):=fun f a h=>le_lim (f:=fun n=>runN XP n f a h) (zjp_ XP f a h) n
theorem zbbz_ {α:Type} {x y:Option α} (h:Le x y) (k:Le y x):x=y:=by
 cases hx:x with
 | some a=>exact (h a hx).symm
 | none=>cases hy:y with
  | none=>rfl
  | some b=>have:=k b hy; rw [hx] at this; cases this
theorem zbmd_ (b:Body) (st:St):loopW b st=ob (b st) fun r=>thenC (loopW b) r:=by
 refine zbbz_ ?_ ?_
 ·intro r h
  obtain ⟨n,hn⟩:=zdv_ h
  cases n with
  | zero=>cases hn
  | succ n =>
   exact Le.ob (Le.refl _) (fun r=>ztp_ (fun s=>zbby_ n b b (fun _=>Le.refl _) s) r) r hn
 ·intro r h
  obtain ⟨⟨e,st'⟩,hb,h⟩:=zaa_.1 h
  cases e with
  | norm =>
   obtain ⟨n,hn⟩:=zdv_ h
   exact lim_of (zpo_ b st) (n:=n + 1) (zaa_.2 ⟨_,hb,hn⟩)
  | exit i=>exact lim_of (zpo_ b st) (n:=1) (zaa_.2 ⟨_,hb,h⟩)
  | ret=>exact lim_of (zpo_ b st) (n:=1) (zaa_.2 ⟨_,hb,h⟩)
def Evt {α:Type} (f:Nat→Option α) (a:α):Prop:=∃ n,∀ m,n≤m→f m=some a
theorem Evt.const {α:Type} {x:Option α} {a:α} (h:x=some a):Evt (fun _=>x) a:=⟨0,fun _ _=>h⟩
theorem Evt.ob {α β:Type} {f:Nat→Option α} {g:Nat→α→Option β} {a:α} {b:β} (h:Evt f a) (k:Evt (fun n=>g n a) b):Evt (fun n=>ob (f n) (g n)) b:=by
 obtain ⟨n,hn⟩:=h
 obtain ⟨m,hm⟩:=k
 exact ⟨max n m,fun i hi=>zaa_.2 ⟨a,hn i (by omega),hm i (by omega)⟩⟩
theorem Evt.of {α:Type} {f:Nat→Option α} (hu:Up f) {a:α} {n:Nat} (h:f n=some a):Evt f a:=⟨n,fun m hm=>hu n m hm a h⟩
section
variable (XP:Nat→Option XF)
theorem ztr_ {h:H} {m:Bool} {f:Nat} {args:List V} {r:V × H} (e:xcall (run XP) h m f args=some r):Evt (fun n=>xcall (runN XP n) h m f args) r:=by
 unfold xcall at e
 obtain ⟨a,ha,e⟩:=zaa_.1 e
 obtain ⟨q,hq,e⟩:=zaa_.1 e
 obtain ⟨n,hn⟩:=zdv_ hq
 exact Evt.ob (Evt.const ha) (Evt.ob (Evt.of (zjp_ XP _ _ _) hn) (Evt.const e))
theorem zbme_ {base:Nat} {s:Sl} {h:H} {o:XO} {r:V × H} (e:xop (run XP) base s h o=some r):Evt (fun n=>xop (runN XP n) base s h o) r:=by
 have key:xeff (run XP) base s h o=some r→Evt (fun n=>xeff (runN XP n) base s h o) r:=by
  intro e
  cases o with
  | callK f args =>
   simp only [xeff] at e ⊢
   obtain ⟨a,ha,e⟩:=zaa_.1 e
   obtain ⟨q,hq,e⟩:=zaa_.1 e
   obtain ⟨n,hn⟩:=zdv_ hq
   exact Evt.ob (Evt.const ha) (Evt.ob (Evt.of (zjp_ XP _ _ _) hn) (Evt.const e))
  | call m f args=>exact ztr_ XP e
  | callv m f args =>
   simp only [xeff] at e ⊢
   cases hf:f.ev s with
   | fn g a b=>rw [hf] at e; exact ztr_ XP e
   | _=>rw [hf] at e; cases e
  | calli m tb x args =>
   simp only [xeff] at e ⊢
   cases hf:x.ev s with
   | ifc t v =>
    rw [hf] at e
    obtain ⟨f,e1,e2⟩:=zaa_.1 e
    exact Evt.ob (Evt.const e1) (ztr_ XP e2)
   | _=>rw [hf] at e; cases e
  | build r _ _=>cases r <;> exact Evt.const e
  | bslice r _ _=>cases r <;> exact Evt.const e
  | mkfn r _ _ _=>cases r <;> exact Evt.const e
  | _=>exact Evt.const e
 unfold xop at e ⊢
 split at e
 ·exact Evt.const e
 ·exact Evt.const e
 ·exact key e
theorem zbca_ {base:Nat} {o:XOp} {st:St} {r:St} (e:xstep (run XP) base o st=some r):Evt (fun n=>xstep (runN XP n) base o st) r:=by
 unfold xstep at e ⊢
 obtain ⟨w,hw,e⟩:=zaa_.1 e
 refine Evt.ob (Evt.const hw) ?_
 cases w with
 | true =>
  simp only [if_true] at e ⊢
  obtain ⟨p,hp,e⟩:=zaa_.1 e
  exact Evt.ob (zbme_ XP hp) (Evt.const e)
 | false=>exact Evt.const e
theorem zbmf_ {base:Nat} (l:List XOp):∀ {st r:St},xops (run XP) base l st=some r→Evt (fun n=>xops (runN XP n) base l st) r:=by
 induction l with
 | nil=>exact fun e=>Evt.const e
 | cons o l ih =>
  intro st r e
  obtain ⟨p,hp,e⟩:=zaa_.1 e
  exact Evt.ob (zbca_ XP hp) (ih e)
theorem zbmg_ {base:Nat} (l:List XOp):∀ {st:St} {r:List St},xtrace (run XP) base l st=some r→Evt (fun n=>xtrace (runN XP n) base l st) r:=by
 induction l with
 | nil=>exact fun e=>Evt.const e
 | cons o l ih =>
  intro st r e
  obtain ⟨p,hp,e⟩:=zaa_.1 e
  obtain ⟨q,hq,e⟩:=zaa_.1 e
  exact Evt.ob (zbca_ XP hp) (Evt.ob (ih hq) (Evt.const e))
theorem zbmh_ {base:Nat} {l:List XOp} {d:Option (List (Nat × Option Nat))} {st r:St} (e:zdn_ (run XP) base l d st=some r):Evt (fun n=>zdn_ (runN XP n) base l d st) r:=by
 cases d with
 | none=>exact zbmf_ XP l e
 | some d =>
  obtain ⟨q,hq,e⟩:=zaa_.1 e
  exact Evt.ob (zbmg_ XP l hq) (Evt.const e)
theorem zbcb_ {base:Nat} (x:XC):∀ {st:St} {r:Ex × St},xcode (run XP) loopW base x st=some r→Evt (fun n=>xcode (runN XP n) (loopN n) base x st) r:=by
 induction x with
 | skip=>exact fun e=>Evt.const e
 | region ops d =>
  intro st r e
  obtain ⟨q,hq,e⟩:=zaa_.1 e
  exact Evt.ob (zbmh_ XP hq) (Evt.const e)
 | seq a b iha ihb =>
  intro st r e
  obtain ⟨⟨x,q⟩,hq,e⟩:=zaa_.1 e
  refine Evt.ob (iha hq) ?_
  cases x with
  | norm=>exact ihb e
  | exit i=>exact Evt.const e
  | ret=>exact Evt.const e
 | cond c a b iha ihb =>
  intro st r e
  simp only [xcode] at e ⊢
  cases hx:c.ev st.s with
  | s y =>
   rw [hx] at e
   cases y with
   | bool t =>
    cases t with
    | true=>exact iha e
    | false=>exact ihb e
   | _=>cases e
  | _=>rw [hx] at e; cases e
 | block i b ih =>
  intro st r e
  obtain ⟨q,hq,e⟩:=zaa_.1 e
  exact Evt.ob (ih hq) (Evt.const e)
 | loop b ih =>
  intro st r e
  obtain ⟨k,hk⟩:=zdv_ e
  clear e
  have key:∀ k st,loopN k (xcode (run XP) loopW base b) st=some r→Evt (fun n=>loopN k (xcode (runN XP n) (loopN n) base b) st) r:=by
   intro k
   induction k with
   | zero=>intro st h; cases h
   | succ k ihk =>
    intro st h
    obtain ⟨⟨x,q⟩,hq,h⟩:=zaa_.1 h
    refine Evt.ob (ih hq) ?_
    cases x with
    | norm=>exact ihk _ h
    | exit i=>exact Evt.const h
    | ret=>exact Evt.const h
  obtain ⟨n,hn⟩:=key k st hk
  exact ⟨max n k,fun m hm=>zjo_ k m (by omega) _ _ (fun _=>Le.refl _) st r (hn m (by omega))⟩
 | exit i=>exact fun e=>Evt.const e
 | ret=>exact fun e=>Evt.const e
theorem zbmi_ {α:Type} {m:Nat} {f:Nat→Nat→Option α} {v:Nat→α} (k:∀ q,q < m→Evt (f q) (v q)):∃ N,∀ n,N≤n→∀ q,q < m→f q n=some (v q):=by
 induction m with
 | zero=>exact ⟨0,fun _ _ _ h=>by omega⟩
 | succ m ih =>
  obtain ⟨N,hN⟩:=ih fun q hq=>k q (by omega)
  obtain ⟨M,hM⟩:=k m (by omega)
  refine ⟨max N M,fun n hn q hq=>?_⟩
  rcases Nat.lt_or_ge q m with h | h
  ·exact hN n (by omega) q h
  ·obtain rfl:q=m:=by omega
   exact hM n (by omega)
theorem CmpIs.evt {f:Nat} {a b es:List V} {c:Nat→Nat→Int} (k:CmpIs (run XP) f a b es c):∃ N,∀ n,N≤n→CmpIs (runN XP n) f a b es c:=by
 have h1:∀ i,i < es.length→∃ N,∀ n,N≤n→∀ j,j < es.length→runN XP n f (a++[es.getD i .u,es.getD j .u]++b) []=some (.s (.int .i64 (c i j)),[]):=fun i hi =>
  zbmi_ (f:=fun j n=>runN XP n f (a++[es.getD i .u,es.getD j .u]++b) []) (v:=fun j=>(.s (.int .i64 (c i j)),[])) fun j hj=>by
   have e:=k i j _ _ (List.getElem?_eq_getElem hi) (List.getElem?_eq_getElem hj)
   obtain ⟨n,hn⟩:=zdv_ e
   have g1:es.getD i .u=es[i]:=by rw [List.getD_eq_getElem?_getD,List.getElem?_eq_getElem hi]; rfl
   have g2:es.getD j .u=es[j]:=by rw [List.getD_eq_getElem?_getD,List.getElem?_eq_getElem hj]; rfl
   simp only [g1,g2]
   exact Evt.of (zjp_ XP _ _ _) hn
 have h2:∃ N,∀ n,N≤n→∀ i,i < es.length→∀ j,j < es.length→runN XP n f (a++[es.getD i .u,es.getD j .u]++b) []=some (.s (.int .i64 (c i j)),[]):=by
  have:∀ m,m≤es.length→∃ N,∀ n,N≤n→∀ i,i < m→∀ j,j < es.length→runN XP n f (a++[es.getD i .u,es.getD j .u]++b) []=some (.s (.int .i64 (c i j)),[]):=by
   intro m
   induction m with
   | zero=>exact fun _=>⟨0,fun _ _ _ h=>by omega⟩
   | succ m ih =>
    intro hm
    obtain ⟨N,hN⟩:=ih (by omega)
    obtain ⟨M,hM⟩:=h1 m (by omega)
    refine ⟨max N M,fun n hn i hi=>?_⟩
    rcases Nat.lt_or_ge i m with h | h
    ·exact hN n (by omega) i h
    ·obtain rfl:i=m:=by omega
     exact hM n (by omega)
  exact this _ (Nat.le_refl _)
 obtain ⟨N,hN⟩:=h2
 refine ⟨N,fun n hn i j x y hx hy=>?_⟩
 have:=hN n hn i (List.getElem?_eq_some_iff.1 hx).1 j (List.getElem?_eq_some_iff.1 hy).1
 rw [List.getD_eq_getElem?_getD,List.getD_eq_getElem?_getD,hx,hy] at this
 exact this
theorem zgq_ {k:NK} {args:List V} {h:H} {r:V × H} (e:xnat (run XP) args h k=some r):Evt (fun n=>xnat (runN XP n) args h k) r:=by
 cases k with
 | sort k =>
  simp only [xnat] at e ⊢
  unfold xsort at e
  split at e
  ·exact Evt.const e
  ·rename_i l n f a b
   have e':xsort (run XP) k h [.ref l n,.fn f a b]=some r:=by simpa only [xsort] using e
   obtain ⟨es,q,h1,h2,h3,h4,h5,h6,h0,h7,h8⟩:=zew_.1 e'
   obtain ⟨N,hN⟩:=h7.1.evt XP
   exact ⟨N,fun m hm=>zew_.2 ⟨es,q,h1,h2,h3,h4,h5,h6,h0,⟨hN m hm,h7.2⟩,h8⟩⟩
  ·cases e
 | _=>exact Evt.const e
theorem zbmj_ {F:XF} {args:List V} {h:H} {r:V × H} (e:xfun (run XP) loopW F args h=some r):Evt (fun n=>xfun (runN XP n) (loopN n) F args h) r:=by
 unfold xfun at e ⊢
 cases hF:F.nat with
 | some k =>
  rw [hF] at e
  by_cases hk:k=.keep
  ·subst hk
   simp only [xfunK] at e ⊢
   split at e
   ·split at e
    ·rename_i hl
     simp only [hl,if_true,and_self]
     obtain ⟨q,hq,e⟩:=zaa_.1 e
     exact Evt.ob (zbcb_ XP _ hq) (Evt.const e)
    ·cases e
   ·cases e
  ·cases k with
   | keep=>exact absurd rfl hk
   | sort k=>exact zgq_ XP (k:=.sort k) e
   | seq a b c=>exact zgq_ XP (k:=.seq a b c) e
   | grow a b=>exact zgq_ XP (k:=.grow a b) e
   | srt a=>exact zgq_ XP (k:=.srt a) e
   | rd a=>exact zgq_ XP (k:=.rd a) e
   | none=>exact zgq_ XP (k:=.none) e
 | none =>
 rw [hF] at e
 simp only [xfun0] at e ⊢
 split at e
 ·rename_i hl
  simp only [hl,if_true]
  obtain ⟨q,hq,e⟩:=zaa_.1 e
  exact Evt.ob (zbcb_ XP _ hq) (Evt.const e)
 ·cases e
theorem run_eq (f:Nat) (args:List V) (h:H):run XP f args h=ob (XP f) fun F=>xfun (run XP) loopW F args h:=by
 refine zbbz_ ?_ ?_
 ·intro r e
  obtain ⟨n,hn⟩:=zdv_ e
  cases n with
  | zero=>cases hn
  | succ n =>
   exact Le.ob (Le.refl _) (fun F=>zbbw_ (zbmc_ XP n) (zbby_ n) F args h) r hn
 ·intro r e
  obtain ⟨F,hF,e⟩:=zaa_.1 e
  obtain ⟨n,hn⟩:=zbmj_ XP e
  exact lim_of (zjp_ XP f args h) (n:=n + 1) (zaa_.2 ⟨F,hF,hn n (Nat.le_refl _)⟩)
theorem zbmk_ {f:Nat} {args:List V} {h:H} {r:V × H} (e:run XP f args h=some r):∃ n,runN XP n f args h=some r:=zdv_ e
end
end Go.Proofs.Sl
namespace Go.Proofs.Sl
inductive Key where
 | obj (l:Nat)
 | cell (l o:Nat)
 deriving DecidableEq
structure G where
 b:Key→Nat
 c:Key→Nat
 M:Nat→Nat→Option Value
def hdr (b n c:Nat):Value:=.slice (some ⟨b,0,none⟩) n c
def cellAt (h:H) (l o:Nat):Option V:=match h[l]? with
 | some (.box _ cs)=>cs[o]?
 | _=>none
def IsBox (h:H) (l:Nat):Prop:=∃ z cs,h[l]?=some (.box z cs)
def IsMp (h:H) (l:Nat):Prop:=∃ es,h[l]?=some (.mp es)
def notAgg:Value→Bool
 | .agg _=>false
 | _=>true
def RowM (M:Nat→Nat→Option Value) (b o k:Nat) (ms:List Value):Prop :=
 (∀ m ∈ ms,m.cells.size=k)∧∀ i m,ms[i]?=some m→∀ j u,m.cells[j]?=some u→M b (o + i * k + j)=some u
mutual
def rel (φ:Nat→Option FuncId) (g:G) (h:H):Bool→V→Value→Prop
 | _,.s x,v=>v=x∧notAgg x=true
 | z,.agg cs,v=>∃ a:Array Value,v=.agg a∧rels φ g h z cs a.toList
 | z,.tup cs,v=>∃ a:Array Value,v=.tuple a∧rels φ g h z cs a.toList
 | _,.lst k es,v=>(∃ b o c ms,v=.slice (some ⟨b,o,none⟩) es.length c∧es.length≤c∧rels φ g h true es ms∧RowM g.M b o k ms)∨(es=[]∧∃ a c,v=.slice (some a) 0 c)
 | z,.lnk l o k es,v=>z=false∧(∃ b q c ms,v=.slice (some ⟨b,q,none⟩) es.length c∧es.length≤c∧rels φ g h true es ms∧RowM g.M b q k ms) ∧
   ∃ x,cellAt h l o=some x∧((∃ k' es',x=.own k' es'∧es.length≤es'.length∧(es.length=es'.length→v=hdr (g.b (.cell l o)) es.length (g.c (.cell l o))))∨∃ k' es' gs,x=.spent k' es' gs∧es.length < gs.length)
 | z,.gro l o k es,v=>z=false∧(∃ b q c ms,v=.slice (some ⟨b,q,none⟩) es.length c∧es.length≤c∧rels φ g h true es ms∧RowM g.M b q k ms) ∧
   ∃ x,cellAt h l o=some x∧((∃ k' es',x=.own k' es'∧es.length≤es'.length)∨∃ k' es' gs,x=.spent k' es' gs∧es.length≤gs.length∧(es.length=gs.length→v=hdr (g.b (.cell l o)) es.length (g.c (.cell l o))))
 | z,.own k es,v=>z=false∧∃ b o c ms,v=.slice (some ⟨b,o,none⟩) es.length c∧es.length≤c∧rels φ g h true es ms∧RowM g.M b o k ms
 | z,.spent k es _,v=>z=false∧∃ b o c ms,v=.slice (some ⟨b,o,none⟩) es.length c∧es.length≤c∧rels φ g h true es ms∧RowM g.M b o k ms
 | z,.ref l n,v=>z=false∧(∃ a c,v=.slice (some a) n c)∧l < h.length∧∀ q k es,h[l]?=some (.arr q k es)→n≤es.length∧(es.length=n→v=hdr (g.b (.obj l)) n (g.c (.obj l)))
 | z,.ptr l o,v=>z=false∧v=.pointer (some ⟨g.b (.obj l),o,none⟩)∧IsBox h l
 | z,.eptr l n i j,v=>z=false∧(∃ a,v=.pointer (some a))∧l < h.length∧∀ q k es,h[l]?=some (.arr q k es)→n≤es.length∧(es.length=n→v=.pointer (some ⟨g.b (.obj l),i * k + j,none⟩))
 | _,.fptr t o,v=>∃ b q m,v=.pointer (some ⟨b,q + o,none⟩)∧rel φ g h true t m∧∀ j u,m.cells[j]?=some u→g.M b (q + j)=some u
 | z,.fn f a c,v=>∃ id A C,φ f=some id∧v=.func (.func id) A C∧rels φ g h z a A.toList∧rels φ g h z c C.toList
 | z,.bref l n,v=>z=false∧v=.slice (some ⟨g.b (.obj l),0,none⟩) n n∧IsBox h l
 | z,.win l n a b,v=>z=false∧(∃ q c,v=.slice (some q) (b - a) c)∧l < h.length∧∀ q k es,h[l]?=some (.arr q k es)→n≤es.length∧(es.length=n→a < b→∃ c,b - a≤c∧v=.slice (some ⟨g.b (.obj l),a * k,none⟩) (b - a) c)
 | z,.mref l,v=>z=false∧v=.map (some (g.b (.obj l)))∧IsMp h l
 | z,.ifc t v,x=>∃ m,x=.iface t m∧rel φ g h z v m
def rels (φ:Nat→Option FuncId) (g:G) (h:H):Bool→List V→List Value→Prop
 | _,[],l=>l=[]
 | z,v :: r,l=>∃ m s,l=m :: s∧rel φ g h z v m∧rels φ g h z r s
end
section
variable {φ:Nat→Option FuncId} {g g':G} {h h':H} {z:Bool}
theorem zad_ {l:List Value}:rels φ g h z [] l↔l=[]:=by simp [rels]
theorem zam_ {v:V} {r:List V} {l:List Value}:rels φ g h z (v :: r) l↔∃ m s,l=m :: s∧rel φ g h z v m∧rels φ g h z r s:=by simp [rels]
theorem zaj_ {v:V} {r:List V} {m:Value} {s:List Value}:rels φ g h z (v :: r) (m :: s)↔rel φ g h z v m∧rels φ g h z r s:=by
 rw [zam_]
 constructor
 ·rintro ⟨_,_,e,a,b⟩
  injection e with e1 e2
  subst e1 e2
  exact ⟨a,b⟩
 ·rintro ⟨a,b⟩
  exact ⟨_,_,rfl,a,b⟩
theorem zah_ {l:List V}:∀ {ms:List Value},rels φ g h z l ms→l.length=ms.length:=by
 induction l with
 | nil=>intro ms r; rw [zad_] at r; subst r; rfl
 | cons v l ih =>
  intro ms r
  obtain ⟨m,s,rfl,_,r⟩:=zam_.1 r
  simp [ih r]
theorem zdd_ {l:List V}:∀ {ms:List Value},rels φ g h z l ms→∀ {i:Nat} {v:V},l[i]?=some v→∃ m,ms[i]?=some m∧rel φ g h z v m:=by
 induction l with
 | nil=>intro ms r i v e; simp at e
 | cons x l ih =>
  intro ms r i v e
  obtain ⟨m,s,rfl,r1,r⟩:=zam_.1 r
  cases i with
  | zero =>
   simp only [List.getElem?_cons_zero,Option.some.injEq] at e
   subst e
   exact ⟨m,rfl,r1⟩
  | succ i =>
   simp only [List.getElem?_cons_succ] at e
   exact ih r e
theorem zdw_ {l:List V}:∀ {ms:List Value},l.length=ms.length→(∀ (i:Nat) (v:V) (m:Value),l[i]?=some v→ms[i]?=some m→rel φ g h z v m)→rels φ g h z l ms:=by
 induction l with
 | nil =>
  intro ms e _
  rw [zad_]
  exact List.eq_nil_of_length_eq_zero e.symm
 | cons x l ih =>
  intro ms e k
  cases ms with
  | nil=>simp at e
  | cons m ms=>exact zaj_.2 ⟨k 0 x m rfl rfl,ih (by simpa using e) fun i v m' a b=>k (i + 1) v m' a b⟩
theorem zby_ {l:List V} {ms:List Value} (r:rels φ g h z l ms) {i:Nat} {v:V} {m:Value} (e:l[i]?=some v) (e':ms[i]?=some m):rel φ g h z v m:=by
 obtain ⟨m',h1,h2⟩:=zdd_ r e
 rw [e'] at h1
 injection h1 with h1
 subst h1
 exact h2
theorem zbz_ {a b:List V} {c d:List Value} (r:rels φ g h z a c) (s:rels φ g h z b d):rels φ g h z (a++b) (c++d):=by
 induction a generalizing c with
 | nil=>rw [zad_] at r; subst r; exact s
 | cons x a ih =>
  obtain ⟨m,t,rfl,r1,r⟩:=zam_.1 r
  exact zaj_.2 ⟨r1,ih r⟩
theorem zgr_ {l:List V} {ms:List Value} (r:rels φ g h z l ms) {v:V} {m:Value} (hv:rel φ g h z v m) (i:Nat):rels φ g h z (l.set i v) (ms.set i m):=by
 refine zdw_ (by simp [zah_ r]) fun j x y e e'=>?_
 rw [List.getElem?_set] at e e'
 split at e
 ·rename_i hij
  subst hij
  simp only [if_true] at e'
  split at e
  ·split at e'
   ·injection e with e; injection e' with e'
    subst e e'
    exact hv
   ·cases e'
  ·cases e
 ·rename_i hij
  rw [if_neg hij] at e'
  exact zby_ r e e'
theorem zex_ {l:List V} {ms:List Value} (r:rels φ g h z l ms) (n:Nat):rels φ g h z (l.drop n) (ms.drop n) :=
 zdw_ (by simp [zah_ r]) fun j x y e e'=>by
  rw [List.getElem?_drop] at e e'
  exact zby_ r e e'
theorem zdx_ {l:List V} {ms:List Value} (r:rels φ g h z l ms) (n:Nat):rels φ g h z (l.take n) (ms.take n) :=
 zdw_ (by simp [zah_ r]) fun j x y e e'=>by
  rw [List.getElem?_take] at e e'
  split at e
  ·rename_i hj
   rw [if_pos hj] at e'
   exact zby_ r e e'
  ·cases e
theorem RowM.mono {M M':Nat→Nat→Option Value} (k:∀ b o u,M b o=some u→M' b o=some u) {b o n:Nat} {ms:List Value} (r:RowM M b o n ms):RowM M' b o n ms :=
 ⟨r.1,fun i m e j u e'=>k _ _ _ (r.2 i m e j u e')⟩
end
-- A frozen value is what it is in every heap,as long as what is frozen stays.
mutual
theorem zbq_ {φ:Nat→Option FuncId} {g g':G} {h h':H} (hM:∀ b o u,g.M b o=some u→g'.M b o=some u) (z:Bool):∀ (v:V) (m:Value),rel φ g h true v m→rel φ g' h' z v m
 | .s x,m,r=>by simpa [rel] using r
 | .agg cs,m,r=>by
  obtain ⟨a,e,r⟩:=by simpa [rel] using r
  simp only [rel]
  exact ⟨a,e,zal_ hM z cs _ r⟩
 | .tup cs,m,r=>by
  obtain ⟨a,e,r⟩:=by simpa [rel] using r
  simp only [rel]
  exact ⟨a,e,zal_ hM z cs _ r⟩
 | .lst k es,m,r=>by
  simp only [rel] at r ⊢
  rcases r with ⟨b,o,c,ms,e,hc,r,row⟩ | r
  ·exact .inl ⟨b,o,c,ms,e,hc,zal_ hM true es _ r,row.mono hM⟩
  ·exact .inr r
 | .lnk ..,m,r=>by simp [rel] at r
 | .gro ..,m,r=>by simp [rel] at r
 | .own ..,m,r=>by simp [rel] at r
 | .spent ..,m,r=>by simp [rel] at r
 | .ref ..,m,r=>by simp [rel] at r
 | .ptr ..,m,r=>by simp [rel] at r
 | .eptr ..,m,r=>by simp [rel] at r
 | .fptr t o,m,r=>by
  simp only [rel] at r ⊢
  obtain ⟨b,q,n,e,r,k⟩:=r
  exact ⟨b,q,n,e,zbq_ hM true t n r,fun j u e=>hM _ _ _ (k j u e)⟩
 | .fn f a c,m,r=>by
  simp only [rel] at r ⊢
  obtain ⟨id,A,C,e1,e2,r1,r2⟩:=r
  exact ⟨id,A,C,e1,e2,zal_ hM z a _ r1,zal_ hM z c _ r2⟩
 | .bref ..,m,r=>by simp [rel] at r
 | .win ..,m,r=>by simp [rel] at r
 | .mref ..,m,r=>by simp [rel] at r
 | .ifc t v,m,r=>by
  simp only [rel] at r ⊢
  obtain ⟨x,e,r⟩:=r
  exact ⟨x,e,zbq_ hM z v x r⟩
theorem zal_ {φ:Nat→Option FuncId} {g g':G} {h h':H} (hM:∀ b o u,g.M b o=some u→g'.M b o=some u) (z:Bool):∀ (l:List V) (ms:List Value),rels φ g h true l ms→rels φ g' h' z l ms
 | [],ms,r=>by simpa [rels] using r
 | v :: l,ms,r=>by
  simp only [rels] at r ⊢
  obtain ⟨m,s,e,r1,r2⟩:=r
  exact ⟨m,s,e,zbq_ hM z v m r1,zal_ hM z l s r2⟩
end
-- What is closed is frozen.
mutual
theorem zpp_ {φ:Nat→Option FuncId} {g:G} {h:H} {z:Bool}:∀ (v:V) (m:Value),v.closed=true→rel φ g h z v m→rel φ g h true v m
 | .s x,m,_,r=>by simpa [rel] using r
 | .agg cs,m,k,r=>by
  simp only [rel] at r ⊢
  obtain ⟨a,e,r⟩:=r
  exact ⟨a,e,zbt_ cs _ (by simpa [V.closed] using k) r⟩
 | .tup cs,m,k,r=>by
  simp only [rel] at r ⊢
  obtain ⟨a,e,r⟩:=r
  exact ⟨a,e,zbt_ cs _ (by simpa [V.closed] using k) r⟩
 | .lst k es,m,_,r=>by simpa only [rel] using r
 | .lnk ..,m,k,r=>by simp [V.closed] at k
 | .gro ..,m,k,r=>by simp [V.closed] at k
 | .own ..,m,k,r=>by simp [V.closed] at k
 | .spent ..,m,k,r=>by simp [V.closed] at k
 | .ref ..,m,k,r=>by simp [V.closed] at k
 | .ptr ..,m,k,r=>by simp [V.closed] at k
 | .eptr ..,m,k,r=>by simp [V.closed] at k
 | .fptr t o,m,_,r=>by simpa only [rel] using r
 | .fn f a c,m,k,r=>by
  simp only [V.closed,Bool.and_eq_true] at k
  simp only [rel] at r ⊢
  obtain ⟨id,A,C,e1,e2,r1,r2⟩:=r
  exact ⟨id,A,C,e1,e2,zbt_ a _ k.1 r1,zbt_ c _ k.2 r2⟩
 | .bref ..,m,k,r=>by simp [V.closed] at k
 | .win ..,m,k,r=>by simp [V.closed] at k
 | .mref ..,m,k,r=>by simp [V.closed] at k
 | .ifc t v,m,k,r=>by
  simp only [rel] at r ⊢
  obtain ⟨x,e,r⟩:=r
  exact ⟨x,e,zpp_ v x (by simpa [V.closed] using k) r⟩
theorem zbt_ {φ:Nat→Option FuncId} {g:G} {h:H} {z:Bool}:∀ (l:List V) (ms:List Value),V.closed.closeds l=true→rels φ g h z l ms→rels φ g h true l ms
 | [],ms,_,r=>by simpa [rels] using r
 | v :: l,ms,k,r=>by
  simp only [V.closed.closeds,Bool.and_eq_true] at k
  simp only [rels] at r ⊢
  obtain ⟨m,s,e,r1,r2⟩:=r
  exact ⟨m,s,e,zpp_ v m k.1 r1,zbt_ l s k.2 r2⟩
end
def V.tl:V→Option Nat
 | .own _ es=>some es.length
 | .spent _ _ gs=>some gs.length
 | _=>none
def V.isOwn:V→Bool
 | .own ..=>true
 | _=>false
structure Later (g:G) (h:H) (g':G) (h':H):Prop where
 M:∀ b o u,g.M b o=some u→g'.M b o=some u
 len:h.length≤h'.length
 box:∀ l,IsBox h l→IsBox h' l∧g'.b (.obj l)=g.b (.obj l)
 arr:∀ l q k es,l < h.length→h'[l]?=some (.arr q k es)→∃ q' es',h[l]?=some (.arr q' k es')∧es'.length≤es.length∧(es'.length=es.length→g'.b (.obj l)=g.b (.obj l)∧g'.c (.obj l)=g.c (.obj l))
 cell:∀ l o x n,cellAt h l o=some x→x.tl=some n→∃ x' n',cellAt h' l o=some x'∧x'.tl=some n'∧n≤n' ∧
  (n=n'→g'.b (.cell l o)=g.b (.cell l o)∧g'.c (.cell l o)=g.c (.cell l o)∧(x.isOwn=true→x'.isOwn=true))
 mp:∀ l,IsMp h l→IsMp h' l∧g'.b (.obj l)=g.b (.obj l)
theorem Later.refl (g:G) (h:H):Later g h g h where
 M:=fun _ _ _ e=>e
 len:=Nat.le_refl _
 box:=fun _ e=>⟨e,rfl⟩
 arr:=fun l q k es _ e=>⟨q,es,e,Nat.le_refl _,fun _=>⟨rfl,rfl⟩⟩
 cell:=fun l o x n e k=>⟨x,n,e,k,Nat.le_refl _,fun _=>⟨rfl,rfl,id⟩⟩
 mp:=fun _ e=>⟨e,rfl⟩
theorem Later.trans {g g' g'':G} {h h' h'':H} (a:Later g h g' h') (b:Later g' h' g'' h''):Later g h g'' h'' where
 M:=fun _ _ _ e=>b.M _ _ _ (a.M _ _ _ e)
 len:=Nat.le_trans a.len b.len
 box:=fun l e=>⟨(b.box l (a.box l e).1).1,(b.box l (a.box l e).1).2.trans (a.box l e).2⟩
 arr:=fun l q k es hl e=>by
  obtain ⟨q1,es1,e1,n1,k1⟩:=b.arr l q k es (Nat.lt_of_lt_of_le hl a.len) e
  obtain ⟨q2,es2,e2,n2,k2⟩:=a.arr l q1 k es1 hl e1
  refine ⟨q2,es2,e2,Nat.le_trans n2 n1,fun hh=>?_⟩
  have:=k1 (by omega)
  have:=k2 (by omega)
  simp_all
 cell:=fun l o x n e k=>by
  obtain ⟨x1,n1,e1,t1,l1,k1⟩:=a.cell l o x n e k
  obtain ⟨x2,n2,e2,t2,l2,k2⟩:=b.cell l o x1 n1 e1 t1
  refine ⟨x2,n2,e2,t2,Nat.le_trans l1 l2,fun hh=>?_⟩
  have a1:=k1 (by omega)
  have a2:=k2 (by omega)
  exact ⟨a2.1.trans a1.1,a2.2.1.trans a1.2.1,fun hx=>a2.2.2 (a1.2.2 hx)⟩
 mp:=fun l e=>⟨(b.mp l (a.mp l e).1).1,(b.mp l (a.mp l e).1).2.trans (a.mp l e).2⟩
mutual
theorem zcq_ {φ:Nat→Option FuncId} {g g':G} {h h':H} (L:Later g h g' h'):∀ (z:Bool) (v:V) (m:Value),rel φ g h z v m→rel φ g' h' z v m
 | z,.s x,m,r=>by simpa [rel] using r
 | z,.agg cs,m,r=>by
  simp only [rel] at r ⊢
  obtain ⟨a,e,r⟩:=r
  exact ⟨a,e,zav_ L z cs _ r⟩
 | z,.tup cs,m,r=>by
  simp only [rel] at r ⊢
  obtain ⟨a,e,r⟩:=r
  exact ⟨a,e,zav_ L z cs _ r⟩
 | z,.lst k es,m,r=>by
  simp only [rel] at r ⊢
  rcases r with ⟨b,o,c,ms,e,hc,r,row⟩ | r
  ·exact .inl ⟨b,o,c,ms,e,hc,zal_ L.M true es _ r,row.mono L.M⟩
  ·exact .inr r
 | z,.lnk l o k es,m,r=>by
  simp only [rel] at r ⊢
  obtain ⟨hz,⟨b,q,c,ms,e,hc,r,row⟩,x,hx,hk⟩:=r
  refine ⟨hz,⟨b,q,c,ms,e,hc,zal_ L.M true es _ r,row.mono L.M⟩,?_⟩
  rcases hk with ⟨k',es',rfl,hl,hv⟩ | ⟨k',es',gs,rfl,hl⟩
  ·obtain ⟨x',n',hx',ht,hn,hh⟩:=L.cell l o _ _ hx rfl
   refine ⟨x',hx',?_⟩
   cases x' with
   | own k2 es2 =>
    simp only [V.tl,Option.some.injEq] at ht
    refine .inl ⟨k2,es2,rfl,by omega,fun he=>?_⟩
    obtain ⟨h1,h2,_⟩:=hh (by omega)
    rw [h1,h2]
    exact hv (by omega)
   | spent k2 es2 gs2 =>
    simp only [V.tl,Option.some.injEq] at ht
    refine .inr ⟨k2,es2,gs2,rfl,?_⟩
    rcases Nat.lt_or_eq_of_le (Nat.le_trans hl hn) with hlt | heq
    ·omega
    ·have:=(hh (by omega)).2.2 rfl
     simp [V.isOwn] at this
   | _=>simp [V.tl] at ht
  ·obtain ⟨x',n',hx',ht,hn,hh⟩:=L.cell l o _ _ hx rfl
   refine ⟨x',hx',?_⟩
   cases x' with
   | own k2 es2 =>
    simp only [V.tl,Option.some.injEq] at ht
    exact .inl ⟨k2,es2,rfl,by omega,fun he=>by omega⟩
   | spent k2 es2 gs2 =>
    simp only [V.tl,Option.some.injEq] at ht
    exact .inr ⟨k2,es2,gs2,rfl,by omega⟩
   | _=>simp [V.tl] at ht
 | z,.gro l o k es,m,r=>by
  simp only [rel] at r ⊢
  obtain ⟨hz,⟨b,q,c,ms,e,hc,r,row⟩,x,hx,hk⟩:=r
  refine ⟨hz,⟨b,q,c,ms,e,hc,zal_ L.M true es _ r,row.mono L.M⟩,?_⟩
  rcases hk with ⟨k',es',rfl,hl⟩ | ⟨k',es',gs,rfl,hl,hv⟩
  ·obtain ⟨x',n',hx',ht,hn,hh⟩:=L.cell l o _ _ hx rfl
   refine ⟨x',hx',?_⟩
   cases x' with
   | own k2 es2 =>
    simp only [V.tl,Option.some.injEq] at ht
    exact .inl ⟨k2,es2,rfl,by omega⟩
   | spent k2 es2 gs2 =>
    simp only [V.tl,Option.some.injEq] at ht
    refine .inr ⟨k2,es2,gs2,rfl,by omega,fun he=>?_⟩
    have:=(hh (by omega)).2.2 rfl
    simp [V.isOwn] at this
   | _=>simp [V.tl] at ht
  ·obtain ⟨x',n',hx',ht,hn,hh⟩:=L.cell l o _ _ hx rfl
   refine ⟨x',hx',?_⟩
   cases x' with
   | own k2 es2 =>
    simp only [V.tl,Option.some.injEq] at ht
    exact .inl ⟨k2,es2,rfl,by omega⟩
   | spent k2 es2 gs2 =>
    simp only [V.tl,Option.some.injEq] at ht
    refine .inr ⟨k2,es2,gs2,rfl,by omega,fun he=>?_⟩
    obtain ⟨h1,h2,_⟩:=hh (by omega)
    rw [h1,h2]
    exact hv (by omega)
   | _=>simp [V.tl] at ht
 | z,.own k es,m,r=>by
  simp only [rel] at r ⊢
  obtain ⟨hz,b,o,c,ms,e,hc,r,row⟩:=r
  exact ⟨hz,b,o,c,ms,e,hc,zal_ L.M true es _ r,row.mono L.M⟩
 | z,.spent k es gs,m,r=>by
  simp only [rel] at r ⊢
  obtain ⟨hz,b,o,c,ms,e,hc,r,row⟩:=r
  exact ⟨hz,b,o,c,ms,e,hc,zal_ L.M true es _ r,row.mono L.M⟩
 | z,.ref l n,m,r=>by
  simp only [rel] at r ⊢
  obtain ⟨hz,hs,hl,k⟩:=r
  refine ⟨hz,hs,Nat.lt_of_lt_of_le hl L.len,fun q kk es e=>?_⟩
  obtain ⟨q',es',e',hle,hh⟩:=L.arr l q kk es hl e
  obtain ⟨h1,h2⟩:=k q' kk es' e'
  refine ⟨by omega,fun he=>?_⟩
  obtain ⟨g1,g2⟩:=hh (by omega)
  rw [g1,g2]
  exact h2 (by omega)
 | z,.ptr l o,m,r=>by
  simp only [rel] at r ⊢
  obtain ⟨hz,e,k⟩:=r
  exact ⟨hz,by rw [(L.box l k).2]; exact e,(L.box l k).1⟩
 | z,.eptr l n i j,m,r=>by
  simp only [rel] at r ⊢
  obtain ⟨hz,hs,hl,k⟩:=r
  refine ⟨hz,hs,Nat.lt_of_lt_of_le hl L.len,fun q kk es e=>?_⟩
  obtain ⟨q',es',e',hle,hh⟩:=L.arr l q kk es hl e
  obtain ⟨h1,h2⟩:=k q' kk es' e'
  refine ⟨by omega,fun he=>?_⟩
  rw [(hh (by omega)).1]
  exact h2 (by omega)
 | z,.fptr t o,m,r=>by
  simp only [rel] at r ⊢
  obtain ⟨b,q,n,e,r,k⟩:=r
  exact ⟨b,q,n,e,zbq_ L.M true t n r,fun j u e=>L.M _ _ _ (k j u e)⟩
 | z,.fn f a c,m,r=>by
  simp only [rel] at r ⊢
  obtain ⟨id,A,C,e1,e2,r1,r2⟩:=r
  exact ⟨id,A,C,e1,e2,zav_ L z a _ r1,zav_ L z c _ r2⟩
 | z,.bref l n,m,r=>by
  simp only [rel] at r ⊢
  obtain ⟨hz,e,k⟩:=r
  exact ⟨hz,by rw [(L.box l k).2]; exact e,(L.box l k).1⟩
 | z,.win l n a b,m,r=>by
  simp only [rel] at r ⊢
  obtain ⟨hz,hs,hl,k⟩:=r
  refine ⟨hz,hs,Nat.lt_of_lt_of_le hl L.len,fun q kk es e=>?_⟩
  obtain ⟨q',es',e',hle,hh⟩:=L.arr l q kk es hl e
  obtain ⟨h1,h2⟩:=k q' kk es' e'
  refine ⟨by omega,fun he=>?_⟩
  rw [(hh (by omega)).1]
  exact h2 (by omega)
 | z,.mref l,m,r=>by
  simp only [rel] at r ⊢
  obtain ⟨hz,e,k⟩:=r
  exact ⟨hz,by rw [(L.mp l k).2]; exact e,(L.mp l k).1⟩
 | z,.ifc t v,m,r=>by
  simp only [rel] at r ⊢
  obtain ⟨x,e,r⟩:=r
  exact ⟨x,e,zcq_ L z v x r⟩
theorem zav_ {φ:Nat→Option FuncId} {g g':G} {h h':H} (L:Later g h g' h'):∀ (z:Bool) (l:List V) (ms:List Value),rels φ g h z l ms→rels φ g' h' z l ms
 | z,[],ms,r=>by simpa [rels] using r
 | z,v :: l,ms,r=>by
  simp only [rels] at r ⊢
  obtain ⟨m,s,e,r1,r2⟩:=r
  exact ⟨m,s,e,zcq_ L z v m r1,zav_ L z l s r2⟩
end
section
variable {φ:Nat→Option FuncId} {g:G} {h:H}
theorem zbcc_ {v:V} {m:Value} (r:rel φ g h false v m):rel φ g h false (zan_ v) m:=by
 unfold zan_
 split
 ·simp only [rel] at r ⊢
  exact .inl r.2
 ·simp only [rel] at r ⊢
  exact .inl r.2
 ·exact r
theorem zpq_:∀ {l:List V} {ms:List Value},rels φ g h false l ms→rels φ g h false (l.map zan_) ms
 | [],_,r=>r
 | v :: l,ms,r=>by
  obtain ⟨m,s,rfl,r1,r2⟩:=zam_.1 r
  exact zaj_.2 ⟨zbcc_ r1,zpq_ r2⟩
theorem zbml_ {v:V} (k:v.closed=true):zan_ v=v:=by cases v <;> first | rfl | (simp [V.closed] at k)
theorem zjq_:∀ {l:List V},V.closed.closeds l=true→l.map zan_=l
 | [],_=>rfl
 | v :: l,k=>by
  simp only [V.closed.closeds,Bool.and_eq_true] at k
  rw [List.map_cons,zbml_ k.1,zjq_ k.2]
end
end Go.Proofs.Sl
namespace Go.Proofs.Sl
def live (h:H):Key→Prop
 | .obj l=>IsBox h l∨(∃ z k es,h[l]?=some (.arr z k es))∨IsMp h l
 | .cell l o=>∃ x n,cellAt h l o=some x∧x.tl=some n
def flat (ms:List Value):List Value:=ms.flatMap fun m=>m.cells.toList
def BoxOk (φ:Nat→Option FuncId) (h:H) (g:G) (w:World) (l:Nat) (z:Bool) (cs:List V):Prop :=
 ∃ ms E,w.heap[g.b (.obj l)]?=some (.cells ms E (0,0))∧rels φ g h false cs ms.toList∧zai_ cs=true ∧
  (z=true→V.closed.closeds (cs.map zan_)=true∧∀ j,g.M (g.b (.obj l)) j=ms[j]?)∧(z=false→∀ j,g.M (g.b (.obj l)) j=none)
def ArrOk (φ:Nat→Option FuncId) (h:H) (g:G) (w:World) (l:Nat) (z:Bool) (k:Nat) (es:List V):Prop :=
 ∃ cur E ms,w.heap[g.b (.obj l)]?=some (.cells cur E (0,0))∧cur.size=g.c (.obj l) * k∧es.length≤g.c (.obj l)∧g.c (.obj l)≤maxLen ∧
  rels φ g h false es ms∧wide k es=true∧cur.toList.take (es.length * k)=flat ms ∧
  (z=true→V.closed.closeds es=true∧∀ j,g.M (g.b (.obj l)) j=if j < es.length * k then cur[j]? else none)∧(z=false→∀ j,g.M (g.b (.obj l)) j=none)
def OwnOk (φ:Nat→Option FuncId) (h:H) (g:G) (w:World) (l o:Nat) (x:V) (n:Nat):Prop :=
 ∃ cur E k,w.heap[g.b (.cell l o)]?=some (.cells cur E (0,0))∧cur.size=g.c (.cell l o) * k∧n≤g.c (.cell l o)∧g.c (.cell l o)≤maxLen∧(∀ j,n * k≤j→g.M (g.b (.cell l o)) j=none) ∧
  match x with
  | .own k' es=>k'=k∧w.cell? ⟨g.b (.obj l),o,none⟩=some (hdr (g.b (.cell l o)) n (g.c (.cell l o)))
  | .spent k' es gs=>k'=k∧∃ ms,rels φ g h true gs ms∧RowM g.M (g.b (.cell l o)) 0 k ms
  | _=>False
def Born (ents:Array MapEntry) (clock:Nat):Prop:=(∀ x ∈ ents.toList,x.born < clock)∧(ents.toList.map (·.born)).Nodup
def MapOk (φ:Nat→Option FuncId) (h:H) (g:G) (w:World) (l:Nat) (es:List (Value × V)):Prop :=
 ∃ ents clock,w.heap[g.b (.obj l)]?=some (.map ents clock)∧ents.toList.map (·.key)=es.map (·.1)∧rels φ g h true (es.map (·.2)) (ents.toList.map (·.val))∧Born ents clock
structure SR (φ:Nat→Option FuncId) (h:H) (g:G) (w:World):Prop where
 box:∀ l z cs,h[l]?=some (.box z cs)→BoxOk φ h g w l z cs
 arr:∀ l z k es,h[l]?=some (.arr z k es)→ArrOk φ h g w l z k es
 own:∀ l o x n,cellAt h l o=some x→x.tl=some n→OwnOk φ h g w l o x n
 inj:∀ a b,live h a→live h b→g.b a=g.b b→a=b
 mem:∀ b o u,g.M b o=some u→w.cell? ⟨b,o,none⟩=some u
 mp:∀ l es,h[l]?=some (.mp es)→MapOk φ h g w l es
structure Ext (h:H) (g:G) (w:World) (h':H) (g':G) (w':World):Prop where
 later:Later g h g' h'
 os:w'.os=w.os
 tape:w'.tape=w.tape
 output:w'.output=w.output
 size:w.heap.size≤w'.heap.size
 frame:∀ k,k < w.heap.size→(∀ key,live h key→g.b key≠k)→w'.heap[k]?=w.heap[k]?
 blks:∀ key,live h' key→(∃ k0,live h k0∧g.b k0=g'.b key)∨w.heap.size≤g'.b key
 arrB:∀ l z k es,h'[l]?=some (.arr z k es)→(∃ z' es',h[l]?=some (.arr z' k es')∧g'.b (.obj l)=g.b (.obj l))∨w.heap.size≤g'.b (.obj l)
 drawn:w.drawn≤w'.drawn
 mfr:∀ b j u,b < w.heap.size→g'.M b j=some u→g.M b j=some u∨∃ key,live h key∧g.b key=b
theorem Ext.refl (h:H) (g:G) (w:World):Ext h g w h g w where
 later:=Later.refl g h
 os:=rfl
 tape:=rfl
 output:=rfl
 size:=Nat.le_refl _
 frame:=fun _ _ _=>rfl
 blks:=fun key hk=>.inl ⟨key,hk,rfl⟩
 arrB:=fun l z k es e=>.inl ⟨z,es,e,rfl⟩
 drawn:=Nat.le_refl _
 mfr:=fun _ _ _ _ e=>.inl e
theorem Ext.trans {h h' h'':H} {g g' g'':G} {w w' w'':World} (a:Ext h g w h' g' w') (b:Ext h' g' w' h'' g'' w''):Ext h g w h'' g'' w'' where
 later:=a.later.trans b.later
 os:=b.os.trans a.os
 tape:=b.tape.trans a.tape
 output:=b.output.trans a.output
 size:=Nat.le_trans a.size b.size
 frame:=fun k hk hn=>by
  rw [b.frame k (Nat.lt_of_lt_of_le hk a.size) fun key hl he=>?_,a.frame k hk hn]
  rcases a.blks key hl with ⟨k0,h0,e0⟩ | hge
  ·exact hn k0 h0 (e0.trans he)
  ·omega
 blks:=fun key hl=>by
  rcases b.blks key hl with ⟨k0,h0,e0⟩ | hge
  ·rcases a.blks k0 h0 with ⟨k1,h1,e1⟩ | hge
   ·exact .inl ⟨k1,h1,e1.trans e0⟩
   ·exact .inr (by omega)
  ·exact .inr (Nat.le_trans a.size hge)
 arrB:=fun l z k es e=>by
  rcases b.arrB l z k es e with ⟨z1,es1,e1,b1⟩ | hge
  ·rcases a.arrB l z1 k es1 e1 with ⟨z2,es2,e2,b2⟩ | hge
   ·exact .inl ⟨z2,es2,e2,b1.trans b2⟩
   ·exact .inr (by omega)
  ·exact .inr (Nat.le_trans a.size hge)
 drawn:=Nat.le_trans a.drawn b.drawn
 mfr:=fun q j u hq e=>by
  rcases b.mfr q j u (Nat.lt_of_lt_of_le hq a.size) e with h1 | ⟨key,h1,h2⟩
  ·exact a.mfr q j u hq h1
  ·rcases a.blks key h1 with ⟨k0,h3,h4⟩ | h3
   ·exact .inr ⟨k0,h3,h4.trans h2⟩
   ·omega
section
variable {φ:Nat→Option FuncId} {h h':H} {g g':G} {w w':World}
theorem zey_ {b:Nat} {cs:Array Value} {E:TypeId} {f:Nat × Nat} (e:w.heap[b]?=some (.cells cs E f)):b < w.heap.size:=(Array.getElem?_eq_some_iff.1 e).1
theorem SR.lt (S:SR φ h g w) {a:Key} (ha:live h a):g.b a < w.heap.size:=by
 cases a with
 | obj l =>
  rcases ha with ⟨z,cs,e⟩ | ⟨z,k,es,e⟩ | ⟨es,e⟩
  ·obtain ⟨ms,E,e,_⟩:=S.box l z cs e
   exact zey_ e
  ·obtain ⟨cur,E,ms,e,_⟩:=S.arr l z k es e
   exact zey_ e
  ·obtain ⟨ents,clock,e,_⟩:=S.mp l es e
   exact (Array.getElem?_eq_some_iff.1 e).1
 | cell l o =>
  obtain ⟨x,n,e,k⟩:=ha
  obtain ⟨cur,E,k,e,_⟩:=S.own l o x n e k
  exact zey_ e
theorem SR.M_lt (S:SR φ h g w) {b o:Nat} {u:Value} (e:g.M b o=some u):b < w.heap.size:=World.block_lt_of_cell? w _ (S.mem b o u e)
theorem zbj_ {b i:Nat} {cs:Array Value} {E:TypeId} (e:w.heap[b]?=some (.cells cs E (0,0))):w.cell? ⟨b,i,none⟩=cs[i]?:=cell_of_row w b i cs E (0,0) e
theorem BoxOk.later {l:Nat} {z:Bool} {cs:List V} (B:BoxOk φ h g w l z cs) (L:Later g h g' h') (hl:IsBox h l) (hw:w'.heap[g.b (.obj l)]?=w.heap[g.b (.obj l)]?)
  (hM:∀ j,g'.M (g.b (.obj l)) j=g.M (g.b (.obj l)) j):BoxOk φ h' g' w' l z cs:=by
 obtain ⟨ms,E,e,r,k1,k2,k3⟩:=B
 have hb:=(L.box l hl).2
 refine ⟨ms,E,by rw [hb,hw]; exact e,zav_ L _ _ _ r,k1,fun hz=>⟨(k2 hz).1,fun j=>by rw [hb,hM]; exact (k2 hz).2 j⟩,fun hz j=>by rw [hb,hM]; exact k3 hz j⟩
theorem ArrOk.later {l:Nat} {z:Bool} {k:Nat} {es:List V} (A:ArrOk φ h g w l z k es) (L:Later g h g' h') (hb:g'.b (.obj l)=g.b (.obj l)) (hc:g'.c (.obj l)=g.c (.obj l))
  (hw:w'.heap[g.b (.obj l)]?=w.heap[g.b (.obj l)]?) (hM:∀ j,g'.M (g.b (.obj l)) j=g.M (g.b (.obj l)) j):ArrOk φ h' g' w' l z k es:=by
 obtain ⟨cur,E,ms,e,s,n1,n2,r,wd,t,k2,k3⟩:=A
 refine ⟨cur,E,ms,by rw [hb,hw]; exact e,by rw [hc]; exact s,by rw [hc]; exact n1,by rw [hc]; exact n2,zav_ L _ _ _ r,wd,t,fun hz=>⟨(k2 hz).1,fun j=>by rw [hb,hM]; exact (k2 hz).2 j⟩,fun hz j=>by rw [hb,hM]; exact k3 hz j⟩
theorem OwnOk.later {l o:Nat} {x:V} {n:Nat} (A:OwnOk φ h g w l o x n) (L:Later g h g' h') (hl:IsBox h l) (hb:g'.b (.cell l o)=g.b (.cell l o)) (hc:g'.c (.cell l o)=g.c (.cell l o))
  (hw:w'.heap[g.b (.cell l o)]?=w.heap[g.b (.cell l o)]?) (hcell:w'.cell? ⟨g.b (.obj l),o,none⟩=w.cell? ⟨g.b (.obj l),o,none⟩)
  (hM:∀ j,g'.M (g.b (.cell l o)) j=g.M (g.b (.cell l o)) j):OwnOk φ h' g' w' l o x n:=by
 obtain ⟨cur,E,k,e,s,n1,n2,m,r⟩:=A
 refine ⟨cur,E,k,by rw [hb,hw]; exact e,by rw [hc]; exact s,by rw [hc]; exact n1,by rw [hc]; exact n2,fun j hj=>by rw [hb,hM]; exact m j hj,?_⟩
 cases x with
 | own k' es=>exact ⟨r.1,by rw [(L.box l hl).2,hcell,hb,hc]; exact r.2⟩
 | spent k' es gs =>
  obtain ⟨r1,ms,r2,r3⟩:=r
  exact ⟨r1,ms,zal_ L.M true _ _ r2,by rw [hb]; exact r3.mono L.M⟩
 | _=>exact r
theorem MapOk.later {l:Nat} {es:List (Value × V)} (A:MapOk φ h g w l es) (L:Later g h g' h') (hl:IsMp h l) (hw:w'.heap[g.b (.obj l)]?=w.heap[g.b (.obj l)]?):MapOk φ h' g' w' l es:=by
 obtain ⟨ents,clock,e,k,r,hb⟩:=A
 exact ⟨ents,clock,by rw [(L.mp l hl).2,hw]; exact e,k,zal_ L.M true _ _ r,hb⟩
theorem zde_ {l o:Nat} {x:V} (e:cellAt h l o=some x):∃ z cs,h[l]?=some (.box z cs)∧cs[o]?=some x:=by
 unfold cellAt at e
 split at e
 ·rename_i z cs hh
  exact ⟨z,cs,hh,e⟩
 ·cases e
theorem zbd_ {l o:Nat} {z:Bool} {cs:List V} (e:h[l]?=some (.box z cs)):cellAt h l o=cs[o]?:=by simp [cellAt,e]
theorem zbv_ {l o:Nat} (e:live h (.cell l o)):IsBox h l:=by
 obtain ⟨x,n,e,_⟩:=e
 obtain ⟨z,cs,e,_⟩:=zde_ e
 exact ⟨z,cs,e⟩
theorem SR.drew (S:SR φ h g w):SR φ h g w.drew where
 box:=S.box
 arr:=S.arr
 own:=S.own
 inj:=S.inj
 mem:=S.mem
 mp:=S.mp
theorem Ext.drew (h:H) (g:G) (w:World):Ext h g w h g w.drew where
 later:=Later.refl g h
 os:=rfl
 tape:=rfl
 output:=rfl
 size:=Nat.le_refl _
 frame:=fun _ _ _=>rfl
 blks:=fun key hk=>.inl ⟨key,hk,rfl⟩
 arrB:=fun l z k es e=>.inl ⟨z,es,e,rfl⟩
 drawn:=Nat.le_succ _
 mfr:=fun _ _ _ _ e=>.inl e
def G.setB (g:G) (k:Key) (b c:Nat):G:={ g with b:=fun x=>if x=k then b else g.b x,c:=fun x=>if x=k then c else g.c x }
def G.setM (g:G) (b:Nat) (f:Nat→Option Value):G:={ g with M:=fun x=>if x=b then f else g.M x }
theorem zca_ {l:Nat} {o x:O} (e:(h++[o])[l]?=some x):(l < h.length∧h[l]?=some x)∨(l=h.length∧x=o):=by
 rcases Nat.lt_trichotomy l h.length with hl | hl | hl
 ·rw [List.getElem?_append_left hl] at e
  exact .inl ⟨hl,e⟩
 ·subst hl
  rw [List.getElem?_append_right (Nat.le_refl _)] at e
  simp only [Nat.sub_self,List.getElem?_cons_zero,Option.some.injEq] at e
  exact .inr ⟨rfl,e.symm⟩
 ·rw [List.getElem?_append_right (by omega)] at e
  rw [List.getElem?_eq_none (by simp; omega)] at e
  cases e
theorem zts_ {l:Nat} {o x:O} (e:h[l]?=some x):(h++[o])[l]?=some x:=by
 rw [List.getElem?_append_left (List.getElem?_eq_some_iff.1 e).1]
 exact e
theorem zau_ {l:Nat} {x:O} (e:h[l]?=some x):l < h.length:=(List.getElem?_eq_some_iff.1 e).1
theorem zbcd_ {l o:Nat} {ob':O} {x:V} (e:cellAt (h++[ob']) l o=some x):(l < h.length∧cellAt h l o=some x)∨(l=h.length∧∃ z cs,ob'=.box z cs∧cs[o]?=some x):=by
 obtain ⟨z,cs,e1,e2⟩:=zde_ e
 rcases zca_ e1 with ⟨hl,e1⟩ | ⟨hl,e1⟩
 ·exact .inl ⟨hl,by rw [zbd_ e1]; exact e2⟩
 ·exact .inr ⟨hl,z,cs,e1.symm,e2⟩
theorem zpr_ {l o:Nat} {ob':O} {x:V} (e:cellAt h l o=some x):cellAt (h++[ob']) l o=some x:=by
 obtain ⟨z,cs,e1,e2⟩:=zde_ e
 rw [zbd_ (zts_ e1)]
 exact e2
theorem Later.push (g:G) (h:H) (o:O) (b c:Nat):Later g h (g.setB (.obj h.length) b c) (h++[o]) where
 M:=fun _ _ _ e=>e
 len:=by simp
 box:=fun l e=>by
  obtain ⟨z,cs,e⟩:=e
  have hl:=zau_ e
  refine ⟨⟨z,cs,zts_ e⟩,?_⟩
  simp only [G.setB,Key.obj.injEq]
  rw [if_neg (by omega)]
 arr:=fun l q k es hl e=>by
  rcases zca_ e with ⟨_,e⟩ | ⟨h1,_⟩
  ·refine ⟨q,es,e,Nat.le_refl _,fun _=>?_⟩
   simp only [G.setB,Key.obj.injEq]
   rw [if_neg (by omega),if_neg (by omega)]
   exact ⟨rfl,rfl⟩
  ·omega
 cell:=fun l o' x n e k=>⟨x,n,zpr_ e,k,Nat.le_refl _,fun _=>⟨by simp [G.setB],by simp [G.setB],id⟩⟩
 mp:=fun l e=>by
  obtain ⟨es,e⟩:=e
  have hl:=zau_ e
  refine ⟨⟨es,zts_ e⟩,?_⟩
  simp only [G.setB,Key.obj.injEq]
  rw [if_neg (by omega)]
theorem zbm_ {i:Nat} {o:Obj} (hi:i < w.heap.size):(w.alloc o).heap[i]?=w.heap[i]?:=by rw [World.alloc,Array.getElem?_push,if_neg (by omega)]
theorem zez_ {b i:Nat} {o:Obj} (hb:b < w.heap.size):(w.alloc o).cell? ⟨b,i,none⟩=w.cell? ⟨b,i,none⟩:=World.cell?_alloc_lt w o _ hb
theorem zgs_ {o:O} {a:Key} (e:live (h++[o]) a):live h a∨a=.obj h.length∨∃ q z cs x n,a=.cell h.length q∧o=.box z cs∧cs[q]?=some x∧x.tl=some n:=by
 cases a with
 | obj l =>
  rcases e with ⟨z,cs,e⟩ | ⟨z,k,es,e⟩ | ⟨es,e⟩
  ·rcases zca_ e with ⟨_,e⟩ | ⟨h1,_⟩
   ·exact .inl (.inl ⟨z,cs,e⟩)
   ·exact .inr (.inl (by rw [h1]))
  ·rcases zca_ e with ⟨_,e⟩ | ⟨h1,_⟩
   ·exact .inl (.inr (.inl ⟨z,k,es,e⟩))
   ·exact .inr (.inl (by rw [h1]))
  ·rcases zca_ e with ⟨_,e⟩ | ⟨h1,_⟩
   ·exact .inl (.inr (.inr ⟨es,e⟩))
   ·exact .inr (.inl (by rw [h1]))
 | cell l q =>
  obtain ⟨x,n,e,k⟩:=e
  rcases zbcd_ e with ⟨_,e⟩ | ⟨h1,z,cs,h2,h3⟩
  ·exact .inl ⟨x,n,e,k⟩
  ·exact .inr (.inr ⟨q,z,cs,x,n,by rw [h1],h2,h3,k⟩)
theorem zfa_ {l:Nat} (e:live h (.obj l)):l < h.length:=by
 rcases e with ⟨z,cs,e⟩ | ⟨z,k,es,e⟩ | ⟨es,e⟩ <;> exact zau_ e
def noTl:List V→Prop:=fun cs=>∀ (i:Nat) (x:V),cs[i]?=some x→x.tl=none
theorem SR.push (S:SR φ h g w) (o:O) (cur:Array Value) (E:TypeId) (c:Nat)
  (hbox:∀ z cs,o=.box z cs→z=false∧rels φ g h false cs cur.toList∧zai_ cs=true∧noTl cs)
  (harr:∀ z k es,o=.arr z k es→z=false∧∃ ms,cur.size=c * k∧es.length≤c∧c≤maxLen∧rels φ g h false es ms∧wide k es=true∧cur.toList.take (es.length * k)=flat ms)
  (hmp:∀ es,o≠.mp es:=by intro es e; cases e):SR φ (h++[o]) (g.setB (.obj h.length) w.heap.size c) (w.alloc (.cells cur E))∧Ext h g w (h++[o]) (g.setB (.obj h.length) w.heap.size c) (w.alloc (.cells cur E)):=by
 have L:=Later.push g h o w.heap.size c
 have hnone:∀ j,g.M w.heap.size j=none:=fun j=>by
  cases e:g.M w.heap.size j with
  | none=>rfl
  | some u=>exact absurd (S.M_lt e) (Nat.lt_irrefl _)
 have hold:∀ a,a≠.obj h.length→(g.setB (.obj h.length) w.heap.size c).b a=g.b a∧(g.setB (.obj h.length) w.heap.size c).c a=g.c a:=fun a ha=>by simp [G.setB,ha]
 have hnew:(g.setB (.obj h.length) w.heap.size c).b (.obj h.length)=w.heap.size∧(g.setB (.obj h.length) w.heap.size c).c (.obj h.length)=c:=by simp [G.setB]
 have hlv:∀ a,live (h++[o]) a→live h a∨a=.obj h.length:=fun a ha=>by
  rcases zgs_ ha with h1 | h1 | ⟨q,z,cs,x,n,_,h2,h3,h4⟩
  ·exact .inl h1
  ·exact .inr h1
  ·have:=(hbox z cs h2).2.2.2 q x h3
   rw [this] at h4
   cases h4
 have hne:∀ a,live h a→a≠.obj h.length:=fun a ha e=>by
  subst e
  exact absurd (zfa_ ha) (Nat.lt_irrefl _)
 refine ⟨⟨?_,?_,?_,?_,?_,fun l es e=>?_⟩,⟨L,rfl,rfl,rfl,by simp,fun k hk _=>zbm_ hk,?_,fun l z k es e=>?_,Nat.le_refl _,fun _ _ _ _ e=>.inl e⟩⟩
 ·intro l z cs e
  rcases zca_ e with ⟨hl,e1⟩ | ⟨rfl,e1⟩
  ·have B:=S.box l z cs e1
   exact B.later L ⟨z,cs,e1⟩ (zbm_ (S.lt (a:=.obj l) (.inl ⟨z,cs,e1⟩))) fun _=>rfl
  ·obtain ⟨rfl,r,ok,_⟩:=hbox z cs e1.symm
   refine ⟨cur,E,by rw [hnew.1]; exact heap_alloc_new w _,zav_ L _ _ _ r,ok,fun h=>by (cases h),fun _ j=>by rw [hnew.1]; exact hnone j⟩
 ·intro l z k es e
  rcases zca_ e with ⟨hl,e1⟩ | ⟨rfl,e1⟩
  ·have A:=S.arr l z k es e1
   have ho:=hold (.obj l) (by simp; omega)
   exact A.later L ho.1 ho.2 (zbm_ (S.lt (a:=.obj l) (.inr (.inl ⟨z,k,es,e1⟩)))) fun _=>rfl
  ·obtain ⟨rfl,ms,k1,k2,k3,r,k4,k5⟩:=harr z k es e1.symm
   refine ⟨cur,E,ms,by rw [hnew.1]; exact heap_alloc_new w _,by rw [hnew.2]; exact k1,by rw [hnew.2]; exact k2,by rw [hnew.2]; exact k3,zav_ L _ _ _ r,k4,k5,fun h=>by (cases h),fun _ j=>by rw [hnew.1]; exact hnone j⟩
 ·intro l q x n e k
  rcases zbcd_ e with ⟨hl,e⟩ | ⟨rfl,z,cs,h2,h3⟩
  ·have A:=S.own l q x n e k
   have hb:=zbv_ (h:=h) ⟨x,n,e,k⟩
   have ho:=hold (.cell l q) (by simp)
   exact A.later L hb ho.1 ho.2 (zbm_ (S.lt (a:=.cell l q) ⟨x,n,e,k⟩)) (zez_ (S.lt (a:=.obj l) (.inl hb))) fun _=>rfl
  ·have:=(hbox z cs h2).2.2.2 q x h3
   rw [this] at k
   cases k
 ·intro a b ha hb e
  rcases hlv a ha with ha | rfl <;> rcases hlv b hb with hb | rfl
  ·rw [(hold a (hne a ha)).1,(hold b (hne b hb)).1] at e
   exact S.inj a b ha hb e
  ·rw [(hold a (hne a ha)).1,hnew.1] at e
   have:=S.lt ha
   omega
  ·rw [(hold b (hne b hb)).1,hnew.1] at e
   have:=S.lt hb
   omega
  ·rfl
 ·intro b q u e
  have e':g.M b q=some u:=e
  rw [zez_ (S.M_lt e')]
  exact S.mem b q u e'
 ·rcases zca_ e with ⟨hl,e1⟩ | ⟨_,e1⟩
  ·exact (S.mp l es e1).later L ⟨es,e1⟩ (zbm_ (S.lt (a:=.obj l) (.inr (.inr ⟨es,e1⟩))))
  ·exact absurd e1.symm (hmp es)
 ·intro a ha
  rcases hlv a ha with ha | rfl
  ·exact .inl ⟨a,ha,(hold a (hne a ha)).1.symm⟩
  ·exact .inr (by rw [hnew.1]; exact Nat.le_refl _)
 ·rcases zca_ e with ⟨hl,e1⟩ | ⟨rfl,e1⟩
  ·exact .inl ⟨z,es,e1,(hold (.obj l) (by simp; omega)).1⟩
  ·exact .inr (by rw [hnew.1]; exact Nat.le_refl _)
theorem SR.fix (S:SR φ h g w) (cur:Array Value) (E:TypeId) (f:Nat→Option Value) (hf:∀ j u,f j=some u→cur[j]?=some u) :
  SR φ h (g.setM w.heap.size f) (w.alloc (.cells cur E))∧Ext h g w h (g.setM w.heap.size f) (w.alloc (.cells cur E)):=by
 have hM:∀ b j,b < w.heap.size→(g.setM w.heap.size f).M b j=g.M b j:=fun b j hb=>by simp only [G.setM]; rw [if_neg (by omega)]
 have hMs:∀ j,(g.setM w.heap.size f).M w.heap.size j=f j:=fun j=>by simp [G.setM]
 have L:Later g h (g.setM w.heap.size f) h:=by
  refine ⟨fun b o u e=>?_,Nat.le_refl _,fun l e=>⟨e,rfl⟩,fun l q k es _ e=>⟨q,es,e,Nat.le_refl _,fun _=>⟨rfl,rfl⟩⟩,fun l o x n e k=>⟨x,n,e,k,Nat.le_refl _,fun _=>⟨rfl,rfl,id⟩⟩,fun l e=>⟨e,rfl⟩⟩
  rw [hM _ _ (S.M_lt e)]
  exact e
 refine ⟨⟨fun l z cs e=>?_,fun l z k es e=>?_,fun l o x n e k=>?_,S.inj,fun b o u e=>?_,fun l es e=>(S.mp l es e).later L ⟨es,e⟩ (zbm_ (S.lt (a:=.obj l) (.inr (.inr ⟨es,e⟩))))⟩,⟨L,rfl,rfl,rfl,by simp,fun k hk _=>zbm_ hk,fun key hk=>.inl ⟨key,hk,rfl⟩,fun l z k es e=>.inl ⟨z,es,e,rfl⟩,Nat.le_refl _,fun b j u hb e=>.inl (by rw [← hM b j hb]; exact e)⟩⟩
 ·have hl:=S.lt (a:=.obj l) (.inl ⟨z,cs,e⟩)
  exact (S.box l z cs e).later L ⟨z,cs,e⟩ (zbm_ hl) fun j=>hM _ j hl
 ·have hl:=S.lt (a:=.obj l) (.inr (.inl ⟨z,k,es,e⟩))
  exact (S.arr l z k es e).later L rfl rfl (zbm_ hl) fun j=>hM _ j hl
 ·have hl:=S.lt (a:=.cell l o) ⟨x,n,e,k⟩
  have hb:=zbv_ (h:=h) ⟨x,n,e,k⟩
  exact (S.own l o x n e k).later L hb rfl rfl (zbm_ hl) (zez_ (S.lt (a:=.obj l) (.inl hb))) fun j=>hM _ j hl
 ·by_cases hb:b=w.heap.size
  ·subst hb
   rw [hMs] at e
   rw [World.cell?_alloc_new]
   exact hf o u e
  ·have e':g.M b o=some u:=by
    simp only [G.setM] at e
    rw [if_neg hb] at e
    exact e
   rw [zez_ (S.M_lt e')]
   exact S.mem b o u e'
end
end Go.Proofs.Sl
namespace Go.Proofs.Sl
section
variable {φ:Nat→Option FuncId} {h h':H} {g g':G} {w w':World}
theorem zbr_ {b o k:Nat} {v:Value} (hk:k≠b):(w.setCell ⟨b,o,none⟩ v).heap[k]?=w.heap[k]?:=by
 simp only [World.setCell,Array.getElem?_modify]
 rw [if_neg (by omega)]
theorem zgt_ {b o:Nat} {v:Value} {cs:Array Value} {E:TypeId} {f:Nat × Nat} (e:w.heap[b]?=some (.cells cs E f)) :
  (w.setCell ⟨b,o,none⟩ v).heap[b]?=some (.cells (cs.setIfInBounds o v) E f):=by
 simp [World.setCell,Array.getElem?_modify,e]
theorem zfb_ {b o b' o':Nat} {v:Value} (hk:b'≠b∨o'≠o):(w.setCell ⟨b,o,none⟩ v).cell? ⟨b',o',none⟩=w.cell? ⟨b',o',none⟩ :=
 World.cell?_setCell_other w _ _ v (by simp; omega)
theorem zfc_ {l l':Nat} {x:O}:(h.set l x)[l']?=if l=l' then (if l < h.length then some x else none) else h[l']?:=by
 rw [List.getElem?_set]
theorem zak_ {l l':Nat} {x:O} (e:l≠l'):(h.set l x)[l']?=h[l']?:=by rw [zfc_,if_neg e]
theorem zae_ {l:Nat} {x:O} (e:l < h.length):(h.set l x)[l]?=some x:=by rw [zfc_,if_pos rfl,if_pos e]
theorem zcr_ {l l' o:Nat} {x:O} (e:l≠l'):cellAt (h.set l x) l' o=cellAt h l' o:=by simp only [cellAt,zak_ e]
theorem zgu_ {l o:Nat} {z:Bool} {cs:List V} (e:l < h.length):cellAt (h.set l (.box z cs)) l o=cs[o]?:=zbd_ (zae_ e)
theorem IsMp.set {l l':Nat} {x:O} (hn:∀ es,h[l]?≠some (.mp es)) (e:IsMp h l'):IsMp (h.set l x) l':=by
 obtain ⟨es,e⟩:=e
 by_cases k:l=l'
 ·subst k; exact absurd e (hn es)
 ·exact ⟨es,by rw [zak_ k]; exact e⟩
theorem zbce_ {l l':Nat} {x:O} {es:List (Value × V)} (hx:∀ es,x≠.mp es) (e:(h.set l x)[l']?=some (.mp es)):h[l']?=some (.mp es)∧l≠l':=by
 rw [zfc_] at e
 split at e
 ·split at e
  ·injection e with e; exact absurd e (hx es)
  ·cases e
 ·rename_i k; exact ⟨e,k⟩
theorem zgv_ {l l':Nat} {x:O} (hl:l < h.length) (hx:(∃ z cs,x=.box z cs)∨∃ z k es,x=.arr z k es) (hold:live h (.obj l)):live (h.set l x) (.obj l')↔live h (.obj l'):=by
 by_cases e:l=l'
 ·subst e
  refine ⟨fun _=>hold,fun _=>?_⟩
  rcases hx with ⟨z,cs,rfl⟩ | ⟨z,k,es,rfl⟩
  ·exact .inl ⟨z,cs,zae_ hl⟩
  ·exact .inr (.inl ⟨z,k,es,zae_ hl⟩)
 ·simp only [live,IsBox,IsMp,zak_ e]
theorem zps_ {cs:List V} (k:zai_ cs=true) {v:V} (hv:v.cell=true) (i:Nat):zai_ (cs.set i v)=true:=by
 induction cs generalizing i with
 | nil=>simpa using k
 | cons x cs ih =>
  simp only [zai_,Bool.and_eq_true] at k
  cases i with
  | zero=>simp [zai_,hv,k.2]
  | succ i=>simp [zai_,k.1,ih k.2]
theorem SR.put (S:SR φ h g w) {l o:Nat} {cs:List V} {old c:V} {mv:Value} (hb:h[l]?=some (.box false cs)) (ho:cs[o]?=some old) (h1:old.tl=none) (h2:c.tl=none) (hc:c.cell=true)
  (hr:rel φ g h false c mv) :
  SR φ (h.set l (.box false (cs.set o c))) g (w.setCell ⟨g.b (.obj l),o,none⟩ mv)∧Ext h g w (h.set l (.box false (cs.set o c))) g (w.setCell ⟨g.b (.obj l),o,none⟩ mv):=by
 have hl:=zau_ hb
 have hlive:live h (.obj l):=.inl ⟨_,_,hb⟩
 have hcell:∀ l' o' x n,x.tl=some n→(cellAt (h.set l (.box false (cs.set o c))) l' o'=some x↔cellAt h l' o'=some x):=by
  intro l' o' x n ht
  by_cases e:l=l'
  ·subst e
   rw [zgu_ hl,zbd_ hb]
   by_cases eo:o=o'
   ·subst eo
    rw [List.getElem?_set_self (List.getElem?_eq_some_iff.1 ho).1,ho]
    constructor <;> (intro e; injection e with e; subst e; simp_all)
   ·rw [List.getElem?_set_ne eo]
  ·rw [zcr_ e]
 have L:Later g h g (h.set l (.box false (cs.set o c))):=by
  refine ⟨fun _ _ _ e=>e,by simp,fun l' e=>⟨?_,rfl⟩,fun l' q k es _ e=>?_,fun l' o' x n e k=>⟨x,n,(hcell l' o' x n k).2 e,k,Nat.le_refl _,fun _=>⟨rfl,rfl,id⟩⟩,fun l' e=>⟨e.set fun es e=>by (rw [hb] at e; cases e),rfl⟩⟩
  ·by_cases e':l=l'
   ·subst e'; exact ⟨_,_,zae_ hl⟩
   ·obtain ⟨z,d,e⟩:=e
    exact ⟨z,d,by rw [zak_ e']; exact e⟩
  ·by_cases e':l=l'
   ·subst e'; rw [zae_ hl] at e; cases e
   ·rw [zak_ e'] at e
    exact ⟨q,es,e,Nat.le_refl _,fun _=>⟨rfl,rfl⟩⟩
 have hlv:∀ a,live (h.set l (.box false (cs.set o c))) a→live h a:=by
  intro a ha
  cases a with
  | obj l'=>exact (zgv_ hl (.inl ⟨_,_,rfl⟩) hlive).1 ha
  | cell l' o' =>
   obtain ⟨x,n,e,k⟩:=ha
   exact ⟨x,n,(hcell l' o' x n k).1 e,k⟩
 have hne:∀ a,live h a→a≠.obj l→g.b a≠g.b (.obj l):=fun a ha hn e=>hn (S.inj a _ ha hlive e)
 obtain ⟨ms,E,hm,hrs,hok,_,hz⟩:=S.box l false cs hb
 have hMl:=hz rfl
 refine ⟨⟨fun l' z d e=>?_,fun l' z k es e=>?_,fun l' o' x n e k=>?_,fun a b ha hb' e=>S.inj a b (hlv a ha) (hlv b hb') e,fun b q u e=>?_,fun l' es' e=>?_⟩,
  ⟨L,rfl,rfl,rfl,by simp,fun k hk hn=>zbr_ (fun e=>hn _ hlive e.symm),fun a ha=>.inl ⟨a,hlv a ha,rfl⟩,fun q z k es e=>.inl ?_,Nat.le_refl _,fun _ _ _ _ e=>.inl e⟩⟩
 ·by_cases e':l=l'
  ·subst e'
   rw [zae_ hl] at e
   injection e with e
   injection e with e1 e2
   subst e1 e2
   refine ⟨ms.setIfInBounds o mv,E,zgt_ hm,?_,zps_ hok hc o,fun h=>by (cases h),fun _=>hMl⟩
   rw [Array.toList_setIfInBounds]
   exact zav_ L _ _ _ (zgr_ hrs hr o)
  ·rw [zak_ e'] at e
   exact (S.box l' z d e).later L ⟨z,d,e⟩ (zbr_ (hne (.obj l') (.inl ⟨z,d,e⟩) (by simp; omega))) fun _=>rfl
 ·by_cases e':l=l'
  ·subst e'; rw [zae_ hl] at e; cases e
  ·rw [zak_ e'] at e
   exact (S.arr l' z k es e).later L rfl rfl (zbr_ (hne (.obj l') (.inr (.inl ⟨z,k,es,e⟩)) (by simp; omega))) fun _=>rfl
 ·have e1:=(hcell l' o' x n k).1 e
  have hbx:=zbv_ (h:=h) ⟨x,n,e1,k⟩
  refine (S.own l' o' x n e1 k).later L hbx rfl rfl (zbr_ (hne (.cell l' o') ⟨x,n,e1,k⟩ (by simp))) (zfb_ ?_) fun _=>rfl
  by_cases e':l=l'
  ·subst e'
   refine .inr fun eo=>?_
   subst eo
   rw [zbd_ hb,ho] at e1
   injection e1 with e1
   subst e1
   rw [h1] at k
   cases k
  ·exact .inl (hne (.obj l') (.inl hbx) (by simp; omega))
 ·rw [zfb_ (.inl fun eb=>?_)]
  ·exact S.mem b q u e
  ·subst eb
   rw [hMl] at e
   cases e
 ·obtain ⟨e1,hll⟩:=zbce_ (by intro es e; cases e) e
  exact (S.mp l' es' e1).later L ⟨es',e1⟩ (zbr_ (hne (.obj l') (.inr (.inr ⟨es',e1⟩)) (by simp; omega)))
 ·have:l≠q:=by rintro rfl; rw [zae_ hl] at e; cases e
  rw [zak_ this] at e
  exact ⟨z,es,e,rfl⟩
theorem SR.there (S:SR φ h g w) {l o:Nat} {z:Bool} {cs:List V} {old:V} (hb:h[l]?=some (.box z cs)) (ho:cs[o]?=some old) :
  (∃ mv,w.cell? ⟨g.b (.obj l),o,none⟩=some mv∧rel φ g h false old mv)∧w.frozen? ⟨g.b (.obj l),o,none⟩=false:=by
 obtain ⟨ms,E,hm,hrs,_⟩:=S.box l z cs hb
 obtain ⟨mv,e,r⟩:=zdd_ hrs ho
 refine ⟨⟨mv,?_,r⟩,frozen_of_row w _ _ _ _ hm⟩
 rw [zbj_ hm,← Array.getElem?_toList]
 exact e
theorem SR.grown (S:SR φ h g w) {l o k:Nat} {cs es gs:List V} (hb:h[l]?=some (.box false cs)) (ho:cs[o]?=some (.spent k es gs)) :
  SR φ (h.set l (.box false (cs.set o (.own k gs)))) g (w.setCell ⟨g.b (.obj l),o,none⟩ (hdr (g.b (.cell l o)) gs.length (g.c (.cell l o)))) ∧
   Ext h g w (h.set l (.box false (cs.set o (.own k gs)))) g (w.setCell ⟨g.b (.obj l),o,none⟩ (hdr (g.b (.cell l o)) gs.length (g.c (.cell l o)))):=by
 have hl:=zau_ hb
 have hlive:live h (.obj l):=.inl ⟨_,_,hb⟩
 have hlo:=(List.getElem?_eq_some_iff.1 ho).1
 have hcs:cellAt h l o=some (.spent k es gs):=by rw [zbd_ hb]; exact ho
 obtain ⟨cur,E0,k0,hrow,hsz,hn1,hn2,hnM,hk0,gms,hg1,hg2⟩:=S.own l o _ _ hcs rfl
 subst hk0
 have hcell:∀ l' o',¬ (l'=l∧o'=o)→cellAt (h.set l (.box false (cs.set o (.own k gs)))) l' o'=cellAt h l' o':=by
  intro l' o' hn
  by_cases e:l=l'
  ·subst e
   rw [zgu_ hl,zbd_ hb,List.getElem?_set_ne (by omega)]
  ·rw [zcr_ e]
 have hcell0:cellAt (h.set l (.box false (cs.set o (.own k gs)))) l o=some (.own k gs):=by
  rw [zgu_ hl,List.getElem?_set_self hlo]
 have L:Later g h g (h.set l (.box false (cs.set o (.own k gs)))):=by
  refine ⟨fun _ _ _ e=>e,by simp,fun l' e=>⟨?_,rfl⟩,fun l' q k es _ e=>?_,fun l' o' x n e ht=>?_,fun l' e=>⟨e.set fun es e=>by (rw [hb] at e; cases e),rfl⟩⟩
  ·by_cases e':l=l'
   ·subst e'; exact ⟨_,_,zae_ hl⟩
   ·obtain ⟨z,d,e⟩:=e
    exact ⟨z,d,by rw [zak_ e']; exact e⟩
  ·by_cases e':l=l'
   ·subst e'; rw [zae_ hl] at e; cases e
   ·rw [zak_ e'] at e
    exact ⟨q,es,e,Nat.le_refl _,fun _=>⟨rfl,rfl⟩⟩
  ·by_cases hc:l'=l∧o'=o
   ·obtain ⟨rfl,rfl⟩:=hc
    rw [hcs] at e
    injection e with e
    subst e
    simp only [V.tl,Option.some.injEq] at ht
    exact ⟨_,_,hcell0,rfl,by omega,fun _=>⟨rfl,rfl,fun _=>rfl⟩⟩
   ·exact ⟨x,n,by rw [hcell l' o' hc]; exact e,ht,Nat.le_refl _,fun _=>⟨rfl,rfl,id⟩⟩
 have hlv:∀ a,live (h.set l (.box false (cs.set o (.own k gs)))) a→live h a:=by
  intro a ha
  cases a with
  | obj l'=>exact (zgv_ hl (.inl ⟨_,_,rfl⟩) hlive).1 ha
  | cell l' o' =>
   by_cases hc:l'=l∧o'=o
   ·obtain ⟨rfl,rfl⟩:=hc
    exact ⟨_,_,hcs,rfl⟩
   ·obtain ⟨x,n,e,k⟩:=ha
    exact ⟨x,n,by rw [← hcell l' o' hc]; exact e,k⟩
 have hne:∀ a,live h a→a≠.obj l→g.b a≠g.b (.obj l):=fun a ha hn e=>hn (S.inj a _ ha hlive e)
 obtain ⟨ms,E,hm,hrs,hok,_,hz⟩:=S.box l false cs hb
 have hMl:=hz rfl
 have hown:rel φ g h false (.own k gs) (hdr (g.b (.cell l o)) gs.length (g.c (.cell l o))):=by
  simp only [rel]
  exact ⟨trivial,_,0,_,gms,rfl,hn1,zal_ (fun _ _ _ e=>e) true _ _ hg1,hg2⟩
 refine ⟨⟨fun l' z d e=>?_,fun l' z k es e=>?_,fun l' o' x n e ht=>?_,fun a b ha hb' e=>S.inj a b (hlv a ha) (hlv b hb') e,fun b q u e=>?_,fun l' es' e=>?_⟩,
  ⟨L,rfl,rfl,rfl,by simp,fun k hk hn=>zbr_ (fun e=>hn _ hlive e.symm),fun a ha=>.inl ⟨a,hlv a ha,rfl⟩,fun q z k es e=>.inl ?_,Nat.le_refl _,fun _ _ _ _ e=>.inl e⟩⟩
 ·by_cases e':l=l'
  ·subst e'
   rw [zae_ hl] at e
   injection e with e
   injection e with e1 e2
   subst e1 e2
   refine ⟨ms.setIfInBounds o _,E,zgt_ hm,?_,zps_ hok rfl o,fun h=>by (cases h),fun _=>hMl⟩
   rw [Array.toList_setIfInBounds]
   exact zav_ L _ _ _ (zgr_ hrs hown o)
  ·rw [zak_ e'] at e
   exact (S.box l' z d e).later L ⟨z,d,e⟩ (zbr_ (hne (.obj l') (.inl ⟨z,d,e⟩) (by simp; omega))) fun _=>rfl
 ·by_cases e':l=l'
  ·subst e'; rw [zae_ hl] at e; cases e
  ·rw [zak_ e'] at e
   exact (S.arr l' z k es e).later L rfl rfl (zbr_ (hne (.obj l') (.inr (.inl ⟨z,k,es,e⟩)) (by simp; omega))) fun _=>rfl
 ·by_cases hc:l'=l∧o'=o
  ·obtain ⟨rfl,rfl⟩:=hc
   rw [hcell0] at e
   injection e with e
   subst e
   simp only [V.tl,Option.some.injEq] at ht
   subst ht
   have hbne:g.b (.cell l' o')≠g.b (.obj l'):=hne _ ⟨_,_,hcs,rfl⟩ (by simp)
   refine ⟨cur,E0,k,by rw [zbr_ hbne]; exact hrow,hsz,hn1,hn2,hnM,rfl,?_⟩
   rw [zbj_ (zgt_ hm)]
   have hos:o' < ms.size:=by
    have:=zah_ hrs
    simp only [Array.length_toList] at this
    omega
   simp [Array.getElem?_setIfInBounds,hos]
  ·have e1:cellAt h l' o'=some x:=by rw [← hcell l' o' hc]; exact e
   have hbx:=zbv_ (h:=h) ⟨x,n,e1,ht⟩
   refine (S.own l' o' x n e1 ht).later L hbx rfl rfl (zbr_ (hne (.cell l' o') ⟨x,n,e1,ht⟩ (by simp))) (zfb_ ?_) fun _=>rfl
   by_cases e':l=l'
   ·subst e'
    exact .inr fun eo=>hc ⟨rfl,eo⟩
   ·exact .inl (hne (.obj l') (.inl hbx) (by simp; omega))
 ·rw [zfb_ (.inl fun eb=>?_)]
  ·exact S.mem b q u e
  ·subst eb
   rw [hMl] at e
   cases e
 ·obtain ⟨e1,hll⟩:=zbce_ (by intro es e; cases e) e
  exact (S.mp l' es' e1).later L ⟨es',e1⟩ (zbr_ (hne (.obj l') (.inr (.inr ⟨es',e1⟩)) (by simp; omega)))
 ·have:l≠q:=by rintro rfl; rw [zae_ hl] at e; cases e
  rw [zak_ this] at e
  exact ⟨z,es,e,rfl⟩
end
end Go.Proofs.Sl
namespace Go.Proofs.Sl
section
variable {φ:Nat→Option FuncId} {h h':H} {g g':G} {w w':World}
theorem SR.mk' (S:SR φ h g w) (L:Later g h g' h') (T:Key→Prop)
  (hobj:∀ l,¬ T (.obj l)→live h' (.obj l)→h'[l]?=h[l]?∧g'.b (.obj l)=g.b (.obj l)∧g'.c (.obj l)=g.c (.obj l)∧w'.heap[g.b (.obj l)]?=w.heap[g.b (.obj l)]?∧∀ j,g'.M (g.b (.obj l)) j=g.M (g.b (.obj l)) j)
  (hcell:∀ l o,¬ T (.cell l o)→live h' (.cell l o)→cellAt h' l o=cellAt h l o∧g'.b (.cell l o)=g.b (.cell l o)∧g'.c (.cell l o)=g.c (.cell l o)∧w'.heap[g.b (.cell l o)]?=w.heap[g.b (.cell l o)]? ∧
   w'.cell? ⟨g.b (.obj l),o,none⟩=w.cell? ⟨g.b (.obj l),o,none⟩∧∀ j,g'.M (g.b (.cell l o)) j=g.M (g.b (.cell l o)) j)
  (tbox:∀ l z cs,T (.obj l)→h'[l]?=some (.box z cs)→BoxOk φ h' g' w' l z cs)
  (tarr:∀ l z k es,T (.obj l)→h'[l]?=some (.arr z k es)→ArrOk φ h' g' w' l z k es)
  (town:∀ l o x n,T (.cell l o)→cellAt h' l o=some x→x.tl=some n→OwnOk φ h' g' w' l o x n)
  (inj:∀ a b,live h' a→live h' b→g'.b a=g'.b b→a=b)
  (mem:∀ b o u,g'.M b o=some u→w'.cell? ⟨b,o,none⟩=some u)
  (tmp:∀ l es,T (.obj l)→h'[l]?=some (.mp es)→MapOk φ h' g' w' l es):SR φ h' g' w' where
 box:=fun l z cs e=>by
  by_cases t:T (.obj l)
  ·exact tbox l z cs t e
  ·obtain ⟨e1,e2,e3,e4,e5⟩:=hobj l t (.inl ⟨z,cs,e⟩)
   rw [e1] at e
   exact (S.box l z cs e).later L ⟨z,cs,e⟩ e4 e5
 arr:=fun l z k es e=>by
  by_cases t:T (.obj l)
  ·exact tarr l z k es t e
  ·obtain ⟨e1,e2,e3,e4,e5⟩:=hobj l t (.inr (.inl ⟨z,k,es,e⟩))
   rw [e1] at e
   exact (S.arr l z k es e).later L e2 e3 e4 e5
 own:=fun l o x n e k=>by
  by_cases t:T (.cell l o)
  ·exact town l o x n t e k
  ·obtain ⟨e1,e2,e3,e4,e5,e6⟩:=hcell l o t ⟨x,n,e,k⟩
   rw [e1] at e
   exact (S.own l o x n e k).later L (zbv_ (h:=h) ⟨x,n,e,k⟩) e2 e3 e4 e5 e6
 inj:=inj
 mem:=mem
 mp:=fun l es e=>by
  by_cases t:T (.obj l)
  ·exact tmp l es t e
  ·obtain ⟨e1,e2,e3,e4,e5⟩:=hobj l t (.inr (.inr ⟨es,e⟩))
   rw [e1] at e
   exact (S.mp l es e).later L ⟨es,e⟩ e4
theorem zpt_ {z:Bool} {v:V} {m:Value} (r:rel φ g h z v m) (hv:∀ cs,v≠.agg cs):notAgg m=true:=by
 cases v with
 | s x=>simp only [rel] at r; obtain ⟨rfl,k⟩:=r; exact k
 | agg cs=>exact absurd rfl (hv cs)
 | tup cs=>simp only [rel] at r; obtain ⟨a,rfl,_⟩:=r; rfl
 | lst k es=>simp only [rel] at r; rcases r with ⟨b,o,c,ms,rfl,_⟩ | ⟨_,a,c,rfl⟩ <;> rfl
 | lnk l o k es=>simp only [rel] at r; obtain ⟨_,⟨b,q,c,ms,rfl,_⟩,_⟩:=r; rfl
 | gro l o k es=>simp only [rel] at r; obtain ⟨_,⟨b,q,c,ms,rfl,_⟩,_⟩:=r; rfl
 | own k es=>simp only [rel] at r; obtain ⟨_,b,o,c,ms,rfl,_⟩:=r; rfl
 | spent k es gs=>simp only [rel] at r; obtain ⟨_,b,o,c,ms,rfl,_⟩:=r; rfl
 | ref l n=>simp only [rel] at r; obtain ⟨_,⟨a,c,rfl⟩,_⟩:=r; rfl
 | ptr l o=>simp only [rel] at r; obtain ⟨_,rfl,_⟩:=r; rfl
 | eptr l n i j=>simp only [rel] at r; obtain ⟨_,⟨a,rfl⟩,_⟩:=r; rfl
 | fptr t o=>simp only [rel] at r; obtain ⟨b,q,m',rfl,_⟩:=r; rfl
 | fn f a c=>simp only [rel] at r; obtain ⟨id,A,C,_,rfl,_⟩:=r; rfl
 | bref l n=>simp only [rel] at r; obtain ⟨_,rfl,_⟩:=r; rfl
 | win l n a b=>simp only [rel] at r; obtain ⟨_,⟨q,c,rfl⟩,_⟩:=r; rfl
 | mref l=>simp only [rel] at r; obtain ⟨_,rfl,_⟩:=r; rfl
 | ifc t v=>simp only [rel] at r; obtain ⟨x,rfl,_⟩:=r; rfl
theorem zpu_ {m:Value} (k:notAgg m=true):m.cells=#[m]:=by cases m <;> first | rfl | (simp [notAgg] at k)
theorem zfd_ {z:Bool} {v:V} {m:Value} (r:rel φ g h z v m):m.cells.size=v.cells.length:=by
 cases v with
 | s x =>
  simp only [rel] at r
  obtain ⟨rfl,k⟩:=r
  cases m <;> first | (simp [notAgg] at k; done) | rfl
 | agg cs =>
  simp only [rel] at r
  obtain ⟨a,rfl,r⟩:=r
  simpa [Value.cells,V.cells] using (zah_ r).symm
 | tup cs=>simp only [rel] at r; obtain ⟨a,rfl,_⟩:=r; rfl
 | lst k es=>simp only [rel] at r; rcases r with ⟨b,o,c,ms,rfl,_⟩ | ⟨_,a,c,rfl⟩ <;> rfl
 | lnk l o k es=>simp only [rel] at r; obtain ⟨_,⟨b,q,c,ms,rfl,_⟩,_⟩:=r; rfl
 | gro l o k es=>simp only [rel] at r; obtain ⟨_,⟨b,q,c,ms,rfl,_⟩,_⟩:=r; rfl
 | own k es=>simp only [rel] at r; obtain ⟨_,b,o,c,ms,rfl,_⟩:=r; rfl
 | spent k es gs=>simp only [rel] at r; obtain ⟨_,b,o,c,ms,rfl,_⟩:=r; rfl
 | ref l n=>simp only [rel] at r; obtain ⟨_,⟨a,c,rfl⟩,_⟩:=r; rfl
 | ptr l o=>simp only [rel] at r; obtain ⟨_,rfl,_⟩:=r; rfl
 | eptr l n i j=>simp only [rel] at r; obtain ⟨_,⟨a,rfl⟩,_⟩:=r; rfl
 | fptr t o=>simp only [rel] at r; obtain ⟨b,q,m',rfl,_⟩:=r; rfl
 | fn f a c=>simp only [rel] at r; obtain ⟨id,A,C,_,rfl,_⟩:=r; rfl
 | bref l n=>simp only [rel] at r; obtain ⟨_,rfl,_⟩:=r; rfl
 | win l n a b=>simp only [rel] at r; obtain ⟨_,⟨q,c,rfl⟩,_⟩:=r; rfl
 | mref l=>simp only [rel] at r; obtain ⟨_,rfl,_⟩:=r; rfl
 | ifc t v=>simp only [rel] at r; obtain ⟨x,rfl,_⟩:=r; rfl
theorem zgw_ {z:Bool} {v:V} {m:Value} (r:rel φ g h z v m):rels φ g h z v.cells m.cells.toList:=by
 cases v with
 | agg cs =>
  simp only [rel] at r
  obtain ⟨a,rfl,r⟩:=r
  exact r
 | _ =>
  have hm:m.cells=#[m]:=zpu_ (zpt_ r (by simp))
  rw [hm]
  exact zaj_.2 ⟨r,zad_.2 rfl⟩
theorem zpv_ {z:Bool} {v:V} {m:Value} (r:rel φ g h z v m) (k:v.cell=true):m.oneCell'=true:=by
 cases v with
 | s x =>
  simp only [rel] at r
  obtain ⟨rfl,_⟩:=r
  cases m <;> first | rfl | (simp [V.cell] at k)
 | agg cs=>simp [V.cell] at k
 | tup cs=>simp [V.cell] at k
 | lst k es=>simp only [rel] at r; rcases r with ⟨b,o,c,ms,rfl,_⟩ | ⟨_,a,c,rfl⟩ <;> rfl
 | lnk l o k es=>simp only [rel] at r; obtain ⟨_,⟨b,q,c,ms,rfl,_⟩,_⟩:=r; rfl
 | gro l o k es=>simp only [rel] at r; obtain ⟨_,⟨b,q,c,ms,rfl,_⟩,_⟩:=r; rfl
 | own k es=>simp only [rel] at r; obtain ⟨_,b,o,c,ms,rfl,_⟩:=r; rfl
 | spent k es gs=>simp only [rel] at r; obtain ⟨_,b,o,c,ms,rfl,_⟩:=r; rfl
 | ref l n=>simp only [rel] at r; obtain ⟨_,⟨a,c,rfl⟩,_⟩:=r; rfl
 | ptr l o=>simp only [rel] at r; obtain ⟨_,rfl,_⟩:=r; rfl
 | eptr l n i j=>simp only [rel] at r; obtain ⟨_,⟨a,rfl⟩,_⟩:=r; rfl
 | fptr t o=>simp only [rel] at r; obtain ⟨b,q,m',rfl,_⟩:=r; rfl
 | fn f a c=>simp only [rel] at r; obtain ⟨id,A,C,_,rfl,_⟩:=r; rfl
 | bref l n=>simp only [rel] at r; obtain ⟨_,rfl,_⟩:=r; rfl
 | win l n a b=>simp only [rel] at r; obtain ⟨_,⟨q,c,rfl⟩,_⟩:=r; rfl
 | mref l=>simp only [rel] at r; obtain ⟨_,rfl,_⟩:=r; rfl
 | ifc t v=>simp only [rel] at r; obtain ⟨x,rfl,_⟩:=r; rfl
theorem zfe_ {z:Bool} {cs:List V}:∀ {ms:List Value},rels φ g h z cs ms→zai_ cs=true→∀ u ∈ ms,u.oneCell'=true:=by
 induction cs with
 | nil=>intro ms r _ u hu; rw [zad_] at r; subst r; simp at hu
 | cons v cs ih =>
  intro ms r k u hu
  obtain ⟨m,s,rfl,r1,r⟩:=zam_.1 r
  simp only [zai_,Bool.and_eq_true] at k
  rcases List.mem_cons.1 hu with rfl | hu
  ·exact zpv_ r1 k.1
  ·exact ih r k.2 u hu
theorem zcd_ {k:Nat} {v:V} {l:List V}:wide k (v :: l)=true↔v.cells.length=k∧zai_ v.cells=true∧wide k l=true:=by
 simp [wide,and_assoc]
theorem zpw_ {k:Nat} {a b:List V}:wide k (a++b)=true↔wide k a=true∧wide k b=true:=by
 induction a with
 | nil=>simp [wide]
 | cons v a ih=>simp only [List.cons_append,zcd_,ih]; constructor <;> (rintro ⟨h1,h2⟩; simp_all)
theorem zbmm_ {k:Nat} {l:List V} (hw:wide k l=true) (n:Nat):wide k (l.take n)=true:=by
 have:=hw
 rw [← List.take_append_drop n l] at this
 exact (zpw_.1 this).1
theorem zjr_ {k:Nat} {l:List V} (hw:wide k l=true) {i:Nat} {v:V} (e:l[i]?=some v):v.cells.length=k∧zai_ v.cells=true:=by
 induction l generalizing i with
 | nil=>simp at e
 | cons x l ih =>
  rw [zcd_] at hw
  cases i with
  | zero=>simp only [List.getElem?_cons_zero,Option.some.injEq] at e; subst e; exact ⟨hw.1,hw.2.1⟩
  | succ i=>exact ih hw.2.2 (by simpa using e)
theorem zay_ {z:Bool} {k:Nat} {l:List V} (hw:wide k l=true) {ms:List Value} (r:rels φ g h z l ms):∀ m ∈ ms,m.cells.size=k:=by
 intro m hm
 obtain ⟨i,hi⟩:=List.getElem?_of_mem hm
 have hlt:i < l.length:=by rw [zah_ r]; exact (List.getElem?_eq_some_iff.1 hi).1
 have hv:=List.getElem?_eq_getElem hlt
 have:=zfd_ (zby_ r hv hi)
 rw [this]
 exact (zjr_ hw hv).1
theorem zat_ {k:Nat} {ms:List Value} (hs:∀ m ∈ ms,m.cells.size=k):(flat ms).length=ms.length * k:=by
 induction ms with
 | nil=>simp [flat]
 | cons m ms ih =>
  have h1:=hs m (by simp)
  have h2:=ih fun x hx=>hs x (by simp [hx])
  simp only [flat,List.flatMap_cons,List.length_append,Array.length_toList,List.length_cons] at h2 ⊢
  rw [h2,h1,Nat.succ_mul]
  omega
theorem zdy_ {k:Nat} {ms:List Value} (hs:∀ m ∈ ms,m.cells.size=k) {i j:Nat} {m u:Value} (e:ms[i]?=some m) (e':m.cells[j]?=some u):(flat ms)[i * k + j]?=some u:=by
 induction ms generalizing i with
 | nil=>simp at e
 | cons x ms ih =>
  have h1:=hs x (by simp)
  simp only [flat,List.flatMap_cons]
  cases i with
  | zero =>
   simp only [List.getElem?_cons_zero,Option.some.injEq] at e
   subst e
   rw [List.getElem?_append_left (by have:=(Array.getElem?_eq_some_iff.1 e').1; simp; omega)]
   simpa using e'
  | succ i =>
   rw [List.getElem?_append_right (by simp [h1,Nat.succ_mul]; omega)]
   have:=ih (fun y hy=>hs y (by simp [hy])) (i:=i) (by simpa using e)
   rw [flat] at this
   rw [← this]
   congr 1
   simp only [Array.length_toList,h1,Nat.succ_mul]
   omega
theorem zgx_ (a b:List Value):flat (a++b)=flat a++flat b:=by simp [flat]
theorem zbcf_ {z:Bool} {k:Nat} {l:List V} (hw:wide k l=true) {ms:List Value} (r:rels φ g h z l ms):∀ u ∈ flat ms,u.oneCell'=true:=by
 intro u hu
 simp only [flat,List.mem_flatMap] at hu
 obtain ⟨m,hm,hu⟩:=hu
 obtain ⟨i,hi⟩:=List.getElem?_of_mem hm
 have hlt:i < l.length:=by rw [zah_ r]; exact (List.getElem?_eq_some_iff.1 hi).1
 have hv:=List.getElem?_eq_getElem hlt
 exact zfe_ (zgw_ (zby_ r hv hi)) (zjr_ hw hv).2 u hu
theorem RowM.of_flat {M:Nat→Nat→Option Value} {b o k:Nat} {ms:List Value} (hs:∀ m ∈ ms,m.cells.size=k) (hM:∀ j u,(flat ms)[j]?=some u→M b (o + j)=some u):RowM M b o k ms :=
 ⟨hs,fun i m e j u e'=>by rw [Nat.add_assoc]; exact hM _ _ (zdy_ hs e e')⟩
theorem SR.freeze (S:SR φ h g w) {l k:Nat} {z:Bool} {es:List V} (hl:h[l]?=some (.arr z k es)) (hc:V.closed.closeds es=true) :
  ∃ g',SR φ (h.set l (.arr true k es)) g' w∧Ext h g w (h.set l (.arr true k es)) g' w∧∀ v,rel φ g h false (.ref l es.length) v→rel φ g' (h.set l (.arr true k es)) true (.lst k es) v:=by
 have hlt:=zau_ hl
 have hlive:live h (.obj l):=.inr (.inl ⟨z,k,es,hl⟩)
 obtain ⟨cur,E,ms,e,s,n1,n2,r,wd,t,k2,k3⟩:=S.arr l z k es hl
 have hcs:∀ l' o,cellAt (h.set l (.arr true k es)) l' o=cellAt h l' o:=by
  intro l' o
  by_cases e':l=l'
  ·subst e'; simp only [cellAt,zae_ hlt,hl]
  ·exact zcr_ e'
 have hlv:∀ a,live (h.set l (.arr true k es)) a→live h a:=by
  intro a ha
  cases a with
  | obj l'=>exact (zgv_ hlt (.inr ⟨_,_,_,rfl⟩) hlive).1 ha
  | cell l' o=>simpa only [live,hcs] using ha
 let f:Nat→Option Value:=fun j=>if j < es.length * k then cur[j]? else none
 have hMo:∀ b j,b≠g.b (.obj l)→(g.setM (g.b (.obj l)) f).M b j=g.M b j:=fun b j hb=>by simp [G.setM,hb]
 have hMs:∀ j,(g.setM (g.b (.obj l)) f).M (g.b (.obj l)) j=f j:=fun j=>by simp [G.setM]
 have hM:∀ b o u,g.M b o=some u→(g.setM (g.b (.obj l)) f).M b o=some u:=by
  intro b o u eu
  by_cases hb:b=g.b (.obj l)
  ·subst hb
   rw [hMs]
   cases z with
   | true=>rw [(k2 rfl).2] at eu; exact eu
   | false=>rw [k3 rfl] at eu; cases eu
  ·rw [hMo b o hb]; exact eu
 have L:Later g h (g.setM (g.b (.obj l)) f) (h.set l (.arr true k es)):=by
  refine ⟨hM,by simp,fun l' e=>⟨?_,rfl⟩,fun l' q k' es' _ e=>?_,fun l' o x n e k=>⟨x,n,by rw [hcs]; exact e,k,Nat.le_refl _,fun _=>⟨rfl,rfl,id⟩⟩,fun l' e=>⟨e.set fun es e=>by (rw [hl] at e; cases e),rfl⟩⟩
  ·obtain ⟨z',d,e⟩:=e
   have:l≠l':=by rintro rfl; rw [hl] at e; cases e
   exact ⟨z',d,by rw [zak_ this]; exact e⟩
  ·by_cases e':l=l'
   ·subst e'
    rw [zae_ hlt] at e
    injection e with e
    injection e with e1 e2 e3
    subst e1 e2 e3
    exact ⟨z,es,hl,Nat.le_refl _,fun _=>⟨rfl,rfl⟩⟩
   ·rw [zak_ e'] at e
    exact ⟨q,es',e,Nat.le_refl _,fun _=>⟨rfl,rfl⟩⟩
 have hne:∀ a,live h a→a≠.obj l→g.b a≠g.b (.obj l):=fun a ha hn e=>hn (S.inj a _ ha hlive e)
 refine ⟨g.setM (g.b (.obj l)) f,S.mk' L (·=.obj l) ?_ ?_ ?_ ?_ ?_ ?_ ?_ (fun l' es' ht em=>by (injection ht with ht; subst ht; rw [zae_ hlt] at em; cases em)),⟨L,rfl,rfl,rfl,Nat.le_refl _,fun _ _ _=>rfl,fun a ha=>.inl ⟨a,hlv a ha,rfl⟩,fun q z' k' d ed=>.inl ?_,Nat.le_refl _,fun b j u _ e=>(if hb:b=g.b (.obj l) then .inr ⟨_,hlive,hb.symm⟩ else .inl (by rw [← hMo b j hb]; exact e))⟩,?_⟩
 ·intro l' hn hv
  have hne':l≠l':=fun e=>hn (by rw [e])
  exact ⟨zak_ hne',rfl,rfl,rfl,fun j=>hMo _ _ (hne _ (hlv _ hv) hn)⟩
 ·intro l' o hn hv
  exact ⟨hcs l' o,rfl,rfl,rfl,rfl,fun j=>hMo _ _ (hne _ (hlv _ hv) (by simp))⟩
 ·intro l' z' cs ht e'
  injection ht with ht
  subst ht
  rw [zae_ hlt] at e'
  cases e'
 ·intro l' z' k' es' ht e'
  injection ht with ht
  subst ht
  rw [zae_ hlt] at e'
  injection e' with e'
  injection e' with e1 e2 e3
  subst e1 e2 e3
  exact ⟨cur,E,ms,e,s,n1,n2,zav_ L _ _ _ r,wd,t,fun _=>⟨hc,hMs⟩,fun h=>by (cases h)⟩
 ·intro l' o x n ht
  cases ht
 ·intro a b ha hb e'
  exact S.inj a b (hlv a ha) (hlv b hb) e'
 ·intro b o u eu
  by_cases hb:b=g.b (.obj l)
  ·subst hb
   rw [hMs] at eu
   simp only [f] at eu
   split at eu
   ·rw [zbj_ e]; exact eu
   ·cases eu
  ·rw [hMo b o hb] at eu
   exact S.mem b o u eu
 ·by_cases e':l=q
  ·subst e'
   rw [zae_ hlt] at ed
   injection ed with ed
   injection ed with e1 e2 e3
   subst e1 e2 e3
   exact ⟨z,es,hl,rfl⟩
  ·rw [zak_ e'] at ed
   exact ⟨z',d,ed,rfl⟩
 ·intro v hv
  simp only [rel] at hv ⊢
  obtain ⟨_,_,_,hv⟩:=hv
  have hv:=(hv z k es hl).2 rfl
  have rt:=zbt_ es ms hc r
  refine .inl ⟨_,0,_,ms,hv,n1,zal_ hM true _ _ rt,RowM.of_flat (zay_ wd r) fun j u eu=>?_⟩
  rw [Nat.zero_add,hMs]
  simp only [f]
  have hj:j < es.length * k:=by
   have h1:=(List.getElem?_eq_some_iff.1 eu).1
   rw [zat_ (zay_ wd r),← zah_ r] at h1
   exact h1
  rw [if_pos hj,← Array.getElem?_toList]
  have h2:(cur.toList.take (es.length * k))[j]?=some u:=by rw [t]; exact eu
  rw [List.getElem?_take,if_pos hj] at h2
  exact h2
theorem SR.freezeBox (S:SR φ h g w) {l:Nat} {z:Bool} {cs:List V} (hl:h[l]?=some (.box z cs)) (hc:V.closed.closeds (cs.map zan_)=true) :
  ∃ g',SR φ (h.set l (.box true cs)) g' w∧Ext h g w (h.set l (.box true cs)) g' w∧g'.b=g.b∧∃ ms,rels φ g' (h.set l (.box true cs)) true (cs.map zan_) ms∧(∀ j u,ms[j]?=some u→g'.M (g.b (.obj l)) j=some u)∧∀ u ∈ ms,u.oneCell'=true:=by
 have hlt:=zau_ hl
 have hlive:live h (.obj l):=.inl ⟨z,cs,hl⟩
 obtain ⟨ms,E,e,r,ok,k2,k3⟩:=S.box l z cs hl
 have hcs:∀ l' o,l'≠l→cellAt (h.set l (.box true cs)) l' o=cellAt h l' o:=fun l' o e'=>zcr_ (Ne.symm e')
 have hcl:∀ o,cellAt (h.set l (.box true cs)) l o=cellAt h l o:=fun o=>by rw [zgu_ hlt,zbd_ hl]
 have hca:∀ l' o,cellAt (h.set l (.box true cs)) l' o=cellAt h l' o:=fun l' o=>by
  by_cases e':l'=l
  ·subst e'; exact hcl o
  ·exact hcs l' o e'
 have hlv:∀ a,live (h.set l (.box true cs)) a→live h a:=by
  intro a ha
  cases a with
  | obj l'=>exact (zgv_ hlt (.inl ⟨_,_,rfl⟩) hlive).1 ha
  | cell l' o=>simpa only [live,hca] using ha
 let f:Nat→Option Value:=fun j=>ms[j]?
 have hMo:∀ b j,b≠g.b (.obj l)→(g.setM (g.b (.obj l)) f).M b j=g.M b j:=fun b j hb=>by simp [G.setM,hb]
 have hMs:∀ j,(g.setM (g.b (.obj l)) f).M (g.b (.obj l)) j=ms[j]?:=fun j=>by simp [G.setM,f]
 have hM:∀ b o u,g.M b o=some u→(g.setM (g.b (.obj l)) f).M b o=some u:=by
  intro b o u eu
  by_cases hb:b=g.b (.obj l)
  ·subst hb
   rw [hMs]
   cases z with
   | true=>rw [(k2 rfl).2] at eu; exact eu
   | false=>rw [k3 rfl] at eu; cases eu
  ·rw [hMo b o hb]; exact eu
 have L:Later g h (g.setM (g.b (.obj l)) f) (h.set l (.box true cs)):=by
  refine ⟨hM,by simp,fun l' e=>⟨?_,rfl⟩,fun l' q k' es' _ e=>?_,fun l' o x n e k=>⟨x,n,by rw [hca]; exact e,k,Nat.le_refl _,fun _=>⟨rfl,rfl,id⟩⟩,fun l' e=>⟨e.set fun es e=>by (rw [hl] at e; cases e),rfl⟩⟩
  ·by_cases e':l=l'
   ·subst e'; exact ⟨_,_,zae_ hlt⟩
   ·obtain ⟨z',d,e⟩:=e
    exact ⟨z',d,by rw [zak_ e']; exact e⟩
  ·by_cases e':l=l'
   ·subst e'; rw [zae_ hlt] at e; cases e
   ·rw [zak_ e'] at e
    exact ⟨q,es',e,Nat.le_refl _,fun _=>⟨rfl,rfl⟩⟩
 have hne:∀ a,live h a→a≠.obj l→g.b a≠g.b (.obj l):=fun a ha hn e=>hn (S.inj a _ ha hlive e)
 refine ⟨g.setM (g.b (.obj l)) f,S.mk' L (·=.obj l) ?_ ?_ ?_ ?_ ?_ ?_ ?_ (fun l' es' ht em=>by (injection ht with ht; subst ht; rw [zae_ hlt] at em; cases em)),⟨L,rfl,rfl,rfl,Nat.le_refl _,fun _ _ _=>rfl,fun a ha=>.inl ⟨a,hlv a ha,rfl⟩,fun q z' k' d ed=>.inl ?_,Nat.le_refl _,fun b j u _ e=>(if hb:b=g.b (.obj l) then .inr ⟨_,hlive,hb.symm⟩ else .inl (by rw [← hMo b j hb]; exact e))⟩,rfl,ms.toList,?_,?_,?_⟩
 ·intro l' hn hv
  have hne':l≠l':=fun e=>hn (by rw [e])
  exact ⟨zak_ hne',rfl,rfl,rfl,fun j=>hMo _ _ (hne _ (hlv _ hv) hn)⟩
 ·intro l' o hn hv
  exact ⟨hca l' o,rfl,rfl,rfl,rfl,fun j=>hMo _ _ (hne _ (hlv _ hv) (by simp))⟩
 ·intro l' z' cs' ht e'
  injection ht with ht
  subst ht
  rw [zae_ hlt] at e'
  injection e' with e'
  injection e' with e1 e2
  subst e1 e2
  exact ⟨ms,E,e,zav_ L _ _ _ r,ok,fun _=>⟨hc,hMs⟩,fun h=>by (cases h)⟩
 ·intro l' z' k' es' ht e'
  injection ht with ht
  subst ht
  rw [zae_ hlt] at e'
  cases e'
 ·intro l' o x n ht
  cases ht
 ·intro a b ha hb e'
  exact S.inj a b (hlv a ha) (hlv b hb) e'
 ·intro b o u eu
  by_cases hb:b=g.b (.obj l)
  ·subst hb
   rw [hMs] at eu
   rw [zbj_ e]; exact eu
  ·rw [hMo b o hb] at eu
   exact S.mem b o u eu
 ·have:l≠q:=by rintro rfl; rw [zae_ hlt] at ed; cases ed
  rw [zak_ this] at ed
  exact ⟨z',d,ed,rfl⟩
 ·exact zal_ hM true _ _ (zbt_ _ _ hc (zpq_ r))
 ·intro j u eu
  rw [hMs,← Array.getElem?_toList]
  exact eu
 ·exact zfe_ r ok
end
end Go.Proofs.Sl
namespace Go.Proofs.Sl
section
variable {φ:Nat→Option FuncId} {h h':H} {g g':G} {w w':World}
theorem ztt_ {k:Nat} {ms:List Value} (hs:∀ m ∈ ms,m.cells.size=k) {q:Nat} {u:Value} (e:(flat ms)[q]?=some u):∃ i j m,ms[i]?=some m∧m.cells[j]?=some u∧q=i * k + j:=by
 induction ms generalizing q with
 | nil=>simp [flat] at e
 | cons x ms ih =>
  have h1:=hs x (by simp)
  simp only [flat,List.flatMap_cons] at e
  by_cases hq:q < x.cells.toList.length
  ·rw [List.getElem?_append_left hq] at e
   exact ⟨0,q,x,rfl,by simpa using e,by simp⟩
  ·rw [List.getElem?_append_right (by omega)] at e
   obtain ⟨i,j,m,e1,e2,e3⟩:=ih (fun y hy=>hs y (by simp [hy])) e
   refine ⟨i + 1,j,m,by simpa using e1,e2,?_⟩
   simp only [Array.length_toList,h1] at hq e3
   rw [Nat.succ_mul]
   omega
theorem ztu_ {cs:List V} (k:V.closed.closeds cs=true) {i:Nat} {v:V} (e:cs[i]?=some v):v.closed=true:=by
 induction cs generalizing i with
 | nil=>simp at e
 | cons x cs ih =>
  simp only [V.closed.closeds,Bool.and_eq_true] at k
  cases i with
  | zero=>simp only [List.getElem?_cons_zero,Option.some.injEq] at e; subst e; exact k.1
  | succ i=>exact ih k.2 (by simpa using e)
theorem SR.moveIn (S:SR φ h g w) {l o l' k:Nat} {cs es:List V} {old:V} (hb:h[l]?=some (.box false cs)) (ho:cs[o]?=some old) (h1:old.tl=none) (ha:h[l']?=some (.arr false k es))
  (hc:V.closed.closeds es=true) :
  ∃ g',SR φ ((h.set l' .dead).set l (.box false (cs.set o (.own k es)))) g' (w.setCell ⟨g.b (.obj l),o,none⟩ (hdr (g.b (.obj l')) es.length (g.c (.obj l')))) ∧
   Ext h g w ((h.set l' .dead).set l (.box false (cs.set o (.own k es)))) g' (w.setCell ⟨g.b (.obj l),o,none⟩ (hdr (g.b (.obj l')) es.length (g.c (.obj l')))):=by
 have hll:l≠l':=by rintro rfl; rw [hb] at ha; cases ha
 have hl:=zau_ hb
 have hl':=zau_ ha
 have hlo:=(List.getElem?_eq_some_iff.1 ho).1
 have hlive:live h (.obj l):=.inl ⟨_,_,hb⟩
 have hlive':live h (.obj l'):=.inr (.inl ⟨_,_,_,ha⟩)
 obtain ⟨cur,E,ms,e,s,n1,n2,r,wd,t,_,k3⟩:=S.arr l' false k es ha
 obtain ⟨bs,F,hm,hrs,hok,_,hz⟩:=S.box l false cs hb
 have hMl:=hz rfl
 have hbb:g.b (.obj l')≠g.b (.obj l):=fun e=>hll (by injection S.inj _ _ hlive hlive' e.symm)
 have hcold:cellAt h l o=some old:=by rw [zbd_ hb]; exact ho
 -- the new heap
 have hgl:((h.set l' O.dead).set l (.box false (cs.set o (.own k es))))[l]?=some (.box false (cs.set o (.own k es))):=zae_ (by simpa using hl)
 have hgl':((h.set l' O.dead).set l (.box false (cs.set o (.own k es))))[l']?=some .dead:=by rw [zak_ hll]; exact zae_ hl'
 have hgo:∀ q,q≠l→q≠l'→((h.set l' O.dead).set l (.box false (cs.set o (.own k es))))[q]?=h[q]?:=fun q a b=>by rw [zak_ (Ne.symm a),zak_ (Ne.symm b)]
 generalize hH:(h.set l' O.dead).set l (.box false (cs.set o (.own k es)))=h2 at hgl hgl' hgo ⊢
 have hlen:h2.length=h.length:=by rw [← hH]; simp
 have hc0:cellAt h2 l o=some (.own k es):=by rw [zbd_ hgl,List.getElem?_set_self hlo]
 have hcc:∀ a b,¬ (a=l∧b=o)→cellAt h2 a b=cellAt h a b:=by
  intro a b hn
  by_cases e1:a=l
  ·subst e1
   rw [zbd_ hgl,zbd_ hb,List.getElem?_set_ne (by omega)]
  ·by_cases e2:a=l'
   ·subst e2; simp only [cellAt,hgl',ha]
   ·simp only [cellAt,hgo a e1 e2]
 let f:Nat→Option Value:=fun j=>if j < es.length * k then cur[j]? else none
 let g2:G:={ b:=fun x=>if x=.cell l o then g.b (.obj l') else g.b x,c:=fun x=>if x=.cell l o then g.c (.obj l') else g.c x,M:=fun x=>if x=g.b (.obj l') then f else g.M x }
 have gb:∀ x,x≠.cell l o→g2.b x=g.b x∧g2.c x=g.c x:=fun x hx=>by simp [g2,hx]
 have gb0:g2.b (.cell l o)=g.b (.obj l')∧g2.c (.cell l o)=g.c (.obj l'):=by simp [g2]
 have hMo:∀ b j,b≠g.b (.obj l')→g2.M b j=g.M b j:=fun b j hb=>by simp [g2,hb]
 have hMs:∀ j,g2.M (g.b (.obj l')) j=f j:=fun j=>by simp [g2]
 have hM:∀ b o u,g.M b o=some u→g2.M b o=some u:=by
  intro b o u eu
  by_cases hb:b=g.b (.obj l')
  ·subst hb; rw [k3 rfl] at eu; cases eu
  ·rw [hMo b o hb]; exact eu
 have hlv:∀ a,live h2 a→a≠.cell l o→live h a∧a≠.obj l':=by
  intro a hv hn
  cases a with
  | obj q =>
   by_cases e1:q=l
   ·subst e1; exact ⟨hlive,by simpa using hll⟩
   ·by_cases e2:q=l'
    ·subst e2
     rcases hv with ⟨z,d,ee⟩ | ⟨z,k',d,ee⟩ | ⟨d,ee⟩ <;> (rw [hgl'] at ee; cases ee)
    ·refine ⟨?_,by simpa using e2⟩
     simpa only [live,IsBox,IsMp,hgo q e1 e2] using hv
  | cell q p =>
   refine ⟨?_,by simp⟩
   have:¬ (q=l∧p=o):=fun hh=>hn (by rw [hh.1,hh.2])
   simpa only [live,hcc q p this] using hv
 have L:Later g h g2 h2:=by
  refine ⟨hM,by omega,fun q eq=>⟨?_,(gb _ (by simp)).1⟩,fun q z k' d hq ee=>?_,fun a b x n ee ht=>?_,fun q eq=>⟨?_,(gb _ (by simp)).1⟩⟩
  rotate_left 3
  ·obtain ⟨d,eq⟩:=eq
   have e1:q≠l:=by rintro rfl; rw [hb] at eq; cases eq
   have e2:q≠l':=by rintro rfl; rw [ha] at eq; cases eq
   exact ⟨d,by rw [hgo q e1 e2]; exact eq⟩
  ·obtain ⟨z,d,eq⟩:=eq
   by_cases e1:q=l
   ·subst e1; exact ⟨_,_,hgl⟩
   ·have e2:q≠l':=by rintro rfl; rw [ha] at eq; cases eq
    exact ⟨z,d,by rw [hgo q e1 e2]; exact eq⟩
  ·by_cases e1:q=l
   ·subst e1; rw [hgl] at ee; cases ee
   ·by_cases e2:q=l'
    ·subst e2; rw [hgl'] at ee; cases ee
    ·rw [hgo q e1 e2] at ee
     exact ⟨z,d,ee,Nat.le_refl _,fun _=>gb _ (by simp)⟩
  ·have hn:¬ (a=l∧b=o):=by
    rintro ⟨rfl,rfl⟩
    rw [hcold] at ee
    injection ee with ee
    subst ee
    rw [h1] at ht
    cases ht
   have hx:Key.cell a b≠.cell l o:=fun ee=>hn (by injection ee with e1 e2; exact ⟨e1,e2⟩)
   exact ⟨x,n,by rw [hcc a b hn]; exact ee,ht,Nat.le_refl _,fun _=>⟨(gb _ hx).1,(gb _ hx).2,id⟩⟩
 have hne:∀ a,live h a→a≠.obj l→g.b a≠g.b (.obj l):=fun a ha hn e=>hn (S.inj a _ ha hlive e)
 have hne':∀ a,live h a→a≠.obj l'→g.b a≠g.b (.obj l'):=fun a ha hn e=>hn (S.inj a _ ha hlive' e)
 have rt:=zbt_ es ms hc r
 have hrow:RowM g2.M (g.b (.obj l')) 0 k ms:=RowM.of_flat (zay_ wd r) fun j u eu=>by
  rw [Nat.zero_add,hMs]
  simp only [f]
  have hj:j < es.length * k:=by
   have h1:=(List.getElem?_eq_some_iff.1 eu).1
   rw [zat_ (zay_ wd r),← zah_ r] at h1
   exact h1
  rw [if_pos hj,← Array.getElem?_toList]
  have h2:(cur.toList.take (es.length * k))[j]?=some u:=by rw [t]; exact eu
  rw [List.getElem?_take,if_pos hj] at h2
  exact h2
 have hown:rel φ g2 h2 false (.own k es) (hdr (g.b (.obj l')) es.length (g.c (.obj l'))):=by
  simp only [rel]
  exact ⟨trivial,_,0,_,ms,rfl,n1,zal_ hM true _ _ rt,hrow⟩
 refine ⟨g2,S.mk' L (fun a=>a=.obj l∨a=.cell l o) ?_ ?_ ?_ ?_ ?_ ?_ ?_ (fun q d ht em=>ht.elim (fun ht=>by (injection ht with ht; subst ht; rw [hgl] at em; cases em)) (fun ht=>by cases ht)),⟨L,rfl,rfl,rfl,by simp,fun q hq hn=>zbr_ (fun e=>hn _ hlive e.symm),fun a hv=>?_,fun q z k' d ed=>.inl ?_,Nat.le_refl _,fun b j u _ e=>(if hb:b=g.b (.obj l') then .inr ⟨_,hlive',hb.symm⟩ else .inl (by rw [← hMo b j hb]; exact e))⟩⟩
 ·intro q hn hv
  simp only [not_or] at hn
  obtain ⟨v1,v2⟩:=hlv _ hv (by simp)
  have e1:q≠l:=by simpa using hn.1
  have e2:q≠l':=by simpa using v2
  exact ⟨hgo q e1 e2,(gb _ (by simp)).1,(gb _ (by simp)).2,zbr_ (hne _ v1 (by simpa using e1)),fun j=>hMo _ _ (hne' _ v1 v2)⟩
 ·intro q p hn hv
  simp only [not_or] at hn
  obtain ⟨v1,v2⟩:=hlv _ hv hn.2
  have hqp:¬ (q=l∧p=o):=fun hh=>hn.2 (by rw [hh.1,hh.2])
  refine ⟨hcc q p hqp,(gb _ hn.2).1,(gb _ hn.2).2,zbr_ (hne _ v1 (by simp)),zfb_ ?_,fun j=>hMo _ _ (hne' _ v1 v2)⟩
  by_cases e1:q=l
  ·subst e1; exact .inr fun ep=>hqp ⟨rfl,ep⟩
  ·exact .inl (hne (.obj q) (.inl (zbv_ v1)) (by simpa using e1))
 ·intro q z d ht ee
  rcases ht with ht | ht
  ·injection ht with ht
   subst ht
   rw [hgl] at ee
   injection ee with ee
   injection ee with e1 e2
   subst e1 e2
   refine ⟨bs.setIfInBounds o _,F,by rw [(gb _ (by simp)).1]; exact zgt_ hm,?_,zps_ hok rfl o,fun h=>by (cases h),fun _ j=>?_⟩
   ·rw [Array.toList_setIfInBounds]
    exact zgr_ (zav_ L _ _ _ hrs) hown o
   ·rw [(gb _ (by simp)).1,hMo _ _ (Ne.symm hbb)]; exact hMl j
  ·cases ht
 ·intro q z k' d ht ee
  rcases ht with ht | ht
  ·injection ht with ht
   subst ht
   rw [hgl] at ee
   cases ee
  ·cases ht
 ·intro q p x n ht ee hx
  rcases ht with ht | ht
  ·cases ht
  ·injection ht with ht1 ht2
   subst ht1 ht2
   rw [hc0] at ee
   injection ee with ee
   subst ee
   simp only [V.tl,Option.some.injEq] at hx
   subst hx
   refine ⟨cur,E,k,by rw [gb0.1,zbr_ hbb]; exact e,by rw [gb0.2]; exact s,by rw [gb0.2]; exact n1,by rw [gb0.2]; exact n2,fun j hj=>?_,rfl,?_⟩
   ·rw [gb0.1,hMs]
    simp only [f]
    rw [if_neg (by omega)]
   ·rw [(gb _ (by simp)).1,gb0.1,gb0.2,zbj_ (zgt_ hm)]
    have hos:p < bs.size:=by
     have:=zah_ hrs
     simp only [Array.length_toList] at this
     omega
    simp [Array.getElem?_setIfInBounds,hos]
 ·intro a b va vb eab
  by_cases ea:a=.cell l o <;> by_cases eb:b=.cell l o
  ·rw [ea,eb]
  ·obtain ⟨v1,v2⟩:=hlv b vb eb
   rw [ea,gb0.1,(gb b eb).1] at eab
   exact absurd eab.symm (hne' b v1 v2)
  ·obtain ⟨v1,v2⟩:=hlv a va ea
   rw [eb,gb0.1,(gb a ea).1] at eab
   exact absurd eab (hne' a v1 v2)
  ·rw [(gb a ea).1,(gb b eb).1] at eab
   exact S.inj a b (hlv a va ea).1 (hlv b vb eb).1 eab
 ·intro b p u eu
  by_cases hb2:b=g.b (.obj l')
  ·subst hb2
   rw [zfb_ (.inl hbb),zbj_ e]
   rw [hMs] at eu
   simp only [f] at eu
   split at eu
   ·exact eu
   ·cases eu
  ·rw [hMo b p hb2] at eu
   rw [zfb_ (.inl fun eb=>?_)]
   ·exact S.mem b p u eu
   ·subst eb
    rw [hMl] at eu
    cases eu
 ·by_cases ea:a=.cell l o
  ·exact .inl ⟨.obj l',hlive',by rw [ea,gb0.1]⟩
  ·exact .inl ⟨a,(hlv a hv ea).1,(gb a ea).1.symm⟩
 ·have e1:q≠l:=by rintro rfl; rw [hgl] at ed; cases ed
  have e2:q≠l':=by rintro rfl; rw [hgl'] at ed; cases ed
  rw [hgo q e1 e2] at ed
  exact ⟨z,d,ed,(gb _ (by simp)).1⟩
theorem zdz_ {b k:Nat} {cs:Array Value} (hk:k≠b):(w.setRow b cs).heap[k]?=w.heap[k]?:=setRow_other w b k cs hk
theorem zpx_ {b b' o:Nat} {cs:Array Value} (hk:b'≠b):(w.setRow b cs).cell? ⟨b',o,none⟩=w.cell? ⟨b',o,none⟩:=by
 simp only [World.cell?,zdz_ hk]
theorem Later.arrSet {l k:Nat} {z:Bool} {es es2:List V} (ha:h[l]?=some (.arr z k es)) {b c:Nat} (hn:es.length≤es2.length) (he:es.length=es2.length→b=g.b (.obj l)∧c=g.c (.obj l)) {z2:Bool} :
  Later g h (g.setB (.obj l) b c) (h.set l (.arr z2 k es2)):=by
 have hlt:=zau_ ha
 have gb:∀ x,x≠.obj l→(g.setB (.obj l) b c).b x=g.b x∧(g.setB (.obj l) b c).c x=g.c x:=fun x hx=>by simp [G.setB,hx]
 have gb0:(g.setB (.obj l) b c).b (.obj l)=b∧(g.setB (.obj l) b c).c (.obj l)=c:=by simp [G.setB]
 refine ⟨fun _ _ _ e=>e,by simp,fun q eq=>?_,fun q z' k' d hq ee=>?_,fun a o x n ee ht=>?_,fun q eq=>⟨eq.set fun es e=>by (rw [ha] at e; cases e),(gb _ (by intro e; injection e with e; subst e; obtain ⟨d,eq⟩:=eq; rw [ha] at eq; cases eq)).1⟩⟩
 ·obtain ⟨z',d,eq⟩:=eq
  have:l≠q:=by rintro rfl; rw [ha] at eq; cases eq
  exact ⟨⟨z',d,by rw [zak_ this]; exact eq⟩,(gb _ (by simp; omega)).1⟩
 ·by_cases e1:l=q
  ·subst e1
   rw [zae_ hlt] at ee
   injection ee with ee
   injection ee with e1 e2 e3
   subst e1 e2 e3
   refine ⟨z,es,ha,hn,fun hh=>?_⟩
   rw [gb0.1,gb0.2]
   exact he hh
  ·rw [zak_ e1] at ee
   exact ⟨z',d,ee,Nat.le_refl _,fun _=>gb _ (by simp; omega)⟩
 ·refine ⟨x,n,?_,ht,Nat.le_refl _,fun _=>⟨(gb _ (by simp)).1,(gb _ (by simp)).2,id⟩⟩
  have:l≠a:=by
   rintro rfl
   obtain ⟨z',d,e1,_⟩:=zde_ ee
   rw [ha] at e1
   cases e1
  rw [zcr_ this]
  exact ee
theorem ztv_ {l k:Nat} {z z2:Bool} {es es2:List V} (ha:h[l]?=some (.arr z k es)) (a:Key):live (h.set l (.arr z2 k es2)) a↔live h a:=by
 have hlt:=zau_ ha
 cases a with
 | obj q=>exact zgv_ hlt (.inr ⟨_,_,_,rfl⟩) (.inr (.inl ⟨_,_,_,ha⟩))
 | cell q p =>
  by_cases e:l=q
  ·subst e; simp only [live,cellAt,zae_ hlt,ha]
  ·simp only [live,zcr_ e]
theorem SR.appIn (S:SR φ h g w) {l k:Nat} {es ys:List V} {nms:List Value} (ha:h[l]?=some (.arr false k es)) (hy:rels φ g h false ys nms) (hwd:wide k ys=true) {cur:Array Value} {E:TypeId}
  (hcur:w.heap[g.b (.obj l)]?=some (.cells cur E (0,0))) (hroom:es.length + ys.length≤g.c (.obj l)) :
  SR φ (h.set l (.arr false k (es++ys))) g (w.setRow (g.b (.obj l)) (cur.toList.take (es.length * k)++flat nms++cur.toList.drop (es.length * k + (flat nms).length)).toArray) ∧
   Ext h g w (h.set l (.arr false k (es++ys))) g (w.setRow (g.b (.obj l)) (cur.toList.take (es.length * k)++flat nms++cur.toList.drop (es.length * k + (flat nms).length)).toArray):=by
 have hlt:=zau_ ha
 have hlive:live h (.obj l):=.inr (.inl ⟨_,_,_,ha⟩)
 obtain ⟨cur',E',ms,e,s,n1,n2,r,wd,t,_,k3⟩:=S.arr l false k es ha
 rw [hcur] at e
 injection e with e
 injection e with e1 e2
 subst e1 e2
 have hfl:=zat_ (zay_ wd r)
 rw [← zah_ r] at hfl
 have hfn:=zat_ (zay_ hwd hy)
 rw [← zah_ hy] at hfn
 have hg:g.setB (.obj l) (g.b (.obj l)) (g.c (.obj l))=g:=by
  cases g
  simp only [G.setB,G.mk.injEq,and_true]
  constructor <;> (funext x; split <;> simp_all)
 have L:Later g h g (h.set l (.arr false k (es++ys))):=by
  have:=Later.arrSet (g:=g) (es2:=es++ys) (z2:=false) ha (b:=g.b (.obj l)) (c:=g.c (.obj l)) (by simp) fun _=>⟨rfl,rfl⟩
  rwa [hg] at this
 have hne:∀ a,live h a→a≠.obj l→g.b a≠g.b (.obj l):=fun a ha hn e=>hn (S.inj a _ ha hlive e)
 have hlv:=ztv_ (z2:=false) (es2:=es++ys) ha
 refine ⟨S.mk' L (·=.obj l) ?_ ?_ ?_ ?_ ?_ ?_ ?_ (fun q d ht em=>by (injection ht with ht; subst ht; rw [zae_ hlt] at em; cases em)),⟨L,rfl,rfl,rfl,by simp,fun q hq hn=>zdz_ (fun e=>hn _ hlive e.symm),fun a hv=>.inl ⟨a,(hlv a).1 hv,rfl⟩,fun q z k' d ed=>.inl ?_,Nat.le_refl _,fun _ _ _ _ e=>.inl e⟩⟩
 ·intro q hn hv
  have hq:l≠q:=fun e=>hn (by rw [e])
  exact ⟨zak_ hq,rfl,rfl,zdz_ (hne _ ((hlv _).1 hv) hn),fun _=>rfl⟩
 ·intro q p hn hv
  have v1:=(hlv _).1 hv
  have hb:=zbv_ v1
  have hq:l≠q:=by
   rintro rfl
   obtain ⟨z,d,hb⟩:=hb
   rw [ha] at hb
   cases hb
  exact ⟨zcr_ hq,rfl,rfl,zdz_ (hne _ v1 (by simp)),zpx_ (hne (.obj q) (.inl hb) (by simp; omega)),fun _=>rfl⟩
 ·intro q z d ht ee
  injection ht with ht
  subst ht
  rw [zae_ hlt] at ee
  cases ee
 ·intro q z k' d ht ee
  injection ht with ht
  subst ht
  rw [zae_ hlt] at ee
  injection ee with ee
  injection ee with e1 e2 e3
  subst e1 e2 e3
  have hl1:(cur.toList.take (es.length * k)).length=es.length * k:=by rw [t]; exact hfl
  have hsz:es.length * k + (flat nms).length≤cur.size:=by rw [hfn,← Nat.add_mul,s]; exact Nat.mul_le_mul_right _ hroom
  refine ⟨_,E,ms++nms,setRow_heap w _ cur _ E _ hcur,?_,by simpa using hroom,n2,zbz_ (zav_ L _ _ _ r) (zav_ L _ _ _ hy),zpw_.2 ⟨wd,hwd⟩,?_,fun h=>by (cases h),fun _=>k3 rfl⟩
  ·simp only [List.size_toArray,List.length_append,hl1,List.length_drop,Array.length_toList]
   omega
  ·rw [zgx_,t]
   simp only [List.length_append,Nat.add_mul]
   rw [show es.length * k + ys.length * k=(flat ms++flat nms).length by rw [List.length_append,hfl,hfn]]
   exact List.take_left
 ·intro q p x n ht
  cases ht
 ·intro a b va vb eab
  exact S.inj a b ((hlv a).1 va) ((hlv b).1 vb) eab
 ·intro b p u eu
  rw [zpx_ fun eb=>?_]
  ·exact S.mem b p u eu
  ·subst eb
   rw [k3 rfl] at eu
   cases eu
 ·by_cases e':l=q
  ·subst e'
   rw [zae_ hlt] at ed
   injection ed with ed
   injection ed with e1 e2 e3
   subst e1 e2 e3
   exact ⟨_,_,ha,rfl⟩
  ·rw [zak_ e'] at ed
   exact ⟨z,d,ed,rfl⟩
theorem SR.appGrow (S:SR φ h g w) {l k:Nat} {es ys:List V} {ms nms:List Value} (ha:h[l]?=some (.arr false k es)) (hm:rels φ g h false es ms) (hwm:wide k es=true) (hy:rels φ g h false ys nms) (hwd:wide k ys=true) (rest:List Value) (nc:Nat) (E:TypeId)
  (hsz:(es.length + ys.length) * k + rest.length=nc * k) (h1:es.length + ys.length≤nc) (h2:nc≤maxLen) (h0:0 < ys.length) :
  SR φ (h.set l (.arr false k (es++ys))) (g.setB (.obj l) w.heap.size nc) (w.drew.alloc (.cells (flat ms++flat nms++rest).toArray E)) ∧
   Ext h g w (h.set l (.arr false k (es++ys))) (g.setB (.obj l) w.heap.size nc) (w.drew.alloc (.cells (flat ms++flat nms++rest).toArray E)):=by
 have hlt:=zau_ ha
 have hlive:live h (.obj l):=.inr (.inl ⟨_,_,_,ha⟩)
 have hfl:=zat_ (zay_ hwm hm)
 rw [← zah_ hm] at hfl
 have hfn:=zat_ (zay_ hwd hy)
 rw [← zah_ hy] at hfn
 have L:Later g h (g.setB (.obj l) w.heap.size nc) (h.set l (.arr false k (es++ys))):=Later.arrSet ha (by simp) fun hh=>by rw [List.length_append] at hh; omega
 have gb:∀ x,x≠.obj l→(g.setB (.obj l) w.heap.size nc).b x=g.b x∧(g.setB (.obj l) w.heap.size nc).c x=g.c x:=fun x hx=>by simp [G.setB,hx]
 have gb0:(g.setB (.obj l) w.heap.size nc).b (.obj l)=w.heap.size∧(g.setB (.obj l) w.heap.size nc).c (.obj l)=nc:=by simp [G.setB]
 have hlv:=ztv_ (z2:=false) (es2:=es++ys) ha
 have hnone:∀ j,g.M w.heap.size j=none:=fun j=>by
  cases e:g.M w.heap.size j with
  | none=>rfl
  | some u=>exact absurd (S.M_lt e) (Nat.lt_irrefl _)
 have hget:∀ {i:Nat} {o:Obj},i < w.heap.size→(w.drew.alloc o).heap[i]?=w.heap[i]?:=fun hi=>zbm_ (w:=w.drew) hi
 have hcl:∀ {b i:Nat} {o:Obj},b < w.heap.size→(w.drew.alloc o).cell? ⟨b,i,none⟩=w.cell? ⟨b,i,none⟩:=fun hb=>zez_ (w:=w.drew) hb
 refine ⟨S.mk' L (·=.obj l) ?_ ?_ ?_ ?_ ?_ ?_ ?_ (fun q d ht em=>by (injection ht with ht; subst ht; rw [zae_ hlt] at em; cases em)),⟨L,rfl,rfl,rfl,by simp,fun q hq hn=>hget hq,fun a hv=>?_,fun q z k' d ed=>?_,Nat.le_succ _,fun _ _ _ _ e=>.inl e⟩⟩
 ·intro q hn hv
  have hq:l≠q:=fun e=>hn (by rw [e])
  exact ⟨zak_ hq,(gb _ hn).1,(gb _ hn).2,hget (S.lt ((hlv _).1 hv)),fun _=>rfl⟩
 ·intro q p hn hv
  have v1:=(hlv _).1 hv
  have hb:=zbv_ v1
  have hq:l≠q:=by
   rintro rfl
   obtain ⟨z,d,hb⟩:=hb
   rw [ha] at hb
   cases hb
  exact ⟨zcr_ hq,(gb _ (by simp)).1,(gb _ (by simp)).2,hget (S.lt v1),hcl (S.lt (a:=.obj q) (.inl hb)),fun _=>rfl⟩
 ·intro q z d ht ee
  injection ht with ht
  subst ht
  rw [zae_ hlt] at ee
  cases ee
 ·intro q z k' d ht ee
  injection ht with ht
  subst ht
  rw [zae_ hlt] at ee
  injection ee with ee
  injection ee with e1 e2 e3
  subst e1 e2 e3
  refine ⟨_,E,ms++nms,by rw [gb0.1]; exact heap_alloc_new w.drew _,?_,by rw [gb0.2]; simpa using h1,by rw [gb0.2]; exact h2,zbz_ (zav_ L _ _ _ hm) (zav_ L _ _ _ hy),zpw_.2 ⟨hwm,hwd⟩,?_,fun h=>by (cases h),fun _ j=>by rw [gb0.1]; exact hnone j⟩
  ·rw [gb0.2]
   simp only [List.size_toArray,List.length_append,hfl,hfn]
   rw [← hsz,Nat.add_mul]
  ·rw [zgx_]
   simp only [List.length_append,Nat.add_mul]
   rw [show es.length * k + ys.length * k=(flat ms++flat nms).length by rw [List.length_append,hfl,hfn]]
   exact List.take_left
 ·intro q p x n ht
  cases ht
 ·intro a b va vb eab
  by_cases ea:a=.obj l <;> by_cases eb:b=.obj l
  ·rw [ea,eb]
  ·rw [ea,gb0.1,(gb b eb).1] at eab
   have:=S.lt ((hlv b).1 vb)
   omega
  ·rw [eb,gb0.1,(gb a ea).1] at eab
   have:=S.lt ((hlv a).1 va)
   omega
  ·rw [(gb a ea).1,(gb b eb).1] at eab
   exact S.inj a b ((hlv a).1 va) ((hlv b).1 vb) eab
 ·intro b p u eu
  have e':g.M b p=some u:=eu
  rw [hcl (S.M_lt e')]
  exact S.mem b p u e'
 ·by_cases ea:a=.obj l
  ·exact .inr (by rw [ea,gb0.1]; exact Nat.le_refl _)
  ·exact .inl ⟨a,(hlv a).1 hv,(gb a ea).1.symm⟩
 ·by_cases e':l=q
  ·subst e'
   exact .inr (by rw [gb0.1]; exact Nat.le_refl _)
  ·rw [zak_ e'] at ed
   exact .inl ⟨z,d,ed,(gb _ (by simp; omega)).1⟩
end
end Go.Proofs.Sl
namespace Go.Proofs.Sl
section
variable {φ:Nat→Option FuncId} {h h':H} {g g':G} {w w':World}
theorem SR.ownCells (S:SR φ h g w) {l o k:Nat} {es:List V} (hc:cellAt h l o=some (.own k es)) :
  ∃ cur E ms,w.heap[g.b (.cell l o)]?=some (.cells cur E (0,0))∧cur.size=g.c (.cell l o) * k∧es.length≤g.c (.cell l o)∧g.c (.cell l o)≤maxLen∧rels φ g h true es ms∧(∀ m ∈ ms,m.cells.size=k) ∧
   (flat ms).length=es.length * k∧RowM g.M (g.b (.cell l o)) 0 k ms∧(∀ (j:Nat) (u:Value),(flat ms)[j]?=some u→cur[j]?=some u)∧(∀ j,es.length * k≤j→g.M (g.b (.cell l o)) j=none) ∧
   w.cell? ⟨g.b (.obj l),o,none⟩=some (hdr (g.b (.cell l o)) es.length (g.c (.cell l o))):=by
 obtain ⟨cur,E,k',e,s,n1,n2,hM,hk,hv⟩:=S.own l o _ _ hc rfl
 subst hk
 obtain ⟨z,cs,hb,ho⟩:=zde_ hc
 obtain ⟨⟨mv,hmv,hr⟩,_⟩:=S.there hb ho
 rw [hv] at hmv
 injection hmv with hmv
 subst hmv
 simp only [rel] at hr
 obtain ⟨_,b,q,c,ms,he,_,r,row⟩:=hr
 simp only [hdr,Value.slice.injEq,Option.some.injEq,Addr.mk.injEq,and_true,true_and] at he
 obtain ⟨⟨rfl,rfl⟩,_⟩:=he
 refine ⟨cur,E,ms,e,s,n1,n2,r,row.1,by rw [zat_ row.1,← zah_ r],row,fun j u eu=>?_,hM,hv⟩
 obtain ⟨i,j',m,e1,e2,rfl⟩:=ztt_ row.1 eu
 have:=S.mem _ _ _ (row.2 i m e1 j' u e2)
 rw [zbj_ e] at this
 simpa using this
theorem SR.ownGrown (S:SR φ h g w) {l o k:Nat} {cs es ys:List V} {ms nms:List Value} (hb:h[l]?=some (.box false cs)) (ho:cs[o]?=some (.own k es)) (hm:rels φ g h true es ms) (hmk:∀ m ∈ ms,m.cells.size=k)
  (hy:rels φ g h true ys nms) (hwd:wide k ys=true) (h0:0 < ys.length) (b c:Nat) (w':World) (cur':Array Value) (E:TypeId)
  (hnew:w'.heap[b]?=some (.cells cur' E (0,0))) (hsz:cur'.size=c * k) (hn:es.length + ys.length≤c) (hmax:c≤maxLen) (hcur:∀ (j:Nat) (u:Value),(flat ms++flat nms)[j]?=some u→cur'[j]?=some u)
  (hos:w'.os=w.os) (htape:w'.tape=w.tape) (hout:w'.output=w.output) (hdrw:w.drawn≤w'.drawn) (hsize:w.heap.size≤w'.heap.size)
  (hother:∀ q,q < w.heap.size→q≠b→w'.heap[q]?=w.heap[q]?) (hbb:b=g.b (.cell l o)∨b=w.heap.size) (hold:b=g.b (.cell l o)→∀ j,j < es.length * k→∀ u,g.M b j=some u→(flat ms)[j]?=some u) :
  ∃ g',SR φ (h.set l (.box false (cs.set o (.spent k es (es++ys))))) g' w'∧Ext h g w (h.set l (.box false (cs.set o (.spent k es (es++ys))))) g' w' ∧
   rel φ g' (h.set l (.box false (cs.set o (.spent k es (es++ys))))) false (.gro l o k (es++ys)) (hdr b (es.length + ys.length) c):=by
 have hl:=zau_ hb
 have hlo:=(List.getElem?_eq_some_iff.1 ho).1
 have hlive:live h (.obj l):=.inl ⟨_,_,hb⟩
 have hcs:cellAt h l o=some (.own k es):=by rw [zbd_ hb]; exact ho
 have hlc:live h (.cell l o):=⟨_,_,hcs,rfl⟩
 obtain ⟨cur0,E0,k0,e0,_,_,_,hM0,hk0,hv0⟩:=S.own l o _ _ hcs rfl
 subst hk0
 have hfm:=zat_ hmk
 rw [← zah_ hm] at hfm
 have hfn:=zat_ (zay_ hwd hy)
 rw [← zah_ hy] at hfn
 have hsz2:∀ m ∈ ms++nms,m.cells.size=k:=fun m hm'=>by
  rcases List.mem_append.1 hm' with h1 | h1
  ·exact hmk m h1
  ·exact zay_ hwd hy m h1
 have hbne:∀ a,live h a→a≠.cell l o→g.b a≠b:=by
  intro a ha hn e
  rcases hbb with h1 | h1
  ·exact hn (S.inj a _ ha hlc (e.trans h1))
  ·have:=S.lt ha
   omega
 let f:Nat→Option Value:=fun j=>(flat ms++flat nms)[j]?
 let g2:G:={ b:=fun x=>if x=.cell l o then b else g.b x,c:=fun x=>if x=.cell l o then c else g.c x,M:=fun x=>if x=b then f else g.M x }
 have gb:∀ x,x≠.cell l o→g2.b x=g.b x∧g2.c x=g.c x:=fun x hx=>by simp [g2,hx]
 have gb0:g2.b (.cell l o)=b∧g2.c (.cell l o)=c:=by simp [g2]
 have hMo:∀ x j,x≠b→g2.M x j=g.M x j:=fun x j hb=>by simp [g2,hb]
 have hMs:∀ j,g2.M b j=f j:=fun j=>by simp [g2]
 have hM:∀ x q u,g.M x q=some u→g2.M x q=some u:=by
  intro x q u eu
  by_cases hx:x=b
  ·subst hx
   rw [hMs]
   rcases hbb with h1 | h1
   ·have hlt:q < es.length * k:=by
     rcases Nat.lt_or_ge q (es.length * k) with h2 | h2
     ·exact h2
     ·rw [h1,hM0 q h2] at eu
      cases eu
    have:=hold h1 q hlt u eu
    simp only [f]
    rw [List.getElem?_append_left (by omega)]
    exact this
   ·have:=S.M_lt eu
    omega
  ·rw [hMo x q hx]; exact eu
 have hc0:cellAt (h.set l (.box false (cs.set o (.spent k es (es++ys))))) l o=some (.spent k es (es++ys)):=by
  rw [zgu_ hl,List.getElem?_set_self hlo]
 have hcc:∀ a q,¬ (a=l∧q=o)→cellAt (h.set l (.box false (cs.set o (.spent k es (es++ys))))) a q=cellAt h a q:=by
  intro a q hn
  by_cases e1:l=a
  ·subst e1
   rw [zgu_ hl,zbd_ hb,List.getElem?_set_ne (by omega)]
  ·exact zcr_ e1
 have hlv:∀ a,live (h.set l (.box false (cs.set o (.spent k es (es++ys))))) a→live h a:=by
  intro a hv
  cases a with
  | obj q=>exact (zgv_ hl (.inl ⟨_,_,rfl⟩) hlive).1 hv
  | cell q p =>
   by_cases hn:q=l∧p=o
   ·obtain ⟨rfl,rfl⟩:=hn; exact hlc
   ·simpa only [live,hcc q p hn] using hv
 have L:Later g h g2 (h.set l (.box false (cs.set o (.spent k es (es++ys))))):=by
  refine ⟨hM,by simp,fun q eq=>⟨?_,(gb _ (by simp)).1⟩,fun q z k' d hq ee=>?_,fun a q x n ee ht=>?_,fun q eq=>⟨eq.set fun es e=>by (rw [hb] at e; cases e),(gb _ (by simp)).1⟩⟩
  ·by_cases e':l=q
   ·subst e'; exact ⟨_,_,zae_ hl⟩
   ·obtain ⟨z,d,eq⟩:=eq
    exact ⟨z,d,by rw [zak_ e']; exact eq⟩
  ·by_cases e':l=q
   ·subst e'; rw [zae_ hl] at ee; cases ee
   ·rw [zak_ e'] at ee
    exact ⟨z,d,ee,Nat.le_refl _,fun _=>gb _ (by simp)⟩
  ·by_cases hn:a=l∧q=o
   ·obtain ⟨rfl,rfl⟩:=hn
    rw [hcs] at ee
    injection ee with ee
    subst ee
    simp only [V.tl,Option.some.injEq] at ht
    refine ⟨_,_,hc0,rfl,by simp; omega,fun hh=>?_⟩
    rw [List.length_append] at hh
    omega
   ·have hx:Key.cell a q≠.cell l o:=fun ee=>hn (by injection ee with e1 e2; exact ⟨e1,e2⟩)
    exact ⟨x,n,by rw [hcc a q hn]; exact ee,ht,Nat.le_refl _,fun _=>⟨(gb _ hx).1,(gb _ hx).2,id⟩⟩
 obtain ⟨bs,F,hbs,hrs,hok,_,hz⟩:=S.box l false cs hb
 have hMl:=hz rfl
 have row2:RowM g2.M b 0 k (ms++nms):=RowM.of_flat hsz2 fun j u eu=>by
  rw [Nat.zero_add,hMs]
  rw [zgx_] at eu
  exact eu
 have r2:rels φ g2 (h.set l (.box false (cs.set o (.spent k es (es++ys))))) true (es++ys) (ms++nms):=zbz_ (zal_ hM true _ _ hm) (zal_ hM true _ _ hy)
 refine ⟨g2,S.mk' L (fun a=>a=.obj l∨a=.cell l o) ?_ ?_ ?_ ?_ ?_ ?_ ?_ (fun q d ht em=>ht.elim (fun ht=>by (injection ht with ht; subst ht; rw [zae_ hl] at em; cases em)) (fun ht=>by cases ht)),⟨L,hos,htape,hout,hsize,fun q hq hn=>hother q hq fun e=>?_,fun a hv=>?_,fun q z k' d ed=>.inl ?_,hdrw,fun x j u hx e=>(if hb:x=b then (hbb.elim (fun h1=>.inr ⟨_,hlc,(hb.trans h1).symm⟩) fun h1=>absurd hx (by omega)) else .inl (by rw [← hMo x j hb]; exact e))⟩,?_⟩
 ·intro q hn hv
  simp only [not_or] at hn
  have v1:=hlv _ hv
  have e1:l≠q:=fun e=>hn.1 (by rw [e])
  exact ⟨zak_ e1,(gb _ (by simp)).1,(gb _ (by simp)).2,hother _ (S.lt v1) (hbne _ v1 (by simp)),fun j=>hMo _ _ (hbne _ v1 (by simp))⟩
 ·intro q p hn hv
  simp only [not_or] at hn
  have v1:=hlv _ hv
  have hqp:¬ (q=l∧p=o):=fun hh=>hn.2 (by rw [hh.1,hh.2])
  have hbx:=zbv_ v1
  have hl1:live h (.obj q):=.inl hbx
  refine ⟨hcc q p hqp,(gb _ hn.2).1,(gb _ hn.2).2,hother _ (S.lt v1) (hbne _ v1 hn.2),?_,fun j=>hMo _ _ (hbne _ v1 hn.2)⟩
  simp only [World.cell?,hother _ (S.lt hl1) (hbne _ hl1 (by simp))]
 ·intro q z d ht ee
  rcases ht with ht | ht
  ·injection ht with ht
   subst ht
   rw [zae_ hl] at ee
   injection ee with ee
   injection ee with e1 e2
   subst e1 e2
   refine ⟨bs,F,by rw [(gb _ (by simp)).1,hother _ (S.lt hlive) (hbne _ hlive (by simp))]; exact hbs,?_,zps_ hok rfl o,fun h=>by (cases h),fun _ j=>?_⟩
   ·refine zdw_ (by rw [List.length_set]; exact zah_ hrs) fun i v m ev em=>?_
    rw [List.getElem?_set] at ev
    split at ev
    ·rename_i hio
     subst hio
     try rw [if_pos hlo] at ev
     injection ev with ev
     subst ev
     have:=zby_ hrs ho em
     simp only [rel] at this ⊢
     obtain ⟨hz,bb,qq,cc,mm,t1,t2,t3,t4⟩:=this
     exact ⟨hz,bb,qq,cc,mm,t1,t2,zal_ hM true _ _ t3,t4.mono hM⟩
    ·exact zcq_ L _ _ _ (zby_ hrs ev em)
   ·rw [(gb _ (by simp)).1,hMo _ _ (hbne _ hlive (by simp))]; exact hMl j
  ·cases ht
 ·intro q z k' d ht ee
  rcases ht with ht | ht
  ·injection ht with ht
   subst ht
   rw [zae_ hl] at ee
   cases ee
  ·cases ht
 ·intro q p x n ht ee hx
  rcases ht with ht | ht
  ·cases ht
  ·injection ht with ht1 ht2
   subst ht1 ht2
   rw [hc0] at ee
   injection ee with ee
   subst ee
   simp only [V.tl,Option.some.injEq] at hx
   subst hx
   refine ⟨cur',E,k,by rw [gb0.1]; exact hnew,by rw [gb0.2]; exact hsz,by rw [gb0.2]; simpa using hn,by rw [gb0.2]; exact hmax,fun j hj=>?_,rfl,ms++nms,r2,by rw [gb0.1]; exact row2⟩
   rw [gb0.1,hMs]
   simp only [f]
   rw [List.getElem?_eq_none]
   rw [List.length_append] at hj ⊢
   rw [Nat.add_mul] at hj
   omega
 ·intro a d va vd ead
  have h1:=hlv a va
  have h2:=hlv d vd
  by_cases ea:a=.cell l o <;> by_cases eb:d=.cell l o
  ·rw [ea,eb]
  ·rw [ea,gb0.1,(gb d eb).1] at ead
   exact absurd ead.symm (hbne d h2 eb)
  ·rw [eb,gb0.1,(gb a ea).1] at ead
   exact absurd ead (hbne a h1 ea)
  ·rw [(gb a ea).1,(gb d eb).1] at ead
   exact S.inj a d h1 h2 ead
 ·intro x p u eu
  by_cases hx:x=b
  ·subst hx
   rw [hMs] at eu
   rw [zbj_ hnew]
   exact hcur p u eu
  ·rw [hMo x p hx] at eu
   have:=S.mem x p u eu
   simp only [World.cell?,hother _ (S.M_lt eu) hx] at this ⊢
   exact this
 ·rcases hbb with h1 | h1
  ·exact hn _ hlc (by rw [e,h1])
  ·omega
 ·by_cases ea:a=.cell l o
  ·rcases hbb with h1 | h1
   ·exact .inl ⟨.cell l o,hlc,by rw [ea,gb0.1,h1]⟩
   ·exact .inr (by rw [ea,gb0.1]; omega)
  ·exact .inl ⟨a,hlv a hv,(gb a ea).1.symm⟩
 ·have:l≠q:=by rintro rfl; rw [zae_ hl] at ed; cases ed
  rw [zak_ this] at ed
  exact ⟨z,d,ed,(gb _ (by simp)).1⟩
 ·simp only [rel]
  refine ⟨trivial,⟨b,0,c,ms++nms,by simp [hdr],by simpa using hn,r2,row2⟩,_,hc0,.inr ⟨k,es,es++ys,rfl,Nat.le_refl _,fun _=>?_⟩⟩
  rw [gb0.1,gb0.2,List.length_append]
structure Fresh (φ:Nat→Option FuncId) (h:H) (g:G) (w:World) (k:Nat) (es:List V) (mv:Value) (b c:Nat):Prop where
 mv:mv=hdr b es.length c
 row:∃ cur E ms,w.heap[b]?=some (.cells cur E (0,0))∧cur.size=c * k∧rels φ g h true es ms∧cur.toList.take (es.length * k)=flat ms
 le:es.length≤c
 max:c≤maxLen
 wide:wide k es=true
 closed:V.closed.closeds es=true
 none:∀ j,g.M b j=none
 apart:∀ a,live h a→g.b a≠b
theorem SR.protect (S:SR φ h g w) {k:Nat} {es:List V} {mv:Value} {b c:Nat} (F:Fresh φ h g w k es mv b c) :
  ∃ g',SR φ h g' w∧Later g h g' h∧g'.b=g.b∧(∀ x j,x≠b→g'.M x j=g.M x j)∧rel φ g' h true (.lst k es) mv:=by
 obtain ⟨cur,E,ms,e,s,r,t⟩:=F.row
 let f:Nat→Option Value:=fun j=>if j < es.length * k then cur[j]? else none
 have hMo:∀ x j,x≠b→(g.setM b f).M x j=g.M x j:=fun x j hb=>by simp [G.setM,hb]
 have hMs:∀ j,(g.setM b f).M b j=f j:=fun j=>by simp [G.setM]
 have hM:∀ x o u,g.M x o=some u→(g.setM b f).M x o=some u:=by
  intro x o u eu
  by_cases hx:x=b
  ·subst hx; rw [F.none] at eu; cases eu
  ·rw [hMo x o hx]; exact eu
 have L:Later g h (g.setM b f) h:=⟨hM,Nat.le_refl _,fun l e=>⟨e,rfl⟩,fun l q k es _ e=>⟨q,es,e,Nat.le_refl _,fun _=>⟨rfl,rfl⟩⟩,fun l o x n e k=>⟨x,n,e,k,Nat.le_refl _,fun _=>⟨rfl,rfl,id⟩⟩,fun l e=>⟨e,rfl⟩⟩
 have hs:=zay_ F.wide r
 refine ⟨g.setM b f,S.mk' L (fun _=>False) ?_ ?_ (fun _ _ _ h=>h.elim) (fun _ _ _ _ h=>h.elim) (fun _ _ _ _ h=>h.elim) S.inj ?_ (fun _ _ h=>h.elim),L,rfl,hMo,?_⟩
 ·exact fun l _ hv=>⟨rfl,rfl,rfl,rfl,fun j=>hMo _ _ (F.apart _ hv)⟩
 ·exact fun l o _ hv=>⟨rfl,rfl,rfl,rfl,rfl,fun j=>hMo _ _ (F.apart _ hv)⟩
 ·intro x o u eu
  by_cases hx:x=b
  ·subst hx
   rw [hMs] at eu
   simp only [f] at eu
   split at eu
   ·rw [zbj_ e]; exact eu
   ·cases eu
  ·rw [hMo x o hx] at eu
   exact S.mem x o u eu
 ·simp only [rel]
  refine .inl ⟨b,0,c,ms,F.mv,F.le,zal_ hM true _ _ r,RowM.of_flat hs fun j u eu=>?_⟩
  rw [Nat.zero_add,hMs]
  simp only [f]
  have hj:j < es.length * k:=by
   have h1:=(List.getElem?_eq_some_iff.1 eu).1
   rw [zat_ hs,← zah_ r] at h1
   exact h1
  rw [if_pos hj,← Array.getElem?_toList]
  have h2:(cur.toList.take (es.length * k))[j]?=some u:=by rw [t]; exact eu
  rw [List.getElem?_take,if_pos hj] at h2
  exact h2
theorem SR.adopt (S:SR φ h g w) {k:Nat} {es:List V} {mv:Value} {b c:Nat} (F:Fresh φ h g w k es mv b c) :
  SR φ (h++[.arr false k es]) (g.setB (.obj h.length) b c) w∧Later g h (g.setB (.obj h.length) b c) (h++[.arr false k es]) ∧
   rel φ (g.setB (.obj h.length) b c) (h++[.arr false k es]) false (.ref h.length es.length) mv:=by
 obtain ⟨cur,E,ms,e,s,r,t⟩:=F.row
 have L:=Later.push g h (.arr false k es) b c
 have hold:∀ a,a≠.obj h.length→(g.setB (.obj h.length) b c).b a=g.b a∧(g.setB (.obj h.length) b c).c a=g.c a:=fun a ha=>by simp [G.setB,ha]
 have hnew:(g.setB (.obj h.length) b c).b (.obj h.length)=b∧(g.setB (.obj h.length) b c).c (.obj h.length)=c:=by simp [G.setB]
 have hlv:∀ a,live (h++[.arr false k es]) a→a≠.obj h.length→live h a:=fun a ha hn=>by
  rcases zgs_ ha with h1 | h1 | ⟨q,z,cs,x,n,_,h2,_⟩
  ·exact h1
  ·exact absurd h1 hn
  ·cases h2
 have hget:∀ l,l≠h.length→∀ x,(h++[O.arr false k es])[l]?=some x→h[l]?=some x:=fun l hl x ex=>by
  rcases zca_ ex with ⟨_,e1⟩ | ⟨e1,_⟩
  ·exact e1
  ·exact absurd e1 hl
 refine ⟨S.mk' L (·=.obj h.length) ?_ ?_ ?_ ?_ ?_ ?_ ?_ (fun l d ht em=>by (injection ht with ht; subst ht; rw [List.getElem?_append_right (Nat.le_refl _)] at em; simp at em)),L,?_⟩
 ·intro l hn hv
  have h1:=hlv _ hv hn
  exact ⟨List.getElem?_append_left (zfa_ h1),(hold _ hn).1,(hold _ hn).2,rfl,fun _=>rfl⟩
 ·intro l o hn hv
  have h1:=hlv _ hv (by simp)
  obtain ⟨x,n,e1,k1⟩:=h1
  exact ⟨(zpr_ e1).trans e1.symm,(hold _ (by simp)).1,(hold _ (by simp)).2,rfl,rfl,fun _=>rfl⟩
 ·intro l z cs ht ee
  injection ht with ht
  subst ht
  rw [List.getElem?_append_right (Nat.le_refl _)] at ee
  simp at ee
 ·intro l z k' d ht ee
  injection ht with ht
  subst ht
  rw [List.getElem?_append_right (Nat.le_refl _)] at ee
  simp only [Nat.sub_self,List.getElem?_cons_zero,Option.some.injEq] at ee
  injection ee with e1 e2 e3
  subst e1 e2 e3
  exact ⟨cur,E,ms,by rw [hnew.1]; exact e,by rw [hnew.2]; exact s,by rw [hnew.2]; exact F.le,by rw [hnew.2]; exact F.max,zal_ L.M false _ _ r,F.wide,t,fun h=>by (cases h),fun _ j=>by rw [hnew.1]; exact F.none j⟩
 ·intro l o x n ht
  cases ht
 ·intro a d va vd ead
  by_cases ea:a=.obj h.length <;> by_cases eb:d=.obj h.length
  ·rw [ea,eb]
  ·rw [ea,hnew.1,(hold d eb).1] at ead
   exact absurd ead.symm (F.apart d (hlv d vd eb))
  ·rw [eb,hnew.1,(hold a ea).1] at ead
   exact absurd ead (F.apart a (hlv a va ea))
  ·rw [(hold a ea).1,(hold d eb).1] at ead
   exact S.inj a d (hlv a va ea) (hlv d vd eb) ead
 ·exact S.mem
 ·simp only [rel]
  refine ⟨trivial,⟨_,c,F.mv⟩,by simp,fun q kk d ee=>?_⟩
  rw [List.getElem?_append_right (Nat.le_refl _)] at ee
  simp only [Nat.sub_self,List.getElem?_cons_zero,Option.some.injEq] at ee
  injection ee with e1 e2 e3
  subst e3
  exact ⟨Nat.le_refl _,fun _=>by rw [hnew.1,hnew.2]; exact F.mv⟩
theorem Ext.later' {h0 h1 h2:H} {g0 g1 g2:G} {w0 w1:World} (a:Ext h0 g0 w0 h1 g1 w1) (L:Later g1 h1 g2 h2) (hb:∀ key,live h2 key→(live h1 key∧g2.b key=g1.b key)∨w0.heap.size≤g2.b key)
  (ha:∀ l z k es,h2[l]?=some (.arr z k es)→(h1[l]?=some (.arr z k es)∧g2.b (.obj l)=g1.b (.obj l))∨w0.heap.size≤g2.b (.obj l)) (hm:∀ b j u,b < w0.heap.size→g2.M b j=some u→g1.M b j=some u):Ext h0 g0 w0 h2 g2 w1 where
 later:=a.later.trans L
 os:=a.os
 tape:=a.tape
 output:=a.output
 size:=a.size
 frame:=a.frame
 blks:=fun key hk=>by
  rcases hb key hk with ⟨h1,h2⟩ | h1
  ·rcases a.blks key h1 with ⟨k0,p,q⟩ | q
   ·exact .inl ⟨k0,p,q.trans h2.symm⟩
   ·exact .inr (by omega)
  ·exact .inr h1
 arrB:=fun l z k es e=>by
  rcases ha l z k es e with ⟨h1,h2⟩ | h1
  ·rcases a.arrB l z k es h1 with ⟨z',es',p,q⟩ | q
   ·exact .inl ⟨z',es',p,h2.trans q⟩
   ·exact .inr (by omega)
  ·exact .inr h1
 drawn:=a.drawn
 mfr:=fun b j u hb e=>a.mfr b j u hb (hm b j u hb e)
def O.top:O→Nat
 | .box _ cs=>V.top.tops cs
 | .arr _ _ es=>V.top.tops es
 | .dead=>0
 | .mp _=>0
theorem zcs_ {n l:Nat} {t:H} {x:O} (hl:l < n) (hn:n≤h.length):(h.take n++t)[l]?=h[l]?:=by
 rw [List.getElem?_append_left (by simp; omega),List.getElem?_take,if_pos hl]
theorem ztw_ {n l o:Nat} {t:H} (hl:l < n) (hn:n≤h.length):cellAt (h.take n++t) l o=cellAt h l o:=by
 simp only [cellAt,zcs_ (x:=.dead) hl hn]
-- A value that names old objects alone is what it was in what is left of the heap.
mutual
theorem zpy_ {n:Nat} {t:H} (hn:n≤h.length) (hM:∀ b o u,g.M b o=some u→g'.M b o=some u) (hb:∀ l,l < n→g'.b (.obj l)=g.b (.obj l)∧g'.c (.obj l)=g.c (.obj l)∧∀ o,g'.b (.cell l o)=g.b (.cell l o)∧g'.c (.cell l o)=g.c (.cell l o)) :
  ∀ (z:Bool) (v:V) (m:Value),v.top≤n→rel φ g h z v m→rel φ g' (h.take n++t) z v m
 | z,.s x,m,_,r=>by simpa [rel] using r
 | z,.agg cs,m,k,r=>by
  simp only [rel] at r ⊢
  obtain ⟨a,e,r⟩:=r
  exact ⟨a,e,zgy_ hn hM hb z cs _ (by simpa [V.top] using k) r⟩
 | z,.tup cs,m,k,r=>by
  simp only [rel] at r ⊢
  obtain ⟨a,e,r⟩:=r
  exact ⟨a,e,zgy_ hn hM hb z cs _ (by simpa [V.top] using k) r⟩
 | z,.lst k es,m,_,r=>by
  simp only [rel] at r ⊢
  rcases r with ⟨b,o,c,ms,e,hc,r,row⟩ | r
  ·exact .inl ⟨b,o,c,ms,e,hc,zal_ hM true es _ r,row.mono hM⟩
  ·exact .inr r
 | z,.lnk l o k es,m,ht,r=>by
  have hl:l < n:=by simp [V.top] at ht; omega
  simp only [rel] at r ⊢
  obtain ⟨hz,⟨b,q,c,ms,e,hc,r,row⟩,x,hx,hk⟩:=r
  refine ⟨hz,⟨b,q,c,ms,e,hc,zal_ hM true es _ r,row.mono hM⟩,x,by rw [ztw_ hl hn]; exact hx,?_⟩
  rw [((hb l hl).2.2 o).1,((hb l hl).2.2 o).2]
  exact hk
 | z,.gro l o k es,m,ht,r=>by
  have hl:l < n:=by simp [V.top] at ht; omega
  simp only [rel] at r ⊢
  obtain ⟨hz,⟨b,q,c,ms,e,hc,r,row⟩,x,hx,hk⟩:=r
  refine ⟨hz,⟨b,q,c,ms,e,hc,zal_ hM true es _ r,row.mono hM⟩,x,by rw [ztw_ hl hn]; exact hx,?_⟩
  rw [((hb l hl).2.2 o).1,((hb l hl).2.2 o).2]
  exact hk
 | z,.own k es,m,_,r=>by
  simp only [rel] at r ⊢
  obtain ⟨hz,b,o,c,ms,e,hc,r,row⟩:=r
  exact ⟨hz,b,o,c,ms,e,hc,zal_ hM true es _ r,row.mono hM⟩
 | z,.spent k es gs,m,_,r=>by
  simp only [rel] at r ⊢
  obtain ⟨hz,b,o,c,ms,e,hc,r,row⟩:=r
  exact ⟨hz,b,o,c,ms,e,hc,zal_ hM true es _ r,row.mono hM⟩
 | z,.ref l k,m,ht,r=>by
  have hl:l < n:=by simp [V.top] at ht; omega
  simp only [rel] at r ⊢
  obtain ⟨hz,hs,_,hk⟩:=r
  refine ⟨hz,hs,by simp; omega,fun q kk d e=>?_⟩
  rw [zcs_ (x:=.dead) hl hn] at e
  rw [(hb l hl).1,(hb l hl).2.1]
  exact hk q kk d e
 | z,.ptr l o,m,ht,r=>by
  have hl:l < n:=by simp [V.top] at ht; omega
  simp only [rel] at r ⊢
  obtain ⟨hz,e,z',cs,hk⟩:=r
  exact ⟨hz,by rw [(hb l hl).1]; exact e,z',cs,by rw [zcs_ (x:=.dead) hl hn]; exact hk⟩
 | z,.eptr l k i j,m,ht,r=>by
  have hl:l < n:=by simp [V.top] at ht; omega
  simp only [rel] at r ⊢
  obtain ⟨hz,hs,_,hk⟩:=r
  refine ⟨hz,hs,by simp; omega,fun q kk d e=>?_⟩
  rw [zcs_ (x:=.dead) hl hn] at e
  rw [(hb l hl).1]
  exact hk q kk d e
 | z,.fptr t o,m,_,r=>by
  simp only [rel] at r ⊢
  obtain ⟨b,q,n',e,r,k⟩:=r
  exact ⟨b,q,n',e,zbq_ hM true t n' r,fun j u e=>hM _ _ _ (k j u e)⟩
 | z,.fn f a c,m,ht,r=>by
  simp only [V.top,Nat.max_le] at ht
  simp only [rel] at r ⊢
  obtain ⟨id,A,C,e1,e2,r1,r2⟩:=r
  exact ⟨id,A,C,e1,e2,zgy_ hn hM hb z a _ ht.1 r1,zgy_ hn hM hb z c _ ht.2 r2⟩
 | z,.bref l k,m,ht,r=>by
  have hl:l < n:=by simp [V.top] at ht; omega
  simp only [rel] at r ⊢
  obtain ⟨hz,e,z',cs,hk⟩:=r
  exact ⟨hz,by rw [(hb l hl).1]; exact e,z',cs,by rw [zcs_ (x:=.dead) hl hn]; exact hk⟩
 | z,.win l k a b,m,ht,r=>by
  have hl:l < n:=by simp [V.top] at ht; omega
  simp only [rel] at r ⊢
  obtain ⟨hz,hs,_,hk⟩:=r
  refine ⟨hz,hs,by simp; omega,fun q kk d e=>?_⟩
  rw [zcs_ (x:=.dead) hl hn] at e
  rw [(hb l hl).1]
  exact hk q kk d e
 | z,.mref l,m,ht,r=>by
  have hl:l < n:=by simp [V.top] at ht; omega
  simp only [rel] at r ⊢
  obtain ⟨hz,e,es,hk⟩:=r
  exact ⟨hz,by rw [(hb l hl).1]; exact e,es,by rw [zcs_ (x:=.dead) hl hn]; exact hk⟩
 | z,.ifc t' v,m,ht,r=>by
  simp only [V.top] at ht
  simp only [rel] at r ⊢
  obtain ⟨x,e,r⟩:=r
  exact ⟨x,e,zpy_ hn hM hb z v x ht r⟩
theorem zgy_ {n:Nat} {t:H} (hn:n≤h.length) (hM:∀ b o u,g.M b o=some u→g'.M b o=some u) (hb:∀ l,l < n→g'.b (.obj l)=g.b (.obj l)∧g'.c (.obj l)=g.c (.obj l)∧∀ o,g'.b (.cell l o)=g.b (.cell l o)∧g'.c (.cell l o)=g.c (.cell l o)) :
  ∀ (z:Bool) (l:List V) (ms:List Value),V.top.tops l≤n→rels φ g h z l ms→rels φ g' (h.take n++t) z l ms
 | z,[],ms,_,r=>by simpa [rels] using r
 | z,v :: l,ms,ht,r=>by
  simp only [V.top.tops,Nat.max_le] at ht
  simp only [rels] at r ⊢
  obtain ⟨m,s,e,r1,r2⟩:=r
  exact ⟨m,s,e,zpy_ hn hM hb z v m ht.1 r1,zgy_ hn hM hb z l s ht.2 r2⟩
end
end
end Go.Proofs.Sl
namespace Go.Proofs.Sl
section
variable {φ:Nat→Option FuncId} {h:H} {g:G} {w:World}
def G.ren (g:G) (n l:Nat):G where
 b:=fun x=>match x with
  | .obj q=>if q=n then g.b (.obj l) else g.b (.obj q)
  | .cell q o=>if q=n then g.b (.cell l o) else g.b (.cell q o)
 c:=fun x=>match x with
  | .obj q=>if q=n then g.c (.obj l) else g.c (.obj q)
  | .cell q o=>if q=n then g.c (.cell l o) else g.c (.cell q o)
 M:=g.M
def TailO (n:Nat) (x:O):Prop:=(∃ z cs,x=.box z cs∧V.top.tops cs≤n)∨∃ es,x=.mp es
def Tail (h:H) (n l:Nat) (t:H):Prop:=t=[]∨∃ x,n≤l∧h[l]?=some x∧TailO n x∧t=[x]
theorem ren_lt {n l q:Nat} (hq:q < n):(g.ren n l).b (.obj q)=g.b (.obj q)∧(g.ren n l).c (.obj q)=g.c (.obj q)∧∀ o,(g.ren n l).b (.cell q o)=g.b (.cell q o)∧(g.ren n l).c (.cell q o)=g.c (.cell q o):=by
 have:q≠n:=by omega
 simp [G.ren,this]
theorem ren_eq {n l:Nat}:(g.ren n l).b (.obj n)=g.b (.obj l)∧(g.ren n l).c (.obj n)=g.c (.obj l)∧∀ o,(g.ren n l).b (.cell n o)=g.b (.cell l o)∧(g.ren n l).c (.cell n o)=g.c (.cell l o):=by
 simp [G.ren]
theorem zbu_ {n l:Nat} {t:H} (hn:n≤h.length) (ht:Tail h n l t) {q:Nat} {x:O} (e:(h.take n++t)[q]?=some x):(q < n∧h[q]?=some x)∨(q=n∧n≤l∧h[l]?=some x∧TailO n x∧t=[x]):=by
 by_cases hq:q < n
 ·exact .inl ⟨hq,by rw [zcs_ (x:=x) hq hn] at e; exact e⟩
 ·have hl:(h.take n).length=n:=by simp; omega
  rw [List.getElem?_append_right (by omega),hl] at e
  rcases ht with rfl | ⟨y,h1,h2,h3,rfl⟩
  ·simp at e
  ·by_cases h0:q - n=0
   ·rw [h0] at e
    simp only [List.getElem?_cons_zero,Option.some.injEq] at e
    subst e
    exact .inr ⟨by omega,h1,h2,h3,rfl⟩
   ·rw [List.getElem?_eq_none (by simp; omega)] at e
    cases e
theorem ztx_ {n l:Nat} {t:H} (hn:n≤h.length) (ht:Tail h n l t) {q o:Nat} {x:V} (e:cellAt (h.take n++t) q o=some x):(q < n∧cellAt h q o=some x)∨(q=n∧n≤l∧cellAt h l o=some x):=by
 obtain ⟨z,cs,e1,e2⟩:=zde_ e
 rcases zbu_ hn ht e1 with ⟨hq,e3⟩ | ⟨hq,hl,e3,_⟩
 ·exact .inl ⟨hq,by rw [zbd_ e3]; exact e2⟩
 ·exact .inr ⟨hq,hl,by rw [zbd_ e3]; exact e2⟩
theorem SR.back (S:SR φ h g w) {n l:Nat} {t:H} (hn:n≤h.length) (htop:∀ q o,q < n→h[q]?=some o→o.top≤n) (ht:Tail h n l t):SR φ (h.take n++t) (g.ren n l) w:=by
 have hrel:∀ z v m,V.top v≤n→rel φ g h z v m→rel φ (g.ren n l) (h.take n++t) z v m:=zpy_ hn (fun _ _ _ e=>e) fun q hq=>ren_lt hq
 have hrels:∀ z v m,V.top.tops v≤n→rels φ g h z v m→rels φ (g.ren n l) (h.take n++t) z v m:=zgy_ hn (fun _ _ _ e=>e) fun q hq=>ren_lt hq
 -- each live key comes of an old one
 have hkey:∀ a,live (h.take n++t) a→∃ a0,live h a0∧(g.ren n l).b a=g.b a0∧((∃ q,q < n∧(a=.obj q∧a0=.obj q∨∃ o,a=.cell q o∧a0=.cell q o))∨n≤l∧(a=.obj n∧a0=.obj l∨∃ o,a=.cell n o∧a0=.cell l o)):=by
  intro a ha
  cases a with
  | obj q =>
   rcases ha with ⟨z,cs,e⟩ | ⟨z,k,es,e⟩ | ⟨es,e⟩
   ·rcases zbu_ hn ht e with ⟨hq,e3⟩ | ⟨rfl,hl,e3,_⟩
    ·exact ⟨.obj q,.inl ⟨z,cs,e3⟩,(ren_lt hq).1,.inl ⟨q,hq,.inl ⟨rfl,rfl⟩⟩⟩
    ·exact ⟨.obj l,.inl ⟨z,cs,e3⟩,ren_eq.1,.inr ⟨hl,.inl ⟨rfl,rfl⟩⟩⟩
   ·rcases zbu_ hn ht e with ⟨hq,e3⟩ | ⟨rfl,hl,e3,e4,_⟩
    ·exact ⟨.obj q,.inr (.inl ⟨z,k,es,e3⟩),(ren_lt hq).1,.inl ⟨q,hq,.inl ⟨rfl,rfl⟩⟩⟩
    ·rcases e4 with ⟨_,_,e4,_⟩ | ⟨_,e4⟩ <;> cases e4
   ·rcases zbu_ hn ht e with ⟨hq,e3⟩ | ⟨rfl,hl,e3,e4,_⟩
    ·exact ⟨.obj q,.inr (.inr ⟨es,e3⟩),(ren_lt hq).1,.inl ⟨q,hq,.inl ⟨rfl,rfl⟩⟩⟩
    ·exact ⟨.obj l,.inr (.inr ⟨es,e3⟩),ren_eq.1,.inr ⟨hl,.inl ⟨rfl,rfl⟩⟩⟩
  | cell q o =>
   obtain ⟨x,m,e,k⟩:=ha
   rcases ztx_ hn ht e with ⟨hq,e3⟩ | ⟨rfl,hl,e3⟩
   ·exact ⟨.cell q o,⟨x,m,e3,k⟩,((ren_lt hq).2.2 o).1,.inl ⟨q,hq,.inr ⟨o,rfl,rfl⟩⟩⟩
   ·exact ⟨.cell l o,⟨x,m,e3,k⟩,(ren_eq.2.2 o).1,.inr ⟨hl,.inr ⟨o,rfl,rfl⟩⟩⟩
 refine ⟨fun q z cs e=>?_,fun q z k es e=>?_,fun q o x m e k=>?_,fun a b ha hb e=>?_,S.mem,fun q es e=>?_⟩
 ·rcases zbu_ hn ht e with ⟨hq,e3⟩ | ⟨rfl,hl,e3,e4,_⟩
  ·obtain ⟨ms,E,e5,r,ok,k2,k3⟩:=S.box q z cs e3
   refine ⟨ms,E,by rw [(ren_lt hq).1]; exact e5,hrels _ _ _ (htop q _ hq e3) r,ok,?_,?_⟩ <;> rw [(ren_lt hq).1]
   ·exact k2
   ·exact k3
  ·obtain ⟨ms,E,e5,r,ok,k2,k3⟩:=S.box l z cs e3
   have htp:V.top.tops cs≤q:=by
    rcases e4 with ⟨_,_,e4,htp⟩ | ⟨_,e4⟩
    ·injection e4 with _ e6
     rw [e6]
     exact htp
    ·cases e4
   refine ⟨ms,E,by rw [ren_eq.1]; exact e5,hrels _ _ _ htp r,ok,?_,?_⟩ <;> rw [ren_eq.1]
   ·exact k2
   ·exact k3
 ·rcases zbu_ hn ht e with ⟨hq,e3⟩ | ⟨rfl,hl,e3,e4,_⟩
  ·obtain ⟨cur,E,ms,e5,s,n1,n2,r,wd,tk,k2,k3⟩:=S.arr q z k es e3
   refine ⟨cur,E,ms,by rw [(ren_lt hq).1]; exact e5,by rw [(ren_lt hq).2.1]; exact s,by rw [(ren_lt hq).2.1]; exact n1,by rw [(ren_lt hq).2.1]; exact n2,hrels _ _ _ (htop q _ hq e3) r,wd,tk,?_,?_⟩ <;> rw [(ren_lt hq).1]
   ·exact k2
   ·exact k3
  ·rcases e4 with ⟨_,_,e4,_⟩ | ⟨_,e4⟩ <;> cases e4
 ·have key:∀ p,cellAt h p o=some x→(g.ren n l).b (.cell q o)=g.b (.cell p o)→(g.ren n l).c (.cell q o)=g.c (.cell p o)→(g.ren n l).b (.obj q)=g.b (.obj p)→OwnOk φ (h.take n++t) (g.ren n l) w q o x m:=by
   intro p e3 b1 c1 b2
   obtain ⟨cur,E,k',e5,s,n1,n2,hM,hv⟩:=S.own p o x m e3 k
   refine ⟨cur,E,k',by rw [b1]; exact e5,by rw [c1]; exact s,by rw [c1]; exact n1,by rw [c1]; exact n2,by rw [b1]; exact hM,?_⟩
   cases x with
   | own k2 es=>exact ⟨hv.1,by rw [b1,c1,b2]; exact hv.2⟩
   | spent k2 es gs =>
    obtain ⟨h1,ms,h2,h3⟩:=hv
    exact ⟨h1,ms,zal_ (g:=g) (h:=h) (show ∀ b o u,g.M b o=some u→(g.ren n l).M b o=some u from fun _ _ _ e=>e) true _ _ h2,by rw [b1]; exact h3⟩
   | _=>exact hv
  rcases ztx_ hn ht e with ⟨hq,e3⟩ | ⟨rfl,hl,e3⟩
  ·exact key q e3 ((ren_lt hq).2.2 o).1 ((ren_lt hq).2.2 o).2 (ren_lt hq).1
  ·exact key l e3 (ren_eq.2.2 o).1 (ren_eq.2.2 o).2 ren_eq.1
 ·obtain ⟨a0,ha0,ea,ca⟩:=hkey a ha
  obtain ⟨b0,hb0,eb,cb⟩:=hkey b hb
  rw [ea,eb] at e
  have:=S.inj a0 b0 ha0 hb0 e
  subst this
  rcases ca with ⟨q,hq,⟨rfl,h1⟩ | ⟨o,rfl,h1⟩⟩ | ⟨hl,⟨rfl,h1⟩ | ⟨o,rfl,h1⟩⟩ <;>
   rcases cb with ⟨q',hq',⟨rfl,h2⟩ | ⟨o',rfl,h2⟩⟩ | ⟨hl',⟨rfl,h2⟩ | ⟨o',rfl,h2⟩⟩ <;>
   rw [h1] at h2 <;> simp only [Key.obj.injEq,Key.cell.injEq,reduceCtorEq] at h2 ⊢ <;> omega
 ·rcases zbu_ hn ht e with ⟨hq,e3⟩ | ⟨rfl,hl,e3,e4,_⟩
  ·obtain ⟨ents,clock,e5,k,r,hbn⟩:=S.mp q es e3
   exact ⟨ents,clock,by rw [(ren_lt hq).1]; exact e5,k,zal_ (g:=g) (h:=h) (show ∀ b o u,g.M b o=some u→(g.ren n l).M b o=some u from fun _ _ _ e=>e) true _ _ r,hbn⟩
  ·obtain ⟨ents,clock,e5,k,r,hbn⟩:=S.mp l es e3
   exact ⟨ents,clock,by rw [ren_eq.1]; exact e5,k,zal_ (g:=g) (h:=h) (show ∀ b o u,g.M b o=some u→(g.ren q l).M b o=some u from fun _ _ _ e=>e) true _ _ r,hbn⟩
theorem Ext.back {h0:H} {g0:G} {w0:World} {n l:Nat} {t:H} (a:Ext h0 g0 w0 h g w) (h0n:h0.length=n) (hn:n≤h.length) (ht:Tail h n l t):Ext h0 g0 w0 (h.take n++t) (g.ren n l) w where
 later:=by
  refine ⟨a.later.M,by simp; omega,fun q eq=>?_,fun q z k es hq e=>?_,fun q o x m e k=>?_,fun q eq=>?_⟩
  rotate_left 3
  ·have hq:q < n:=by obtain ⟨es,eq⟩:=eq; have:=zau_ eq; omega
   obtain ⟨⟨es,e⟩,e2⟩:=a.later.mp q eq
   exact ⟨⟨es,by rw [zcs_ (x:=.dead) hq hn]; exact e⟩,by rw [(ren_lt hq).1]; exact e2⟩
  ·have hq:q < n:=by obtain ⟨z,cs,eq⟩:=eq; have:=zau_ eq; omega
   obtain ⟨⟨z,cs,e⟩,e2⟩:=a.later.box q eq
   exact ⟨⟨z,cs,by rw [zcs_ (x:=.dead) hq hn]; exact e⟩,by rw [(ren_lt hq).1]; exact e2⟩
  ·have hq':q < n:=by omega
   rw [zcs_ (x:=.dead) hq' hn] at e
   rw [(ren_lt hq').1,(ren_lt hq').2.1]
   exact a.later.arr q z k es hq e
  ·have hq:q < n:=by obtain ⟨z,cs,eq,_⟩:=zde_ e; have:=zau_ eq; omega
   rw [ztw_ hq hn,((ren_lt hq).2.2 o).1,((ren_lt hq).2.2 o).2]
   exact a.later.cell q o x m e k
 os:=a.os
 tape:=a.tape
 output:=a.output
 size:=a.size
 frame:=a.frame
 blks:=fun key hk=>by
  cases key with
  | obj q =>
   have:∃ p,live h (.obj p)∧(g.ren n l).b (.obj q)=g.b (.obj p):=by
    rcases hk with ⟨z,cs,e⟩ | ⟨z,k,es,e⟩ | ⟨es,e⟩
    ·rcases zbu_ hn ht e with ⟨hq,e3⟩ | ⟨rfl,hl,e3,_⟩
     ·exact ⟨q,.inl ⟨z,cs,e3⟩,(ren_lt hq).1⟩
     ·exact ⟨l,.inl ⟨z,cs,e3⟩,ren_eq.1⟩
    ·rcases zbu_ hn ht e with ⟨hq,e3⟩ | ⟨rfl,hl,e3,_⟩
     ·exact ⟨q,.inr (.inl ⟨z,k,es,e3⟩),(ren_lt hq).1⟩
     ·exact ⟨l,.inr (.inl ⟨z,k,es,e3⟩),ren_eq.1⟩
    ·rcases zbu_ hn ht e with ⟨hq,e3⟩ | ⟨rfl,hl,e3,_⟩
     ·exact ⟨q,.inr (.inr ⟨es,e3⟩),(ren_lt hq).1⟩
     ·exact ⟨l,.inr (.inr ⟨es,e3⟩),ren_eq.1⟩
   obtain ⟨p,h1,h2⟩:=this
   rw [h2]
   exact a.blks _ h1
  | cell q o =>
   obtain ⟨x,m,e,k⟩:=hk
   rcases ztx_ hn ht e with ⟨hq,e3⟩ | ⟨rfl,hl,e3⟩
   ·rw [((ren_lt hq).2.2 o).1]
    exact a.blks _ ⟨x,m,e3,k⟩
   ·rw [(ren_eq.2.2 o).1]
    exact a.blks _ ⟨x,m,e3,k⟩
 arrB:=fun q z k es e=>by
  rcases zbu_ hn ht e with ⟨hq,e3⟩ | ⟨rfl,hl,e3,e4,_⟩
  ·rw [(ren_lt hq).1]
   exact a.arrB q z k es e3
  ·rcases e4 with ⟨_,_,e4,_⟩ | ⟨_,e4⟩ <;> cases e4
 drawn:=a.drawn
 mfr:=a.mfr
theorem zbmn_ {z:Bool}:∀ (v:V) (m:Value),rel φ g h z v m→v.top≤h.length:=by
 refine V.rec (motive_1:=fun v=>∀ m,rel φ g h z v m→v.top≤h.length) (motive_2:=fun l=>∀ ms,rels φ g h z l ms→V.top.tops l≤h.length) ?_ ?_ ?_ ?_ ?_ ?_ ?_ ?_ ?_ ?_ ?_ ?_ ?_ ?_ ?_ ?_ ?_ ?_ ?_
 ·intros; simp [V.top]
 ·intro cs ih m r
  simp only [rel] at r
  obtain ⟨a,e,r⟩:=r
  simpa [V.top] using ih _ r
 ·intro cs ih m r
  simp only [rel] at r
  obtain ⟨a,e,r⟩:=r
  simpa [V.top] using ih _ r
 ·intros; simp [V.top]
 ·intro l o k es _ m r
  simp only [rel] at r
  obtain ⟨_,_,x,hx,_⟩:=r
  obtain ⟨z,cs,e,_⟩:=zde_ hx
  have:=zau_ e
  simp [V.top]; omega
 ·intro l o k es _ m r
  simp only [rel] at r
  obtain ⟨_,_,x,hx,_⟩:=r
  obtain ⟨z,cs,e,_⟩:=zde_ hx
  have:=zau_ e
  simp [V.top]; omega
 ·intros; simp [V.top]
 ·intros; simp [V.top]
 ·intro l n m r
  simp only [rel] at r
  have:=r.2.2.1
  simp [V.top]; omega
 ·intro l o m r
  simp only [rel] at r
  obtain ⟨_,_,z,cs,e⟩:=r
  have:=zau_ e
  simp [V.top]; omega
 ·intro l n i j m r
  simp only [rel] at r
  have:=r.2.2.1
  simp [V.top]; omega
 ·intros; simp [V.top]
 ·intro f a c iha ihc m r
  simp only [rel] at r
  obtain ⟨id,A,C,_,_,r1,r2⟩:=r
  simp only [V.top,Nat.max_le]
  exact ⟨iha _ r1,ihc _ r2⟩
 ·intro l n m r
  simp only [rel] at r
  obtain ⟨_,_,z,cs,e⟩:=r
  have:=zau_ e
  simp [V.top]; omega
 ·intro l n a b m r
  simp only [rel] at r
  have:=r.2.2.1
  simp [V.top]; omega
 ·intro l m r
  simp only [rel] at r
  obtain ⟨_,_,es,e⟩:=r
  have:=zau_ e
  simp [V.top]; omega
 ·intro t v ih m r
  simp only [rel] at r
  obtain ⟨x,_,r⟩:=r
  simpa [V.top] using ih _ r
 ·intros; simp [V.top.tops]
 ·intro v l ihv ihl ms r
  obtain ⟨m,s,rfl,r1,r2⟩:=zam_.1 r
  simp only [V.top.tops,Nat.max_le]
  exact ⟨ihv _ r1,ihl _ r2⟩
theorem zbcg_ {z:Bool} (l:List V):∀ (ms:List Value),rels φ g h z l ms→V.top.tops l≤h.length:=by
 induction l with
 | nil=>intros; simp [V.top.tops]
 | cons v l ih =>
  intro ms r
  obtain ⟨m,s,rfl,r1,r2⟩:=zam_.1 r
  simp only [V.top.tops,Nat.max_le]
  exact ⟨zbmn_ v m r1,ih _ r2⟩
theorem SR.top (S:SR φ h g w) {l:Nat} {o:O} (e:h[l]?=some o):o.top≤h.length:=by
 cases o with
 | box z cs =>
  obtain ⟨ms,E,_,r,_⟩:=S.box l z cs e
  exact zbcg_ cs _ r
 | arr z k es =>
  obtain ⟨cur,E,ms,_,_,_,_,r,_⟩:=S.arr l z k es e
  exact zbcg_ es _ r
 | dead=>simp [O.top]
 | mp es=>simp [O.top]
end
end Go.Proofs.Sl
namespace Go.Proofs.Sl
theorem zbch_ {a b:ByteArray} (k:(a == b)=true):a=b:=by
 obtain ⟨x⟩:=a
 obtain ⟨y⟩:=b
 have e:x=y:=by simpa using (show (x == y)=true from k)
 rw [e]
theorem zpz_ {a b:Value} (k:valEq a b=true):a=b:=by
 cases a <;> cases b <;> first | (simp_all [valEq]; done) | (simp only [valEq] at k; rw [zbch_ k])
def chkOpd (φ:Nat→Option FuncId) (N:Nat):Operand→Opd→Bool
 | .tmp t,.t n=>t == n && t < N
 | .const v,.c (.s x)=>valEq x v && notAgg x
 | .func f,.c (.fn i [] [])=>φ i == some f
 | _,_=>false
def zce_ (φ:Nat→Option FuncId) (N:Nat):List Operand→List Opd→Bool
 | [],[]=>true
 | o :: r,x :: l=>chkOpd φ N o x && zce_ φ N r l
 | _,_=>false
def chkOpt (φ:Nat→Option FuncId) (N:Nat):Option Operand→Option Opd→Bool
 | none,none=>true
 | some o,some x=>chkOpd φ N o x
 | _,_=>false
def eqZ:List V→List Value→Bool
 | [],[]=>true
 | .s x :: r,v :: l=>valEq x v && notAgg x && (V.s x).cell && eqZ r l
 | _,_=>false
def zct_ (φ:Nat→Option FuncId) (N:Nat) (place:Nat→Option (Nat × Nat)):List (Nat × Operand)→List (Nat × Nat × Opd)→Bool
 | [],[]=>true
 | (i,o) :: r,(off,n,x) :: l=>place i == some (off,n) && chkOpd φ N o x && zct_ φ N place r l
 | _,_=>false
def sizeIs (P:Program) (t:TypeId) (n:Nat):Bool:=match P.info? t with
 | some i=>i.size == n
 | none=>false
def aggIs (P:Program) (t:TypeId) (g:Bool):Bool:=match P.underlying t with
 | some (.struct _)=>g
 | some (.array _ _)=>g
 | some _=>!g
 | none=>false
def zff_ (P:Program) (φ:Nat→Option FuncId) (N:Nat) (t:TypeId) (ps:List (Nat × Operand)) (z:List V) (parts:List (Nat × Nat × Opd)):Bool :=
 (match P.info? t with
  | some it=>(match it.zero with
   | some zv=>eqZ z zv.cells.toList
   | none=>false)
  | none=>false) &&
 match P.underlying t with
  | some (.struct fs)=>(match fs.toList.mapM (fun f=>(P.info? f.type).map fun i=>(f.offset,i.size)) with
   | some places=>zct_ φ N (places.toArray[·]?) ps parts
   | none=>false)
  | some (.array _ e)=>(match P.info? e with
   | some ie=>zct_ φ N (fun i=>some (i * ie.size,ie.size)) ps parts
   | none=>false)
  | _=>false
section
variable {P:Program} {φ:Nat→Option FuncId} {h h':H} {g g':G} {w w':World} {N:Nat} {s:Sl} {a:Act}
structure Slots (φ:Nat→Option FuncId) (g:G) (h:H) (N:Nat) (s:Sl) (a:Act):Prop where
 defers:a.defers=[]
 size:a.tmps.size=N
 rel:∀ t,t < N→rel φ g h false (s t) (a.tmps.getD t undef)
theorem Slots.later (S:Slots φ g h N s a) (L:Later g h g' h'):Slots φ g' h' N s a:=⟨S.defers,S.size,fun t ht=>zcq_ L _ _ _ (S.rel t ht)⟩
theorem Slots.put (S:Slots φ g h N s a) {d:Option Tmp} (hd:∀ t,d=some t→t < N) {v:V} {mv:Value} (hv:Sl.rel φ g h false v mv):Slots φ g h N (put s d v) (a.put d mv):=by
 cases d with
 | none=>exact S
 | some t =>
  have ht:=hd t rfl
  refine ⟨S.defers,by simp [Act.put,S.size],fun u hu=>?_⟩
  simp only [Sl.put,upd,Act.put]
  split
  ·rename_i e
   subst e
   rw [Array.getD_eq_getD_getElem?,Array.getElem?_setIfInBounds_self_of_lt (by rw [S.size]; exact ht)]
   exact hv
  ·rename_i e
   rw [Array.getD_eq_getD_getElem?,Array.getElem?_setIfInBounds_ne (Ne.symm e),← Array.getD_eq_getD_getElem?]
   exact S.rel u hu
theorem opd_ok (S:Slots φ g h N s a) {o:Operand} {x:Opd} (k:chkOpd φ N o x=true):rel φ g h false (x.ev s) (a.eval o):=by
 unfold chkOpd at k
 split at k
 ·simp only [Bool.and_eq_true,beq_iff_eq,decide_eq_true_eq] at k
  obtain ⟨rfl,ht⟩:=k
  exact S.rel _ ht
 ·simp only [Bool.and_eq_true] at k
  simp only [Opd.ev,Act.eval,rel]
  exact ⟨(zpz_ k.1).symm,k.2⟩
 ·simp only [beq_iff_eq] at k
  simp only [Opd.ev,Act.eval,rel]
  exact ⟨_,#[],#[],k,rfl,by simp [rels],by simp [rels]⟩
 ·cases k
theorem zcb_ (S:Slots φ g h N s a):∀ {l:List Operand} {xs:List Opd},zce_ φ N l xs=true→rels φ g h false (evs s xs) (l.map a.eval)
 | [],[],_=>zad_.2 rfl
 | o :: l,x :: xs,k=>by
  simp only [zce_,Bool.and_eq_true] at k
  exact zaj_.2 ⟨opd_ok S k.1,zcb_ S k.2⟩
 | [],_ :: _,k=>by simp [zce_] at k
 | _ :: _,[],k=>by simp [zce_] at k
theorem zqa_ {v v':V} {m:Value} (r:rel φ g h false v m) (e:frz0 v=some v'):rel φ g h false v' m:=by
 cases v <;> simp only [frz0,Option.some.injEq,reduceCtorEq] at e <;> subst e <;> try exact r
 simp only [rel] at r ⊢
 exact .inl r.2.1
theorem zgz_:∀ {l l':List V} {ms:List Value},rels φ g h false l ms→keep0s l=some l'→rels φ g h false l' ms
 | [],l',ms,r,e=>by
  simp only [keep0s,Option.some.injEq] at e
  subst e
  exact r
 | v :: l,l',ms,r,e=>by
  simp only [keep0s] at e
  obtain ⟨v',e1,e⟩:=zaa_.1 e
  obtain ⟨l2,e2,e⟩:=zaa_.1 e
  injection e with e
  subst e
  obtain ⟨m,s,rfl,r1,r2⟩:=zam_.1 r
  exact zaj_.2 ⟨zqa_ r1 e1,zgz_ r2 e2⟩
theorem eqZ_ok:∀ {z:List V} {l:List Value},eqZ z l=true→rels φ g h true z l∧zai_ z=true∧V.closed.closeds z=true∧noTl z
 | [],[],_=>⟨zad_.2 rfl,rfl,rfl,fun i x e=>by simp at e⟩
 | .s x :: z,v :: l,k=>by
  simp only [eqZ,Bool.and_eq_true] at k
  obtain ⟨r,c,d,n⟩:=eqZ_ok k.2
  refine ⟨zaj_.2 ⟨?_,r⟩,by simp [zai_,k.1.2,c],by simp [V.closed.closeds,V.closed,d],fun i y e=>?_⟩
  ·simp only [rel]
   exact ⟨(zpz_ k.1.1.1).symm,k.1.1.2⟩
  ·cases i with
   | zero=>simp only [List.getElem?_cons_zero,Option.some.injEq] at e; subst e; rfl
   | succ i=>exact n i y (by simpa using e)
 | [],_ :: _,k=>by simp [eqZ] at k
 | .s _ :: _,[],k=>by simp [eqZ] at k
 | .agg _ :: _,l,k=>by cases l <;> simp [eqZ] at k
 | .tup _ :: _,l,k=>by cases l <;> simp [eqZ] at k
 | .lst .. :: _,l,k=>by cases l <;> simp [eqZ] at k
 | .lnk .. :: _,l,k=>by cases l <;> simp [eqZ] at k
 | .gro .. :: _,l,k=>by cases l <;> simp [eqZ] at k
 | .own .. :: _,l,k=>by cases l <;> simp [eqZ] at k
 | .spent .. :: _,l,k=>by cases l <;> simp [eqZ] at k
 | .ref .. :: _,l,k=>by cases l <;> simp [eqZ] at k
 | .bref .. :: _,l,k=>by cases l <;> simp [eqZ] at k
 | .win .. :: _,l,k=>by cases l <;> simp [eqZ] at k
 | .ptr .. :: _,l,k=>by cases l <;> simp [eqZ] at k
 | .eptr .. :: _,l,k=>by cases l <;> simp [eqZ] at k
 | .fptr .. :: _,l,k=>by cases l <;> simp [eqZ] at k
 | .fn .. :: _,l,k=>by cases l <;> simp [eqZ] at k
theorem zbci_ (off:Nat):∀ (vs:List Value) (j:Nat) (cells:Array Value) (ns cs:List V) (z:Bool),rels φ g h z ns vs→rels φ g h z cs cells.toList →
  rels φ g h z (putRow (off + j) ns cs) (((vs.toArray.zipIdx j).foldl (fun cs (c,j)=>cs.setIfInBounds (off + j) c) cells).toList)
 | [],j,cells,ns,cs,z,rn,rc=>by
  have:ns=[]:=List.eq_nil_of_length_eq_zero (by rw [zah_ rn]; rfl)
  subst this
  rw [show ([]:List Value).toArray.zipIdx j=#[] from by simp]
  simpa [putRow] using rc
 | v :: vs,j,cells,ns,cs,z,rn,rc=>by
  cases ns with
  | nil=>rw [zad_] at rn; cases rn
  | cons n ns =>
   obtain ⟨r1,r2⟩:=zaj_.1 rn
   have:=zbci_ off vs (j + 1) (cells.setIfInBounds (off + j) v) ns (cs.set (off + j) n) z r2 (by rw [Array.toList_setIfInBounds]; exact zgr_ rc r1 _)
   simp only [putRow,← Array.foldl_toList,Array.toList_zipIdx,List.zipIdx_cons,List.foldl_cons] at this ⊢
   rw [Nat.add_assoc]
   exact this
theorem zty_ {place:Nat→Option (Nat × Nat)}:∀ {ps:List (Nat × Operand)} {parts:List (Nat × Nat × Opd)} {vs:List V} {cs cs':List V} {cells:Array Value},
  zct_ φ N place ps parts=true→rels φ g h false vs (ps.map fun p=>a.eval p.2)→rels φ g h false cs cells.toList→zco_ (zcp_ parts vs) cs=some cs' →
  ∃ cells',Instr.fill place cells (ps.map fun p=>(p.1,a.eval p.2))=some cells'∧rels φ g h false cs' cells'.toList
 | [],[],vs,cs,cs',cells,_,rv,rc,e=>by
  simp only [zcp_,zco_,Option.some.injEq] at e
  subst e
  exact ⟨cells,rfl,rc⟩
 | (i,o) :: ps,(off,n,x) :: parts,vs,cs,cs',cells,k,rv,rc,e=>by
  simp only [zct_,Bool.and_eq_true,beq_iff_eq] at k
  cases vs with
  | nil=>rw [zad_] at rv; simp at rv
  | cons v vs =>
   simp only [List.map_cons] at rv
   obtain ⟨r1,r2⟩:=zaj_.1 rv
   simp only [zcp_,zco_] at e
   split at e
   ·rename_i hc
    have hs:=zfd_ r1
    have hl:=zah_ rc
    simp only [Array.length_toList] at hl
    simp only [List.map_cons,Instr.fill,k.1.1]
    rw [if_neg (by simp only [Bool.or_eq_true,decide_eq_true_eq,not_or]; omega)]
    have:=zbci_ off (a.eval o).cells.toList 0 cells v.cells cs false (zgw_ r1) rc
    simp only [Nat.add_zero,Array.toArray_toList] at this
    exact zty_ k.2 r2 this e
   ·cases e
 | [],_ :: _,vs,cs,cs',cells,k,_,_,_=>by simp [zct_] at k
 | _ :: _,[],vs,cs,cs',cells,k,_,_,_=>by simp [zct_] at k
theorem zfg_ (S:Slots φ g h N s a) {place:Nat→Option (Nat × Nat)}:∀ {ps:List (Nat × Operand)} {parts:List (Nat × Nat × Opd)},zct_ φ N place ps parts=true→rels φ g h false (zbo_ s parts) (ps.map fun p=>a.eval p.2)
 | [],[],_=>zad_.2 rfl
 | (i,o) :: ps,(off,n,x) :: parts,k=>by
  simp only [zct_,Bool.and_eq_true] at k
  exact zaj_.2 ⟨opd_ok S k.1.2,zfg_ S k.2⟩
 | [],_ :: _,k=>by simp [zct_] at k
 | _ :: _,[],k=>by simp [zct_] at k
theorem ztz_ {t:TypeId} {ps:Array (Nat × Operand)} {z:List V} {parts:List (Nat × Nat × Opd)} (k:zff_ P φ N t ps.toList z parts=true) {vs cs:List V} (rv:rels φ g h false vs (ps.toList.map fun p=>a.eval p.2))
  (e:zco_ (zcp_ parts vs) z=some cs):∃ cells:Array Value,(∀ w,(Instr.build t (ps.map fun (i,x)=>(i,a.eval x))).run P w=.ok (.agg cells) w)∧rels φ g h false cs cells.toList:=by
 unfold zff_ at k
 rw [Bool.and_eq_true] at k
 obtain ⟨k1,k2⟩:=k
 split at k1
 ·rename_i it hit
  split at k1
  ·rename_i zv hz
   have rz:=(eqZ_ok (φ:=φ) (g:=g) (h:=h) k1).1
   have rz':rels φ g h false z zv.cells.toList:=zal_ (fun _ _ _ e=>e) false _ _ rz
   have hmap:(ps.map fun (i,x)=>(i,a.eval x)).toList=ps.toList.map fun p=>(p.1,a.eval p.2):=by simp
   split at k2
   ·rename_i fs hu
    split at k2
    ·rename_i places hp
     obtain ⟨cells,hf,hr⟩:=zty_ (a:=a) k2 rv rz' e
     refine ⟨cells,fun w=>run_build w t _ cells ?_,hr⟩
     simp only [Program.built,hit,hu,hz,hp,hmap]
     exact hf
    ·cases k2
   ·rename_i n el hu
    split at k2
    ·rename_i ie hie
     obtain ⟨cells,hf,hr⟩:=zty_ (a:=a) k2 rv rz' e
     refine ⟨cells,fun w=>run_build w t _ cells ?_,hr⟩
     simp only [Program.built,hit,hu,hz,hie,hmap]
     exact hf
    ·cases k2
   ·cases k2
  ·cases k1
 ·cases k1
end
end Go.Proofs.Sl
namespace Go.Proofs.Sl
def isUnd (P:Program) (t:TypeId) (p:TypeDesc→Bool):Bool:=match P.underlying t with
 | some d=>p d
 | none=>false
def dInt (k:IntKind):TypeDesc→Bool
 | .int k'=>k == k'
 | _=>false
def dStr:TypeDesc→Bool
 | .string=>true
 | _=>false
def dBool:TypeDesc→Bool
 | .bool=>true
 | _=>false
def dPtr:TypeDesc→Bool
 | .pointer _=>true
 | _=>false
def dSlice (p:TypeId→Bool):TypeDesc→Bool
 | .slice e=>p e
 | _=>false
def dArr (p:Nat→TypeId→Bool):TypeDesc→Bool
 | .array n e=>p n e
 | _=>false
def zua_ (p:Array Field→Bool):TypeDesc→Bool
 | .struct fs=>p fs
 | _=>false
def dMap (p:TypeId→TypeId→Bool):TypeDesc→Bool
 | .map k e=>p k e
 | _=>false
def kindOk:TypeDesc→CK→Bool
 | .int _,.i=>true
 | .string,.t=>true
 | .bool,.b=>true
 | _,_=>false
theorem zap_ {P:Program} {t:TypeId} {p:TypeDesc→Bool} (k:isUnd P t p=true):∃ d,P.underlying t=some d∧p d=true:=by
 unfold isUnd at k
 split at k
 ·exact ⟨_,by assumption,k⟩
 ·cases k
theorem zbcj_ {k:IntKind} {d:TypeDesc} (e:dInt k d=true):d=.int k:=by
 cases d <;> simp_all [dInt]
theorem zjs_ {d:TypeDesc} (e:dStr d=true):d=.string:=by cases d <;> simp_all [dStr]
theorem zbmo_ {d:TypeDesc} (e:dBool d=true):d=.bool:=by cases d <;> simp_all [dBool]
theorem zbmp_ {d:TypeDesc} (e:dPtr d=true):∃ t,d=.pointer t:=by cases d <;> simp_all [dPtr]
theorem zcf_ {p:TypeId→Bool} {d:TypeDesc} (e:dSlice p d=true):∃ t,d=.slice t∧p t=true:=by cases d <;> simp_all [dSlice]
theorem zqb_ {p:Nat→TypeId→Bool} {d:TypeDesc} (e:dArr p d=true):∃ n t,d=.array n t∧p n t=true:=by
 cases d <;> first | exact ⟨_,_,rfl,e⟩ | (simp [dArr] at e)
theorem zub_ {p:TypeId→TypeId→Bool} {d:TypeDesc} (e:dMap p d=true):∃ k t,d=.map k t∧p k t=true:=by
 cases d <;> first | exact ⟨_,_,rfl,e⟩ | (simp [dMap] at e)
theorem zbck_ {p:Array Field→Bool} {d:TypeDesc} (e:zua_ p d=true):∃ fs,d=.struct fs∧p fs=true:=by cases d <;> simp_all [zua_]
def zuc_ (P:Program) (t:TypeId) (i off:Nat) (p:TypeId→Bool):Bool :=
 isUnd P t <| zua_ fun fs=>match fs[i]? with
  | some f=>f.offset == off && p f.type
  | none=>false
def sized (P:Program) (t:TypeId):Bool:=match P.info? t with
 | some i=>i.size != 0
 | none=>false
def leafK (P:Program) (t:TypeId):Option CK:=match P.underlying t with
 | some .bool=>some .b
 | some (.int _)=>some .i
 | some .string=>some .t
 | _=>none
def plainF (pl:TypeId→Option (List CK)):Nat→List Field→Option (List CK)
 | n,[]=>some []
 | n, f :: r => if f.offset == n && f.name != "_" then (match pl f.type with
   | some ks=>(plainF pl (n + ks.length) r).map (ks++·)
   | none=>none) else none
def plainK (P:Program):Nat→TypeId→Option (List CK)
 | 0,_=>none
 | d + 1,t=>match leafK P t with
  | some k=>if sizeIs P t 1 && aggIs P t false then some [k] else none
  | none=>match P.underlying t with
   | some (.struct fs)=>if !P.stoodInHeld t && aggIs P t true then (match plainF (plainK P d) 0 fs.toList with
     | some ks=>if sizeIs P t ks.length then some ks else none
     | none=>none) else none
   | _=>none
def chkEq (P:Program) (t:TypeId):EK→Bool
 | .b=>isUnd P t dBool
 | .p=>isUnd P t dPtr
 | .s=>isUnd P t (dSlice fun _=>true)
 | .a ks=>decide (plainK P 20 t=some ks) && aggIs P t true && !P.eqGuardType P.depth t
def zea_ (P:Program) (φ:Nat→Option FuncId) (N:Nat) (c:Call) (b:Builtin) (xs:List Opd):Bool :=
 match c.callee with
 | .builtin b'=>b == b' && zce_ φ N c.args.toList xs
 | _=>false
def zeroIs (P:Program) (t:TypeId) (z:List V):Bool:=match P.info? t with
 | some i=>match i.zero with
  | some zv=>i.size == z.length && eqZ z zv.cells.toList
  | none=>false
 | none=>false
def zjt_ (P:Program) (t:TypeId):Bool:=match P.info? t with
 | some i=>match i.zero with
  | some zv=>zv.cells.size == i.size
  | none=>false
 | none=>false
def zju_ (P:Program) (t:TypeId) (p:Nat→Bool):Bool:=match P.info? t with
 | some i=>p i.bytes
 | none=>false
def elemZ (P:Program) (t:TypeId) (k:Nat) (z:V):Bool:=match P.info? t with
 | some i=>i.size == k && match i.zero with
  | some (.agg ar)=>(match z with
   | .agg zs=>eqZ zs ar.toList
   | _=>false)
  | some zv=>eqZ [z] [zv]
  | none=>false
 | none=>false
def zud_ (zc:V→Bool):Opd→Bool
 | .c v=>zc v
 | _=>false
def zeb_ (zc:V→Bool) (φ:Nat→Option FuncId) (N:Nat):Nat→List (Nat × Operand)→List Opd→Bool
 | _,[],[]=>true
 | i,[],x :: l=>zud_ zc x && zeb_ zc φ N (i + 1) [] l
 | i,(j,o) :: r,x :: l=>if i=j then chkOpd φ N o x && zeb_ zc φ N (i + 1) r l else zud_ zc x && zeb_ zc φ N (i + 1) ((j,o) :: r) l
 | _,_ :: _,[]=>false
def dConc:TypeDesc→Bool
 | .interface _=>false
 | _=>true
def dNoPtr:TypeDesc→Bool
 | .pointer _=>false
 | _=>true
def zbcl_ (P:Program) (φ:Nat→Option FuncId) (name:String) (tb:List (Nat × Nat)):Bool:=tb.all fun p=>isUnd P p.1 dNoPtr && match P.info? p.1 with
 | some i=>match i.methods.find? (·.name == name) with
  | some m=>m.path.isEmpty && match m.func with
   | some (id,false)=>φ p.2 == some id
   | _=>false
  | none=>false
 | none=>false
def chkOp (P:Program) (φ:Nat→Option FuncId) (N:Nat):Op→XO→Bool
 | .move y,.cp x | .assign y,.cp x=>chkOpd φ N y x
 | .pick c a b,.pick c' a' b'=>chkOpd φ N c c' && chkOpd φ N a a' && chkOpd φ N b b'
 | .alloc t,.alloc z=>zeroIs P t z
 | .box t y,.box _ x=>chkOpd φ N y x
 | .build t ps,.build _ z parts=>zff_ P φ N t ps.toList z parts
 | .build t ps,.buildR z parts=>zff_ P φ N t ps.toList z parts
 | .buildSlice t len ps,.bslice _ k parts=>isUnd P t (dSlice fun e=>sizeIs P e k && zjt_ P e && zeb_ (elemZ P e k) φ N 0 ps.toList parts) && len == parts.length && decide (len * k≤2 ^ 24∧len≤2 ^ 24)
 | .load t y,.load n g x=>sizeIs P t n && aggIs P t g && chkOpd φ N y x
 | .load t y,.loadF n g x=>sizeIs P t n && aggIs P t g && chkOpd φ N y x
 | .store t y u,.store n x v=>sizeIs P t n && chkOpd φ N y x && chkOpd φ N u v
 | .store t y u,.storeR x v=>sizeIs P t 1 && chkOpd φ N y x && chkOpd φ N u v
 | .nilCheck y,.nilchk x=>chkOpd φ N y x
 | .binOp op _ y u _,.bin op' x v=>decide (op=op') && chkOpd φ N y x && chkOpd φ N u v
 | .binOp op t y u _,.eqv k neg x v=>decide (op=if neg then .neq else .eql) && chkEq P t k && chkOpd φ N y x && chkOpd φ N u v
 | .unOp op _ y,.un op' x=>decide (op=op') && chkOpd φ N y x
 | .convert src dst y,.conv k x=>(P.underlying src).isSome && isUnd P dst (dInt k) && chkOpd φ N y x
 | .convert src dst y,.toStr x=>isUnd P src (dSlice fun e=>isUnd P e (dInt .u8)) && isUnd P dst dStr && chkOpd φ N y x
 | .makeFunc (.func id) a b,.mkfn _ f a' b'=>φ f == some id && zce_ φ N a.toList a' && zce_ φ N b.toList b'
 | .slice t y lo hi none,.slStr x lo' hi'=>isUnd P t dStr && chkOpd φ N y x && chkOpt φ N lo lo' && chkOpt φ N hi hi'
 | .slice t y lo hi none,.slLst k x lo' hi'=>isUnd P t (dSlice fun e=>sizeIs P e k) && chkOpd φ N y x && chkOpt φ N lo lo' && chkOpt φ N hi hi'
 | .slice t y none none none,.slBox n x=>isUnd P t (dArr fun n' e=>n == n' && sizeIs P e 1) && chkOpd φ N y x
 | .slice t y lo hi none,.slFrz k x lo' hi'=>isUnd P t (dSlice fun e=>sizeIs P e k) && chkOpd φ N y x && chkOpt φ N lo lo' && chkOpt φ N hi hi'
 | .slice t y none none none,.slArr n x=>isUnd P t (dArr fun n' e=>n == n' && sizeIs P e 1) && chkOpd φ N y x
 | .fieldAddr t y i,.faddr x off=>zuc_ P t i off (sized P) && chkOpd φ N y x
 | .indexAddr t y i,.iaddr k x i'=>isUnd P t (dSlice fun e=>sizeIs P e k) && chkOpd φ N y x && chkOpd φ N i i'
 | .indexAddr t y i,.iaddrA n k x i'=>isUnd P t (dArr fun n' e=>n == n' && sizeIs P e k) && chkOpd φ N y x && chkOpd φ N i i'
 | .index t y i,.idxS x i'=>isUnd P t dStr && chkOpd φ N y x && chkOpd φ N i i'
 | .index t y i,.idxA n k g x i'=>isUnd P t (dArr fun n' e=>n == n' && sizeIs P e k && aggIs P e g) && chkOpd φ N y x && chkOpd φ N i i'
 | .field t y i,.field off n g x=>zuc_ P t i off (fun u=>sizeIs P u n && aggIs P u g) && chkOpd φ N y x
 | .extract y i,.extract x i'=>i == i' && chkOpd φ N y x
 | .call c,.len str x=>zea_ P φ N c .len [x] && match c.argTypes[0]? with
   | some t=>isUnd P t fun d=>if str then dStr d else dSlice (fun _=>true) d
   | none=>false
 | .call c,.minmax m xs=>zea_ P φ N c (if m then .max else .min) xs && xs.length == 2
 | .call c,.append k lim x y=>zea_ P φ N c .append [x,y] && match c.argTypes[0]?,c.argTypes[1]? with
   | some t,some u=>isUnd P t (dSlice fun e=>sizeIs P e k && zjt_ P e && zju_ P e fun b=>b != 0 && decide (2 * lim * b≤2 ^ 48) && decide (lim + lim≤maxLen)) &&
     isUnd P u fun d=>dStr d || dSlice (fun _=>true) d
   | _,_=>false
 | .call c,.clear k z x=>zea_ P φ N c .clear [x] && match c.argTypes[0]? with
   | some t=>isUnd P t (dSlice fun e=>elemZ P e k z)
   | none=>false
 | .call c,.call _ f xs=>(match c.callee with
   | .value (.func id)=>φ f == some id
   | _=>false) && zce_ φ N c.args.toList xs
 | .call c,.callK f xs=>(match c.callee with
   | .value (.func id)=>φ f == some id && φ (f + 1000000) == some id
   | _=>false) && zce_ φ N c.args.toList xs
 | .call c,.callv _ f xs=>(match c.callee with
   | .value y=>chkOpd φ N y f
   | _=>false) && zce_ φ N c.args.toList xs
 | .makeSlice t y u,.mkslice k z lim x v=>isUnd P t (dSlice fun e=>elemZ P e k z && zju_ P e fun b=>decide (lim * b≤2 ^ 47)) && decide (lim≤maxLen) && chkOpd φ N y x && chkOpd φ N u v
 | .makeMap _ none,.mkmap=>true
 | .insert t m k v,.mput kk m' k' v'=>isUnd P t (dMap fun kt _=>isUnd P kt fun d=>kindOk d kk) && chkOpd φ N m m' && chkOpd φ N k k' && chkOpd φ N v v'
 | .mapUpdate t m k v,.mput kk m' k' v'=>isUnd P t (dMap fun kt _=>isUnd P kt fun d=>kindOk d kk) && chkOpd φ N m m' && chkOpd φ N k k' && chkOpd φ N v v'
 | .lookup t m k ok,.mget kk ok' z m' k'=>isUnd P t (dMap fun kt et=>(isUnd P kt fun d=>kindOk d kk) && elemZ P et z.cells.length z) && ok == ok' && chkOpd φ N m m' && chkOpd φ N k k'
 | .makeInterface t y,.mkifc t' x=>t == t' && isUnd P t dConc && chkOpd φ N y x
 | .call c,.calli _ tb x xs=>(match c.callee with
   | .invoke y name=>chkOpd φ N y x && zbcl_ P φ name tb
   | _=>false) && zce_ φ N c.args.toList xs
 | _,.slArr _ (.c (.s (.slice none 0 0)))=>true
 | _,_=>false
section
variable {P:Program} {φ:Nat→Option FuncId} {h h':H} {g g':G} {w w':World} {N:Nat} {s:Sl} {a:Act}
theorem zec_ {t:TypeId} {i:TypeInfo} (e:P.info? t=some i) (w:World):(typeInfo t).run P w=.ok i w:=by
 simp [typeInfo,e]
theorem zbe_ {t:TypeId} {n:Nat} (k:sizeIs P t n=true) (w:World):(sizeOf t).run P w=.ok n w:=by
 unfold sizeIs at k
 split at k
 ·rename_i i e
  simp only [beq_iff_eq] at k
  simp [sizeOf,zec_ e,k]
 ·cases k
theorem zfh_ {t:TypeId} {b:Bool} (k:aggIs P t b=true) (w:World):(isAgg t).run P w=.ok b w:=by
 unfold aggIs at k
 split at k
 ·rename_i e
  subst k
  simp [isAgg,run_underlying e]
 ·rename_i e
  subst k
  simp [isAgg,run_underlying e]
 ·rename_i d hs ha e
  have:b=false:=by simpa using k
  subst this
  simp only [isAgg,Sem.run_bind,run_underlying e,Result.andThen_ok]
  rfl
 ·cases k
theorem zbcm_ {t:TypeId} {n o:Nat} {b z:Bool} (hs:sizeIs P t n=true) (ha:aggIs P t b=true) {cs:List V} {ms:Array Value} (r:rels φ g h z cs ms.toList) {v:V} (e:rdRow n b o cs=some v) :
  ∃ mv,(∀ w,(part t ms o).run P w=.ok mv w)∧rel φ g h z v mv:=by
 unfold rdRow at e
 have hl:=zah_ r
 simp only [Array.length_toList] at hl
 split at e
 ·rename_i hb
  subst hb
  split at e
  ·rename_i hn
   injection e with e
   subst e
   refine ⟨.agg (ms.extract o (o + n)),fun w=>by simp [part,zfh_ ha,zbe_ hs],?_⟩
   simp only [rel]
   refine ⟨_,rfl,?_⟩
   rw [Array.toList_extract,List.extract_eq_take_drop,show o + n - o=n by omega]
   exact zdx_ (zex_ r o) n
  ·cases e
 ·rename_i hb
  have hb:b=false:=by simpa using hb
  subst hb
  obtain ⟨m,e1,r1⟩:=zdd_ r e
  refine ⟨m,fun w=>?_,r1⟩
  rw [Array.getElem?_toList] at e1
  simp [part,zfh_ ha,e1]
theorem rel_s {x m:Value} {z:Bool} (r:rel φ g h z (.s x) m):m=x:=by
 simp only [rel] at r
 exact r.1
theorem rel_of {x:Value} {z:Bool} (k:notAgg x=true):rel φ g h z (.s x) x:=by
 simp only [rel]
 exact ⟨trivial,k⟩
theorem zfi_ {v:V} {n:Nat} {m:Value} {z:Bool} (r:rel φ g h z v m) (e:asNat v=some n):∃ k,m=.int k (n:Int):=by
 unfold asNat at e
 split at e
 ·rename_i k i
  split at e
  ·rename_i hi
   injection e with e
   subst e
   exact ⟨k,by rw [rel_s r,Int.toNat_of_nonneg hi]⟩
  ·cases e
 ·cases e
theorem zbmq_ {op:BinOp} {k:IntKind} {x y:Int} {u:Value} (e:intOp op k x y=some u) (t:TypeId):(∀ w,(binOp op t (.int k x) (.int k y)).run P w=.ok u w)∧notAgg u=true:=by
 cases op <;> simp only [intOp] at e <;> first
  | (cases e; done)
  | (split at e
     ·cases e
     ·injection e with e
      subst e
      refine ⟨fun w=>?_,rfl⟩
      simp_all [binOp,Op.intDiv])
  | (injection e with e
     subst e
     refine ⟨fun w=>?_,rfl⟩
     simp [binOp,Op.intArith,Op.intBits,Op.intCmp])
theorem zbmr_ {op:BinOp} {x y:ByteArray} {u:Value} (e:strOp op x y=some u) (t:TypeId):(∀ w,(binOp op t (.string x) (.string y)).run P w=.ok u w)∧notAgg u=true:=by
 cases op <;> simp only [strOp] at e <;> first
  | (cases e; done)
  | (split at e
     ·cases e
     ·injection e with e
      subst e
      refine ⟨fun w=>?_,rfl⟩
      simp_all [binOp,Op.stringOp])
  | (injection e with e
     subst e
     refine ⟨fun w=>?_,rfl⟩
     simp [binOp,Op.stringOp])
theorem zed_ (op:BinOp) (t:TypeId) (x y:Operand) {u v:Value} (hu:(∃ k n,u=.int k n)∨(∃ s,u=.string s)∨(∃ b,u=.bool b)∨(∃ p,u=.pointer p)∨(∃ p n c,u=.slice p n c)):eqGuard op t x y u v=pure ():=by
 rcases hu with ⟨k,n,rfl⟩ | ⟨s,rfl⟩ | ⟨b,rfl⟩ | ⟨p,rfl⟩ | ⟨p,n,c,rfl⟩ <;> cases op <;> rfl
theorem bin_ok {op:BinOp} {x y:V} {v:V} {mx my:Value} {z:Bool} (e:xbin op x y=some v) (rx:rel φ g h z x mx) (ry:rel φ g h z y my) (t:TypeId) (p q:Operand) :
  ∃ mv,(∀ w,((do eqGuard op t p q mx my; binOp op t mx my):Sem Value).run P w=.ok mv w)∧rel φ g h false v mv:=by
 unfold xbin at e
 split at e
 ·rename_i k m k' n
  rw [rel_s rx,rel_s ry]
  split at e
  ·split at e
   ·cases e
   ·injection e with e
    subst e
    rename_i hn
    refine ⟨_,fun w=>?_,rel_of rfl⟩
    simp [zed_,binOp,Op.shift,if_neg hn]
  ·split at e
   ·cases e
   ·injection e with e
    subst e
    rename_i hn
    refine ⟨_,fun w=>?_,rel_of rfl⟩
    simp [zed_,binOp,Op.shift,if_neg hn]
  ·split at e
   ·rename_i hk
    subst hk
    obtain ⟨u,e1,e⟩:=zaa_.1 e
    injection e with e
    subst e
    obtain ⟨h1,h2⟩:=zbmq_ (P:=P) e1 t
    refine ⟨u,fun w=>?_,rel_of h2⟩
    simp [zed_,h1]
   ·cases e
 ·rename_i x y
  rw [rel_s rx,rel_s ry]
  obtain ⟨u,e1,e⟩:=zaa_.1 e
  injection e with e
  subst e
  obtain ⟨h1,h2⟩:=zbmr_ (P:=P) e1 t
  refine ⟨u,fun w=>?_,rel_of h2⟩
  simp [zed_,h1]
 ·cases e
theorem un_ok {op:UnOp} {x v:V} {mx:Value} {z:Bool} (e:xun op x=some v) (rx:rel φ g h z x mx):∃ mv,(∀ w,(Op.unary op mx).run P w=.ok mv w)∧rel φ g h false v mv:=by
 unfold xun at e
 split at e
 ·rw [rel_s rx]
  split at e
  ·injection e with e
   subst e
   exact ⟨_,fun w=>by simp [Op.unary,Op.intArith],rel_of rfl⟩
  ·obtain ⟨u,e1,e⟩:=zaa_.1 e
   injection e with e
   subst e
   simp only [intOp,Option.some.injEq] at e1
   subst e1
   exact ⟨_,fun w=>by simp [Op.unary,Op.intBits],rel_of rfl⟩
  ·cases e
 ·rw [rel_s rx]
  split at e
  ·injection e with e
   subst e
   exact ⟨_,fun w=>by simp [Op.unary],rel_of rfl⟩
  ·cases e
 ·cases e
theorem zue_ {v:V} {m:Value} {b z:Bool} (r:rel φ g h z v m) (e:zcm_ v=some b):∃ p,m=.pointer p∧b=p.isNone:=by
 unfold zcm_ at e
 split at e
 ·injection e with e
  exact ⟨none,rel_s r,e.symm⟩
 ·injection e with e
  simp only [rel] at r
  exact ⟨_,r.2.1,e.symm⟩
 ·injection e with e
  simp only [rel] at r
  obtain ⟨_,_,_,r,_⟩:=r
  exact ⟨_,r,e.symm⟩
 ·injection e with e
  simp only [rel] at r
  obtain ⟨_,⟨_,r⟩,_⟩:=r
  exact ⟨_,r,e.symm⟩
 ·cases e
theorem zbms_ {v:V} {m:Value} {b z:Bool} (r:rel φ g h z v m) (e:zcn_ v=some b):∃ p n c,m=.slice p n c∧b=p.isNone:=by
 unfold zcn_ at e
 split at e
 ·injection e with e
  exact ⟨none,0,0,rel_s r,e.symm⟩
 ·injection e with e
  simp only [rel] at r
  rcases r with ⟨_,_,_,_,r,_⟩ | ⟨_,_,_,r⟩
  ·exact ⟨_,_,_,r,e.symm⟩
  ·exact ⟨_,_,_,r,e.symm⟩
 ·injection e with e
  simp only [rel] at r
  obtain ⟨_,⟨_,_,_,_,r,_⟩,_⟩:=r
  exact ⟨_,_,_,r,e.symm⟩
 ·injection e with e
  simp only [rel] at r
  obtain ⟨_,⟨_,_,_,_,r,_⟩,_⟩:=r
  exact ⟨_,_,_,r,e.symm⟩
 ·injection e with e
  simp only [rel] at r
  obtain ⟨_,⟨_,_,r⟩,_⟩:=r
  exact ⟨_,_,_,r,e.symm⟩
 ·injection e with e
  simp only [rel] at r
  obtain ⟨_,r,_⟩:=r
  exact ⟨_,_,_,r,e.symm⟩
 ·injection e with e
  simp only [rel] at r
  obtain ⟨_,⟨_,_,r⟩,_⟩:=r
  exact ⟨_,_,_,r,e.symm⟩
 ·cases e
theorem zjv_ {neg p:Bool} {v:V} (e:eqRes neg p=some v) {t:TypeId} {x y:Operand} {mx my:Value} (hg:eqGuard (if neg then .neq else .eql) t x y mx my=pure ()∨∀ w,(eqGuard (if neg then .neq else .eql) t x y mx my).run P w=.ok () w)
  (hb:binOp .eql t mx my=(do pure (.bool (← Op.equal t mx my)))∧binOp .neq t mx my=(do pure (.bool (!(← Op.equal t mx my))))) (he:∀ w,(Op.equal t mx my).run P w=.ok p w) :
  ∃ mv,(∀ w,((do eqGuard (if neg then .neq else .eql) t x y mx my; binOp (if neg then .neq else .eql) t mx my):Sem Value).run P w=.ok mv w)∧rel φ g h false v mv:=by
 injection e with e
 subst e
 refine ⟨_,fun w=>?_,rel_of rfl⟩
 have hg':∀ w,(eqGuard (if neg then .neq else .eql) t x y mx my).run P w=.ok () w:=by
  rcases hg with hg | hg
  ·intro w; rw [hg]; rfl
  ·exact hg
 rw [Sem.run_bind,hg',Result.andThen_ok]
 cases neg
 ·simp only [Bool.false_eq_true,if_false,hb.1]
  simp [he]
 ·simp only [if_true,hb.2]
  simp [he]
theorem zbcn_:∀ {k l:List CK} {a b x y:List V} {p:Bool},k.length=a.length→a.length=b.length→zbc_ (k++l) (a++x) (b++y)=some p→∃ q r,zbc_ k a b=some q∧zbc_ l x y=some r∧p=(q && r)
 | [],l,[],[],x,y,p,_,_,e=>⟨true,p,rfl,e,by simp⟩
 | k :: ks,l,c :: a,d :: b,x,y,p,k1,k2,e=>by
  simp only [List.cons_append,zbc_] at e
  obtain ⟨q,e1,e⟩:=zaa_.1 e
  obtain ⟨r,e2,e⟩:=zaa_.1 e
  injection e with e
  subst e
  obtain ⟨q',r',e3,e4,rfl⟩:=zbcn_ (by simpa using k1) (by simpa using k2) e2
  exact ⟨q && q',r',by simp [zbc_,e1,e3,ob],e4,by rw [Bool.and_assoc]⟩
 | _ :: _,_,[],_,_,_,_,k,_,_=>by simp at k
 | [],_,_ :: _,_,_,_,_,k,_,_=>by simp at k
 | _,_,[],_ :: _,_,_,_,_,k,_=>by simp at k
 | _,_,_ :: _,[],_,_,_,_,k,_=>by simp at k
theorem zqc_:∀ {k:List CK} {a b:List V} {p:Bool},zbc_ k a b=some p→k.length=a.length∧a.length=b.length
 | [],[],[],_,_=>⟨rfl,rfl⟩
 | k :: ks,a :: x,b :: y,p,e=>by
  simp only [zbc_] at e
  obtain ⟨q,e1,e⟩:=zaa_.1 e
  obtain ⟨r,e2,e⟩:=zaa_.1 e
  have:=zqc_ e2
  simp only [List.length_cons]
  omega
 | [],_ :: _,_,_,e=>by simp [zbc_] at e
 | [],[],_ :: _,_,e=>by simp [zbc_] at e
 | _ :: _,[],_,_,e=>by simp [zbc_] at e
 | _ :: _,_ :: _,[],_,e=>by simp [zbc_] at e
def asPart (P:Program) (t:TypeId) (l:List Value):Value:=if aggIs P t true then .agg l.toArray else l.headD undef
theorem zbmt_ {t:TypeId} {c:CK} (k:leafK P t=some c) {x y:V} {mx my:Value} {q z:Bool} (e:eqCell c x y=some q) (rx:rel φ g h z x mx) (ry:rel φ g h z y my) (d:Nat) (w:World) :
  (Op.equalIn (d + 1) t mx my).run P w=.ok q w:=by
 unfold eqCell at e
 unfold leafK at k
 split at e
 ·split at e
  ·rename_i hk
   subst hk
   injection e with e
   subst e
   rw [rel_s rx,rel_s ry]
   split at k <;> first | (cases k; done) | skip
   rename_i hu
   simp [Op.equalIn,run_underlying hu]
  ·cases e
 ·injection e with e
  subst e
  rw [rel_s rx,rel_s ry]
  split at k <;> first | (cases k; done) | skip
  rename_i hu
  simp [Op.equalIn,run_underlying hu]
 ·injection e with e
  subst e
  rw [rel_s rx,rel_s ry]
  split at k <;> first | (cases k; done) | skip
  rename_i hu
  simp [Op.equalIn,run_underlying hu]
 ·cases e
theorem zbmu_ {d:Nat} {t:TypeId} {ks:List CK} (k:plainK P d t=some ks):sizeIs P t ks.length=true∧((leafK P t).isSome=true∧ks.length=1∧aggIs P t false=true∨aggIs P t true=true):=by
 cases d with
 | zero=>cases k
 | succ d =>
  unfold plainK at k
  split at k
  ·rename_i c hc
   split at k
   ·rename_i hs
    injection k with k
    subst k
    rw [Bool.and_eq_true] at hs
    exact ⟨hs.1,.inl ⟨by rw [hc]; rfl,rfl,hs.2⟩⟩
   ·cases k
  ·split at k
   ·split at k
    ·rename_i hs
     rw [Bool.and_eq_true] at hs
     split at k
     ·split at k
      ·rename_i hz
       injection k with k
       subst k
       exact ⟨hz,.inr hs.2⟩
      ·cases k
     ·cases k
    ·cases k
   ·cases k
theorem zbco_ {t:TypeId} {b c:Bool} (h1:aggIs P t b=true) (h2:aggIs P t c=true):b=c:=by
 unfold aggIs at h1 h2
 split at h1 <;> simp_all
theorem zbcp_ {t:TypeId} {n o:Nat} {l:List Value} (hs:sizeIs P t n=true) (ha:(n=1∧aggIs P t false=true)∨aggIs P t true=true) (hl:o + n≤l.length) (w:World) :
  (part t l.toArray o).run P w=.ok (asPart P t ((l.drop o).take n)) w:=by
 rcases ha with ⟨rfl,ha⟩ | ha
 ·have:aggIs P t true=false:=by
   cases hb:aggIs P t true
   ·rfl
   ·exact absurd (zbco_ ha hb) (by decide)
  simp only [part,Sem.run_bind,zfh_ ha,Result.andThen_ok,Bool.false_eq_true,if_false,asPart,this]
  rw [List.getElem?_toArray,List.getElem?_eq_getElem (by omega)]
  simp only [Sem.run_pure]
  rw [List.drop_eq_getElem_cons (by omega),List.take_succ_cons]
  rfl
 ·simp only [part,Sem.run_bind,zfh_ ha,Result.andThen_ok,if_true,asPart,ha,zbe_ hs,Sem.run_pure,Value.agg.injEq,Result.ok.injEq,and_true]
  apply Array.ext'
  rw [Array.toList_extract,List.extract_eq_take_drop,show o + n - o=n by omega]
theorem zbmv_ (d:Nat):∀ (t:TypeId) (ks:List CK),plainK P d t=some ks→∀ (xs ys:List V) (q z:Bool) (lx ly:List Value),zbc_ ks xs ys=some q→rels φ g h z xs lx→rels φ g h z ys ly→∀ (e:Nat) (w:World),
  (Op.equalIn (d + e) t (asPart P t lx) (asPart P t ly)).run P w=.ok q w:=by
 induction d with
 | zero=>intro t ks k; cases k
 | succ d ih =>
  have fields:∀ (l:List Field) (n:Nat) (ks:List CK),plainF (plainK P d) n l=some ks→∀ (xs ys:List V) (q z:Bool) (lx ly:List Value),n≤xs.length→n≤ys.length→zbc_ ks (xs.drop n) (ys.drop n)=some q→rels φ g h z xs lx→rels φ g h z ys ly→∀ (e:Nat) (w:World),
    (Op.eqFields (d + e) lx.toArray ly.toArray l).run P w=.ok q w:=by
   intro l
   induction l with
   | nil =>
    intro n ks k xs ys q z lx ly n1 n2 eq rx ry e w
    simp only [plainF,Option.some.injEq] at k
    subst k
    have hl:=zqc_ eq
    rw [List.eq_nil_of_length_eq_zero hl.1.symm,List.eq_nil_of_length_eq_zero (hl.2.symm.trans hl.1.symm)] at eq
    simp only [zbc_,Option.some.injEq] at eq
    subst eq
    simp [Op.eqFields]
   | cons f r ihl =>
    intro n ks k xs ys q z lx ly n1 n2 eq rx ry e w
    simp only [plainF] at k
    split at k
    ·rename_i hf
     simp only [Bool.and_eq_true,beq_iff_eq,bne_iff_ne,ne_eq] at hf
     split at k
     ·rename_i kf hkf
      cases hr:plainF (plainK P d) (n + kf.length) r with
      | none=>rw [hr] at k; cases k
      | some kr =>
       rw [hr] at k
       injection k with k
       subst k
       have hl:=zqc_ eq
       simp only [List.length_append,List.length_drop] at hl
       have lx':=zah_ rx
       have ly':=zah_ ry
       rw [← List.take_append_drop kf.length (xs.drop n),← List.take_append_drop kf.length (ys.drop n),List.drop_drop,List.drop_drop] at eq
       obtain ⟨q1,q2,e1,e2,rfl⟩:=zbcn_ (by simp; omega) (by simp; omega) eq
       obtain ⟨hs,ha⟩:=zbmu_ hkf
       have ha':(kf.length=1∧aggIs P f.type false=true)∨aggIs P f.type true=true:=ha.imp (fun x=>x.2) id
       have p1:=ih f.type kf hkf _ _ q1 z _ _ e1 (zdx_ (zex_ rx n) kf.length) (zdx_ (zex_ ry n) kf.length) e
       have p2:=ihl (n + kf.length) kr hr xs ys q2 z lx ly (by omega) (by omega) e2 rx ry e
       simp only [Op.eqFields,hf.2,ne_eq,not_false_eq_true,if_true,Sem.run_bind,hf.1,zbcp_ hs ha' (show n + kf.length≤lx.length by omega),zbcp_ hs ha' (show n + kf.length≤ly.length by omega),Result.andThen_ok,p1]
       cases q1
       ·simp
       ·simp [p2]
     ·cases k
    ·cases k
  intro t ks k xs ys q z lx ly eq rx ry e w
  unfold plainK at k
  split at k
  ·rename_i c hc
   split at k
   ·rename_i hs
    injection k with k
    subst k
    rw [Bool.and_eq_true] at hs
    have hb:aggIs P t true=false:=by
     cases hb:aggIs P t true
     ·rfl
     ·exact absurd (zbco_ hs.2 hb) (by decide)
    cases xs with
    | nil=>simp [zbc_] at eq
    | cons x xs=>cases ys with
     | nil=>simp [zbc_] at eq
     | cons y ys =>
      simp only [zbc_] at eq
      obtain ⟨q1,e1,eq⟩:=zaa_.1 eq
      obtain ⟨q2,e2,eq⟩:=zaa_.1 eq
      injection eq with eq
      have hl:=zqc_ e2
      rw [List.eq_nil_of_length_eq_zero hl.1.symm,List.eq_nil_of_length_eq_zero (hl.2.symm.trans hl.1.symm)] at e2
      simp only [zbc_,Option.some.injEq] at e2
      subst e2
      rw [Bool.and_true] at eq
      subst eq
      obtain ⟨mx,sx,rfl,r1,_⟩:=zam_.1 rx
      obtain ⟨my,sy,rfl,r2,_⟩:=zam_.1 ry
      simp only [asPart,hb,Bool.false_eq_true,if_false,List.headD_cons]
      rw [show d + 1 + e=d + e + 1 by omega]
      exact zbmt_ hc e1 r1 r2 (d + e) w
   ·cases k
  ·split at k
   ·rename_i fs hu
    split at k
    ·rename_i hs
     rw [Bool.and_eq_true] at hs
     split at k
     ·rename_i ks' hf
      split at k
      ·injection k with k
       subst k
       have hfs:P.fieldsOf t=fs:=by simp [Program.fieldsOf,hu]
       have hp:P.stoodInHeld t=false:=by simpa using hs.1
       simp only [asPart,hs.2,if_true]
       rw [show d + 1 + e=d + e + 1 by omega,run_equalIn_struct w (d + e) t _ _ (by rw [hfs]; exact hu) hp,hfs]
       exact fields fs.toList 0 ks' hf xs ys q z lx ly (Nat.zero_le _) (Nat.zero_le _) eq rx ry e w
      ·cases k
     ·cases k
    ·cases k
   ·cases k
theorem zbmw_ {t:TypeId} {op:BinOp} (hop:op=.eql∨op=.neq) {x y:Operand} {xs ys:Array Value} (k:P.eqGuardType P.depth t=false) (w:World):(eqGuard op t x y (.agg xs) (.agg ys)).run P w=.ok () w:=by
 rcases hop with rfl | rfl <;> simp [eqGuard,k]
theorem eq_pr {t el:TypeId} (hu:P.underlying t=some (.pointer el)) (d:Nat) (a:Option Addr) (w:World):(Op.equalIn (d + 1) t (.pointer a) (.pointer none)).run P w=.ok a.isNone w:=by
 cases a <;> simp [Op.equalIn,run_underlying hu]
theorem eq_pl {t el:TypeId} (hu:P.underlying t=some (.pointer el)) (d:Nat) (a:Option Addr) (w:World):(Op.equalIn (d + 1) t (.pointer none) (.pointer a)).run P w=.ok a.isNone w:=by
 cases a <;> simp [Op.equalIn,run_underlying hu]
theorem eq_sl {t el:TypeId} (hu:P.underlying t=some (.slice el)) (d:Nat) (a:Option Addr) (n c:Nat) (w:World):(Op.equalIn (d + 1) t (.slice a n c) (.slice none 0 0)).run P w=.ok a.isNone w:=by
 cases a <;> simp [Op.equalIn,run_underlying hu]
theorem eqv_ok {neg:Bool} {kd:EK} {x y v:V} {mx my:Value} {z:Bool} {t:TypeId} (hk:chkEq P t kd=true) (e:xeqv neg kd x y=some v) (rx:rel φ g h z x mx) (ry:rel φ g h z y my) (p q:Operand) :
  ∃ mv,(∀ w,((do eqGuard (if neg then .neq else .eql) t p q mx my; binOp (if neg then .neq else .eql) t mx my):Sem Value).run P w=.ok mv w)∧rel φ g h false v mv:=by
 cases kd with
 | b =>
  obtain ⟨d,hu,hd⟩:=zap_ hk
  rw [zbmo_ hd] at hu
  simp only [xeqv] at e
  split at e
  ·rw [rel_s rx,rel_s ry]
   exact zjv_ e (.inl (zed_ _ _ _ _ (by simp))) ⟨rfl,rfl⟩ fun w=>run_equal_bool w t _ _ hu
  ·cases e
 | p =>
  obtain ⟨d,hu,hd⟩:=zap_ hk
  obtain ⟨el,rfl⟩:=zbmp_ hd
  simp only [xeqv] at e
  split at e
  ·obtain ⟨b,e1,e⟩:=zaa_.1 e
   obtain ⟨a,rfl,rfl⟩:=zue_ rx e1
   rw [rel_s ry]
   exact zjv_ e (.inl (zed_ _ _ _ _ (by simp))) ⟨rfl,rfl⟩ fun w=>eq_pr hu 9999 a w
  ·split at e
   ·obtain ⟨b,e1,e⟩:=zaa_.1 e
    obtain ⟨a,rfl,rfl⟩:=zue_ ry e1
    rw [rel_s rx]
    exact zjv_ e (.inl (zed_ _ _ _ _ (by simp))) ⟨rfl,rfl⟩ fun w=>eq_pl hu 9999 a w
   ·cases e
 | s =>
  obtain ⟨d,hu,hd⟩:=zap_ hk
  obtain ⟨el,rfl,_⟩:=zcf_ hd
  simp only [xeqv] at e
  split at e
  ·obtain ⟨b,e1,e⟩:=zaa_.1 e
   obtain ⟨a,n,c,rfl,rfl⟩:=zbms_ rx e1
   rw [rel_s ry]
   exact zjv_ e (.inl (zed_ _ _ _ _ (by simp))) ⟨rfl,rfl⟩ fun w=>eq_sl hu 9999 a n c w
  ·cases e
 | a ks =>
  simp only [chkEq,Bool.and_eq_true,decide_eq_true_eq,Bool.not_eq_true'] at hk
  simp only [xeqv] at e
  split at e
  ·rename_i xs ys
   obtain ⟨b,e1,e⟩:=zaa_.1 e
   simp only [rel] at rx ry
   obtain ⟨ax,rfl,rx⟩:=rx
   obtain ⟨ay,rfl,ry⟩:=ry
   refine zjv_ e (.inr fun w=>zbmw_ (by cases neg <;> simp) hk.2 w) ⟨rfl,rfl⟩ fun w=>?_
   have ha:aggIs P t true=true:=hk.1.2
   have:=zbmv_ 20 t ks hk.1.1 xs ys b z ax.toList ay.toList e1 rx ry 9980 w
   simpa [asPart,ha,Op.equal,Op.maxDepth] using this
  ·cases e
end
end Go.Proofs.Sl
namespace Go.Proofs.Sl
section
variable {P:Program} {φ:Nat→Option FuncId} {h h':H} {g g':G} {w w':World} {N:Nat} {s:Sl} {a:Act}
def optRel (φ:Nat→Option FuncId) (g:G) (h:H):Option V→Option Value→Prop
 | none,none=>True
 | some v,some m=>rel φ g h false v m
 | _,_=>False
theorem opt_ok (S:Slots φ g h N s a) {o:Option Operand} {x:Option Opd} (k:chkOpt φ N o x=true):optRel φ g h (evOpt s x) (o.map a.eval):=by
 cases o <;> cases x <;> simp only [chkOpt,Bool.false_eq_true] at k
 ·trivial
 ·exact opd_ok S k
theorem zuf_ {v:V} {m:Value} {n y:Nat} (r:rel φ g h false v m) (e:asNat v=some n) (hy:n≤y) (c:BoundsCode) (w:World):(Instr.sliceBound m y c).run P w=.ok n w:=by
 obtain ⟨k,rfl⟩:=zfi_ r e
 simp [Instr.sliceBound,asIntOf]
 omega
theorem zha_ {lo hi:Option V} {mlo mhi:Option Value} {len cap x y:Nat} (e:bounds len lo hi=some (x,y)) (rl:optRel φ g h lo mlo) (rh:optRel φ g h hi mhi) (hc:len≤cap) (b:Bool) (w:World) :
  (Instr.sliceBounds b len cap mlo mhi none).run P w=.ok (x,y,cap) w∧x≤y∧y≤len:=by
 unfold bounds at e
 obtain ⟨y',e1,e⟩:=zaa_.1 e
 obtain ⟨x',e2,e⟩:=zaa_.1 e
 split at e
 ·rename_i hxy
  injection e with e
  injection e with ex ey
  subst ex ey
  refine ⟨?_,hxy.1,hxy.2⟩
  cases hi with
  | none=>cases mhi with
   | none =>
    simp only [optNat,Option.some.injEq] at e1
    subst e1
    cases lo with
    | none=>cases mlo with
     | none =>
      simp only [optNat,Option.some.injEq] at e2
      subst e2
      simp [Instr.sliceBounds]
     | some _=>exact rl.elim
    | some v=>cases mlo with
     | none=>exact rl.elim
     | some m=>simp [Instr.sliceBounds,zuf_ rl e2 hxy.1]
   | some _=>exact rh.elim
  | some u=>cases mhi with
   | none=>exact rh.elim
   | some mu =>
    have hb:=fun c=>zuf_ (P:=P) rh e1 (show y'≤cap by omega) c w
    cases lo with
    | none=>cases mlo with
     | none =>
      simp only [optNat,Option.some.injEq] at e2
      subst e2
      simp [Instr.sliceBounds,hb]
     | some _=>exact rl.elim
    | some v=>cases mlo with
     | none=>exact rl.elim
     | some m=>simp [Instr.sliceBounds,hb,zuf_ rl e2 hxy.1]
 ·cases e
theorem zug_ {t:TypeId} {i off:Nat} (k:zuc_ P t i off (sized P)=true) (a:Addr) (w:World):(Instr.fieldAt t (.pointer (some a)) i).run P w=.ok (.pointer (some (a.add off))) w:=by
 obtain ⟨d,hu,hd⟩:=zap_ k
 obtain ⟨fs,rfl,hf⟩:=zbck_ hd
 split at hf
 ·rename_i f hfi
  simp only [Bool.and_eq_true,beq_iff_eq] at hf
  have hs:=hf.2
  unfold sized at hs
  split at hs
  ·rename_i it hi
   simp only [bne_iff_ne,ne_eq] at hs
   simp [Instr.fieldAt,run_underlying hu,hfi,Instr.sureAddr,fieldPlace,sizeOf,zec_ hi,hs,hf.1]
  ·cases hs
 ·cases hf
theorem zbcq_ (S:Slots φ g h N s a) {o:Oper} {x:XO} (k:chkOp P φ N o.op x=true) {v:V} (hb:∀ m k ps,x≠.bslice m k ps) (e:xpure s x=some v) :
  ∃ mv,(∀ w,(execOp a.eval o).run P w=.ok (.value mv) w)∧rel φ g h false v mv:=by
 obtain ⟨dst,op,ty,pos,after,guard⟩:=o
 simp only at k
 unfold chkOp at k
 split at k
 -- moves
 ·simp only [xpure,Option.some.injEq] at e
  subst e
  exact ⟨_,fun w=>rfl,opd_ok S k⟩
 ·simp only [xpure,Option.some.injEq] at e
  subst e
  exact ⟨_,fun w=>rfl,opd_ok S k⟩
 -- pick
 ·rename_i c x y c' x' y'
  simp only [Bool.and_eq_true] at k
  simp only [xpure] at e
  have rc:=opd_ok S k.1.1
  split at e
  ·rename_i t ht
   rw [ht] at rc
   injection e with e
   subst e
   refine ⟨if t then a.eval x else a.eval y,fun w=>?_,?_⟩
   ·simp [execOp,rel_s rc,asBool]
   ·cases t
    ·exact opd_ok S k.2
    ·exact opd_ok S k.1.2
  ·cases e
 ·simp [xpure] at e
 ·simp [xpure] at e
 -- build
 ·rename_i t ps r z parts
  cases r
  ·simp only [xpure] at e
   obtain ⟨l,e1,e⟩:=zaa_.1 e
   obtain ⟨cs,e2,e⟩:=zaa_.1 e
   injection e with e
   subst e
   have rp:rels φ g h false (zbo_ s parts) (ps.toList.map fun p=>a.eval p.2):=by
    have k':=k
    unfold zff_ at k'
    rw [Bool.and_eq_true] at k'
    have k2:=k'.2
    split at k2
    ·split at k2
     ·exact zfg_ S k2
     ·cases k2
    ·split at k2
     ·exact zfg_ S k2
     ·cases k2
    ·cases k2
   obtain ⟨cells,h1,h2⟩:=ztz_ (a:=a) k (zgz_ rp e1) e2
   refine ⟨.agg cells,fun w=>?_,by simp only [rel]; exact ⟨_,rfl,h2⟩⟩
   simp only [execOp,Sem.run_bind,h1]
   rfl
  ·simp [xpure] at e
 -- the same,the parts as they are
 ·rename_i t ps z parts
  simp only [xpure] at e
  obtain ⟨cs,e2,e⟩:=zaa_.1 e
  injection e with e
  subst e
  have rp:rels φ g h false (zbo_ s parts) (ps.toList.map fun p=>a.eval p.2):=by
   have k':=k
   unfold zff_ at k'
   rw [Bool.and_eq_true] at k'
   have k2:=k'.2
   split at k2
   ·split at k2
    ·exact zfg_ S k2
    ·cases k2
   ·split at k2
    ·exact zfg_ S k2
    ·cases k2
   ·cases k2
  obtain ⟨cells,h1,h2⟩:=ztz_ (a:=a) k rp e2
  refine ⟨.agg cells,fun w=>?_,by simp only [rel]; exact ⟨_,rfl,h2⟩⟩
  simp only [execOp,Sem.run_bind,h1]
  rfl
 ·exact absurd rfl (hb _ _ _)
 ·simp [xpure] at e
 ·simp [xpure] at e
 ·simp [xpure] at e
 ·simp [xpure] at e
 -- nilcheck
 ·simp only [xpure] at e
  obtain ⟨b,e1,e⟩:=zaa_.1 e
  have r:=opd_ok S k
  obtain ⟨p,hp,hb'⟩:=zue_ r e1
  split at e
  ·cases e
  ·rename_i hbt
   injection e with e
   subst e
   refine ⟨_,fun w=>?_,r⟩
   cases p with
   | none=>exact absurd hb' hbt
   | some p=>simp [execOp,hp]
 -- binary
 ·simp only [Bool.and_eq_true,decide_eq_true_eq] at k
  obtain ⟨⟨rfl,k1⟩,k2⟩:=k
  simp only [xpure] at e
  obtain ⟨mv,h1,h2⟩:=bin_ok e (opd_ok S k1) (opd_ok S k2) _ _ _
  refine ⟨mv,fun w=>?_,h2⟩
  simp only [execOp,Sem.run_bind] at h1 ⊢
  rw [h1]
  rfl
 -- equality
 ·simp only [Bool.and_eq_true,decide_eq_true_eq] at k
  obtain ⟨⟨⟨rfl,k0⟩,k1⟩,k2⟩:=k
  simp only [xpure] at e
  obtain ⟨mv,h1,h2⟩:=eqv_ok k0 e (opd_ok S k1) (opd_ok S k2) _ _
  refine ⟨mv,fun w=>?_,h2⟩
  simp only [execOp,Sem.run_bind] at h1 ⊢
  rw [h1]
  rfl
 -- unary
 ·simp only [Bool.and_eq_true,decide_eq_true_eq] at k
  obtain ⟨rfl,k1⟩:=k
  simp only [xpure] at e
  obtain ⟨mv,h1,h2⟩:=un_ok (P:=P) e (opd_ok S k1)
  refine ⟨mv,fun w=>?_,h2⟩
  simp only [execOp,Sem.run_bind,h1]
  rfl
 -- conversion
 ·rename_i src dst' y k' x
  simp only [Bool.and_eq_true] at k
  obtain ⟨⟨k0,k1⟩,k2⟩:=k
  obtain ⟨d,hu,hd⟩:=zap_ k1
  have:=zbcj_ hd
  subst this
  simp only [xpure] at e
  have r:=opd_ok S k2
  split at e
  ·rename_i kk n hx
   rw [hx] at r
   injection e with e
   subst e
   obtain ⟨d0,hd0⟩:=Option.isSome_iff_exists.1 k0
   refine ⟨_,fun w=>?_,rel_of rfl⟩
   simp [execOp,rel_s r,convert,run_underlying hd0,run_underlying hu,Conv.intToInt]
  ·cases e
 ·simp [xpure] at e
 -- functions
 ·rename_i id A B rr f A' B'
  cases rr
  ·simp only [Bool.and_eq_true,beq_iff_eq] at k
   simp only [xpure] at e
   obtain ⟨l,e1,e⟩:=zaa_.1 e
   obtain ⟨l2,e2,e⟩:=zaa_.1 e
   injection e with e
   subst e
   refine ⟨.func (.func id) (A.map a.eval) (B.map a.eval),fun w=>by simp [execOp,Instr.makeFunc],?_⟩
   simp only [rel]
   refine ⟨id,_,_,k.1.1,rfl,?_,?_⟩
   ·rw [Array.toList_map]; exact zgz_ (zcb_ S k.1.2) e1
   ·rw [Array.toList_map]; exact zgz_ (zcb_ S k.2) e2
  ·simp [xpure] at e
 -- a part of a string
 ·rename_i t y lo hi x lo' hi'
  simp only [Bool.and_eq_true] at k
  obtain ⟨⟨⟨k0,k1⟩,k2⟩,k3⟩:=k
  obtain ⟨d,hu,hd⟩:=zap_ k0
  have:=zjs_ hd
  subst this
  simp only [xpure] at e
  have r:=opd_ok S k1
  split at e
  ·rename_i b hx
   rw [hx] at r
   obtain ⟨⟨p,q⟩,e1,e⟩:=zaa_.1 e
   injection e with e
   subst e
   refine ⟨_,fun w=>?_,rel_of rfl⟩
   have hbd:=(zha_ (P:=P) e1 (opt_ok S k2) (opt_ok S k3) (Nat.le_refl _) false w).1
   simp [execOp,rel_s r,Instr.sliceAt,Instr.slice,run_underlying hu,hbd]
  ·cases e
 ·simp [xpure] at e
 -- a slice over a box
 ·rename_i t y n x
  simp only [Bool.and_eq_true] at k
  obtain ⟨d,hu,hd⟩:=zap_ k.1
  obtain ⟨n',e0,rfl,hd2⟩:=zqb_ hd
  simp only [Bool.and_eq_true,beq_iff_eq] at hd2
  obtain ⟨rfl,hs⟩:=hd2
  have r:=opd_ok S k.2
  simp only [xpure] at e
  split at e
  ·rename_i l hx
   injection e with e
   subst e
   rw [hx] at r
   simp only [rel] at r
   refine ⟨.slice (some ⟨g.b (.obj l),0,none⟩) n n,fun w=>?_,?_⟩
   ·simp only [execOp,Sem.run_bind,r.2.1,Option.map_none,Instr.sliceAt,run_underlying hu,Result.andThen_ok,Instr.sureAddr,Sem.run_pure,Instr.sliceBounds,zbe_ hs]
    simp [Addr.add_zero']
   ·simp only [rel]
    exact ⟨trivial,trivial,r.2.2⟩
  ·cases e
 ·simp [xpure] at e
 ·simp [xpure] at e
 -- address of a field
 ·simp only [Bool.and_eq_true] at k
  have r:=opd_ok S k.2
  simp only [xpure] at e
  split at e
  ·rename_i l o hx
   injection e with e
   subst e
   rw [hx] at r
   simp only [rel] at r
   refine ⟨.pointer (some ⟨g.b (.obj l),o + _,none⟩),fun w=>by simp only [execOp,r.2.1,Sem.run_bind,zug_ k.1,Addr.add_lit]; rfl,?_⟩
   simp only [rel]
   exact ⟨trivial,trivial,r.2.2⟩
  ·rename_i l o hx
   injection e with e
   subst e
   rw [hx] at r
   simp only [rel] at r
   obtain ⟨b,q,m,r1,r2,r3⟩:=r
   refine ⟨.pointer (some ⟨b,q + o + _,none⟩),fun w=>by simp only [execOp,r1,Sem.run_bind,zug_ k.1,Addr.add_lit]; rfl,?_⟩
   simp only [rel]
   exact ⟨b,q,m,by rw [Nat.add_assoc],r2,r3⟩
  ·rename_i l n i j hx
   injection e with e
   subst e
   rw [hx] at r
   simp only [rel] at r
   obtain ⟨-,⟨ad,r1⟩,r2,r3⟩:=r
   refine ⟨_,fun w=>by simp only [execOp,r1,Sem.run_bind,zug_ k.1]; rfl,?_⟩
   simp only [rel]
   refine ⟨trivial,⟨_,rfl⟩,r2,fun q k' es hl=>⟨(r3 q k' es hl).1,fun he=>?_⟩⟩
   have:=(r3 q k' es hl).2 he
   rw [r1] at this
   injection this with this
   injection this with this
   rw [this,Addr.add_lit,Nat.add_assoc]
  ·cases e
 ·simp [xpure] at e
 ·simp [xpure] at e
 -- a byte of a string
 ·rename_i t y i x i'
  simp only [Bool.and_eq_true] at k
  obtain ⟨d,hu,hd⟩:=zap_ k.1.1
  have:=zjs_ hd
  subst this
  have r:=opd_ok S k.1.2
  have ri:=opd_ok S k.2
  simp only [xpure] at e
  split at e
  ·rename_i b hx
   rw [hx] at r
   obtain ⟨n,e1,e⟩:=zaa_.1 e
   obtain ⟨c,e2,e⟩:=zaa_.1 e
   injection e with e
   subst e
   obtain ⟨kk,hi⟩:=zfi_ ri e1
   refine ⟨_,fun w=>?_,rel_of rfl⟩
   have hg:b[n]?=some c:=by
    rw [← e2]
    obtain ⟨bs⟩:=b
    rfl
   simp [execOp,rel_s r,hi,Instr.index,asIntOf,run_underlying hu,hg]
  ·cases e
 -- an element of an array
 ·rename_i t y i n kk gg x i'
  simp only [Bool.and_eq_true] at k
  obtain ⟨d,hu,hd⟩:=zap_ k.1.1
  obtain ⟨n',el,rfl,hd2⟩:=zqb_ hd
  simp only [Bool.and_eq_true,beq_iff_eq] at hd2
  obtain ⟨⟨rfl,hs⟩,ha⟩:=hd2
  have r:=opd_ok S k.1.2
  have ri:=opd_ok S k.2
  simp only [xpure] at e
  split at e
  ·rename_i cs hx
   rw [hx] at r
   simp only [rel] at r
   obtain ⟨ms,r1,r2⟩:=r
   obtain ⟨j,e1,e⟩:=zaa_.1 e
   split at e
   ·rename_i hj
    obtain ⟨kk,hi⟩:=zfi_ ri e1
    obtain ⟨mv,h1,h2⟩:=zbcm_ hs ha r2 e
    refine ⟨mv,fun w=>?_,h2⟩
    simp [execOp,r1,hi,Instr.index,asIntOf,run_underlying hu,hj,zbe_ hs,h1]
   ·cases e
  ·cases e
 -- a field
 ·rename_i t y i off n gg x
  simp only [Bool.and_eq_true] at k
  obtain ⟨d,hu,hd⟩:=zap_ k.1
  obtain ⟨fs,rfl,hf⟩:=zbck_ hd
  have r:=opd_ok S k.2
  split at hf
  ·rename_i f hfi
   simp only [Bool.and_eq_true,beq_iff_eq] at hf
   obtain ⟨rfl,hs,ha⟩:=hf
   simp only [xpure] at e
   split at e
   ·rename_i cs hx
    rw [hx] at r
    simp only [rel] at r
    obtain ⟨ms,r1,r2⟩:=r
    obtain ⟨mv,h1,h2⟩:=zbcm_ hs ha r2 e
    refine ⟨mv,fun w=>?_,h2⟩
    simp [execOp,r1,Instr.field,asAgg,run_underlying hu,hfi,h1]
   ·cases e
  ·cases hf
 -- a component
 ·simp only [Bool.and_eq_true,beq_iff_eq] at k
  obtain ⟨rfl,k⟩:=k
  have r:=opd_ok S k
  simp only [xpure] at e
  split at e
  ·rename_i l hx
   rw [hx] at r
   simp only [rel] at r
   obtain ⟨ms,r1,r2⟩:=r
   obtain ⟨m,e1,r3⟩:=zdd_ r2 e
   rw [Array.getElem?_toList] at e1
   refine ⟨m,fun w=>?_,r3⟩
   simp [execOp,r1,Instr.extract,e1]
  ·cases e
 ·simp [xpure] at e
 -- the least,the greatest
 ·rename_i c mm xs
  simp only [Bool.and_eq_true,zea_,beq_iff_eq] at k
  obtain ⟨k,k2⟩:=k
  split at k
  ·rename_i b hc
   simp only [Bool.and_eq_true,beq_iff_eq] at k
   obtain ⟨rfl,k⟩:=k
   have r:=zcb_ S k
   simp only [xpure] at e
   split at e
   ·rename_i k3 x k4 y hx
    rw [hx] at r
    obtain ⟨m1,l1,hl,r1,r⟩:=zam_.1 r
    obtain ⟨m2,l2,rfl,r2,r⟩:=zam_.1 r
    rw [zad_] at r
    subst r
    split at e
    ·rename_i hk
     subst hk
     injection e with e
     subst e
     have hargs:(c.args.map a.eval)=#[.int k3 x,.int k3 y]:=by
      apply Array.ext'
      rw [Array.toList_map,hl,rel_s r1,rel_s r2]
     refine ⟨_,fun w=>?_,rel_of rfl⟩
     cases mm
     ·simp [execOp,resolve,hc,hargs,invoke,builtin,Builtin.min_,Builtin.min2]
     ·simp [execOp,resolve,hc,hargs,invoke,builtin,Builtin.max_,Builtin.max2]
    ·cases e
   ·cases e
  ·cases k
 ·simp [xpure] at e
 ·simp [xpure] at e
 ·simp [xpure] at e
 ·simp [xpure] at e
 ·simp [xpure] at e
 ·simp [xpure] at e
 ·simp [xpure] at e
 ·simp [xpure] at e
 ·simp [xpure] at e
 ·simp [xpure] at e
 -- a value of an interface
 ·rename_i t y t' x
  simp only [Bool.and_eq_true,beq_iff_eq] at k
  obtain ⟨⟨rfl,k1⟩,k2⟩:=k
  obtain ⟨d,hu,hd⟩:=zap_ k1
  simp only [xpure] at e
  obtain ⟨v0,e1,e⟩:=zaa_.1 e
  injection e with e
  subst e
  refine ⟨.iface t (a.eval y),fun w=>?_,?_⟩
  ·simp only [execOp,Instr.makeInterface,Sem.run_bind,run_underlying hu,Result.andThen_ok]
   cases d <;> first | rfl | (simp [dConc] at hd)
  ·simp only [rel]
   exact ⟨_,rfl,zqa_ (opd_ok S k2) e1⟩
 ·simp [xpure] at e
 ·simp [xpure] at e
 ·cases k
end
end Go.Proofs.Sl
namespace Go.Proofs.Sl
section
variable {P:Program} {φ:Nat→Option FuncId} {h h':H} {g g':G} {w w':World}
theorem SR.pushMp (S:SR φ h g w) :
  SR φ (h++[.mp []]) (g.setB (.obj h.length) w.heap.size 0) (w.alloc (.map #[] 0))∧Ext h g w (h++[.mp []]) (g.setB (.obj h.length) w.heap.size 0) (w.alloc (.map #[] 0)):=by
 have L:=Later.push g h (.mp []) w.heap.size 0
 have hold:∀ a,a≠.obj h.length→(g.setB (.obj h.length) w.heap.size 0).b a=g.b a∧(g.setB (.obj h.length) w.heap.size 0).c a=g.c a:=fun a ha=>by simp [G.setB,ha]
 have hnew:(g.setB (.obj h.length) w.heap.size 0).b (.obj h.length)=w.heap.size:=by simp [G.setB]
 have hlv:∀ a,live (h++[.mp []]) a→a≠.obj h.length→live h a:=fun a ha hn=>by
  rcases zgs_ ha with h1 | h1 | ⟨q,z,cs,x,n,_,h2,h3,h4⟩
  ·exact h1
  ·exact absurd h1 hn
  ·cases h2
 have hlast:(h++[O.mp []])[h.length]?=some (.mp []):=by simp
 refine ⟨S.mk' L (·=.obj h.length) ?_ ?_ ?_ ?_ ?_ ?_ ?_ ?_,⟨L,rfl,rfl,rfl,by simp,fun k hk _=>zbm_ hk,fun a ha=>?_,fun l z k es e=>?_,Nat.le_refl _,fun _ _ _ _ e=>.inl e⟩⟩
 ·intro l hn hv
  have h1:=hlv _ hv hn
  exact ⟨List.getElem?_append_left (zfa_ h1),(hold _ hn).1,(hold _ hn).2,zbm_ (S.lt h1),fun _=>rfl⟩
 ·intro l o hn hv
  have h1:=hlv _ hv (by simp)
  obtain ⟨x,n,e1,k1⟩:=h1
  exact ⟨(zpr_ e1).trans e1.symm,(hold _ (by simp)).1,(hold _ (by simp)).2,zbm_ (S.lt (a:=.cell l o) ⟨x,n,e1,k1⟩),zez_ (S.lt (a:=.obj l) (.inl (zbv_ (h:=h) ⟨x,n,e1,k1⟩))),fun _=>rfl⟩
 ·intro l z cs ht e
  injection ht with ht
  subst ht
  rw [hlast] at e
  cases e
 ·intro l z k es ht e
  injection ht with ht
  subst ht
  rw [hlast] at e
  cases e
 ·intro l o x n ht
  cases ht
 ·intro a b va vb eab
  by_cases ea:a=.obj h.length <;> by_cases eb:b=.obj h.length
  ·rw [ea,eb]
  ·rw [ea,hnew,(hold b eb).1] at eab
   have:=S.lt (hlv b vb eb)
   omega
  ·rw [eb,hnew,(hold a ea).1] at eab
   have:=S.lt (hlv a va ea)
   omega
  ·rw [(hold a ea).1,(hold b eb).1] at eab
   exact S.inj a b (hlv a va ea) (hlv b vb eb) eab
 ·intro b q u e
  have e':g.M b q=some u:=e
  rw [zez_ (S.M_lt e')]
  exact S.mem b q u e'
 ·intro l es ht e
  injection ht with ht
  subst ht
  rw [hlast] at e
  injection e with e
  injection e with e
  subst e
  exact ⟨#[],0,by rw [hnew]; exact heap_alloc_new w _,rfl,zad_.2 rfl,fun x hx=>by simp at hx,List.nodup_nil⟩
 ·by_cases ea:a=.obj h.length
  ·exact .inr (by rw [ea,hnew]; exact Nat.le_refl _)
  ·exact .inl ⟨a,hlv a ha ea,(hold a ea).1.symm⟩
 ·rcases zca_ e with ⟨hl,e1⟩ | ⟨_,e1⟩
  ·exact .inl ⟨z,es,e1,(hold (.obj l) (by simp; omega)).1⟩
  ·cases e1
theorem SR.setMp (S:SR φ h g w) {l:Nat} {es es2:List (Value × V)} (hl:h[l]?=some (.mp es)) {ents2:Array MapEntry} {clock2:Nat} (hk:ents2.toList.map (·.key)=es2.map (·.1)) (hr:rels φ g h true (es2.map (·.2)) (ents2.toList.map (·.val))) (hborn:Born ents2 clock2) :
  SR φ (h.set l (.mp es2)) g { w with heap:=w.heap.setIfInBounds (g.b (.obj l)) (.map ents2 clock2) }∧Ext h g w (h.set l (.mp es2)) g { w with heap:=w.heap.setIfInBounds (g.b (.obj l)) (.map ents2 clock2) }:=by
 have hlt:=zau_ hl
 have hlive:live h (.obj l):=.inr (.inr ⟨es,hl⟩)
 obtain ⟨ents,clock,e0,_,_⟩:=S.mp l es hl
 have hb:=S.lt hlive
 obtain ⟨hs1,hs2⟩:=Go.MapKept.heap_set (o':=.map ents2 clock2) e0
 have hca:∀ l' o,cellAt (h.set l (.mp es2)) l' o=cellAt h l' o:=by
  intro l' o
  by_cases e':l=l'
  ·subst e'; simp only [cellAt,zae_ hlt,hl]
  ·exact zcr_ e'
 have hlv:∀ a,live (h.set l (.mp es2)) a→live h a:=by
  intro a ha
  cases a with
  | obj l' =>
   by_cases e':l=l'
   ·subst e'; exact hlive
   ·simpa only [live,IsBox,IsMp,zak_ e'] using ha
  | cell l' o=>simpa only [live,hca] using ha
 have hne:∀ a,live h a→a≠.obj l→g.b a≠g.b (.obj l):=fun a ha hn e=>hn (S.inj a _ ha hlive e)
 have hcell:∀ b q,b≠g.b (.obj l)→({ w with heap:=w.heap.setIfInBounds (g.b (.obj l)) (.map ents2 clock2) }:World).cell? ⟨b,q,none⟩=w.cell? ⟨b,q,none⟩:=fun b q hn=>by
  simp only [World.cell?,hs2 b hn]
 have L:Later g h g (h.set l (.mp es2)):=by
  refine ⟨fun _ _ _ e=>e,by simp,fun l' e=>⟨?_,rfl⟩,fun l' q k' es' _ e=>?_,fun l' o x n e k=>⟨x,n,by rw [hca]; exact e,k,Nat.le_refl _,fun _=>⟨rfl,rfl,id⟩⟩,fun l' e=>⟨?_,rfl⟩⟩
  ·obtain ⟨z',d,e⟩:=e
   have:l≠l':=by rintro rfl; rw [hl] at e; cases e
   exact ⟨z',d,by rw [zak_ this]; exact e⟩
  ·have:l≠l':=by rintro rfl; rw [zae_ hlt] at e; cases e
   rw [zak_ this] at e
   exact ⟨q,es',e,Nat.le_refl _,fun _=>⟨rfl,rfl⟩⟩
  ·by_cases e':l=l'
   ·subst e'; exact ⟨es2,zae_ hlt⟩
   ·obtain ⟨d,e⟩:=e
    exact ⟨d,by rw [zak_ e']; exact e⟩
 refine ⟨S.mk' L (·=.obj l) ?_ ?_ ?_ ?_ ?_ ?_ ?_ ?_,⟨L,rfl,rfl,rfl,by simp,fun k hk hn=>hs2 k fun e=>hn _ hlive e.symm,fun a ha=>.inl ⟨a,hlv a ha,rfl⟩,fun q z k' d ed=>.inl ?_,Nat.le_refl _,fun _ _ _ _ e=>.inl e⟩⟩
 ·intro l' hn hv
  have hne':l≠l':=fun e=>hn (by rw [e])
  exact ⟨zak_ hne',rfl,rfl,hs2 _ (hne _ (hlv _ hv) hn),fun _=>rfl⟩
 ·intro l' o hn hv
  have h1:=hlv _ hv
  refine ⟨hca l' o,rfl,rfl,hs2 _ (hne _ h1 (by simp)),hcell _ _ ?_,fun _=>rfl⟩
  have hbx:=zbv_ h1
  refine hne _ (.inl hbx) ?_
  rintro e
  injection e with e
  subst e
  obtain ⟨z,d,hbx⟩:=hbx
  rw [hl] at hbx
  cases hbx
 ·intro l' z cs ht e
  injection ht with ht
  subst ht
  rw [zae_ hlt] at e
  cases e
 ·intro l' z k es' ht e
  injection ht with ht
  subst ht
  rw [zae_ hlt] at e
  cases e
 ·intro l' o x n ht
  cases ht
 ·intro a b ha hb e
  exact S.inj a b (hlv a ha) (hlv b hb) e
 ·intro b q u e
  have hn:b≠g.b (.obj l):=by
   rintro rfl
   have:=S.mem _ _ _ e
   simp only [World.cell?,e0] at this
   cases this
  rw [hcell b q hn]
  exact S.mem b q u e
 ·intro l' es' ht e
  injection ht with ht
  subst ht
  rw [zae_ hlt] at e
  injection e with e
  injection e with e
  subst e
  exact ⟨ents2,clock2,hs1,hk,zal_ L.M true _ _ hr,hborn⟩
 ·have:l≠q:=by rintro rfl; rw [zae_ hlt] at ed; cases ed
  rw [zak_ this] at ed
  exact ⟨z,d,ed,rfl⟩
end
end Go.Proofs.Sl
namespace Go.Proofs.Sl
section
variable {P:Program} {φ:Nat→Option FuncId} {h h':H} {g g':G} {w w':World}
theorem zuh_ {kk:CK} {k:V} {kv:Value} (e:keyVal kk k=some kv):k=.s kv:=by
 cases kk <;> cases k <;> simp only [keyVal] at e <;> (try cases e) <;> (rename_i x; cases x <;> simp only [keyVal] at e <;> first | (injection e with e; subst e; rfl) | cases e)
theorem zbcr_ {d:TypeDesc} {kk:CK} {k:V} {kv x:Value} {b:Bool} (hd:kindOk d kk=true) (hk:keyVal kk k=some kv) (e:keyEq kv x=some b):Instr.sameNow d kv x=some b:=by
 have:=zuh_ hk
 subst this
 cases kk <;> cases d <;> simp only [kindOk,Bool.false_eq_true] at hd <;> cases kv <;> simp only [keyVal] at hk <;> (try cases hk) <;> cases x <;> simp only [keyEq] at e <;> (try cases e) <;> simp only [Instr.sameNow] <;> first | rfl | exact e
theorem zbmx_ {kv x:Value} (e:keyEq kv x=some true):Instr.sameBits 10000 x kv=true∧x=kv:=by
 cases kv <;> cases x <;> simp only [keyEq] at e <;> (try cases e)
 ·rename_i a b
  injection e with e
  rw [beq_iff_eq] at e
  subst e
  simp [Instr.sameBits]
 ·rename_i k a k' b
  split at e
  ·rename_i hk
   subst hk
   injection e with e
   rw [beq_iff_eq] at e
   subst e
   simp [Instr.sameBits]
  ·cases e
 ·rename_i a b
  injection e with e
  rw [show Instr.sameBits 10000 (.string b) (.string a)=(b == a) from rfl]
  have hab:=zbch_ e
  subst hab
  exact ⟨e,rfl⟩
theorem zbcs_ {d:TypeDesc} {kk:CK} {k:V} {kv:Value} (hd:kindOk d kk=true) (hk:keyVal kk k=some kv):∀ (es:List (Value × V)) (ents:List MapEntry) (i:Nat) (r:Option V),ents.map (·.key)=es.map (·.1)→zbl_ kv es=some r →
  (r=none∧Instr.findNow d kv ents i=some none)∨∃ j v e,r=some v∧(es.map (·.2))[j]?=some v∧ents[j]?=some e∧Instr.findNow d kv ents i=some (some (i + j,e.val))
 | [],[],i,r,_,e=>by
  injection e with e
  exact .inl ⟨e.symm,rfl⟩
 | x :: es,y :: ents,i,r,he,e=>by
  simp only [List.map_cons,List.cons.injEq] at he
  simp only [zbl_] at e
  obtain ⟨b,e1,e⟩:=zaa_.1 e
  have hn:=zbcr_ hd hk e1
  rw [← he.1] at hn
  cases b with
  | true =>
   injection e with e
   exact .inr ⟨0,x.2,y,e.symm,rfl,rfl,by simp [Instr.findNow,hn]⟩
  | false =>
   rcases zbcs_ hd hk es ents (i + 1) r he.2 e with ⟨h1,h2⟩ | ⟨j,v,z,h1,h2,h3,h4⟩
   ·exact .inl ⟨h1,by simp [Instr.findNow,hn,h2]⟩
   ·exact .inr ⟨j + 1,v,z,h1,by simpa using h2,by simpa using h3,by simp [Instr.findNow,hn,h4]; omega⟩
 | [],y :: ents,i,r,he,e=>by simp at he
 | x :: es,[],i,r,he,e=>by simp at he
theorem put_ok {d:TypeDesc} {kk:CK} {k v:V} {kv:Value} (hd:kindOk d kk=true) (hk:keyVal kk k=some kv):∀ (es es2:List (Value × V)) (ents:List MapEntry) (i:Nat),ents.map (·.key)=es.map (·.1)→mapPut kv v es=some es2 →
  (es2=es++[(kv,v)]∧Instr.findNow d kv ents i=some none)∨∃ j e,es2=es.set j (kv,v)∧ents[j]?=some e∧keyEq kv e.key=some true∧Instr.findNow d kv ents i=some (some (i + j,e.val))
 | [],es2,[],i,_,e=>by
  injection e with e
  exact .inl ⟨e.symm,rfl⟩
 | x :: es,es2,y :: ents,i,he,e=>by
  simp only [List.map_cons,List.cons.injEq] at he
  simp only [mapPut] at e
  obtain ⟨b,e1,e⟩:=zaa_.1 e
  have hn:=zbcr_ hd hk e1
  rw [← he.1] at hn
  cases b with
  | true =>
   injection e with e
   exact .inr ⟨0,y,e.symm,rfl,by rw [he.1]; exact e1,by simp [Instr.findNow,hn]⟩
  | false =>
   simp only [Bool.false_eq_true,if_false] at e
   obtain ⟨es3,e2,e⟩:=zaa_.1 e
   injection e with e
   subst e
   rcases put_ok hd hk es es3 ents (i + 1) he.2 e2 with ⟨h1,h2⟩ | ⟨j,z,h1,h2,h3,h4⟩
   ·exact .inl ⟨by rw [h1]; rfl,by simp [Instr.findNow,hn,h2]⟩
   ·exact .inr ⟨j + 1,z,by rw [h1]; rfl,by simpa using h2,h3,by simp [Instr.findNow,hn,h4]; omega⟩
 | [],es2,y :: ents,i,he,e=>by simp at he
 | x :: es,es2,[],i,he,e=>by simp at he
end
end Go.Proofs.Sl
namespace Go.Proofs.Sl
section
variable {P:Program} {φ:Nat→Option FuncId} {h h':H} {g g':G} {w w':World}
theorem zqd_ {t:TypeId} {k:Nat} {z:V} (e:elemZ P t k z=true):∃ i zv,P.info? t=some i∧i.size=k∧i.zero=some zv∧rel φ g h true z zv:=by
 unfold elemZ at e
 split at e
 ·rename_i i hi
  rw [Bool.and_eq_true,beq_iff_eq] at e
  obtain ⟨e1,e2⟩:=e
  split at e2
  ·rename_i ar hz
   split at e2
   ·rename_i zs
    refine ⟨i,_,hi,e1,hz,?_⟩
    simp only [rel]
    exact ⟨_,rfl,(eqZ_ok e2).1⟩
   ·cases e2
  ·rename_i zv _ hz
   obtain ⟨r,_⟩:=eqZ_ok (φ:=φ) (g:=g) (h:=h) e2
   exact ⟨i,zv,hi,e1,hz,(zaj_.1 r).1⟩
  ·cases e2
 ·cases e
theorem zbct_ {kt:TypeId} {d:TypeDesc} {kk:CK} (hkd:P.underlying kt=some d) (hd:kindOk d kk=true) (e:Bool) (n:Nat) (k:Value) (w:World):(Instr.checkKey e (n + 1) kt k).run P w=.ok () w:=by
 unfold Instr.checkKey
 simp only [Sem.run_bind,run_underlying hkd,Result.andThen]
 cases d <;> cases kk <;> simp only [kindOk,Bool.false_eq_true] at hd <;> cases k <;> rfl
theorem zbcu_ {l:Nat} {es:List (Value × V)} (e:mapAt h l=some es):h[l]?=some (.mp es):=by
 unfold mapAt at e
 split at e
 ·rename_i es' h'
  injection e with e
  subst e
  exact h'
 ·cases e
theorem zbmy_ (S:SR φ h g w) {m:V} {mm:Value} {es:List (Value × V)} (rm:rel φ g h false m mm) (e:mapEls h m=some es) :
  ∃ ents:Array MapEntry,ents.toList.map (·.key)=es.map (·.1)∧rels φ g h true (es.map (·.2)) (ents.toList.map (·.val))∧((mm=.map none∧ents=#[])∨∃ r clock,mm=.map (some r)∧w.heap[r]?=some (.map ents clock)):=by
 unfold mapEls at e
 split at e
 ·rename_i l
  have hl:=zbcu_ e
  obtain ⟨ents,clock,e0,k,r,_⟩:=S.mp l es hl
  simp only [rel] at rm
  exact ⟨ents,k,r,.inr ⟨_,clock,rm.2.1,e0⟩⟩
 ·injection e with e
  subst e
  exact ⟨#[],rfl,zad_.2 rfl,.inl ⟨rel_s rm,rfl⟩⟩
 ·cases e
theorem zbmz_ (S:SR φ h g w) {t kt et:TypeId} {d:TypeDesc} {kk:CK} (hu:P.underlying t=some (.map kt et)) (hkd:P.underlying kt=some d) (hd:kindOk d kk=true) {m k z v:V} {mm mk zv:Value} (rm:rel φ g h false m mm) (rk:rel φ g h false k mk)
  (hz:(zeroValue et).run P w=.ok zv w) (rz:rel φ g h false z zv) {ok:Bool} (e:xmget h kk ok z m k=some v):∃ mv,(Instr.lookup t mm mk ok).run P w=.ok mv w∧rel φ g h false v mv:=by
 unfold xmget at e
 obtain ⟨es,e1,e⟩:=zaa_.1 e
 obtain ⟨kv,e2,e⟩:=zaa_.1 e
 obtain ⟨r,e3,e⟩:=zaa_.1 e
 obtain ⟨ents,hk,hr,hm⟩:=zbmy_ S rm e1
 have hks:=zuh_ e2
 subst hks
 have hmk:=rel_s rk
 subst hmk
 have hf:∀ {a},Instr.findNow d mk ents.toList 0=some a→(Instr.findKey kt mk ents.toList).run P w=.ok a w:=fun q=>Go.MapKept.run_findKey hkd q
 have hck:=fun b=>zbct_ hkd hd b 9999 mk w
 have key:∀ (a:Option (Nat × Value)) (mv:Value),Instr.findNow d mk ents.toList 0=some a→(match a with
   | some (_,x)=>(if ok then Value.tuple #[x,.bool true] else x)
   | none=>(if ok then Value.tuple #[zv,.bool false] else zv))=mv→(Instr.lookup t mm mk ok).run P w=.ok mv w:=by
  intro a mv ha hmv
  have hfk:=hf ha
  rcases hm with ⟨rfl,rfl⟩ | ⟨r0,clock,rfl,hb⟩
  ·unfold Instr.lookup
   simp only [Sem.run_bind,run_underlying hu,Result.andThen,Sem.run_pure,hck,hfk]
   cases a with
   | none=>simp only [Sem.run_bind,hz,Result.andThen,Sem.run_pure]; rw [← hmv]
   | some p=>simp only [Sem.run_bind,Sem.run_pure,Result.andThen]; rw [← hmv]
  ·unfold Instr.lookup
   simp only [Sem.run_bind,run_underlying hu,Result.andThen,Go.MapKept.run_getObj_map hb,Sem.run_pure,hck,hfk]
   cases a with
   | none=>simp only [Sem.run_bind,hz,Result.andThen,Sem.run_pure]; rw [← hmv]
   | some p=>simp only [Sem.run_bind,Sem.run_pure,Result.andThen]; rw [← hmv]
 rcases zbcs_ hd e2 es ents.toList 0 r hk e3 with ⟨rfl,h2⟩ | ⟨j,u,z',rfl,h2,h3,h4⟩
 ·refine ⟨_,key _ _ h2 rfl,?_⟩
  injection e with e
  subst e
  cases ok
  ·exact rz
  ·simp only [if_true,rel]
   exact ⟨_,rfl,zaj_.2 ⟨rz,zaj_.2 ⟨rel_of rfl,zad_.2 rfl⟩⟩⟩
 ·refine ⟨_,key _ _ h4 rfl,?_⟩
  have ru:rel φ g h false u z'.val:=by
   refine zbq_ (fun _ _ _ e=>e) false _ _ (zby_ hr h2 ?_)
   rw [List.getElem?_map,h3]
   rfl
  injection e with e
  subst e
  cases ok
  ·exact ru
  ·simp only [if_true,rel]
   exact ⟨_,rfl,zaj_.2 ⟨ru,zaj_.2 ⟨rel_of rfl,zad_.2 rfl⟩⟩⟩
theorem zui_ {α β:Type} {f:α→α} {q:α→β} {e:α} {y:β}:∀ {l:List α} {j:Nat},l[j]?=some e→q (f e)=y→(l.modify j f).map q=(l.map q).set j y
 | [],j,h,_=>by simp at h
 | a :: l,0,h,hy=>by
  simp only [List.getElem?_cons_zero,Option.some.injEq] at h
  subst h
  simp [hy]
 | a :: l,j + 1,h,hy=>by
  have:=zui_ (f:=f) (q:=q) (l:=l) (by simpa using h) hy
  simp [this]
theorem Born.push {ents:Array MapEntry} {clock:Nat} (b:Born ents clock) {key val:Value}:Born (ents.push { key,val,born:=clock }) (clock + 1):=by
 obtain ⟨h1,h2⟩:=b
 refine ⟨?_,?_⟩
 ·intro x hx
  simp only [Array.toList_push,List.mem_append,List.mem_singleton] at hx
  rcases hx with hx | rfl
  ·exact Nat.lt_succ_of_lt (h1 x hx)
  ·exact Nat.lt_succ_self _
 ·simp only [Array.toList_push,List.map_append,List.map_cons,List.map_nil]
  refine List.nodup_append.2 ⟨h2,by simp,?_⟩
  intro a ha b hb
  simp only [List.mem_singleton] at hb
  subst hb
  obtain ⟨x,hx,rfl⟩:=List.mem_map.1 ha
  exact Nat.ne_of_lt (h1 x hx)
theorem Born.modify {ents:Array MapEntry} {clock:Nat} (b:Born ents clock) (i:Nat) (f:MapEntry→MapEntry) (hf:∀ e,(f e).born=e.born):Born (ents.modify i f) clock:=by
 obtain ⟨h1,h2⟩:=b
 have hborn:(ents.modify i f).toList.map (·.born)=ents.toList.map (·.born):=by
  apply List.ext_getElem?
  intro j
  simp only [List.getElem?_map,Array.getElem?_toList,Array.getElem?_modify]
  by_cases hij:i=j
  ·subst hij
   cases he:ents[i]? with
   | none=>simp
   | some e=>simp [hf e]
  ·simp [hij]
 refine ⟨fun x hx=>?_,hborn ▸ h2⟩
 have:x.born ∈ (ents.modify i f).toList.map (·.born):=List.mem_map.2 ⟨x,hx,rfl⟩
 rw [hborn] at this
 obtain ⟨y,hy,e⟩:=List.mem_map.1 this
 rw [← e]; exact h1 y hy
theorem zbcv_ (S:SR φ h g w) {t kt et:TypeId} {d:TypeDesc} {kk:CK} (hu:P.underlying t=some (.map kt et)) (hkd:P.underlying kt=some d) (hd:kindOk d kk=true) {m k v:V} {mm mk mv:Value} (rm:rel φ g h false m mm) (rk:rel φ g h false k mk) (rv:rel φ g h false v mv)
  (e:xmput h kk m k v=some h'):∃ g' w',(Instr.mapUpdate t mm mk mv).run P w=.ok () w'∧SR φ h' g' w'∧Ext h g w h' g' w':=by
 unfold xmput at e
 split at e
 ·rename_i l
  obtain ⟨es,e1,e⟩:=zaa_.1 e
  obtain ⟨kv,e2,e⟩:=zaa_.1 e
  split at e
  ·rename_i hc
   obtain ⟨es2,e3,e⟩:=zaa_.1 e
   injection e with e
   subst e
   have hl:=zbcu_ e1
   obtain ⟨ents,clock,e0,hk,hr,hbn⟩:=S.mp l es hl
   simp only [rel] at rm
   obtain ⟨-,rfl,-⟩:=rm
   have hks:=zuh_ e2
   subst hks
   have hmk:=rel_s rk
   subst hmk
   have rt:=zpp_ _ _ hc rv
   have hck:=fun b=>zbct_ hkd hd b 9999 mk w
   rcases put_ok (v:=v) hd e2 es es2 ents.toList 0 hk e3 with ⟨rfl,h2⟩ | ⟨j,z,rfl,h3,h4,h5⟩
   ·have hf:=Go.MapKept.run_findKey (P:=P) (w:=w) hkd h2
    obtain ⟨R',X'⟩:=S.setMp hl (es2:=es++[(mk,v)]) (ents2:=ents.push { key:=mk,val:=mv,born:=clock }) (clock2:=clock + 1) (by simp [hk]) (by
     rw [Array.toList_push,List.map_append,List.map_append]
     exact zbz_ hr (zaj_.2 ⟨rt,zad_.2 rfl⟩)) hbn.push
    refine ⟨g,_,?_,R',X'⟩
    unfold Instr.mapUpdate
    simp only [Sem.run_bind,run_underlying hu,Result.andThen,Go.MapKept.run_getObj_map e0,hck,hf,Go.MapKept.run_setObj_map _ e0]
   ·have hf:=Go.MapKept.run_findKey (P:=P) (w:=w) hkd h5
    obtain ⟨hb1,hb2⟩:=zbmx_ h4
    obtain ⟨R',X'⟩:=S.setMp hl (es2:=es.set j (mk,v)) (ents2:=ents.modify j fun e=>{ e with key:=mk,val:=mv }) (clock2:=clock) (by
     rw [Array.toList_modify,zui_ (y:=mk) (e:=z) h3 rfl,hk,List.map_set]) (by
     rw [Array.toList_modify,zui_ (y:=mv) (e:=z) h3 rfl,List.map_set]
     exact zgr_ hr rt j) (hbn.modify j _ fun _=>rfl)
    refine ⟨g,_,?_,R',X'⟩
    have hget:((ents[j]?).map (·.key)).getD mk=z.key:=by
     rw [← Array.getElem?_toList,h3]
     rfl
    unfold Instr.mapUpdate
    simp only [Sem.run_bind,run_underlying hu,Result.andThen,Go.MapKept.run_getObj_map e0,hck,hf,Instr.keyThatStays,hget,hb1,if_true,Sem.run_pure,Go.MapKept.run_setObj_map _ e0,Nat.zero_add]
  ·cases e
 ·cases e
end
end Go.Proofs.Sl
