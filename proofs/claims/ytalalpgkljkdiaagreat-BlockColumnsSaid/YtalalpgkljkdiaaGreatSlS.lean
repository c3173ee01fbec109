/- A part of the proof. -/
import Derived.Test.YtalalpgkljkdiaaGreatSlA
set_option linter.unusedVariables false
set_option linter.unusedSimpArgs false
set_option linter.unnecessarySimpa false
namespace Go.Proofs.Sl
section
variable {cf:CallF} {lp:LoopF} {base:Nat} {s:Sl} {h:H} {st:St}
theorem zvi_ (s:Sl) (t:Nat) (v:V):upd s t v t=v:=by simp [upd]
theorem upd_ne (s:Sl) (t u:Nat) (v:V) (h:u≠t):upd s t v u=s u:=by simp [upd,h]
theorem zbqc_ (args:List V) (t:Nat):args0 args t=args.getD t .u:=Eq.trans rfl rfl
def brV {α:Type} (v:V) (x y:Option α):Option α:=match v with
 | .s (.bool t)=>if t=true then x else y
 | _=>none
theorem zbqd_ {α:Type} (x y:Option α):brV (.s (.bool true)) x y=x:=Eq.trans rfl rfl
theorem zbqe_ {α:Type} (x y:Option α):brV (.s (.bool false)) x y=y:=Eq.trans rfl rfl
theorem zbqf_ {α:Type} {v v':V} {x y:Option α} (h:v=v'):brV v x y=brV v' x y:=by rw [h]
theorem zbqg_:xcode cf lp base .skip st=some (.norm,st):=Eq.trans rfl rfl
theorem zbqh_ (i:Nat):xcode cf lp base (.exit i) st=some (.exit i,st):=Eq.trans rfl rfl
theorem zbqi_:xcode cf lp base .ret st=some (.ret,st):=Eq.trans rfl rfl
theorem zbqj_ (a b:XC):xcode cf lp base (.seq a b) st=ob (xcode cf lp base a st) fun r=>thenC (xcode cf lp base b) r:=Eq.trans rfl rfl
theorem zbqk_ (i:Nat) (b:XC):xcode cf lp base (.block i b) st=ob (xcode cf lp base b st) fun r=>some (outOf i r):=Eq.trans rfl rfl
theorem zbql_ (b:XC):xcode cf lp base (.loop b) st=lp (xcode cf lp base b) st:=Eq.trans rfl rfl
theorem zbqm_ (c:Opd) (a b:XC):xcode cf lp base (.cond c a b) st=brV (c.ev st.s) (xcode cf lp base a st) (xcode cf lp base b st):=Eq.trans rfl rfl
theorem zbqn_ (ops:List XOp):xcode cf lp base (.region ops none) st=ob (xops cf base ops st) fun st=>some (.norm,st):=Eq.trans rfl rfl
theorem zbqo_ (ops:List XOp) (c:Nat × Option Nat) (d:List (Nat × Option Nat)):xcode cf lp base (.region ops (some (c :: d))) st=ob (ob (xtrace cf base ops st) fun tr=>if stable ops tr (c :: d)=true then lastSt tr else none) fun st=>some (.norm,st):=Eq.trans rfl rfl
theorem zbqp_ (ops:List XOp):∀ st,ob (xtrace cf base ops st) lastSt=xops cf base ops st:=by
 induction ops with
 | nil=>exact fun st=>rfl
 | cons o r ih =>
  intro st
  simp only [xtrace,xops,ob_ob]
  cases xstep cf base o st with
  | none=>rfl
  | some st' =>
   simp only [zab_]
   rw [← ih st']
   cases hx:xtrace cf base r st' with
   | none=>rfl
   | some l =>
    simp only [zab_]
    cases l with
    | nil =>
     exfalso
     cases r with
     | nil=>cases hx
     | cons o' r' =>
      simp only [xtrace] at hx
      obtain ⟨_,_,hx⟩:=zaa_.1 hx
      obtain ⟨_,_,hx⟩:=zaa_.1 hx
      cases hx
    | cons a l=>rfl
theorem zbqq_ (ops:List XOp):xcode cf lp base (.region ops (some [])) st=ob (xops cf base ops st) fun st=>some (.norm,st):=by
 rw [← zbqp_]
 rfl
theorem zbqr_ (b:Body):thenC b (.norm,st)=b st:=Eq.trans rfl rfl
theorem zbqs_ (b:Body) (i:Nat):thenC b (.exit i,st)=some (.exit i,st):=Eq.trans rfl rfl
theorem zbqt_ (b:Body):thenC b (.ret,st)=some (.ret,st):=Eq.trans rfl rfl
theorem zbqu_ (i:Nat):outOf i (.norm,st)=(.norm,st):=Eq.trans rfl rfl
theorem zbqv_ (i:Nat):outOf i (.ret,st)=(.ret,st):=Eq.trans rfl rfl
theorem zbqw_ (i:Nat):outOf i (.exit i,st)=(.norm,st):=by simp [outOf]
theorem zbqx_ (i j:Nat) (h:i≠j):outOf i (.exit j,st)=(.exit j,st):=by simp [outOf,h]
theorem zee_:xops cf base [] st=some st:=Eq.trans rfl rfl
theorem zef_ (o:XOp) (r:List XOp):xops cf base (o :: r) st=ob (xstep cf base o st) fun st=>xops cf base r st:=Eq.trans rfl rfl
def nextSt (s:Sl) (d:Option Nat) (p:V × H):Option St:=some ⟨put s d p.1,p.2⟩
theorem zeg_ (t:Nat) (v:V):nextSt s (some t) (v,h)=some ⟨upd s t v,h⟩:=Eq.trans rfl rfl
theorem zqs_ (v:V):nextSt s none (v,h)=some ⟨s,h⟩:=Eq.trans rfl rfl
theorem zeh_ (d:Option Nat) (op:XO):xstep cf base ⟨d,op,none⟩ ⟨s,h⟩=ob (xop cf base s h op) (nextSt s d):=Eq.trans rfl rfl
def grd {α:Type} (v:V) (b:Bool) (x y:Option α):Option α:=match v with
 | .s (.bool c)=>if (c == b)=true then x else y
 | .s (.tuple _)=>y
 | _=>none
theorem grd_tt {α:Type} (x y:Option α):grd (.s (.bool true)) true x y=x:=Eq.trans rfl rfl
theorem grd_tf {α:Type} (x y:Option α):grd (.s (.bool true)) false x y=y:=Eq.trans rfl rfl
theorem grd_ft {α:Type} (x y:Option α):grd (.s (.bool false)) true x y=y:=Eq.trans rfl rfl
theorem grd_ff {α:Type} (x y:Option α):grd (.s (.bool false)) false x y=x:=Eq.trans rfl rfl
theorem grd_u {α:Type} (a:Array Value) (b:Bool) (x y:Option α):grd (.s (.tuple a)) b x y=y:=Eq.trans rfl rfl
theorem zbqy_ {α:Type} {v v':V} {b:Bool} {x y:Option α} (h:v=v'):grd v b x y=grd v' b x y:=by rw [h]
theorem zbqz_ (d:Option Nat) (op:XO) (t:Nat) (b:Bool):xstep cf base ⟨d,op,some (t,b)⟩ ⟨s,h⟩=grd (s t) b (ob (xop cf base s h op) (nextSt s d)) (some ⟨put s d .u,h⟩):=by
 unfold xstep grd
 simp only [wanted]
 cases s t with
 | s x =>
  cases x with
  | bool c=>cases c <;> cases b <;> rfl
  | tuple a=>rfl
  | _=>rfl
 | _=>rfl
theorem zbra_ (t:Nat) (v:V):put s (some t) v=upd s t v:=Eq.trans rfl rfl
theorem zbrb_ (v:V):put s none v=s:=Eq.trans rfl rfl
theorem ev_t (n:Nat):(Opd.t n).ev s=s n:=Eq.trans rfl rfl
theorem ev_c (v:V):(Opd.c v).ev s=v:=Eq.trans rfl rfl
theorem zbrc_:evs s []=[]:=Eq.trans rfl rfl
theorem zbrd_ (x:Opd) (l:List Opd):evs s (x :: l)=x.ev s :: evs s l:=Eq.trans rfl rfl
theorem zbre_:zbo_ s []=[]:=Eq.trans rfl rfl
theorem zbrf_ (p:Nat × Nat × Opd) (l:List (Nat × Nat × Opd)):zbo_ s (p :: l)=p.2.2.ev s :: zbo_ s l:=Eq.trans rfl rfl
theorem zbrg_ (x:Opd):evOpt s (some x)=some (x.ev s):=Eq.trans rfl rfl
theorem zbrh_:evOpt s none=none:=Eq.trans rfl rfl
def pureV (h:H) (v:V):Option (V × H):=some (v,h)
theorem zbri_ (v:V):pureV h v=some (v,h):=Eq.trans rfl rfl
theorem xop_cp (x:Opd):xop cf base s h (.cp x)=some (x.ev s,h):=Eq.trans rfl rfl
theorem zbrj_ (c a b:Opd):xop cf base s h (.pick c a b)=brV (c.ev s) (some (a.ev s,h)) (some (b.ev s,h)):=by
 simp only [xop,XO.cls,xpure,brV]
 cases c.ev s with
 | s x=>cases x with
  | bool t=>cases t <;> rfl
  | _=>rfl
 | _=>rfl
theorem zbrk_ (z:List V) (parts:List (Nat × Nat × Opd)):xop cf base s h (.build false z parts)=ob (ob (keep0s (zbo_ s parts)) fun l=>ob (zco_ (zcp_ parts l) z) fun cs=>some (.agg cs)) (pureV h):=Eq.trans rfl rfl
theorem zbrl_ (z:List V) (parts:List (Nat × Nat × Opd)):xop cf base s h (.build true z parts)=ob (keeps true h (zbo_ s parts)) fun p=>ob (zco_ (zcp_ parts p.1) z) fun cs=>some (.agg cs,p.2):=Eq.trans rfl rfl
theorem zbrm_ (k:Nat) (parts:List Opd):xop cf base s h (.bslice false k parts)=ob (ob (keep0s (evs s parts)) fun l=>if V.closed.closeds l=true∧wide k l=true then some (.lst k l) else none) (pureV h):=Eq.trans rfl rfl
theorem zbrn_ (k:Nat) (parts:List Opd):xop cf base s h (.bslice true k parts)=ob (keeps true h (evs s parts)) fun p=>if wide k p.1=true then some (.ref p.2.length p.1.length,p.2++[.arr false k p.1]) else none:=Eq.trans rfl rfl
theorem zbro_ (x:Opd):xop cf base s h (.nilchk x)=ob (ob (zcm_ (x.ev s)) fun b=>if b=true then none else some (x.ev s)) (pureV h):=Eq.trans rfl rfl
theorem zbrp_ (op:BinOp) (x y:Opd):xop cf base s h (.bin op x y)=ob (xbin op (x.ev s) (y.ev s)) (pureV h):=Eq.trans rfl rfl
theorem zbrq_ (k:EK) (n:Bool) (x y:Opd):xop cf base s h (.eqv k n x y)=ob (xeqv n k (x.ev s) (y.ev s)) (pureV h):=Eq.trans rfl rfl
theorem xop_un (op:UnOp) (x:Opd):xop cf base s h (.un op x)=ob (xun op (x.ev s)) (pureV h):=Eq.trans rfl rfl
theorem zbrr_ (k:IntKind) (x:Opd):xop cf base s h (.conv k x)=ob (xpure s (.conv k x)) (pureV h):=Eq.trans rfl rfl
theorem zbrs_ (f:Nat) (a b:List Opd):xop cf base s h (.mkfn false f a b)=ob (ob (keep0s (evs s a)) fun a=>ob (keep0s (evs s b)) fun b=>some (.fn f a b)) (pureV h):=Eq.trans rfl rfl
theorem zbrt_ (f:Nat) (a b:List Opd):xop cf base s h (.mkfn true f a b)=ob (keeps true h (evs s a)) fun p=>ob (keeps true p.2 (evs s b)) fun q=>some (.fn f p.1 q.1,q.2):=Eq.trans rfl rfl
theorem zbru_ (x:Opd) (lo hi:Option Opd):xop cf base s h (.slStr x lo hi)=ob (xpure s (.slStr x lo hi)) (pureV h):=Eq.trans rfl rfl
theorem zbrv_ (x:Opd) (off:Nat):xop cf base s h (.faddr x off)=ob (xpure s (.faddr x off)) (pureV h):=Eq.trans rfl rfl
theorem zbrw_ (x i:Opd):xop cf base s h (.idxS x i)=ob (xpure s (.idxS x i)) (pureV h):=Eq.trans rfl rfl
theorem zbrx_ (n k:Nat) (g:Bool) (x i:Opd):xop cf base s h (.idxA n k g x i)=ob (xpure s (.idxA n k g x i)) (pureV h):=Eq.trans rfl rfl
theorem zbry_ (off n:Nat) (g:Bool) (x:Opd):xop cf base s h (.field off n g x)=ob (xpure s (.field off n g x)) (pureV h):=Eq.trans rfl rfl
theorem zbrz_ (x:Opd) (i:Nat):xop cf base s h (.extract x i)=ob (xpure s (.extract x i)) (pureV h):=Eq.trans rfl rfl
theorem zbsa_ (m:Bool) (xs:List Opd):xop cf base s h (.minmax m xs)=ob (xpure s (.minmax m xs)) (pureV h):=Eq.trans rfl rfl
theorem zbsb_ (n:Nat) (g:Bool) (x:Opd):xop cf base s h (.load n g x)=ob (xload h n g (x.ev s)) (pureV h):=Eq.trans rfl rfl
def lenT:V→Option V
 | .s (.string b)=>some (vi b.size)
 | _=>none
theorem zbsc_ (b:ByteArray):lenT (.s (.string b))=some (vi b.size):=Eq.trans rfl rfl
theorem zbsd_ (x:Opd):xop cf base s h (.len true x)=ob (lenT (x.ev s)) (pureV h):=Eq.trans rfl rfl
theorem zbse_ (x:Opd):xop cf base s h (.len false x)=ob (ob ((x.ev s).toL h) fun es=>some (vi es.length)) (pureV h):=Eq.trans rfl rfl
def iaddrV (h:H) (k:Nat) (v:V) (i:Nat):Option V:=match v with
 | .ref l n=>ob (arrN h l n) fun p=>if i < n∧k=p.2.1 then some (.eptr l n i 0) else none
 | .lst k' es=>if k=k' then ob es[i]? fun e=>some (.fptr e 0) else none
 | .lnk _ _ k' es=>if k=k' then ob es[i]? fun e=>some (.fptr e 0) else none
 | v=>zgn_ h k v i
theorem zbsf_ (k l n i:Nat):iaddrV h k (.bref l n) i=if i < n∧k=1 then some (.ptr l i) else none:=Eq.trans rfl rfl
theorem zvj_ (k l n a b i:Nat):iaddrV h k (.win l n a b) i=ob (arrN h l n) fun p=>if a + i < b∧b≤n∧k=p.2.1 then some (.eptr l n (a + i) 0) else none:=Eq.trans rfl rfl
theorem zbsg_ (k:Nat) (x i:Opd):xop cf base s h (.iaddr k x i)=ob (ob (asNat (i.ev s)) fun i=>iaddrV h k (x.ev s) i) (pureV h):=Eq.trans rfl rfl
theorem zvk_ (k l n i:Nat):iaddrV h k (.ref l n) i=ob (arrN h l n) fun p=>if i < n∧k=p.2.1 then some (.eptr l n i 0) else none:=Eq.trans rfl rfl
theorem zhg_ (k k' i:Nat) (es:List V):iaddrV h k (.lst k' es) i=if k=k' then ob es[i]? fun e=>some (.fptr e 0) else none:=Eq.trans rfl rfl
theorem zbsh_ (l o k k' i:Nat) (es:List V):iaddrV h k (.lnk l o k' es) i=if k=k' then ob es[i]? fun e=>some (.fptr e 0) else none:=Eq.trans rfl rfl
def slV (h:H) (k:Nat) (v:V) (lo hi:Option V):Option V:=match v with
 | .lst k' es=>if k=k' then ob (bounds es.length lo hi) fun p=>some (.lst k ((es.take p.2).drop p.1)) else none
 | .lnk _ _ k' es=>if k=k' then ob (bounds es.length lo hi) fun p=>some (.lst k ((es.take p.2).drop p.1)) else none
 | .s (.slice none 0 0)=>ob (bounds 0 lo hi) fun _=>some vnil
 | .ref l n=>ob (arrN h l n) fun p=>if k=p.2.1 then ob (bounds n lo hi) fun q=>some (.win l n q.1 q.2) else none
 | _=>none
theorem zbsi_ (k k':Nat) (es:List V) (lo hi:Option V):slV h k (.lst k' es) lo hi=if k=k' then ob (bounds es.length lo hi) fun p=>some (.lst k ((es.take p.2).drop p.1)) else none:=Eq.trans rfl rfl
theorem zbsj_ (l o k k':Nat) (es:List V) (lo hi:Option V):slV h k (.lnk l o k' es) lo hi=if k=k' then ob (bounds es.length lo hi) fun p=>some (.lst k ((es.take p.2).drop p.1)) else none:=Eq.trans rfl rfl
theorem zbet_ (k:Nat) (lo hi:Option V):slV h k vnil lo hi=ob (bounds 0 lo hi) fun _=>some vnil:=Eq.trans rfl rfl
theorem zbeu_ (k l n:Nat) (lo hi:Option V):slV h k (.ref l n) lo hi=ob (arrN h l n) fun p=>if k=p.2.1 then ob (bounds n lo hi) fun q=>some (.win l n q.1 q.2) else none:=Eq.trans rfl rfl
theorem zbsk_ (n k:Nat) (x i:Opd):xop cf base s h (.iaddrA n k x i)=ob (xread s h (.iaddrA n k x i)) (pureV h):=Eq.trans rfl rfl
theorem zbsl_ (k:Nat) (x:Opd) (lo hi:Option Opd):xop cf base s h (.slLst k x lo hi)=ob (slV h k (x.ev s) (evOpt s lo) (evOpt s hi)) (pureV h):=by
 simp only [xop,XO.cls,xread,slV]
 rfl
theorem zbsm_ (n:Nat) (x:Opd):xop cf base s h (.slBox n x)=ob (xpure s (.slBox n x)) (pureV h):=Eq.trans rfl rfl
theorem zbsn_ (k:Nat) (x:Opd) (lo hi:Option Opd):xop cf base s h (.slFrz k x lo hi)=xslFrz h k (x.ev s) (evOpt s lo) (evOpt s hi):=Eq.trans rfl rfl
theorem zbso_ (k:Nat) (z:V) (x:Opd):xop cf base s h (.clear k z x)=xclear h k z (x.ev s):=Eq.trans rfl rfl
theorem zbsp_ (k:Nat) (lo hi:Option V):xslFrz h k vnil lo hi=ob (bounds 0 lo hi) fun _=>some (vnil,h):=Eq.trans rfl rfl
theorem zbsq_ (k k':Nat) (es:List V) (lo hi:Option V):xslFrz h k (.lst k' es) lo hi=if k=k' then ob (bounds es.length lo hi) fun p=>some (.lst k ((es.take p.2).drop p.1),h) else none:=Eq.trans rfl rfl
theorem zbsr_ (k l n:Nat) (lo hi:Option V):xslFrz h k (.ref l n) lo hi=ob (arrN h l n) fun p=>if V.closed.closeds p.2.2=true∧k=p.2.1 then ob (bounds p.2.2.length lo hi) fun q=>some (.lst k ((p.2.2.take q.2).drop q.1),h.set l (.arr true p.2.1 p.2.2)) else none:=by
 simp only [xslFrz,frz,ob_ob]
 cases arrN h l n with
 | none=>rfl
 | some p=>by_cases h1:V.closed.closeds p.2.2=true <;> by_cases h2:k=p.2.1 <;> simp [ob,h1,h2]
theorem zbss_ (k:Nat) (z:V):xclear h k z vnil=some (.u,h):=Eq.trans rfl rfl
theorem zbst_ (k l n a b:Nat) (z:V):xclear h k z (.win l n a b)=ob (arrN h l n) fun p=>if p.1=false∧k=p.2.1∧wide k [z]=true∧z.closed=true∧a≤n∧b=n then some (.u,h.set l (.arr false k (p.2.2.take a++List.replicate (n - a) z))) else none:=Eq.trans rfl rfl
theorem zbsu_ (x:Opd):xop cf base s h (.toStr x)=ob (xread s h (.toStr x)) (pureV h):=Eq.trans rfl rfl
theorem zbsv_ (z:List V):xop cf base s h (.alloc z)=some (.ptr h.length 0,h++[.box false z]):=Eq.trans rfl rfl
theorem zbsw_ (r:Bool) (x:Opd):xop cf base s h (.box r x)=xeff cf base s h (.box r x):=Eq.trans rfl rfl
theorem zbev_ (x v:Opd):xop cf base s h (.storeR x v)=ob (zdb_ base h (x.ev s) (v.ev s)) fun h=>some (.u,h):=Eq.trans rfl rfl
theorem zbsx_ (n:Nat) (x v:Opd):xop cf base s h (.store n x v)=ob (xstore base h n (x.ev s) (v.ev s)) fun h=>some (.u,h):=Eq.trans rfl rfl
theorem zbsy_ (n:Nat) (x:Opd):xop cf base s h (.slArr n x)=xeff cf base s h (.slArr n x):=Eq.trans rfl rfl
theorem zbsz_:xop cf base s h .mkmap=some (.mref h.length,h++[.mp []]):=Eq.trans rfl rfl
theorem zbta_ (kk:CK) (m k v:Opd):xop cf base s h (.mput kk m k v)=ob (xmput h kk (m.ev s) (k.ev s) (v.ev s)) fun h=>some (.u,h):=Eq.trans rfl rfl
theorem zbtb_ (kk:CK) (ok:Bool) (z:V) (m k:Opd):xop cf base s h (.mget kk ok z m k)=ob (xmget h kk ok z (m.ev s) (k.ev s)) (pureV h):=Eq.trans rfl rfl
theorem zbtc_ (k lim:Nat) (x y:Opd):xop cf base s h (.append k lim x y)=zao_ h k lim (x.ev s) (y.ev s):=Eq.trans rfl rfl
theorem zbtd_ (f:Nat) (args:List Opd):xop cf base s h (.call false f args)=ob (arg0s (evs s args)) fun a=>ob (cf f a h) fun r=>some (res0 r.1,r.2):=by
 simp only [xop,XO.cls,xeff,xcall]
 rfl
theorem zbte_ (f:Nat) (args:List Opd):xop cf base s h (.call true f args)=ob (arg0s (evs s args)) fun a=>ob (cf f a h) fun r=>resM r.2 r.1:=by
 simp only [xop,XO.cls,xeff,xcall]
 rfl
theorem zbtf_ (f:Nat) (args:List Opd):xop cf base s h (.callK f args)=ob (arg0s (evs s args)) fun a=>ob (cf f (bsV base :: a) h) fun r=>some (res0 r.1,r.2):=by
 simp only [xop,XO.cls,xeff]
def frzV (h:H) (v:V):Option (V × H):=match v with
 | .agg cs=>ob (keeps true h cs) fun p=>some (.agg p.1,p.2)
 | v=>ob (keep true h v) fun p=>some p
theorem zbtg_ (h:H) (cs:List V):frzV h (.agg cs)=ob (keeps true h cs) fun p=>some (.agg p.1,p.2):=Eq.trans rfl rfl
theorem zbth_ (h:H) (l n:Nat):frzV h (.ref l n)=ob (keep true h (.ref l n)) fun p=>some p:=Eq.trans rfl rfl
theorem frzV_s (h:H) (x:Value):frzV h (.s x)=some (.s x,h):=Eq.trans rfl rfl
theorem zbti_ (n:Nat) (g:Bool) (x:Opd):xop cf base s h (.loadF n g x)=ob (xload h n g (x.ev s)) fun v=>frzV h v:=by
 simp only [xop,XO.cls,xeff]
 rfl
def callV (cf:CallF) (h:H) (m:Bool) (g:V) (args:List V):Option (V × H):=match g with
 | .fn f a b=>xcall cf h m f (a++args++b)
 | _=>none
theorem zbtj_ (cf:CallF) (h:H) (m:Bool) (f:Nat) (a b args:List V):callV cf h m (.fn f a b) args=xcall cf h m f (a++args++b):=Eq.trans rfl rfl
theorem zbtk_ (m:Bool) (f:Opd) (args:List Opd):xop cf base s h (.callv m f args)=callV cf h m (f.ev s) (evs s args):=by
 simp only [xop,XO.cls,xeff,callV]
 cases f.ev s <;> rfl
def callI (cf:CallF) (h:H) (m:Bool) (tb:List (Nat × Nat)) (x:V) (args:List V):Option (V × H):=match x with
 | .ifc t v=>ob (tb.lookup t) fun f=>xcall cf h m f (v :: args)
 | _=>none
theorem zbtl_ (cf:CallF) (h:H) (m:Bool) (t f:Nat) (tb:List (Nat × Nat)) (v:V) (args:List V):callI cf h m ((t,f) :: tb) (.ifc t v) args=xcall cf h m f (v :: args):=by
 simp [callI,zab_]
theorem zbtm_ (m:Bool) (tb:List (Nat × Nat)) (x:Opd) (args:List Opd):xop cf base s h (.calli m tb x args)=callI cf h m tb (x.ev s) (evs s args):=by
 simp only [xop,XO.cls,xeff,callI]
 cases x.ev s <;> rfl
theorem zbtn_ (t:Nat) (x:Opd):xop cf base s h (.mkifc t x)=ob (ob (frz0 (x.ev s)) fun v=>some (.ifc t v)) (pureV h):=Eq.trans rfl rfl
theorem zbto_ (t:Nat) (v:V):V.cells (.ifc t v)=[.ifc t v]:=Eq.trans rfl rfl
theorem zbtp_ (t:Nat) (v:V):frz0 (.ifc t v)=some (.ifc t v):=Eq.trans rfl rfl
theorem zbtq_ (t:Nat) (v:V):arg0 (.ifc t v)=some (.ifc t v):=Eq.trans rfl rfl
theorem zbtr_ (l o t:Nat) (v:V):rdCell l o (.ifc t v)=.ifc t v:=Eq.trans rfl rfl
theorem zbts_ (t:Nat) (v:V):zan_ (.ifc t v)=.ifc t v:=Eq.trans rfl rfl
theorem zbtt_ (t:Nat) (v:V):res0 (.ifc t v)=.ifc t v:=Eq.trans rfl rfl
theorem zbtu_ (t:Nat) (v:V):V.cell (.ifc t v)=true:=Eq.trans rfl rfl
theorem zbtv_ (l:Nat):V.cells (.mref l)=[.mref l]:=Eq.trans rfl rfl
theorem zbtw_ (l:Nat):frz0 (.mref l)=some (.mref l):=Eq.trans rfl rfl
theorem zbtx_ (l:Nat):arg0 (.mref l)=some (.mref l):=Eq.trans rfl rfl
theorem zbty_ (p o l:Nat):rdCell p o (.mref l)=.mref l:=Eq.trans rfl rfl
theorem zbtz_ (l:Nat):zan_ (.mref l)=.mref l:=Eq.trans rfl rfl
theorem zbua_ (l:Nat):res0 (.mref l)=.mref l:=Eq.trans rfl rfl
theorem zbub_ (l:Nat):V.cell (.mref l)=true:=Eq.trans rfl rfl
theorem retV_m {base:Nat} {h:H} {l:Nat} {tail:List O}:retV base h .m (.mref l) tail=if l < base then some (.mref l,tail) else ob (mpAt h l) fun es=>if tail.length=0 then some (.mref (base + tail.length),tail++[.mp es]) else none:=Eq.trans rfl rfl
theorem zbuc_ (f:Nat) (args:List V):xcall cf h false f args=ob (arg0s args) fun a=>ob (cf f a h) fun r=>some (res0 r.1,r.2):=Eq.trans rfl rfl
def backV (res:List ((Nat ⊕ (Nat × Nat × Bool)) × RK)) (h:H) (st:St):Option (V × H):=ob (retVs h.length st.s st.h res []) fun p=>some (V.ofRes p.1,st.h.take h.length++p.2)
def backR (res:List ((Nat ⊕ (Nat × Nat × Bool)) × RK)) (h:H) (r:Ex × St):Option (V × H):=match r.1 with
 | .exit _=>none
 | _=>backV res h r.2
theorem zbud_ (res:List ((Nat ⊕ (Nat × Nat × Bool)) × RK)) (st:St):backR res h (.norm,st)=backV res h st:=Eq.trans rfl rfl
theorem zbue_ (res:List ((Nat ⊕ (Nat × Nat × Bool)) × RK)) (st:St):backR res h (.ret,st)=backV res h st:=Eq.trans rfl rfl
theorem zbuf_ (res:List ((Nat ⊕ (Nat × Nat × Bool)) × RK)) (s:Sl) (h':H):backV res h ⟨s,h'⟩=ob (retVs h.length s h' res []) fun p=>some (V.ofRes p.1,h'.take h.length++p.2):=Eq.trans rfl rfl
theorem zbug_ (np:Nat) (body:XC) (res:List ((Nat ⊕ (Nat × Nat × Bool)) × RK)) (args:List V) (e:args.length=np):xfun cf lp ⟨np,body,res,none⟩ args h=ob (xcode cf lp h.length body ⟨args0 args,h⟩) (backR res h):=by
 unfold xfun xfun0
 simp only
 rw [if_pos e]
 congr 1
theorem zbuh_ (res:List ((Nat ⊕ (Nat × Nat × Bool)) × RK)) (st:St):xbackK res (.norm,st)=ob (resKs st.s st.h res) fun vs=>some (V.ofResK vs,st.h):=Eq.trans rfl rfl
theorem zbui_ (res:List ((Nat ⊕ (Nat × Nat × Bool)) × RK)) (st:St):xbackK res (.ret,st)=ob (resKs st.s st.h res) fun vs=>some (V.ofResK vs,st.h):=Eq.trans rfl rfl
theorem zbuj_ (np:Nat) (body:XC) (res:List ((Nat ⊕ (Nat × Nat × Bool)) × RK)) (b n0 k0:Nat) (es0 args:List V) (e:args.length=np) (hb:b≤h.length) :
  xfun cf lp ⟨np,body,res,some .keep⟩ (.gro b n0 k0 es0 :: args) h=ob (xcode cf lp b body ⟨args0 args,h⟩) (xbackK res):=by
 unfold xfun xfunK
 simp only
 rw [if_pos ⟨e,hb⟩]
theorem zbuk_:resKs s h []=some []:=Eq.trans rfl rfl
theorem zbul_ (t:Nat) (k:RK) (l:List ((Nat ⊕ (Nat × Nat × Bool)) × RK)):resKs s h ((.inl t,k) :: l)=ob (arg0 (s t)) fun v=>ob (resKs s h l) fun r=>some (v :: r):=Eq.trans rfl rfl
theorem zbum_ (t n:Nat) (g:Bool) (k:RK) (l:List ((Nat ⊕ (Nat × Nat × Bool)) × RK)):resKs s h ((.inr (t,n,g),k) :: l)=ob (xload h n g (s t)) fun v=>ob (arg0 v) fun v=>ob (resKs s h l) fun r=>some (v :: r):=Eq.trans rfl rfl
theorem zbun_ (tail:List O):retVs base s h [] tail=some ([],tail):=Eq.trans rfl rfl
theorem zbuo_ (t:Nat) (k:RK) (l:List ((Nat ⊕ (Nat × Nat × Bool)) × RK)) (tail:List O):retVs base s h ((.inl t,k) :: l) tail=ob (retV base h k (s t) tail) fun q=>ob (retVs base s h l q.2) fun r=>some (q.1 :: r.1,r.2):=Eq.trans rfl rfl
theorem zbup_ (t n:Nat) (g:Bool) (k:RK) (l:List ((Nat ⊕ (Nat × Nat × Bool)) × RK)) (tail:List O):retVs base s h ((.inr (t,n,g),k) :: l) tail=ob (xload h n g (s t)) fun v=>ob (retV base h k v tail) fun q=>ob (retVs base s h l q.2) fun r=>some (q.1 :: r.1,r.2):=Eq.trans rfl rfl
end
theorem zbb_ {b:Body} {st:St} {β:Type} {f:Ex × St→Option β}:ob (loopW b st) f=ob (b st) fun r=>ob (thenC (loopW b) r) f:=by rw [zbmd_,ob_ob]
def xorI (k:IntKind) (a b:Int):Int:=k.wrap (BitVec.ofInt k.bits a ^^^ BitVec.ofInt k.bits b).toNat
def orI (k:IntKind) (a b:Int):Int:=k.wrap (BitVec.ofInt k.bits a ||| BitVec.ofInt k.bits b).toNat
def andI (k:IntKind) (a b:Int):Int:=k.wrap (BitVec.ofInt k.bits a &&& BitVec.ofInt k.bits b).toNat
section
variable (k:IntKind) (a b:Int) (x y:ByteArray)
theorem zbew_:xbin .add (vk k a) (vk k b)=some (vk k (k.wrap (a + b))):=by simp [xbin,intOp,zab_]
theorem zbuq_:xbin .sub (vk k a) (vk k b)=some (vk k (k.wrap (a - b))):=by simp [xbin,intOp,zab_]
theorem zbur_:xbin .mul (vk k a) (vk k b)=some (vk k (k.wrap (a * b))):=by simp [xbin,intOp,zab_]
theorem zbus_ (h:b≠0):xbin .quo (vk k a) (vk k b)=some (vk k (k.wrap (a.tdiv b))):=by simp [xbin,intOp,h,zab_]
theorem zbut_ (h:b≠0):xbin .rem (vk k a) (vk k b)=some (vk k (a.tmod b)):=by simp [xbin,intOp,h,zab_]
theorem zbuu_:xbin .and (vk k a) (vk k b)=some (vk k (andI k a b)):=by simp only [xbin,intOp,if_true,zab_,andI,orI,xorI]
theorem zbuv_:xbin .or (vk k a) (vk k b)=some (vk k (orI k a b)):=by simp only [xbin,intOp,if_true,zab_,andI,orI,xorI]
theorem zbuw_:xbin .xor (vk k a) (vk k b)=some (vk k (xorI k a b)):=by simp only [xbin,intOp,if_true,zab_,andI,orI,xorI]
theorem zbux_:xbin .eql (vk k a) (vk k b)=some (vb (a == b)):=by simp [xbin,intOp,zab_]
theorem zbuy_:xbin .neq (vk k a) (vk k b)=some (vb (a != b)):=by simp [xbin,intOp,zab_]
theorem zbex_:xbin .lss (vk k a) (vk k b)=some (vb (decide (a < b))):=by simp [xbin,intOp,zab_]
theorem zbuz_:xbin .leq (vk k a) (vk k b)=some (vb (decide (a≤b))):=by simp [xbin,intOp,zab_]
theorem zbva_:xbin .gtr (vk k a) (vk k b)=some (vb (decide (a > b))):=by simp [xbin,intOp,zab_]
theorem zbvb_:xbin .geq (vk k a) (vk k b)=some (vb (decide (a ≥ b))):=by simp [xbin,intOp,zab_]
theorem zbvc_ (k':IntKind) (h:0≤b):xbin .shl (vk k a) (vk k' b)=some (vk k (k.wrap (a * 2 ^ (min b.toNat k.bits)))):=by
 have:¬ b < 0:=by omega
 simp [xbin,this]
theorem zbvd_ (k':IntKind) (h:0≤b):xbin .shr (vk k a) (vk k' b)=some (vk k (a.fdiv (2 ^ (min b.toNat k.bits)))):=by
 have:¬ b < 0:=by omega
 simp [xbin,this]
theorem zbve_ (op:BinOp):xbin op (vs x) (vs y)=ob (strOp op x y) fun v=>some (.s v):=Eq.trans rfl rfl
theorem zbvf_ (t:Bool):xun .not (vb t)=some (vb (!t)):=Eq.trans rfl rfl
theorem zbvg_:xun .neg (vk k a)=some (vk k (k.wrap (0 - a))):=Eq.trans rfl rfl
end
section
variable {h t:H} {l:Nat} {x:O}
theorem zqt_ (e:l < h.length):(h++t)[l]?=h[l]?:=List.getElem?_append_left e
theorem take_set:(h.set l x).take h.length=h.set l x:=List.take_of_length_le (by simp)
theorem zbvh_:(h.set l x++t).take h.length=h.set l x:=by rw [List.take_append_of_le_length (by simp)]; exact take_set
theorem zbvi_:(h++t).take h.length=h:=by simp
theorem zbey_ (k:Nat):(h.set l x++t)[h.length + k]?=t[k]?:=by rw [List.getElem?_append_right (by simp)]; simp
theorem zbvj_:(h.set l x++t)[h.length]?=t[0]?:=zbey_ 0
theorem at_app (k:Nat):(h++t)[h.length + k]?=t[k]?:=by rw [List.getElem?_append_right (by simp)]; simp
theorem zkb_:(h++t)[h.length]?=t[0]?:=at_app 0
theorem zbez_ (k:Nat) (y:O):(h.set l x++t).set (h.length + k) y=h.set l x++t.set k y:=by rw [List.set_append_right _ _ (by simp)]; simp
theorem zbvk_ (y:O):(h.set l x++t).set h.length y=h.set l x++t.set 0 y:=zbez_ 0 y
theorem zvl_ (k:Nat) (y:O):(h++t).set (h.length + k) y=h++t.set k y:=by rw [List.set_append_right _ _ (by simp)]; simp
theorem zbfa_ (y:O):(h++t).set h.length y=h++t.set 0 y:=zvl_ 0 y
theorem zhh_ (e:l < h.length):(h++t).set l x=h.set l x++t:=List.set_append_left _ _ e
end
def V.plain:V→Bool
 | .s (.agg _) | .s (.tuple _)=>false
 | .s _ | .lst ..=>true
 | _=>false
section
variable {v:V} (hv:v.plain=true)
include hv
theorem zbvl_:v.cells=[v]:=by cases v <;> simp [V.plain] at hv <;> rfl
theorem zbvm_:frz0 v=some v:=by cases v <;> simp [V.plain] at hv <;> rfl
theorem zbvn_:arg0 v=some v:=by cases v <;> simp [V.plain] at hv <;> rfl
theorem zbvo_ (l o:Nat):rdCell l o v=v:=by cases v <;> simp [V.plain] at hv <;> rfl
theorem zbvp_:zan_ v=v:=by cases v <;> simp [V.plain] at hv <;> rfl
theorem zbvq_:v.closed=true:=by cases v <;> simp [V.plain] at hv <;> rfl
theorem zbvr_:v.cell=true:=by
 cases v with
 | s x=>cases x <;> first | rfl | simp [V.plain] at hv
 | lst k es=>rfl
 | _=>simp [V.plain] at hv
theorem zbfb_:v.top=0:=by cases v <;> simp [V.plain] at hv <;> rfl
theorem zbvs_:res0 v=v:=by cases v <;> simp [V.plain] at hv <;> rfl
theorem zbvt_ (base l o:Nat) (old:V) (ho:old.plain=true) (h:H):stCell base l o old v h=some (v,h):=by
 have ht:=zbfb_ hv
 cases v with
 | s x =>
  cases old with
  | s y=>cases x <;> first | (simp [V.plain] at hv; done) | simp [stCell,V.top]
  | lst k es=>cases x <;> first | (simp [V.plain] at hv; done) | simp [stCell,V.top]
  | _=>simp [V.plain] at ho
 | lst k es =>
  cases old with
  | s y=>simp [stCell,V.top]
  | lst k' es'=>simp [stCell,V.top]
  | _=>simp [V.plain] at ho
 | _=>simp [V.plain] at hv
theorem zbvu_ (base:Nat) (h:H) (tail:List O):retV base h .v v tail=some (v,tail):=by
 cases v with
 | s x=>cases x <;> first | (simp [V.plain] at hv; done) | simp [retV,V.top]
 | lst k es=>simp [retV,V.top]
 | _=>simp [V.plain] at hv
theorem zbvv_ (l:List V):noOwn (v :: l)=noOwn l:=by cases v <;> simp [V.plain] at hv <;> rfl
end
section
variable (x:Value) (cs ds es gs:List V) (k l o n i j q r base:Nat) (t:V) (h:H) (tail:List O) (g:Bool)
theorem zbvw_:V.cells (.s x)=[(.s x)]:=Eq.trans rfl rfl
theorem frz0_s:frz0 (.s x)=some (.s x):=Eq.trans rfl rfl
theorem arg0_s:arg0 (.s x)=some (.s x):=Eq.trans rfl rfl
theorem zbvx_:rdCell q r (.s x)=(.s x):=Eq.trans rfl rfl
theorem zbvy_:zan_ (.s x)=(.s x):=Eq.trans rfl rfl
theorem res0_s:res0 (.s x)=(.s x):=Eq.trans rfl rfl
theorem frz_s:frz h (.s x)=ob (frz0 (.s x)) fun v=>some (v,h):=Eq.trans rfl rfl
theorem retV_s:retV base h .v (.s x) tail=if V.top (.s x)≤base then some ((.s x),tail) else none:=Eq.trans rfl rfl
theorem zqu_:V.cells (.agg cs)=cs:=Eq.trans rfl rfl
theorem zbvz_:frz0 (.agg cs)=some (.agg cs):=Eq.trans rfl rfl
theorem zbwa_:arg0 (.agg cs)=some (.agg cs):=Eq.trans rfl rfl
theorem zbwb_:rdCell q r (.agg cs)=(.agg cs):=Eq.trans rfl rfl
theorem zbwc_:zan_ (.agg cs)=(.agg cs):=Eq.trans rfl rfl
theorem zbwd_:res0 (.agg cs)=(.agg cs):=Eq.trans rfl rfl
theorem zbwe_:V.cell (.agg cs)=false:=Eq.trans rfl rfl
theorem zbwf_:frz h (.agg cs)=ob (frz0 (.agg cs)) fun v=>some (v,h):=Eq.trans rfl rfl
theorem zbwg_:retV base h .v (.agg cs) tail=if V.top (.agg cs)≤base then some ((.agg cs),tail) else none:=Eq.trans rfl rfl
theorem zbwh_:V.cells (.tup cs)=[(.tup cs)]:=Eq.trans rfl rfl
theorem zbwi_:frz0 (.tup cs)=some (.tup cs):=Eq.trans rfl rfl
theorem zbwj_:arg0 (.tup cs)=some (.tup cs):=Eq.trans rfl rfl
theorem zbwk_:rdCell q r (.tup cs)=(.tup cs):=Eq.trans rfl rfl
theorem zbwl_:zan_ (.tup cs)=(.tup cs):=Eq.trans rfl rfl
theorem zbwm_:res0 (.tup cs)=(.tup cs):=Eq.trans rfl rfl
theorem zbwn_:V.cell (.tup cs)=false:=Eq.trans rfl rfl
theorem zbwo_:frz h (.tup cs)=ob (frz0 (.tup cs)) fun v=>some (v,h):=Eq.trans rfl rfl
theorem zbwp_:retV base h .v (.tup cs) tail=if V.top (.tup cs)≤base then some ((.tup cs),tail) else none:=Eq.trans rfl rfl
theorem zbwq_:V.cells (.lst k es)=[(.lst k es)]:=Eq.trans rfl rfl
theorem zbwr_:frz0 (.lst k es)=some (.lst k es):=Eq.trans rfl rfl
theorem zbws_:arg0 (.lst k es)=some (.lst k es):=Eq.trans rfl rfl
theorem zbwt_:rdCell q r (.lst k es)=(.lst k es):=Eq.trans rfl rfl
theorem zbwu_:zan_ (.lst k es)=(.lst k es):=Eq.trans rfl rfl
theorem zbwv_:res0 (.lst k es)=(.lst k es):=Eq.trans rfl rfl
theorem zbww_:V.cell (.lst k es)=true:=Eq.trans rfl rfl
theorem zbwx_:frz h (.lst k es)=ob (frz0 (.lst k es)) fun v=>some (v,h):=Eq.trans rfl rfl
theorem zbwy_:retV base h .v (.lst k es) tail=if V.top (.lst k es)≤base then some ((.lst k es),tail) else none:=Eq.trans rfl rfl
theorem zbwz_:V.cells (.lnk l o k es)=[(.lnk l o k es)]:=Eq.trans rfl rfl
theorem zbxa_:frz0 (.lnk l o k es)=some (.lst k es):=Eq.trans rfl rfl
theorem zbxb_:arg0 (.lnk l o k es)=some (.lst k es):=Eq.trans rfl rfl
theorem zbxc_:rdCell q r (.lnk l o k es)=(.lnk l o k es):=Eq.trans rfl rfl
theorem zbxd_:zan_ (.lnk l o k es)=(.lnk l o k es):=Eq.trans rfl rfl
theorem zbxe_:res0 (.lnk l o k es)=(.lnk l o k es):=Eq.trans rfl rfl
theorem zbxf_:V.cell (.lnk l o k es)=false:=Eq.trans rfl rfl
theorem zbxg_:frz h (.lnk l o k es)=ob (frz0 (.lnk l o k es)) fun v=>some (v,h):=Eq.trans rfl rfl
theorem zbxh_:V.cells (.gro l o k es)=[(.gro l o k es)]:=Eq.trans rfl rfl
theorem zbxi_:frz0 (.gro l o k es)=none:=Eq.trans rfl rfl
theorem zbxj_:arg0 (.gro l o k es)=none:=Eq.trans rfl rfl
theorem zbxk_:rdCell q r (.gro l o k es)=(.gro l o k es):=Eq.trans rfl rfl
theorem zbxl_:zan_ (.gro l o k es)=(.gro l o k es):=Eq.trans rfl rfl
theorem zbxm_:res0 (.gro l o k es)=(.gro l o k es):=Eq.trans rfl rfl
theorem zbxn_:V.cell (.gro l o k es)=false:=Eq.trans rfl rfl
theorem zbxo_:frz h (.gro l o k es)=ob (frz0 (.gro l o k es)) fun v=>some (v,h):=Eq.trans rfl rfl
theorem zbxp_:retV base h .v (.gro l o k es) tail=none:=Eq.trans rfl rfl
theorem zbxq_:V.cells (.own k es)=[(.own k es)]:=Eq.trans rfl rfl
theorem zbxr_:frz0 (.own k es)=none:=Eq.trans rfl rfl
theorem zbxs_:arg0 (.own k es)=none:=Eq.trans rfl rfl
theorem zbxt_:rdCell q r (.own k es)=.lnk q r k es:=Eq.trans rfl rfl
theorem zbxu_:zan_ (.own k es)=.lst k es:=Eq.trans rfl rfl
theorem zbxv_:res0 (.own k es)=.lst k es:=Eq.trans rfl rfl
theorem zbxw_:V.cell (.own k es)=true:=Eq.trans rfl rfl
theorem zbxx_:frz h (.own k es)=ob (frz0 (.own k es)) fun v=>some (v,h):=Eq.trans rfl rfl
theorem zbxy_:retV base h .v (.own k es) tail=none:=Eq.trans rfl rfl
theorem zbxz_:V.cells (.spent k es gs)=[(.spent k es gs)]:=Eq.trans rfl rfl
theorem zbya_:frz0 (.spent k es gs)=none:=Eq.trans rfl rfl
theorem zbyb_:arg0 (.spent k es gs)=none:=Eq.trans rfl rfl
theorem zbyc_:rdCell q r (.spent k es gs)=.lst k es:=Eq.trans rfl rfl
theorem zbyd_:zan_ (.spent k es gs)=.lst k es:=Eq.trans rfl rfl
theorem zbye_:res0 (.spent k es gs)=(.spent k es gs):=Eq.trans rfl rfl
theorem zbyf_:V.cell (.spent k es gs)=true:=Eq.trans rfl rfl
theorem zbyg_:frz h (.spent k es gs)=ob (frz0 (.spent k es gs)) fun v=>some (v,h):=Eq.trans rfl rfl
theorem zbyh_:retV base h .v (.spent k es gs) tail=none:=Eq.trans rfl rfl
theorem zbyi_:V.cells (.ref l n)=[(.ref l n)]:=Eq.trans rfl rfl
theorem zbyj_:frz0 (.ref l n)=none:=Eq.trans rfl rfl
theorem zbyk_:arg0 (.ref l n)=some (.ref l n):=Eq.trans rfl rfl
theorem zbyl_:rdCell q r (.ref l n)=(.ref l n):=Eq.trans rfl rfl
theorem zbym_:zan_ (.ref l n)=(.ref l n):=Eq.trans rfl rfl
theorem zbyn_:res0 (.ref l n)=(.ref l n):=Eq.trans rfl rfl
theorem zbyo_:V.cell (.ref l n)=true:=Eq.trans rfl rfl
theorem zbyp_:V.cells (.ptr l o)=[(.ptr l o)]:=Eq.trans rfl rfl
theorem zbyq_:frz0 (.ptr l o)=some (.ptr l o):=Eq.trans rfl rfl
theorem zbyr_:arg0 (.ptr l o)=some (.ptr l o):=Eq.trans rfl rfl
theorem zbys_:rdCell q r (.ptr l o)=(.ptr l o):=Eq.trans rfl rfl
theorem zbyt_:zan_ (.ptr l o)=(.ptr l o):=Eq.trans rfl rfl
theorem zbyu_:res0 (.ptr l o)=(.ptr l o):=Eq.trans rfl rfl
theorem zbyv_:V.cell (.ptr l o)=true:=Eq.trans rfl rfl
theorem zbyw_:frz h (.ptr l o)=ob (frz0 (.ptr l o)) fun v=>some (v,h):=Eq.trans rfl rfl
theorem zbyx_:retV base h .v (.ptr l o) tail=if V.top (.ptr l o)≤base then some ((.ptr l o),tail) else none:=Eq.trans rfl rfl
theorem zbyy_:V.cells (.eptr l n i j)=[(.eptr l n i j)]:=Eq.trans rfl rfl
theorem zbyz_:frz0 (.eptr l n i j)=none:=Eq.trans rfl rfl
theorem zbza_:arg0 (.eptr l n i j)=some (.eptr l n i j):=Eq.trans rfl rfl
theorem zbzb_:rdCell q r (.eptr l n i j)=(.eptr l n i j):=Eq.trans rfl rfl
theorem zbzc_:zan_ (.eptr l n i j)=(.eptr l n i j):=Eq.trans rfl rfl
theorem zbzd_:res0 (.eptr l n i j)=(.eptr l n i j):=Eq.trans rfl rfl
theorem zbze_:V.cell (.eptr l n i j)=false:=Eq.trans rfl rfl
theorem zbzf_:frz h (.eptr l n i j)=ob (frz0 (.eptr l n i j)) fun v=>some (v,h):=Eq.trans rfl rfl
theorem zbzg_:retV base h .v (.eptr l n i j) tail=if V.top (.eptr l n i j)≤base then some ((.eptr l n i j),tail) else none:=Eq.trans rfl rfl
theorem zbzh_:V.cells (.fptr t o)=[(.fptr t o)]:=Eq.trans rfl rfl
theorem zbzi_:frz0 (.fptr t o)=some (.fptr t o):=Eq.trans rfl rfl
theorem zbzj_:arg0 (.fptr t o)=some (.fptr t o):=Eq.trans rfl rfl
theorem zbzk_:rdCell q r (.fptr t o)=(.fptr t o):=Eq.trans rfl rfl
theorem zbzl_:zan_ (.fptr t o)=(.fptr t o):=Eq.trans rfl rfl
theorem zbzm_:res0 (.fptr t o)=(.fptr t o):=Eq.trans rfl rfl
theorem zbzn_:V.cell (.fptr t o)=true:=Eq.trans rfl rfl
theorem zbzo_:frz h (.fptr t o)=ob (frz0 (.fptr t o)) fun v=>some (v,h):=Eq.trans rfl rfl
theorem zbzp_:retV base h .v (.fptr t o) tail=if V.top (.fptr t o)≤base then some ((.fptr t o),tail) else none:=Eq.trans rfl rfl
theorem zbzq_:V.cells (.fn l cs ds)=[(.fn l cs ds)]:=Eq.trans rfl rfl
theorem zbzr_:frz0 (.fn l cs ds)=some (.fn l cs ds):=Eq.trans rfl rfl
theorem zbzs_:arg0 (.fn l cs ds)=some (.fn l cs ds):=Eq.trans rfl rfl
theorem zbzt_:rdCell q r (.fn l cs ds)=(.fn l cs ds):=Eq.trans rfl rfl
theorem zbzu_:zan_ (.fn l cs ds)=(.fn l cs ds):=Eq.trans rfl rfl
theorem zbzv_:res0 (.fn l cs ds)=(.fn l cs ds):=Eq.trans rfl rfl
theorem zbzw_:V.cell (.fn l cs ds)=true:=Eq.trans rfl rfl
theorem frz_fn:frz h (.fn l cs ds)=ob (frz0 (.fn l cs ds)) fun v=>some (v,h):=Eq.trans rfl rfl
theorem zbzx_:retV base h .v (.fn l cs ds) tail=if V.top (.fn l cs ds)≤base then some ((.fn l cs ds),tail) else none:=Eq.trans rfl rfl
theorem zbzy_:retV base h .v (.lnk l o k es) tail=some (.lst k es,tail):=Eq.trans rfl rfl
theorem zbzz_:retV base h .v (.ref l n) tail=if l < base then some (.ref l n,tail) else ob (arrN h l n) fun p=>if V.closed.closeds p.2.2=true then some (if p.1=true then .lst p.2.1 p.2.2 else .own p.2.1 p.2.2,tail) else none:=Eq.trans rfl rfl
theorem retV_o:retV base h .o (.ptr l 0) tail=if l < base then some (.ptr l 0,tail) else ob (boxAt h l) fun p=>if V.top.tops p.2≤base∧tail.length=0 then some (.ptr (base + tail.length) 0,tail++[.box p.1 p.2]) else none:=Eq.trans rfl rfl
theorem zcaa_:retV base h .o (.s (.pointer none)) tail=some (.s (.pointer none),tail):=Eq.trans rfl rfl
theorem retV_f:retV base h .f (.ptr l o) tail=if l < base then none else ob (boxAt h l) fun p=>if V.closed.closeds (p.2.map zan_)=true then some (.fptr (.agg (p.2.map zan_)) o,tail) else none:=Eq.trans rfl rfl
theorem zcab_:retV base h .f (.fptr t o) tail=some (.fptr t o,tail):=Eq.trans rfl rfl
theorem zcac_:retV base h .f (.s (.pointer none)) tail=some (.s (.pointer none),tail):=Eq.trans rfl rfl
theorem zcad_:frz h (.ref l n)=ob (arrN h l n) fun p=>if V.closed.closeds p.2.2=true then some (.lst p.2.1 p.2.2,h.set l (.arr true p.2.1 p.2.2)) else none:=Eq.trans rfl rfl
theorem zcae_:keep false h t=ob (frz0 t) fun v=>some (v,h):=Eq.trans rfl rfl
theorem zcaf_:keep true h t=frz h t:=Eq.trans rfl rfl
theorem zcag_:V.toL h vnil=some []:=Eq.trans rfl rfl
theorem zcah_:V.toL h (.lst k es)=some es:=Eq.trans rfl rfl
theorem zcai_:V.toL h (.lnk l o k es)=some es:=Eq.trans rfl rfl
theorem zcaj_:V.toL h (.gro l o k es)=some es:=Eq.trans rfl rfl
theorem zcak_:V.toL h (.ref l n)=ob (arrN h l n) fun p=>some p.2.2:=by
 simp only [V.toL,arrN,arrAt]
 cases h[l]? with
 | none=>rfl
 | some y =>
  cases y with
  | arr z k es=>by_cases hn:es.length=n <;> simp [ob,hn]
  | _=>rfl
theorem zcal_:V.toL h (.bref l n)=ob (boxAt h l) fun p=>if p.2.length=n then some (p.2.map zan_) else none:=by
 simp only [V.toL,V.toL2,boxAt]
 cases h[l]? with
 | none=>rfl
 | some y=>cases y <;> rfl
theorem zcam_:V.toL h (.win l n i j)=ob (arrN h l n) fun p=>if j≤n then some ((p.2.2.take j).drop i) else none:=by
 simp only [V.toL,V.toL2,arrN,arrAt]
 cases h[l]? with
 | none=>rfl
 | some y =>
  cases y with
  | arr z k es=>by_cases hn:es.length=n <;> simp [ob,hn]
  | _=>rfl
theorem zcan_:V.cells (.bref l n)=[(.bref l n)]:=Eq.trans rfl rfl
theorem zcao_:frz0 (.bref l n)=none:=Eq.trans rfl rfl
theorem zcap_:arg0 (.bref l n)=some (.bref l n):=Eq.trans rfl rfl
theorem zcaq_:rdCell q r (.bref l n)=(.bref l n):=Eq.trans rfl rfl
theorem zcar_:zan_ (.bref l n)=(.bref l n):=Eq.trans rfl rfl
theorem zcas_:res0 (.bref l n)=(.bref l n):=Eq.trans rfl rfl
theorem zcat_:V.cell (.bref l n)=false:=Eq.trans rfl rfl
theorem zcau_:zcn_ (.bref l n)=some false:=Eq.trans rfl rfl
theorem zcav_:appEls h (.bref l n)=V.toL h (.bref l n):=Eq.trans rfl rfl
theorem zcaw_:V.cells (.win l n i j)=[(.win l n i j)]:=Eq.trans rfl rfl
theorem zcax_:frz0 (.win l n i j)=none:=Eq.trans rfl rfl
theorem zcay_:arg0 (.win l n i j)=some (.win l n i j):=Eq.trans rfl rfl
theorem zcaz_:rdCell q r (.win l n i j)=(.win l n i j):=Eq.trans rfl rfl
theorem zcba_:zan_ (.win l n i j)=(.win l n i j):=Eq.trans rfl rfl
theorem zcbb_:res0 (.win l n i j)=(.win l n i j):=Eq.trans rfl rfl
theorem zcbc_:V.cell (.win l n i j)=false:=Eq.trans rfl rfl
theorem zcbd_:zcn_ (.win l n i j)=some false:=Eq.trans rfl rfl
theorem zbfc_:appEls h (.win l n i j)=V.toL h (.win l n i j):=Eq.trans rfl rfl
theorem retV_c:retV base h .c (.fn n [] [.ptr l 0]) tail=if l < base then none else ob (boxAt h l) fun p=>if V.closed.closeds p.2=true then some (.fn n [] [.fptr (.agg p.2) 0],tail) else none:=Eq.trans rfl rfl
theorem zcbe_ (kk:IntKind) (y:Int):V.cell (.s (.int kk y))=true:=Eq.trans rfl rfl
theorem zcbf_:V.cell (.s (.bool g))=true:=Eq.trans rfl rfl
theorem zcbg_ (y:ByteArray):V.cell (.s (.string y))=true:=Eq.trans rfl rfl
theorem zcbh_ (y:Option Addr):V.cell (.s (.pointer y))=true:=Eq.trans rfl rfl
theorem zcbi_ (y:Option Addr) (a b:Nat):V.cell (.s (.slice y a b))=true:=Eq.trans rfl rfl
theorem zcbj_:zcm_ vnp=some true:=Eq.trans rfl rfl
theorem zcbk_:zcm_ (.ptr l o)=some false:=Eq.trans rfl rfl
theorem zcbl_:zcm_ (.fptr t o)=some false:=Eq.trans rfl rfl
theorem zcbm_:zcm_ (.eptr l n i j)=some false:=Eq.trans rfl rfl
theorem zcbn_:zcn_ vnil=some true:=Eq.trans rfl rfl
theorem zcbo_:zcn_ (.lst k es)=some false:=Eq.trans rfl rfl
theorem zcbp_:zcn_ (.lnk l o k es)=some false:=Eq.trans rfl rfl
theorem zcbq_:zcn_ (.gro l o k es)=some false:=Eq.trans rfl rfl
theorem zcbr_:zcn_ (.ref l n)=some false:=Eq.trans rfl rfl
theorem zcbs_ (kk:IntKind) (y:Int):asNat (.s (.int kk y))=if 0≤y then some y.toNat else none:=Eq.trans rfl rfl
theorem zcbt_:optNat n (some t)=asNat t:=Eq.trans rfl rfl
theorem zcbu_:optNat n none=some n:=Eq.trans rfl rfl
theorem zcbv_ (y:ByteArray):appEls h (.s (.string y))=some (zdu_ y):=Eq.trans rfl rfl
theorem zcbw_:appEls h vnil=some []:=Eq.trans rfl rfl
theorem zcbx_:appEls h (.lst k es)=some es:=Eq.trans rfl rfl
theorem zcby_:appEls h (.lnk l o k es)=some es:=Eq.trans rfl rfl
theorem zcbz_:appEls h (.gro l o k es)=some es:=Eq.trans rfl rfl
theorem zcca_:appEls h (.ref l n)=V.toL h (.ref l n):=Eq.trans rfl rfl
theorem zccb_:xload h n g (.ptr l o)=ob (boxAt h l) fun p=>if g=true then rdRow n true o (p.2.map zan_) else ob p.2[o]? fun c=>some (rdCell l o c):=Eq.trans rfl rfl
theorem zbfd_:xload h n g (.fptr t o)=rdRow n g o t.cells:=Eq.trans rfl rfl
theorem zkc_:xload h q g (.eptr l n i j)=ob (arrN h l n) fun p=>ob p.2.2[i]? fun e=>rdRow q g j e.cells:=Eq.trans rfl rfl
theorem zccc_:resM h (.own k es)=some (.ref h.length es.length,h++[.arr false k es]):=Eq.trans rfl rfl
theorem resM_s:resM h (.s x)=some (.s x,h):=Eq.trans rfl rfl
theorem zccd_:resM h (.lst k es)=some (.lst k es,h):=Eq.trans rfl rfl
theorem zcce_:resM h (.ref l n)=some (.ref l n,h):=Eq.trans rfl rfl
theorem zccf_:xstore base h n (.ptr l o) t=if t.cells.length=n then ob (boxAt h l) fun p=>if p.1=true then none else ob (zbi_ base l o t.cells h p.2) fun q=>some (q.2.set l (.box false q.1)) else none:=Eq.trans rfl rfl
theorem zqv_:xstore base h q (.eptr l n i j) t=if t.cells.length=q then ob (arrN h l n) fun p=>if p.1=true then none else ob p.2.2[i]? fun e=>ob (keep0s t.cells) fun cs=>if j + q≤e.cells.length∧V.closed.closeds cs=true∧zai_ cs=true then some (h.set l (.arr false p.2.1 (p.2.2.set i (putEl j cs e)))) else none else none:=Eq.trans rfl rfl
def stNew (base l:Nat) (new:V) (h:H):Option (V × H):=match new with
  | .gro .. | .own .. | .spent .. | .eptr .. | .agg .. | .tup .. | .bref .. | .win .. | .s (.agg _) | .s (.tuple _)=>none
  | .lnk _ _ k es=>some (.lst k es,h)
  | .ref l' n=>ob (arrN h l' n) fun p=>if p.1=true then some (.lst p.2.1 p.2.2,h) else if V.closed.closeds p.2.2=true then some (.own p.2.1 p.2.2,h.set l' .dead) else none
  | v=>if base≤l∨v.top≤l + 1 then some (v,h) else none
theorem zccg_:stCell base q r (.s x) t h=stNew base q t h:=by cases t <;> rfl
theorem zcch_:stCell base q r (.lst k es) t h=stNew base q t h:=by cases t <;> rfl
theorem zcci_:stCell base q r (.ptr l o) t h=stNew base q t h:=by cases t <;> rfl
theorem zccj_:stCell base q r (.fptr t o) t h=stNew base q t h:=by cases t <;> rfl
theorem zcck_:stCell base q r (.fn l cs ds) t h=stNew base q t h:=by cases t <;> rfl
theorem zccl_:stCell base q r (.own k es) (.lnk l o n gs) h=if q=l∧r=o∧k=n∧es.length=gs.length then some (.own k es,h) else none:=Eq.trans rfl rfl
theorem zccm_:stCell base q r (.spent k es gs) (.gro l o n ds) h=if q=l∧r=o∧k=n∧gs.length=ds.length then some (.own k gs,h) else none:=Eq.trans rfl rfl
theorem zccn_:stNew base q (.lnk l o k es) h=some (.lst k es,h):=Eq.trans rfl rfl
theorem zcco_:stNew base q (.ref l n) h=ob (arrN h l n) fun p=>if p.1=true then some (.lst p.2.1 p.2.2,h) else if V.closed.closeds p.2.2=true then some (.own p.2.1 p.2.2,h.set l .dead) else none:=Eq.trans rfl rfl
theorem zccp_:stNew base q (.ptr l o) h=if base≤q∨V.top (.ptr l o)≤q + 1 then some ((.ptr l o),h) else none:=Eq.trans rfl rfl
theorem zccq_:stNew base q (.fptr t o) h=if base≤q∨V.top (.fptr t o)≤q + 1 then some ((.fptr t o),h) else none:=Eq.trans rfl rfl
theorem zccr_:stNew base q (.fn l cs ds) h=if base≤q∨V.top (.fn l cs ds)≤q + 1 then some ((.fn l cs ds),h) else none:=Eq.trans rfl rfl
theorem zccs_ (hv:t.plain=true):stNew base q t h=some (t,h):=by
 cases t with
 | s x=>cases x <;> first | (simp [V.plain] at hv; done) | simp [stNew,V.top]
 | lst k es=>simp [stNew,V.top]
 | _=>simp [V.plain] at hv
theorem zbfe_:zao_ h k n vnil t=ob (appEls h t) fun ys=>if wide k ys=true∧V.closed.closeds ys=true then (if ys.length=0 then some (vnil,h) else if ys.length≤n then some (.ref h.length ys.length,h++[.arr false k ys]) else none) else none:=Eq.trans rfl rfl
theorem zvm_:zao_ h k q (.ref l n) t=ob (appEls h t) fun ys=>if wide k ys=true∧V.closed.closeds ys=true then (ob (arrN h l n) fun p=>if p.1=false∧k=p.2.1∧n + ys.length≤q then some (.ref l (n + ys.length),h.set l (.arr false k (p.2.2++ys))) else none) else none:=Eq.trans rfl rfl
def zbff_ (l o k k' lim:Nat) (h:H) (z:Bool) (cs es ys:List V) (c:V):Option (V × H):=match c with
 | .own k'' es'=>if z=false∧es'.length=es.length∧k=k'∧k=k''∧es'.length + ys.length≤lim then
   if ys.length=0 then some (.lnk l o k es',h) else some (.gro l o k (es'++ys),h.set l (.box false (cs.set o (.spent k es' (es'++ys))))) else none
 | _=>none
theorem zcct_:zbff_ l o k n q h g cs es ds (.own r gs)=if g=false∧gs.length=es.length∧k=n∧k=r∧gs.length + ds.length≤q then (if ds.length=0 then some (.lnk l o k gs,h) else some (.gro l o k (gs++ds),h.set l (.box false (cs.set o (.spent k gs (gs++ds)))))) else none:=Eq.trans rfl rfl
theorem zccu_:zao_ h k n (.lnk l o q es) t=ob (appEls h t) fun ys=>if wide k ys=true∧V.closed.closeds ys=true then (ob (boxAt h l) fun p=>ob p.2[o]? fun c=>zbff_ l o k q n h p.1 p.2 es ys c) else none:=Eq.trans rfl rfl
end
theorem zccv_ (kk:IntKind) (y:Int):V.plain (.s (.int kk y))=true:=Eq.trans rfl rfl
theorem zccw_ (y:Bool):V.plain (.s (.bool y))=true:=Eq.trans rfl rfl
theorem zccx_ (y:ByteArray):V.plain (.s (.string y))=true:=Eq.trans rfl rfl
theorem zccy_ (y:Option Addr):V.plain (.s (.pointer y))=true:=Eq.trans rfl rfl
theorem zccz_ (y:Option Addr) (a b:Nat):V.plain (.s (.slice y a b))=true:=Eq.trans rfl rfl
theorem zcda_ (k:Nat) (es:List V):V.plain (.lst k es)=true:=Eq.trans rfl rfl
theorem zcdb_ (s:Sl):wanted s none=some true:=Eq.trans rfl rfl
def wantV (v:V) (b:Bool):Option Bool:=match v with
 | .s (.bool c)=>some (c == b)
 | .s (.tuple _)=>some false
 | _=>none
theorem zcdc_ (s:Sl) (t:Nat) (b:Bool):wanted s (some (t,b))=wantV (s t) b:=Eq.trans rfl rfl
theorem zcdd_ (c b:Bool):wantV (.s (.bool c)) b=some (c == b):=Eq.trans rfl rfl
theorem zcde_ (a:Array Value) (b:Bool):wantV (.s (.tuple a)) b=some false:=Eq.trans rfl rfl
theorem zcdf_ (v:V):optEq (some v) (some v)=true:=zaw_ v
def lv (k:Nat):Option (List V)→V
 | none=>vnil
 | some es=>.lst k es
theorem zaq_ (k:Nat) (o:Option (List V)):(lv k o).plain=true:=by cases o <;> rfl
theorem zcdg_ (k:Nat) (o:Option (List V)):zcn_ (lv k o)=some o.isNone:=by cases o <;> rfl
theorem zcdh_ (k:Nat) (o:Option (List V)) (h:H):appEls h (lv k o)=some (o.getD []):=by cases o <;> rfl
theorem lv_toL (k:Nat) (o:Option (List V)) (h:H):(lv k o).toL h=some (o.getD []):=by cases o <;> rfl
theorem zcdi_ (h:H) (k i:Nat) (o:Option (List V)):iaddrV h k (lv k o) i=ob (o.getD [])[i]? fun e=>some (.fptr e 0):=by
 cases o with
 | none=>simp [lv,iaddrV,zgn_,ob]
 | some es=>simp [lv,iaddrV]
theorem slV_lv (h:H) (k:Nat) (o:Option (List V)) (lo hi:Option V):slV h k (lv k o) lo hi=ob (bounds (o.getD []).length lo hi) fun p=>some (lv k (o.map fun es=>(es.take p.2).drop p.1)):=by
 cases o with
 | none=>simp [lv,slV]
 | some es=>simp [lv,slV]
attribute [simp] zbvw_ frz0_s arg0_s zbvx_ zbvy_ res0_s frz_s retV_s zqu_ zbvz_ zbwa_ zbwb_ zbwc_ zbwd_ zbwe_ zbwf_ zbwg_ zbwh_ zbwi_ zbwj_ zbwk_ zbwl_ zbwm_ zbwn_ zbwo_ zbwp_ zbwq_ zbwr_ zbws_ zbwt_ zbwu_ zbwv_ zbww_ zbwx_ zbwy_ zbwz_ zbxa_ zbxb_ zbxc_ zbxd_ zbxe_ zbxf_ zbxg_ zbxh_ zbxi_ zbxj_ zbxk_ zbxl_ zbxm_ zbxn_ zbxo_ zbxp_ zbxq_ zbxr_ zbxs_ zbxt_ zbxu_ zbxv_ zbxw_ zbxx_ zbxy_ zbxz_ zbya_ zbyb_ zbyc_ zbyd_ zbye_ zbyf_ zbyg_ zbyh_ zbyi_ zbyj_ zbyk_ zbyl_ zbym_ zbyn_ zbyo_ zbyp_ zbyq_ zbyr_ zbys_ zbyt_ zbyu_ zbyv_ zbyw_ zbyx_ zbyy_ zbyz_ zbza_ zbzb_ zbzc_ zbzd_ zbze_ zbzf_ zbzg_ zbzh_ zbzi_ zbzj_ zbzk_ zbzl_ zbzm_ zbzn_ zbzo_ zbzp_ zbzq_ zbzr_ zbzs_ zbzt_ zbzu_ zbzv_ zbzw_ frz_fn zbzx_ zbzy_ zbzz_ retV_o zcaa_ retV_f zcab_ zcac_ zcad_ zcae_ zcaf_ zcag_ zcah_ zcai_ zcaj_ zcak_ zcbe_ zcbf_ zcbg_ zcbh_ zcbi_ zcbj_ zcbk_ zcbl_ zcbm_ zcbn_ zcbo_ zcbp_ zcbq_ zcbr_ zcbs_ zcbt_ zcbu_ zcbv_ zcbw_ zcbx_ zcby_ zcbz_ zcca_ zccb_ zbfd_ zkc_ zccc_ resM_s zccd_ zcce_ zccf_ zqv_ zccg_ zcch_ zcci_ zccj_ zcck_ zccl_ zccm_ zccn_ zcco_ zccp_ zccq_ zccr_ zccs_ zbfe_ zvm_ zcct_ zccu_
attribute [congr] zbqf_ zbqy_
attribute [simp] zccv_ zccw_ zccx_ zccy_ zccz_ zcda_
attribute [simp] zcal_ zcam_ zcan_ zcao_ zcap_ zcaq_ zcar_ zcas_ zcat_ zcau_ zcav_ zcaw_ zcax_ zcay_ zcaz_ zcba_ zcbb_ zcbc_ zcbd_ zbfc_ retV_c zbsf_ zvj_ zbsp_ zbsq_ zbsr_ zbss_ zbst_
attribute [simp] zvk_ zhg_ zbsh_ zbsi_ zbsj_ zbet_ zbeu_ zcdi_ slV_lv
attribute [simp] zbsc_ zaw_ zcdb_ zcdc_ zcdd_ zcde_ zcdf_
attribute [simp high] zbvl_ zbvm_ zbvn_ zbvo_ zbvp_ zbvq_ zbvr_ zbfb_ zbvs_ zbvt_ zbvu_ zbvv_ zaq_ lv_toL zcdg_ zcdh_
attribute [simp] zbew_ zbuq_ zbur_ zbus_ zbut_ zbuu_ zbuv_ zbuw_ zbux_ zbuy_ zbex_ zbuz_ zbva_ zbvb_ zbvc_ zbvd_ zbve_ zbvf_ zbvg_
attribute [simp ↓] zab_ zbls_ zvi_ upd_ne zbqd_ zbqe_ zbqg_ zbqh_ zbqi_ zbqj_ zbqk_ zbql_ zbqm_ zbqn_ zbqo_ zbqq_ zbqr_ zbqs_ zbqt_
 zbqu_ zbqv_ zbqw_ zbqx_ zee_ zef_ zeg_ zqs_ zeh_ grd_tt grd_tf grd_ft grd_ff grd_u zbqz_ zbra_ zbrb_ ev_t ev_c zbrc_ zbrd_ zbre_ zbrf_ zbrg_ zbrh_
 zbri_ xop_cp zbrj_ zbrk_ zbrl_ zbrm_ zbrn_ zbro_ zbrp_ zbrq_ xop_un zbrr_ zbrs_ zbrt_ zbru_ zbrv_ zbrw_ zbrx_ zbry_ zbrz_ zbsa_ zbsb_ zbsd_ zbse_ zbsg_ zbsk_
 zbsl_ zbsm_ zbsn_ zbso_ zbsu_ zbsv_ zbsw_ zbsx_ zbsy_ zbtc_ zbsz_ zbta_ zbtb_ zbtd_ zbte_ zbtf_ zbti_ zbtg_ zbth_ frzV_s zbtj_ zbtk_ zbtl_ zbtm_ zbtn_ zbuc_ zbud_ zbue_ zbuf_ zbug_ zbuj_ zbuh_ zbui_ zbuk_ zbul_ zbum_ zbun_ zbuo_ zbup_
attribute [simp] take_set zbvh_ zbvi_ zbey_ zbvj_ at_app zkb_ zbez_ zbvk_ zvl_ zbfa_ ob_ob ob_ite zbqc_ xpure xread xeff arg0s V.ofRes V.ofResK zbi_ keeps keep0s arrN boxAt arrAt rdRow strOp mpAt zbto_ zbtp_ zbtq_ zbtr_ zbts_ zbtt_ zbtu_ zbtv_ zbtw_ zbtx_ zbty_ zbtz_ zbua_ zbub_ retV_m xeqv eqRes zbc_ eqCell xun bounds zco_ zcp_ putRow wide zai_ V.closed V.closed.closeds V.top V.top.tops List.getD xtrace stable zpn_ lastSt
end Go.Proofs.Sl
namespace Go.Proofs.Sl
theorem zcdj_ (cf:CallF) (base:Nat) (s:Sl) (h:H) (k:Nat) (z:V) (lim:Nat) (l c:Opd):xop cf base s h (.mkslice k z lim l c) =
  ob (asNat (l.ev s)) fun l=>ob (asNat (c.ev s)) fun c=>if l≤c∧c≤lim∧wide k [z]=true∧z.closed=true then some (.ref h.length l,h++[.arr false k (List.replicate l z)]) else none:=Eq.trans rfl rfl
attribute [simp ↓] zcdj_
def Sees (s:Sl):List (Nat × V)→Prop
 | []=>True
 | p :: r=>s p.1=p.2∧Sees s r
theorem zcdk_ (s:Sl):Sees s []=True:=Eq.trans rfl rfl
theorem zcdl_ (s:Sl) (t:Nat) (v:V) (r:List (Nat × V)):Sees s ((t,v) :: r)=(s t=v∧Sees s r):=Eq.trans rfl rfl
attribute [simp] zcdk_ zcdl_
section
variable {B:Body} {β:Type} {f:Ex × St→Option β} {b:Option β}
theorem zei_ {σ:Type} (m:σ→Nat) (I:σ→Sl→H→Prop)
  (step:∀ (B':Body) (f':Ex × St→Option β),(∀ st,B' st=B st)→(∀ r,f' r=f r)→∀ a s h,I a s h→(∀ a' s' h',m a' < m a→I a' s' h'→ob (loopW B' ⟨s',h'⟩) f'=b) →
   ob (B' ⟨s,h⟩) (fun r=>ob (thenC (loopW B') r) f')=b):∀ a s h,I a s h→ob (loopW B ⟨s,h⟩) f=b:=by
 have key:∀ n a s h,m a=n→I a s h→ob (loopW B ⟨s,h⟩) f=b:=by
  intro n
  induction n using Nat.strongRecOn with
  | ind n ih =>
   intro a s h e i
   rw [zbb_]
   exact step B f (fun _=>rfl) (fun _=>rfl) a s h i fun a' s' h' hm i'=>ih _ (by omega) a' s' h' rfl i'
 exact fun a s h i=>key _ a s h rfl i
theorem zaf_ {α:Type} (es:List α) (I:Nat→Sl→H→Prop)
  (step:∀ (B':Body) (f':Ex × St→Option β),(∀ st,B' st=B st)→(∀ r,f' r=f r)→∀ k e s h,es[k]?=some e→k < es.length→I k s h→(∀ s' h',I (k + 1) s' h'→ob (loopW B' ⟨s',h'⟩) f'=b) →
   ob (B' ⟨s,h⟩) (fun r=>ob (thenC (loopW B') r) f')=b)
  (last:∀ (B':Body),(∀ st,B' st=B st)→∀ s h,I es.length s h→ob (B' ⟨s,h⟩) (fun r=>ob (thenC (loopW B') r) f)=b) :
  ∀ s h,I 0 s h→ob (loopW B ⟨s,h⟩) f=b:=by
 have:=zei_ (B:=B) (f:=f) (b:=b) (σ:=Nat) (fun k=>es.length - k) (fun k s h=>k≤es.length∧I k s h) (fun B' f' hB hf k s h ⟨hk,i⟩ kk=>by
  by_cases hl:k < es.length
  ·exact step B' f' hB hf k _ s h (List.getElem?_eq_getElem hl) hl i fun s' h' i'=>kk (k + 1) s' h' (by omega) ⟨by omega,i'⟩
  ·obtain rfl:k=es.length:=by omega
   have:=last B' hB s h i
   rw [← this]
   congr 1
   funext r
   congr 1
   exact funext hf)
 exact fun s h i=>this 0 s h ⟨by omega,i⟩
theorem zqw_ (n:Nat) (I:Nat→Sl→H→Prop)
  (step:∀ (B':Body) (f':Ex × St→Option β),(∀ st,B' st=B st)→(∀ r,f' r=f r)→∀ k s h,k < n→I k s h→(∀ s' h',I (k + 1) s' h'→ob (loopW B' ⟨s',h'⟩) f'=b) →
   ob (B' ⟨s,h⟩) (fun r=>ob (thenC (loopW B') r) f')=b)
  (last:∀ (B':Body),(∀ st,B' st=B st)→∀ s h,I n s h→ob (B' ⟨s,h⟩) (fun r=>ob (thenC (loopW B') r) f)=b) :
  ∀ s h,I 0 s h→ob (loopW B ⟨s,h⟩) f=b:=by
 have:=zaf_ (B:=B) (f:=f) (b:=b) (List.range n) I (fun B' f' hB hf k _ s h _ hl i kk=>step B' f' hB hf k s h (by simpa using hl) i kk) (by simpa using last)
 exact this
end
inductive Rd (h:H) (k:Nat):V→List V→Prop
 | nil:Rd h k vnil []
 | lst (es:List V):Rd h k (.lst k es) es
 | ref (n:Nat) (z:Bool) (es:List V) (e:h[n]?=some (.arr z k es)):Rd h k (.ref n es.length) es
section
variable {h:H} {k:Nat} {v:V} {es:List V}
theorem Rd.lv (h:H) (k:Nat) (o:Option (List V)):Rd h k (lv k o) (o.getD []):=by
 cases o with
 | none=>exact .nil
 | some es=>exact .lst es
theorem Rd.toL (r:Rd h k v es):v.toL h=some es:=by
 cases r with
 | nil=>simp
 | lst es=>simp
 | ref n z es e=>simp [e]
theorem Rd.appEls (r:Rd h k v es):appEls h v=some es:=by
 cases r with
 | nil=>simp
 | lst es=>simp
 | ref n z es e=>simp [e]
theorem Rd.arg0 (r:Rd h k v es):arg0 v=some v:=by cases r <;> simp
theorem Rd.res0 (r:Rd h k v es):res0 v=v:=by cases r <;> simp
theorem Rd.at (r:Rd h k v es) {i:Nat} {e:V} (he:es[i]?=some e):∃ p,iaddrV h k v i=some p∧∀ c g,xload h c g p=rdRow c g 0 e.cells:=by
 cases r with
 | nil=>simp at he
 | lst es=>exact ⟨.fptr e 0,by simp [he],fun c g=>by rw [zbfd_]⟩
 | ref n z es e' =>
  have hi:i < es.length:=(List.getElem?_eq_some_iff.1 he).1
  exact ⟨.eptr n es.length i 0,by simp [e',hi],fun c g=>by rw [zkc_]; simp [e',he]⟩
theorem Rd.at1 (r:Rd h k v es) {i:Nat} {e:V} (he:es[i]?=some e) (hp:e.plain=true):∃ p,iaddrV h k v i=some p∧xload h 1 false p=some e:=by
 obtain ⟨p,h1,h2⟩:=r.at he
 exact ⟨p,h1,by rw [h2]; simp [rdRow,hp]⟩
theorem Rd.set (r:Rd h k v es) {l:Nat} {c:O} (hl:∀ z k es,h[l]?≠some (.arr z k es)):Rd (h.set l c) k v es:=by
 cases r with
 | nil=>exact .nil
 | lst es=>exact .lst es
 | ref n z es e =>
  refine .ref n z es ?_
  rw [List.getElem?_set_ne]
  ·exact e
  ·rintro rfl
   exact hl _ _ _ e
theorem Rd.app (r:Rd h k v es) (t:H):Rd (h++t) k v es:=by
 cases r with
 | nil=>exact .nil
 | lst es=>exact .lst es
 | ref n z es e =>
  refine .ref n z es ?_
  rw [List.getElem?_append_left (List.getElem?_eq_some_iff.1 e).1]
  exact e
theorem Rd.setBox (r:Rd h k v es) {l:Nat} {c:O} {z:Bool} {cs:List V} (hl:h[l]?=some (.box z cs)):Rd (h.set l c) k v es:=r.set fun _ _ _ e=>by rw [hl] at e; cases e
end
def gv (n:Nat) (es:List V):V:=if es=[] then vnil else .ref n es.length
def gt (k:Nat) (es:List V):H:=if es=[] then [] else [.arr false k es]
theorem gv_nil (n:Nat):gv n []=vnil:=by simp [gv]
theorem gv_rd {h:H} {n:Nat} (k:Nat) (es:List V) (hn:n=h.length) (t:H):Rd (h++(gt k es++t)) k (gv n es) es:=by
 subst hn
 by_cases he:es=[]
 ·subst he
  rw [gv_nil]
  exact .nil
 ·rw [gv,if_neg he]
  exact .ref _ false _ (by simp [gt,he])
theorem gv_rd0 {h:H} {n:Nat} (k:Nat) (es:List V) (hn:n=h.length):Rd (h++gt k es) k (gv n es) es:=by
 have:=gv_rd k es hn []
 rwa [List.append_nil] at this
theorem gv_app {h:H} {k n lim:Nat} {es ys:List V} (hn:n=h.length) (hw:wide k ys=true) (hc:V.closed.closeds ys=true) (hy:ys≠[]) (hl:es.length + ys.length≤lim) :
  zao_ (h++gt k es) k lim (gv n es) (.lst k ys)=some (gv n (es++ys),h++gt k (es++ys)):=by
 subst hn
 have hy':ys.length≠0:=by simpa using hy
 by_cases he:es=[]
 ·subst he
  have hl':ys.length≤lim:=by simpa using hl
  simp [gv,gt,hw,hc,hy,hl',zao_]
 ·have:es++ys≠[]:=by simp [he]
  simp [gv,gt,hw,hc,he,hl,this,zao_]
end Go.Proofs.Sl
