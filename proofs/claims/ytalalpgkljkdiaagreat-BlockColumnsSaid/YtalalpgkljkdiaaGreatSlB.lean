/- A part of the proof. -/
import Derived.Deep.LoopGhost
import Derived.ProofKit
import Derived.Test.YtalalpgkljkdiaaGreatSlB1
set_option linter.unusedVariables false
set_option linter.unusedSimpArgs false
set_option linter.unnecessarySimpa false
namespace Go.Proofs.Sl
def zjx_ (N:Nat) (ops:Array Oper):Option (Nat × Bool)→Option (Nat × Bool)→Bool
 | none,none=>true
 | some (j,b),some (t,b')=>b == b' && decide (t < N) && (match (ops[j]?).bind (·.dst) with
  | some t'=>t == t'
  | none=>false)
 | _,_=>false
def chkDst (N:Nat):Option Nat→Option Nat→Bool
 | none,none=>true
 | some t,some t'=>t == t' && decide (t < N)
 | _,_=>false
def chkX (P:Program) (φ:Nat→Option FuncId) (N:Nat) (ops:Array Oper) (o:Oper) (x:XOp):Bool :=
 chkDst N o.dst x.dst && zjx_ N ops o.guard x.guard && chkOp P φ N o.op x.op
def chkXs (P:Program) (φ:Nat→Option FuncId) (N:Nat) (ops:Array Oper):List Oper→List XOp→Bool
 | [],[]=>true
 | o :: r,x :: l=>chkX P φ N ops o x && chkXs P φ N ops r l
 | _,_=>false
section
variable {P:Program} {φ:Nat→Option FuncId} {h h':H} {g g':G} {w w':World} {N:Nat} {s:Sl} {a:Act} {ops:Array Oper} {h0:H} {g0:G} {w0:World} {cf:CallF} {base:Nat}
theorem zux_ {d d':Option Nat} (k:chkDst N d d'=true):d=d'∧∀ t,d=some t→t < N:=by
 cases d <;> cases d' <;> simp only [chkDst,Bool.false_eq_true,Bool.and_eq_true,beq_iff_eq,decide_eq_true_eq] at k
 ·exact ⟨rfl,fun t e=>by cases e⟩
 ·obtain ⟨rfl,k⟩:=k
  exact ⟨rfl,fun t e=>by injection e with e; subst e; exact k⟩
theorem zuy_ (S:Slots φ g h N s a) {o:Oper} {gd:Option (Nat × Bool)} (k:zjx_ N ops o.guard gd=true) {b:Bool} (e:wanted s gd=some b):Region.wanted o (yielded ops a.tmps)=b:=by
 unfold Region.wanted
 cases hg:o.guard with
 | none =>
  rw [hg] at k
  cases gd with
  | none =>
   simp only [wanted,Option.some.injEq] at e
   exact e
  | some _=>simp [zjx_] at k
 | some p =>
  obtain ⟨j,b0⟩:=p
  rw [hg] at k
  cases gd with
  | none=>simp [zjx_] at k
  | some q =>
   obtain ⟨t,b1⟩:=q
   simp only [zjx_,Bool.and_eq_true,beq_iff_eq,decide_eq_true_eq] at k
   obtain ⟨⟨rfl,ht⟩,k⟩:=k
   split at k
   ·rename_i t' hd
    simp only [beq_iff_eq] at k
    subst k
    have hr:=S.rel t ht
    have htm:a.tmps[t]?=some (a.tmps.getD t undef):=by
     rw [Array.getD_eq_getD_getElem?,Array.getElem?_eq_getElem (by rw [S.size]; exact ht)]
     rfl
    simp only [wanted] at e
    simp only [yielded,hd,Option.bind_some,htm]
    split at e
    ·rename_i c hs
     rw [hs] at hr
     rw [rel_s hr]
     injection e with e
    ·rename_i c hs
     rw [hs] at hr
     rw [rel_s hr]
     injection e with e
    ·cases e
   ·cases k
theorem zbdx_ (T:TOk P φ) (F:FOk P φ cf) {i:Nat} {o:Oper} {x:XOp} (ho:ops[i]?=some o) (k:chkX P φ N ops o x=true) {st st':St} (so:SO φ N h0 g0 w0 st a w) (e:xstep cf base x st=some st') {K:Act→World→Prop} {Q:Exit→Act→World→Prop}
  (hK:∀ a' w',SO φ N h0 g0 w0 st' a' w'→K a' w'):wpOp P ops Q i K a w:=by
 obtain ⟨g,R,X,S⟩:=so
 simp only [chkX,Bool.and_eq_true] at k
 obtain ⟨⟨k1,k2⟩,k3⟩:=k
 obtain ⟨hd,hN⟩:=zux_ k1
 unfold xstep at e
 obtain ⟨b,e1,e⟩:=zaa_.1 e
 have hw:=zuy_ S k2 e1
 simp only [wpOp,ho,hw]
 cases b with
 | true =>
  simp only [if_true] at e ⊢
  obtain ⟨p,e2,e⟩:=zaa_.1 e
  injection e with e
  subst e
  left
  refine xop_ok T F R X S k3 hN (v:=p.1) (h':=p.2) e2 fun a' w' so' _=>hK a' w' ?_
  rw [← hd]
  exact so'
 | false =>
  simp only [Bool.false_eq_true,if_false] at e ⊢
  injection e with e
  subst e
  refine hK _ _ ⟨g,R,X,?_⟩
  have:=S.put (d:=o.dst) hN (v:=.u) (mv:=undef) (rel_of rfl)
  rw [hd] at this ⊢
  exact this
theorem zhd_:∀ {os:List Oper} {xs:List XOp},chkXs P φ N ops os xs=true→os.length=xs.length∧∀ (i:Nat) (o:Oper) (x:XOp),os[i]?=some o→xs[i]?=some x→chkX P φ N ops o x=true
 | [],[],_=>⟨rfl,fun i o x e=>by simp at e⟩
 | o :: os,x :: xs,k=>by
  simp only [chkXs,Bool.and_eq_true] at k
  obtain ⟨h1,h2⟩:=zhd_ k.2
  refine ⟨by simp [h1],fun i o' x' e1 e2=>?_⟩
  cases i with
  | zero =>
   simp only [List.getElem?_cons_zero,Option.some.injEq] at e1 e2
   subst e1 e2
   exact k.1
  | succ i=>exact h2 i o' x' (by simpa using e1) (by simpa using e2)
 | [],_ :: _,k=>by simp [chkXs] at k
 | _ :: _,[],k=>by simp [chkXs] at k
theorem zbdy_ (T:TOk P φ) (F:FOk P φ cf) {xs:List XOp} (k:chkXs P φ N ops ops.toList xs=true) {Q:Exit→Act→World→Prop}:∀ (m i:Nat) (st st':St) (a:Act) (w:World),i + m=ops.size→SO φ N h0 g0 w0 st a w→xops cf base (xs.drop i) st=some st' →
  (∀ a' w',SO φ N h0 g0 w0 st' a' w'→Q .normal a' w')→wpOps P ops Q (List.range' i m) a w
 | 0,i,st,st',a,w,hm,so,e,hQ=>by
  have hl:=(zhd_ k).1
  rw [List.drop_eq_nil_of_le (by rw [← hl,Array.length_toList]; omega)] at e
  simp only [xops,Option.some.injEq] at e
  subst e
  simp only [List.range'_zero,wpOps]
  exact hQ a w so
 | m + 1,i,st,st',a,w,hm,so,e,hQ=>by
  obtain ⟨hl,hk⟩:=zhd_ k
  rw [Array.length_toList] at hl
  have hi:i < xs.length:=by omega
  have hio:i < ops.size:=by omega
  rw [List.drop_eq_getElem_cons hi] at e
  simp only [xops] at e
  obtain ⟨s1,e1,e⟩:=zaa_.1 e
  rw [List.range'_succ,wpOps_cons]
  have ho:=Array.getElem?_eq_getElem hio
  exact zbdx_ T F ho (hk i _ _ (by rw [Array.getElem?_toList]; exact ho) (List.getElem?_eq_getElem hi)) so e1 fun a' w' so'=>zbdy_ T F k m (i + 1) s1 st' a' w' (by omega) so' e hQ
theorem zbpb_ (T:TOk P φ) (F:FOk P φ cf) {xs:List XOp} (k:chkXs P φ N ops ops.toList xs=true) {Q:Exit→Act→World→Prop} {st st':St} (so:SO φ N h0 g0 w0 st a w) (e:xops cf base xs st=some st')
  (hQ:∀ a' w',SO φ N h0 g0 w0 st' a' w'→Q .normal a' w') (id:Nat):(Code.region id ops false).wp P Q a w:=by
 refine wp_region ?_
 rw [List.range_eq_range']
 exact zbdy_ T F k ops.size 0 st st' a w (by omega) so (by simpa using e) hQ
end
end Go.Proofs.Sl
namespace Go.Proofs.Sl
mutual
theorem V.eq_eq:∀ (a b:V),a.eq b=true→a=b
 | .s x,b,k=>by cases b <;> simp only [V.eq,Bool.false_eq_true] at k; rw [zpz_ k]
 | .agg x,b,k=>by cases b <;> simp only [V.eq,Bool.false_eq_true] at k; rw [V.eqs_eq _ _ k]
 | .tup x,b,k=>by cases b <;> simp only [V.eq,Bool.false_eq_true] at k; rw [V.eqs_eq _ _ k]
 | .lst n x,b,k=>by
  cases b <;> simp only [V.eq,Bool.false_eq_true,Bool.and_eq_true,beq_iff_eq] at k
  rw [k.1,V.eqs_eq _ _ k.2]
 | .lnk l o n x,b,k=>by
  cases b <;> simp only [V.eq,Bool.false_eq_true,Bool.and_eq_true,beq_iff_eq] at k
  rw [k.1.1.1,k.1.1.2,k.1.2,V.eqs_eq _ _ k.2]
 | .gro l o n x,b,k=>by
  cases b <;> simp only [V.eq,Bool.false_eq_true,Bool.and_eq_true,beq_iff_eq] at k
  rw [k.1.1.1,k.1.1.2,k.1.2,V.eqs_eq _ _ k.2]
 | .own n x,b,k=>by
  cases b <;> simp only [V.eq,Bool.false_eq_true,Bool.and_eq_true,beq_iff_eq] at k
  rw [k.1,V.eqs_eq _ _ k.2]
 | .spent n x y,b,k=>by
  cases b <;> simp only [V.eq,Bool.false_eq_true,Bool.and_eq_true,beq_iff_eq] at k
  rw [k.1.1,V.eqs_eq _ _ k.1.2,V.eqs_eq _ _ k.2]
 | .ref l n,b,k=>by
  cases b <;> simp only [V.eq,Bool.false_eq_true,Bool.and_eq_true,beq_iff_eq] at k
  rw [k.1,k.2]
 | .ptr l n,b,k=>by
  cases b <;> simp only [V.eq,Bool.false_eq_true,Bool.and_eq_true,beq_iff_eq] at k
  rw [k.1,k.2]
 | .eptr l n i j,b,k=>by
  cases b <;> simp only [V.eq,Bool.false_eq_true,Bool.and_eq_true,beq_iff_eq] at k
  rw [k.1.1.1,k.1.1.2,k.1.2,k.2]
 | .fptr v o,b,k=>by
  cases b <;> simp only [V.eq,Bool.false_eq_true,Bool.and_eq_true,beq_iff_eq] at k
  rw [V.eq_eq _ _ k.1,k.2]
 | .fn f x y,b,k=>by
  cases b <;> simp only [V.eq,Bool.false_eq_true,Bool.and_eq_true,beq_iff_eq] at k
  rw [k.1.1,V.eqs_eq _ _ k.1.2,V.eqs_eq _ _ k.2]
 | .bref l n,b,k=>by
  cases b <;> simp only [V.eq,Bool.false_eq_true,Bool.and_eq_true,beq_iff_eq] at k
  rw [k.1,k.2]
 | .win l n a c,b,k=>by
  cases b <;> simp only [V.eq,Bool.false_eq_true,Bool.and_eq_true,beq_iff_eq] at k
  rw [k.1.1.1,k.1.1.2,k.1.2,k.2]
 | .mref l,b,k=>by
  cases b <;> simp only [V.eq,Bool.false_eq_true,Bool.and_eq_true,beq_iff_eq] at k
  rw [k]
 | .ifc t v,b,k=>by
  cases b <;> simp only [V.eq,Bool.false_eq_true,Bool.and_eq_true,beq_iff_eq] at k
  rw [k.1,V.eq_eq _ _ k.2]
theorem V.eqs_eq:∀ (a b:List V),V.eq.eqs a b=true→a=b
 | [],b,k=>by cases b <;> simp only [V.eq.eqs,Bool.false_eq_true] at k; rfl
 | x :: a,b,k=>by
  cases b <;> simp only [V.eq.eqs,Bool.false_eq_true,Bool.and_eq_true] at k
  rw [V.eq_eq _ _ k.1,V.eqs_eq _ _ k.2]
end
theorem zbdz_:∀ {a b:List (Value × V)},mpEq a b=true→a=b
 | [],b,k=>by cases b <;> simp only [mpEq,Bool.false_eq_true] at k; rfl
 | x :: a,b,k=>by
  cases b <;> simp only [mpEq,Bool.false_eq_true,Bool.and_eq_true] at k
  obtain ⟨⟨k1,k2⟩,k3⟩:=k
  rw [zbdz_ k3,Prod.ext (zpz_ k1) (V.eq_eq _ _ k2)]
theorem O.eq_eq {a b:O} (k:a.eq b=true):a=b:=by
 cases a <;> cases b <;> simp only [O.eq,Bool.false_eq_true,Bool.and_eq_true,beq_iff_eq] at k
 ·rw [k.1,V.eqs_eq _ _ k.2]
 ·rw [k.1.1,k.1.2,V.eqs_eq _ _ k.2]
 ·rfl
 ·rw [zbdz_ k]
theorem H.eq_eq:∀ {a b:H},H.eq a b=true→a=b
 | [],b,k=>by cases b <;> simp only [H.eq,Bool.false_eq_true] at k; rfl
 | x :: a,b,k=>by
  cases b <;> simp only [H.eq,Bool.false_eq_true,Bool.and_eq_true] at k
  rw [O.eq_eq k.1,H.eq_eq k.2]
def Opd.rd:Opd→List Nat
 | .t n=>[n]
 | .c _=>[]
def rds (l:List Opd):List Nat:=l.flatMap Opd.rd
def zql_ (l:List (Nat × Nat × Opd)):List Nat:=l.flatMap fun p=>p.2.2.rd
def rdOpt:Option Opd→List Nat
 | some x=>x.rd
 | none=>[]
def XO.reads:XO→List Nat
 | .cp x | .box _ x | .load _ _ x | .loadF _ _ x | .nilchk x | .un _ x | .conv _ x | .toStr x | .slArr _ x | .slBox _ x | .clear _ _ x | .faddr x _ | .field _ _ _ x | .extract x _ | .len _ x=>x.rd
 | .mput _ m k v=>m.rd++(k.rd++v.rd)
 | .mget _ _ _ m k=>m.rd++k.rd
 | .pick a b c=>a.rd++(b.rd++c.rd)
 | .alloc _ | .mkmap=>[]
 | .build _ _ ps=>zql_ ps
 | .buildR _ ps=>zql_ ps
 | .bslice _ _ ps | .minmax _ ps | .call _ _ ps | .callK _ ps=>rds ps
 | .storeR x v | .store _ x v | .bin _ x v | .eqv _ _ x v | .mkslice _ _ _ x v | .iaddr _ x v | .iaddrA _ _ x v | .idxS x v | .idxA _ _ _ x v | .append _ _ x v=>x.rd++v.rd
 | .mkfn _ _ a b=>rds a++rds b
 | .slStr x lo hi | .slLst _ x lo hi | .slFrz _ x lo hi=>x.rd++(rdOpt lo++rdOpt hi)
 | .callv _ f xs=>f.rd++rds xs
 | .mkifc _ x=>x.rd
 | .calli _ _ x xs=>x.rd++rds xs
def XOp.reads (o:XOp):List Nat:=(match o.guard with
 | some (t,_)=>[t]
 | none=>[])++o.op.reads
section
variable {s s':Sl} {h:H} {cf:CallF} {base:Nat}
def Agree (s s':Sl) (l:List Nat):Prop:=∀ t ∈ l,s t=s' t
theorem Agree.left {a b:List Nat} (k:Agree s s' (a++b)):Agree s s' a:=fun t ht=>k t (List.mem_append_left _ ht)
theorem Agree.right {a b:List Nat} (k:Agree s s' (a++b)):Agree s s' b:=fun t ht=>k t (List.mem_append_right _ ht)
theorem zag_ {x:Opd} (k:Agree s s' x.rd):x.ev s=x.ev s':=by
 cases x with
 | t n=>exact k n (by simp [Opd.rd])
 | c v=>rfl
theorem zch_:∀ {l:List Opd},Agree s s' (rds l)→evs s l=evs s' l
 | [],_=>rfl
 | x :: l,k=>by
  simp only [rds,List.flatMap_cons] at k
  simp only [evs]
  rw [zag_ k.left,zch_ k.right]
theorem zqm_:∀ {l:List (Nat × Nat × Opd)},Agree s s' (zql_ l)→zbo_ s l=zbo_ s' l
 | [],_=>rfl
 | p :: l,k=>by
  simp only [zql_,List.flatMap_cons] at k
  simp only [zbo_]
  rw [zag_ k.left,zqm_ k.right]
theorem zhe_ {x:Option Opd} (k:Agree s s' (rdOpt x)):evOpt s x=evOpt s' x:=by
 cases x with
 | none=>rfl
 | some x=>simp only [evOpt]; rw [zag_ k]
theorem zbpc_ {o:XO} (k:Agree s s' o.reads):xpure s o=xpure s' o:=by
 cases o <;> simp only [XO.reads] at k
 case cp=>simp only [xpure,zag_ k]
 case pick=>simp only [xpure,zag_ k.left,zag_ k.right.left,zag_ k.right.right]
 case build r _ _=>cases r <;> simp only [xpure,zqm_ k]
 case buildR=>simp only [xpure,zqm_ k]
 case bslice r _ _=>cases r <;> simp only [xpure,zch_ k]
 case nilchk=>simp only [xpure,zag_ k]
 case bin=>simp only [xpure,zag_ k.left,zag_ k.right]
 case eqv=>simp only [xpure,zag_ k.left,zag_ k.right]
 case un=>simp only [xpure,zag_ k]
 case conv=>simp only [xpure,zag_ k]
 case mkfn r _ _ _=>cases r <;> simp only [xpure,zch_ k.left,zch_ k.right]
 case slStr=>simp only [xpure,zag_ k.left,zhe_ k.right.left,zhe_ k.right.right]
 case faddr=>simp only [xpure,zag_ k]
 case idxS=>simp only [xpure,zag_ k.left,zag_ k.right]
 case idxA=>simp only [xpure,zag_ k.left,zag_ k.right]
 case field=>simp only [xpure,zag_ k]
 case extract=>simp only [xpure,zag_ k]
 case minmax=>simp only [xpure,zch_ k]
 case slBox=>simp only [xpure,zag_ k]
 case mkifc=>simp only [xpure,zag_ k]
 all_goals rfl
theorem zbpd_ {o:XO} (k:Agree s s' o.reads):xread s h o=xread s' h o:=by
 cases o <;> simp only [XO.reads] at k
 case load=>simp only [xread,zag_ k]
 case toStr=>simp only [xread,zag_ k]
 case slLst=>simp only [xread,zag_ k.left,zhe_ k.right.left,zhe_ k.right.right]
 case iaddr=>simp only [xread,zag_ k.left,zag_ k.right]
 case iaddrA=>simp only [xread,zag_ k.left,zag_ k.right]
 case len r _=>cases r <;> simp only [xread,zag_ k]
 case mget=>simp only [xread,zag_ k.left,zag_ k.right]
 all_goals rfl
theorem zbpe_ {o:XO} (k:Agree s s' o.reads):xeff cf base s h o=xeff cf base s' h o:=by
 cases o <;> simp only [XO.reads] at k
 case box=>simp only [xeff,zag_ k]
 case build r _ _=>cases r <;> simp only [xeff,zqm_ k]
 case bslice r _ _=>cases r <;> simp only [xeff,zch_ k]
 case store=>simp only [xeff,zag_ k.left,zag_ k.right]
 case storeR=>simp only [xeff,zag_ k.left,zag_ k.right]
 case mkfn r _ _ _=>cases r <;> simp only [xeff,zch_ k.left,zch_ k.right]
 case mkslice=>simp only [xeff,zag_ k.left,zag_ k.right]
 case slArr=>simp only [xeff,zag_ k]
 case slFrz=>simp only [xeff,zag_ k.left,zhe_ k.right.left,zhe_ k.right.right]
 case clear=>simp only [xeff,zag_ k]
 case append=>simp only [xeff,zag_ k.left,zag_ k.right]
 case call=>simp only [xeff,zch_ k]
 case callv=>simp only [xeff,zag_ k.left,zch_ k.right]
 case calli=>simp only [xeff,zag_ k.left,zch_ k.right]
 case callK=>simp only [xeff,zch_ k]
 case loadF=>simp only [xeff,zag_ k]
 case mput=>simp only [xeff,zag_ k.left,zag_ k.right.left,zag_ k.right.right]
 all_goals rfl
theorem zbpf_ {g:Option (Nat × Bool)} (k:Agree s s' (match g with
  | some (t,_)=>[t]
  | none=>[])):wanted s g=wanted s' g:=by
 cases g with
 | none=>rfl
 | some p=>simp only [wanted]; rw [k p.1 (by simp)]
end
end Go.Proofs.Sl
namespace Go.Proofs.Sl
def depsOf (o:Oper):List Nat:=(o.after.toList.filter fun e=>Region.binds .any e).map (·.on)
inductive Reach (ops:Array Oper):Nat→Nat→Prop
 | one {i j:Nat} {o:Oper} (h:ops[i]?=some o) (k:j ∈ depsOf o):Reach ops i j
 | more {i k j:Nat} {o:Oper} (h:ops[i]?=some o) (e:k ∈ depsOf o) (r:Reach ops k j):Reach ops i j
def maskOf (A:List Nat):List Nat→Nat
 | []=>0
 | j :: r=>(1 <<< j ||| A.getD j 0) ||| maskOf A r
def ancs:List (List Nat)→List Nat→List Nat
 | [],acc=>acc
 | ds :: r,acc=>ancs r (acc++[maskOf acc ds])
def chkAnc (A:List Nat):Nat→List Oper→List Nat→Bool
 | _,[],[]=>true
 | i,o :: r,m :: l=>m == maskOf A (depsOf o) && (depsOf o).all (fun j=>decide (j < i)) && chkAnc A (i + 1) r l
 | _,_,_=>false
theorem zbea_ {A:List Nat} {j:Nat}:∀ {l:List Nat},(maskOf A l).testBit j=true→∃ k ∈ l,j=k∨(A.getD k 0).testBit j=true
 | [],e=>by simp [maskOf] at e
 | k :: l,e=>by
  simp only [maskOf,Nat.testBit_or,Bool.or_eq_true] at e
  rcases e with (e | e) | e
  ·refine ⟨k,by simp,.inl ?_⟩
   rw [Nat.one_shiftLeft,Nat.testBit_two_pow] at e
   simpa using (of_decide_eq_true e).symm
  ·exact ⟨k,by simp,.inr e⟩
  ·obtain ⟨q,h1,h2⟩:=zbea_ e
   exact ⟨q,List.mem_cons_of_mem _ h1,h2⟩
theorem zuz_ {A:List Nat}:∀ {os:List Oper} {l:List Nat} {i0:Nat},chkAnc A i0 os l=true→os.length=l.length∧∀ (i:Nat) (o:Oper) (m:Nat),os[i]?=some o→l[i]?=some m→m=maskOf A (depsOf o)∧∀ j ∈ depsOf o,j < i0 + i
 | [],[],_,_=>⟨rfl,fun i o m e=>by simp at e⟩
 | o :: os,m :: l,i0,k=>by
  simp only [chkAnc,Bool.and_eq_true,beq_iff_eq,List.all_eq_true,decide_eq_true_eq] at k
  obtain ⟨h1,h2⟩:=zuz_ k.2
  refine ⟨by simp [h1],fun i o' m' e1 e2=>?_⟩
  cases i with
  | zero =>
   simp only [List.getElem?_cons_zero,Option.some.injEq] at e1 e2
   subst e1 e2
   exact ⟨k.1.1,fun j hj=>by have:=k.1.2 j hj; omega⟩
  | succ i =>
   obtain ⟨h3,h4⟩:=h2 i o' m' (by simpa using e1) (by simpa using e2)
   exact ⟨h3,fun j hj=>by have:=h4 j hj; omega⟩
 | [],_ :: _,_,k=>by simp [chkAnc] at k
 | _ :: _,[],_,k=>by simp [chkAnc] at k
theorem zbpg_ {ops:Array Oper} {A:List Nat} (k:chkAnc A 0 ops.toList A=true):∀ (i:Nat) (j:Nat),(A.getD i 0).testBit j=true→Reach ops i j:=by
 obtain ⟨hl,hk⟩:=zuz_ k
 intro i
 induction i using Nat.strongRecOn with
 | _ i ih =>
  intro j e
  rw [List.getD_eq_getElem?_getD] at e
  cases hm:A[i]? with
  | none=>rw [hm] at e; simp at e
  | some m =>
   rw [hm] at e
   have hi:i < ops.toList.length:=by rw [hl]; exact (List.getElem?_eq_some_iff.1 hm).1
   have ho:=List.getElem?_eq_getElem hi
   obtain ⟨h1,h2⟩:=hk i _ m ho hm
   rw [Array.getElem?_toList] at ho
   rw [Option.getD_some,h1] at e
   obtain ⟨q,h3,h4⟩:=zbea_ e
   rcases h4 with rfl | h4
   ·exact .one ho h3
   ·exact .more ho h3 (ih q (by have:=h2 q h3; omega) j h4)
def noConf (x y:XOp):Bool:=match y.dst with
 | some t=>!(x.reads.contains t) && (match x.dst with
  | some u=>u != t
  | none=>true)
 | none=>true
def zci_ (d:List (Nat × Option Nat)) (j i:Nat):Bool:=d.any fun p=>p.1 == j && (match p.2 with
 | some r=>r == i
 | none=>true)
def isLate (x:XOp):Bool:=match x.op,x.guard,x.dst with
 | .alloc _,none,some _=>true
 | _,_,_=>false
def zjy_ (d:List (Nat × Option Nat)) (i mi:Nat) (x:XOp) (j mj:Nat) (y:XOp) (e:Nat):Bool :=
 i == j || (if isLate y=true then (decide (i < j) && mj.testBit i) || (decide (j < i) && mi &&& e == e) || (noConf x y && noConf y x && (x.op.cls == 0 || (x.op.cls == 1 && zci_ d j i) || (x.op.cls == 2 && (decide (i < j) || isLate x))))
  else mi.testBit j || mj.testBit i || (noConf x y && (y.op.cls != 2 || x.op.cls == 0 || (x.op.cls == 1 && zci_ d j i) || isLate x)))
def effs1 (j e:Nat) (y:XOp):Nat:=if y.op.cls=2 then e ||| 1 <<< j else e
def chkRow (d:List (Nat × Option Nat)) (i mi:Nat) (x:XOp):Nat→Nat→List Nat→List XOp→Bool
 | _,_,[],[]=>true
 | j,e,mj :: l,y :: r=>zjy_ d i mi x j mj y (effs1 j e y) && chkRow d i mi x (j + 1) (effs1 j e y) l r
 | _,_,_,_=>false
def zhf_ (d:List (Nat × Option Nat)) (A:List Nat) (xs:List XOp):Nat→List Nat→List XOp→Bool
 | _,[],[]=>true
 | i,mi :: l,x :: r=>chkRow d i mi x 0 0 A xs && zhf_ d A xs (i + 1) l r
 | _,_,_=>false
theorem zbeb_ {j e q:Nat} {y:XOp} (h:e.testBit q=true):(effs1 j e y).testBit q=true:=by
 unfold effs1
 split
 ·rw [Nat.testBit_or,h,Bool.true_or]
 ·exact h
theorem zbec_ {j e:Nat} {y:XOp} (h:y.op.cls=2):(effs1 j e y).testBit j=true:=by
 unfold effs1
 rw [if_pos h,Nat.testBit_or,Nat.one_shiftLeft,Nat.testBit_two_pow]
 simp
theorem zbed_ {d:List (Nat × Option Nat)} {i mi:Nat} {x:XOp}:∀ {l:List Nat} {r:List XOp} {j0 e0:Nat},chkRow d i mi x j0 e0 l r=true→∀ (j mj:Nat) (y:XOp),l[j]?=some mj→r[j]?=some y →
  ∃ e,zjy_ d i mi x (j0 + j) mj y e=true∧(∀ q,e0.testBit q=true→e.testBit q=true)∧∀ (q:Nat) (u:XOp),q≤j→r[q]?=some u→u.op.cls=2→e.testBit (j0 + q)=true
 | [],[],_,_,_,j,mj,y,e,_=>by simp at e
 | m :: l,z :: r,j0,e0,k,j,mj,y,e1,e2=>by
  simp only [chkRow,Bool.and_eq_true] at k
  cases j with
  | zero =>
   simp only [List.getElem?_cons_zero,Option.some.injEq] at e1 e2
   subst e1 e2
   refine ⟨_,k.1,fun q h=>zbeb_ h,fun q u hq hu hc=>?_⟩
   obtain rfl:q=0:=by omega
   simp only [List.getElem?_cons_zero,Option.some.injEq] at hu
   subst hu
   exact zbec_ hc
  | succ j =>
   obtain ⟨e,h1,h2,h3⟩:=zbed_ k.2 j mj y (by simpa using e1) (by simpa using e2)
   refine ⟨e,by rwa [show j0 + 1 + j=j0 + (j + 1) by omega] at h1,fun q h=>h2 q (zbeb_ h),fun q u hq hu hc=>?_⟩
   cases q with
   | zero =>
    simp only [List.getElem?_cons_zero,Option.some.injEq] at hu
    subst hu
    exact h2 _ (zbec_ hc)
   | succ q =>
    have:=h3 q u (by omega) (by simpa using hu) hc
    rwa [show j0 + 1 + q=j0 + (q + 1) by omega] at this
 | [],_ :: _,_,_,k,_,_,_,_,_=>by simp [chkRow] at k
 | _ :: _,[],_,_,k,_,_,_,_,_=>by simp [chkRow] at k
theorem zbee_ {d:List (Nat × Option Nat)} {A:List Nat} {xs:List XOp}:∀ {l:List Nat} {r:List XOp} {i0:Nat},zhf_ d A xs i0 l r=true→∀ (i mi:Nat) (x:XOp),l[i]?=some mi→r[i]?=some x→chkRow d (i0 + i) mi x 0 0 A xs=true
 | [],[],_,_,i,mi,x,e,_=>by simp at e
 | m :: l,z :: r,i0,k,i,mi,x,e1,e2=>by
  simp only [zhf_,Bool.and_eq_true] at k
  cases i with
  | zero =>
   simp only [List.getElem?_cons_zero,Option.some.injEq] at e1 e2
   subst e1 e2
   exact k.1
  | succ i =>
   have:=zbee_ k.2 i mi x (by simpa using e1) (by simpa using e2)
   rwa [show i0 + 1 + i=i0 + (i + 1) by omega] at this
 | [],_ :: _,_,k,_,_,_,_,_=>by simp [zhf_] at k
 | _ :: _,[],_,k,_,_,_,_,_=>by simp [zhf_] at k
def zqn_ (ops:Array Oper) (xs:List XOp) (d:List (Nat × Option Nat)) (A:List Nat):Bool:=chkAnc A 0 ops.toList A && zhf_ d A xs 0 A xs
def mix (D:Nat→Option Nat) (val:Nat→V) (p:Nat→Bool) (s0:Sl):Nat→Sl
 | 0=>s0
 | i + 1=>if p i=true then put (mix D val p s0 i) (D i) (val i) else mix D val p s0 i
section
variable {D:Nat→Option Nat} {val:Nat→V} {p q:Nat→Bool} {s0:Sl}
theorem zcj_ {s:Sl} {d:Option Nat} {v:V} {t:Nat}:put s d v t=if d=some t then v else s t:=by
 cases d with
 | none=>simp [put]
 | some u =>
  simp only [put,upd,Option.some.injEq]
  by_cases h:u=t
  ·rw [if_pos h,if_pos h.symm]
  ·rw [if_neg h,if_neg fun e=>h e.symm]
theorem zva_ {t:Nat}:∀ (n:Nat),(∀ i,i < n→D i=some t→p i=q i)→mix D val p s0 n t=mix D val q s0 n t
 | 0,_=>rfl
 | n + 1,k=>by
  have ih:=zva_ n fun i hi e=>k i (by omega) e
  simp only [mix]
  by_cases hd:D n=some t
  ·rw [k n (by omega) hd]
   split
   ·simp only [zcj_,hd,if_true]
   ·exact ih
  ·split <;> split <;> (try simp only [zcj_,if_neg hd]) <;> exact ih
theorem zvb_ (k:Nat) (p:Nat→Bool):∀ (n:Nat),(∀ i,k≤i→i < n→p i=false)→k≤n→mix D val p s0 n=mix D val p s0 k
 | 0,_,hk=>by rw [show k=0 by omega]
 | n + 1,h,hk=>by
  by_cases hn:k=n + 1
  ·rw [hn]
  ·simp only [mix]
   rw [h n (by omega) (by omega)]
   simp only [Bool.false_eq_true,if_false]
   exact zvb_ k p n (fun i h1 h2=>h i h1 (by omega)) (by omega)
theorem zjz_ {val2:Nat→V} {t:Nat}:∀ (n:Nat),(∀ i,i < n→D i=some t→p i=q i∧(p i=true→val i=val2 i))→mix D val p s0 n t=mix D val2 q s0 n t
 | 0,_=>rfl
 | n + 1,k=>by
  have ih:=zjz_ n fun i hi e=>k i (by omega) e
  simp only [mix]
  by_cases hd:D n=some t
  ·obtain ⟨h1,h2⟩:=k n (by omega) hd
   rw [← h1]
   split
   ·rename_i hp
    simp only [zcj_,hd,if_true,h2 hp]
   ·exact ih
  ·split <;> split <;> (try simp only [zcj_,if_neg hd]) <;> exact ih
theorem zvc_ {val2:Nat→V} {t:Nat}:∀ (n:Nat),mix D val p s0 n t=mix D val2 p s0 n t∨∃ i,i < n∧p i=true∧D i=some t∧mix D val p s0 n t=val i∧mix D val2 p s0 n t=val2 i
 | 0=>.inl rfl
 | n + 1=>by
  simp only [mix]
  by_cases hp:p n=true
  ·rw [if_pos hp,if_pos hp]
   by_cases hd:D n=some t
   ·exact .inr ⟨n,by omega,hp,hd,by simp [zcj_,hd],by simp [zcj_,hd]⟩
   ·simp only [zcj_,if_neg hd]
    rcases zvc_ n with h | ⟨i,h1,h2,h3,h4,h5⟩
    ·exact .inl h
    ·exact .inr ⟨i,by omega,h2,h3,h4,h5⟩
  ·rw [if_neg hp,if_neg hp]
   rcases zvc_ n with h | ⟨i,h1,h2,h3,h4,h5⟩
   ·exact .inl h
   ·exact .inr ⟨i,by omega,h2,h3,h4,h5⟩
theorem zbph_ {i:Nat} (hp:p i=false):∀ (n:Nat),i < n→(∀ j,i < j→j < n→∀ t,D i=some t→D j=some t→p j=false)→mix D val (fun j=>if j=i then true else p j) s0 n=put (mix D val p s0 n) (D i) (val i):=by
 intro n
 induction n with
 | zero=>intro h; omega
 | succ n ih =>
  intro hi hlast
  funext t
  simp only [mix]
  by_cases hn:n=i
  ·subst hn
   simp only [if_true,hp,Bool.false_eq_true,if_false]
   have:mix D val (fun j=>if j=n then true else p j) s0 n=mix D val p s0 n:=by
    funext t
    refine zva_ n fun j hj _=>?_
    rw [if_neg (by omega)]
   rw [this]
  ·simp only [if_neg hn]
   rw [ih (by omega) fun j h1 h2=>hlast j h1 (by omega)]
   by_cases hd:D i=some t
   ·by_cases hd2:D n=some t
    ·rw [hlast n (by omega) (by omega) t hd hd2]
     simp
    ·split <;> (try simp only [zcj_,hd,if_neg hd2,if_true])
   ·split <;> (try simp only [zcj_,if_neg hd])
end
end Go.Proofs.Sl
namespace Go.Proofs.Sl
structure TrOk (cf:CallF) (base:Nat) (xs:List XOp) (st:St) (T:Nat→St) (D:Nat→Option Nat) (val:Nat→V):Prop where
 zero:T 0=st
 step:∀ (i:Nat) (x:XOp),xs[i]?=some x→xstep cf base x (T i)=some (T (i + 1))
 dst:∀ (i:Nat) (x:XOp),xs[i]?=some x→D i=x.dst
 val:∀ (i:Nat) (t:Nat),D i=some t→val i=(T (i + 1)).s t
section
variable {cf:CallF} {base:Nat} {xs:List XOp} {st:St} {T:Nat→St} {D:Nat→Option Nat} {val:Nat→V}
theorem zvd_ {x:XOp} {a b:St} (e:xstep cf base x a=some b):∃ wt,wanted a.s x.guard=some wt∧((wt=true∧∃ v,xop cf base a.s a.h x.op=some (v,b.h)∧b.s=put a.s x.dst v)∨(wt=false∧b.h=a.h∧b.s=put a.s x.dst .u)):=by
 unfold xstep at e
 obtain ⟨wt,e1,e⟩:=zaa_.1 e
 refine ⟨wt,e1,?_⟩
 cases wt with
 | true =>
  simp only [if_true] at e
  obtain ⟨p,e2,e⟩:=zaa_.1 e
  injection e with e
  subst e
  exact .inl ⟨rfl,p.1,e2,rfl⟩
 | false =>
  simp only [Bool.false_eq_true,if_false] at e
  injection e with e
  subst e
  exact .inr ⟨rfl,rfl,rfl⟩
theorem zbef_ {s:Sl} {h h':H} {o:XO} {v:V} (hc:o.cls≠2) (e:xop cf base s h o=some (v,h')):h'=h∧((o.cls=0∧xpure s o=some v)∨(o.cls=1∧xread s h o=some v)):=by
 unfold xop at e
 split at e
 ·rename_i h0
  obtain ⟨u,e1,e⟩:=zaa_.1 e
  injection e with e
  injection e with e2 e3
  subst e2 e3
  exact ⟨rfl,.inl ⟨h0,e1⟩⟩
 ·rename_i h0
  obtain ⟨u,e1,e⟩:=zaa_.1 e
  injection e with e
  injection e with e2 e3
  subst e2 e3
  exact ⟨rfl,.inr ⟨h0,e1⟩⟩
 ·rename_i h0 h1
  have:o.cls=2:=by
   unfold XO.cls at h0 h1 ⊢
   split at h0 <;> simp_all
  exact absurd this hc
theorem TrOk.slot (K:TrOk cf base xs st T D val) {i:Nat} (hi:i < xs.length):(T (i + 1)).s=put (T i).s (D i) (val i):=by
 have hx:=List.getElem?_eq_getElem hi
 obtain ⟨wt,_,h⟩:=zvd_ (K.step i _ hx)
 have hd:=K.dst i _ hx
 have key:∀ v,(T (i + 1)).s=put (T i).s xs[i].dst v→(T (i + 1)).s=put (T i).s (D i) (val i):=by
  intro v hv
  rw [hv,← hd]
  cases hD:D i with
  | none=>rfl
  | some t =>
   have:=K.val i t hD
   rw [this,hv,← hd,hD]
   simp [zcj_]
 rcases h with ⟨_,v,_,hv⟩ | ⟨_,_,hv⟩
 ·exact key v hv
 ·exact key _ hv
theorem TrOk.heap (K:TrOk cf base xs st T D val) {i:Nat} {x:XOp} (hx:xs[i]?=some x) (hc:x.op.cls≠2):(T (i + 1)).h=(T i).h:=by
 obtain ⟨wt,_,h⟩:=zvd_ (K.step i _ hx)
 rcases h with ⟨_,v,e,_⟩ | ⟨_,e,_⟩
 ·exact (zbef_ hc e).1
 ·exact e
theorem TrOk.all (K:TrOk cf base xs st T D val):∀ (i:Nat),i≤xs.length→(T i).s=mix D val (fun _=>true) st.s i
 | 0,_=>by rw [K.zero]; rfl
 | i + 1,hi=>by
  rw [K.slot (by omega),K.all i (by omega)]
  rfl
structure StOk (xs:List XOp) (T:Nat→St) (d:List (Nat × Option Nat)):Prop where
 all:∀ j i:Nat,zci_ d j i=true→∀ x,xs[i]?=some x→j < xs.length→((T j).h=(T (j + 1)).h)∨wanted (T i).s x.guard=some false∨∃ v,xread (T i).s (T i).h x.op=some v∧xread (T i).s (if j < i then (T j).h else (T (j + 1)).h) x.op=some v
theorem zbpi_ {tr:List St} {d:List (Nat × Option Nat)} (k:stable xs tr d=true):∀ c ∈ d,zpn_ xs tr c=true:=by
 induction d with
 | nil=>intro c hc; cases hc
 | cons p d ih =>
  simp only [stable,Bool.and_eq_true] at k
  intro c hc
  rcases List.mem_cons.1 hc with rfl | hc
  ·exact k.1
  ·exact ih k.2 c hc
theorem zbpj_ {tr:List St} {d:List (Nat × Option Nat)} (hT:∀ i,i≤xs.length→tr[i]?=some (T i)) (k:stable xs tr d=true):StOk xs T d:=by
 refine ⟨fun j i hp x hx hj=>?_⟩
 obtain ⟨c,hc,hp⟩:=List.any_eq_true.1 hp
 obtain ⟨c1,c2⟩:=c
 simp only [Bool.and_eq_true,beq_iff_eq] at hp
 obtain ⟨rfl,hp⟩:=hp
 have:=zbpi_ k _ hc
 simp only [zpn_,hT c1 (by omega),hT (c1 + 1) (by omega)] at this
 cases c2 with
 | none =>
  left
  exact zbbt_ this
 | some r =>
  simp only [beq_iff_eq] at hp
  subst hp
  have hr:r < xs.length:=(List.getElem?_eq_some_iff.1 hx).1
  simp only [hT r (by omega),hx] at this
  right
  split at this
  ·left; assumption
  ·right
   unfold optEq at this
   split at this
   ·rename_i a b ha hb
    have hab:=zbbt_ this
    subst hab
    exact ⟨a,ha,hb⟩
   ·cases this
theorem zbeg_ (K:TrOk cf base xs st T D val) {d:List (Nat × Option Nat)} (Z:StOk xs T d) {i:Nat} {x:XOp} (hx:xs[i]?=some x) (hw:wanted (T i).s x.guard≠some false):∀ (q m:Nat),m + q=i→(∀ j y,m≤j→j < i→xs[j]?=some y→y.op.cls=2→zci_ d j i=true) →
  xread (T i).s (T m).h x.op=xread (T i).s (T i).h x.op
 | 0,m,hm,_=>by rw [show m=i by omega]
 | q + 1,m,hm,hp=>by
  have hi:=(List.getElem?_eq_some_iff.1 hx).1
  have hy:=List.getElem?_eq_getElem (show m < xs.length by omega)
  have ih:=zbeg_ K Z hx hw q (m + 1) (by omega) fun j y h1 h2=>hp j y (by omega) h2
  by_cases hc:xs[m].op.cls=2
  ·rcases Z.all m i (hp m _ (Nat.le_refl _) (by omega) hy hc) x hx (by omega) with h1 | h1 | ⟨v,h1,h2⟩
   ·rw [h1]; exact ih
   ·exact absurd h1 hw
   ·rw [if_pos (by omega)] at h2
    rw [h1,h2]
  ·rw [← K.heap hy hc]; exact ih
theorem zbeh_ (K:TrOk cf base xs st T D val) {d:List (Nat × Option Nat)} (Z:StOk xs T d) {i:Nat} {x:XOp} (hx:xs[i]?=some x) (hcx:x.op.cls≠2) (hw:wanted (T i).s x.guard≠some false):∀ (q m:Nat),i + q=m→m≤xs.length→(∀ j y,i < j→j < m→xs[j]?=some y→y.op.cls=2→zci_ d j i=true) →
  xread (T i).s (T m).h x.op=xread (T i).s (T i).h x.op
 | 0,m,hm,_,_=>by rw [show m=i by omega]
 | q + 1,m,hm,hmn,hp=>by
  obtain ⟨m',rfl⟩:∃ m',m=m' + 1:=⟨i + q,by omega⟩
  have hy:=List.getElem?_eq_getElem (show m' < xs.length by omega)
  have ih:=zbeh_ K Z hx hcx hw q m' (by omega) (by omega) fun j y h1 h2=>hp j y h1 (by omega)
  by_cases hc:xs[m'].op.cls=2
  ·have hne:i≠m':=by
    rintro rfl
    rw [hy] at hx
    injection hx with hx
    subst hx
    exact hcx hc
   rcases Z.all m' i (hp m' _ (by omega) (by omega) hy hc) x hx (by omega) with h1 | h1 | ⟨v,h1,h2⟩
   ·rw [← h1]; exact ih
   ·exact absurd h1 hw
   ·rw [if_neg (by omega)] at h2
    rw [h1,h2]
  ·rw [K.heap hy hc]; exact ih
theorem zka_ (K:TrOk cf base xs st T D val) {i:Nat}:∀ (q m:Nat),m + q=i→i≤xs.length→(∀ j y,m≤j→j < i→xs[j]?=some y→y.op.cls≠2)→(T m).h=(T i).h
 | 0,m,hm,_,_=>by rw [show m=i by omega]
 | q + 1,m,hm,hi,hp=>by
  have hy:=List.getElem?_eq_getElem (show m < xs.length by omega)
  rw [← K.heap hy (hp m _ (Nat.le_refl _) (by omega) hy)]
  exact zka_ K q (m + 1) (by omega) hi fun j y h1 h2=>hp j y (by omega) h2
theorem zbpk_ (K:TrOk cf base xs st T D val) {d:List (Nat × Option Nat)} (Z:StOk xs T d) {i m:Nat} {x:XOp} (hx:xs[i]?=some x) (hm:m≤xs.length) {s:Sl} (hag:Agree s (T i).s x.reads)
  (heff:x.op.cls=2→(T m).h=(T i).h) (hup:x.op.cls=1→∀ j y,m≤j→j < i→xs[j]?=some y→y.op.cls=2→zci_ d j i=true) (hdown:x.op.cls=1→∀ j y,i < j→j < m→xs[j]?=some y→y.op.cls=2→zci_ d j i=true) :
  xstep cf base x ⟨s,(T m).h⟩=some ⟨put s (D i) (val i),if x.op.cls=2 then (T (i + 1)).h else (T m).h⟩:=by
 have hd:=K.dst i x hx
 have hi:=(List.getElem?_eq_some_iff.1 hx).1
 obtain ⟨wt,hw,hf⟩:=zvd_ (K.step i x hx)
 have hwa:wanted s x.guard=some wt:=by
  rw [← hw]
  refine zbpf_ ?_
  exact Agree.left (b:=x.op.reads) hag
 have hop:Agree s (T i).s x.op.reads:=hag.right
 have hput:∀ v,(T (i + 1)).s=put (T i).s x.dst v→put s x.dst v=put s (D i) (val i):=by
  intro v hv
  rw [hd]
  cases hdd:x.dst with
  | none=>rfl
  | some t =>
   have:=K.val i t (by rw [hd,hdd])
   rw [this,hv,hdd]
   simp [zcj_]
 unfold xstep
 rw [hwa,zab_]
 rcases hf with ⟨rfl,v,e,hv⟩ | ⟨rfl,e,hv⟩
 ·simp only [if_true]
  have hx2:xop cf base s (T m).h x.op=some (v,if x.op.cls=2 then (T (i + 1)).h else (T m).h):=by
   by_cases hc:x.op.cls=2
   ·rw [if_pos hc,heff hc]
    unfold xop at e ⊢
    rw [hc] at e ⊢
    simp only at e ⊢
    rw [zbpe_ hop]
    exact e
   ·rw [if_neg hc]
    obtain ⟨h1,h2⟩:=zbef_ hc e
    unfold xop
    rcases h2 with ⟨h2,h3⟩ | ⟨h2,h3⟩
    ·rw [h2]
     simp only
     rw [zbpc_ hop,h3]
     rfl
    ·rw [h2]
     simp only
     have hwn:wanted (T i).s x.guard≠some false:=by rw [hw]; simp
     have hrd:xread (T i).s (T m).h x.op=xread (T i).s (T i).h x.op:=by
      rcases Nat.le_total m i with hmi | hmi
      ·exact zbeg_ K Z hx hwn (i - m) m (by omega) (hup h2)
      ·exact zbeh_ K Z hx hc hwn (m - i) m (by omega) hm (hdown h2)
     rw [zbpd_ hop,hrd,h3]
     rfl
  rw [hx2,zab_,hput v hv]
 ·simp only [Bool.false_eq_true,if_false]
  rw [hput _ hv]
  split
  ·rename_i hc
   rw [heff hc,e]
  ·rfl
end
end Go.Proofs.Sl
namespace Go.Proofs.Sl
section
variable {P:Program} {φ:Nat→Option FuncId} {h h':H} {g g':G} {w w' w0:World} {N:Nat} {s:Sl} {a:Act} {b:Nat} {z:List V}
structure PendOk (φ:Nat→Option FuncId) (g:G) (h:H) (w w0:World) (b:Nat) (z:List V):Prop where
 ge:w0.heap.size≤b
 row:∃ ms E,w.heap[b]?=some (.cells ms E (0,0))∧rels φ g h false z ms.toList
 none:∀ j,g.M b j=none
 apart:∀ a,live h a→g.b a≠b
 ok:zai_ z=true
 tl:noTl z
theorem PendOk.lt (p:PendOk φ g h w w0 b z):b < w.heap.size:=by
 obtain ⟨ms,E,e,r⟩:=p.row
 exact zey_ e
theorem PendOk.ext (p:PendOk φ g h w w0 b z) (X:Ext h g w h' g' w'):PendOk φ g' h' w' w0 b z:=by
 have hb:=p.lt
 obtain ⟨ms,E,e,r⟩:=p.row
 refine ⟨p.ge,⟨ms,E,(X.frame b hb p.apart).trans e,zav_ X.later _ _ _ r⟩,fun j=>?_,fun a ha e'=>?_,p.ok,p.tl⟩
 ·cases hM:g'.M b j with
  | none=>rfl
  | some u =>
   rcases X.mfr b j u hb hM with h1 | ⟨key,h1,h2⟩
   ·rw [p.none] at h1; cases h1
   ·exact absurd h2 (p.apart key h1)
 ·rcases X.blks a ha with ⟨k0,h1,h2⟩ | h1
  ·exact p.apart k0 h1 (h2.trans e')
  ·omega
theorem zbpl_ (R:SR φ h g w) {t:TypeId} (k:zeroIs P t z=true) (hw:w0.heap.size≤w.heap.size) :
  ∃ g' w',(Instr.alloc t true (.tuple #[])).run P w=.ok (.pointer (some ⟨w.heap.size,0,none⟩)) w'∧SR φ h g' w'∧Ext h g w h g' w'∧PendOk φ g' h w' w0 w.heap.size z:=by
 unfold zeroIs at k
 split at k
 ·rename_i i hi
  split at k
  ·rename_i zv hz
   rw [Bool.and_eq_true] at k
   obtain ⟨r,c1,c2,c3⟩:=eqZ_ok (φ:=φ) (g:=g) (h:=h) k.2
   have hf:=R.fix zv.cells t (fun _=>none) (fun j u e=>by cases e)
   refine ⟨_,_,?_,hf.1,hf.2,hw,⟨zv.cells,t,heap_alloc_new w _,zal_ hf.2.later.M false _ _ r⟩,fun j=>by simp [G.setM],fun a ha e=>?_,c1,c3⟩
   ·simp [Instr.alloc,zeroValue,zec_ hi,hz,newVar,newRow]
   ·have:=R.lt ha
    have e':g.b a=w.heap.size:=e
    omega
  ·cases k
 ·cases k
theorem SR.adoptBox (S:SR φ h g w) (p:PendOk φ g h w w0 b z) :
  SR φ (h++[.box false z]) (g.setB (.obj h.length) b 0) w∧Later g h (g.setB (.obj h.length) b 0) (h++[.box false z])∧(g.setB (.obj h.length) b 0).b (.obj h.length)=b∧(∀ a,live h a→(g.setB (.obj h.length) b 0).b a=g.b a) ∧
   ∀ h0 g0 w1,Ext h0 g0 w1 h g w→w1.heap.size≤b→Ext h0 g0 w1 (h++[.box false z]) (g.setB (.obj h.length) b 0) w:=by
 obtain ⟨ms,E,e,r⟩:=p.row
 have L:=Later.push g h (.box false z) b 0
 have hold:∀ a,a≠.obj h.length→(g.setB (.obj h.length) b 0).b a=g.b a∧(g.setB (.obj h.length) b 0).c a=g.c a:=fun a ha=>by simp [G.setB,ha]
 have hnew:(g.setB (.obj h.length) b 0).b (.obj h.length)=b:=by simp [G.setB]
 have hlv:∀ a,live (h++[.box false z]) a→a≠.obj h.length→live h a:=fun a ha hn=>by
  rcases zgs_ ha with h1 | h1 | ⟨q,z',cs,x,n,_,h2,h3,h4⟩
  ·exact h1
  ·exact absurd h1 hn
  ·injection h2 with _ h2
   subst h2
   rw [p.tl q x h3] at h4
   cases h4
 have hne:∀ a,live h a→a≠.obj h.length:=fun a ha e=>by
  subst e
  exact absurd (zfa_ ha) (Nat.lt_irrefl _)
 refine ⟨S.mk' L (·=.obj h.length) ?_ ?_ ?_ ?_ ?_ ?_ S.mem (fun l d ht em=>by (injection ht with ht; subst ht; rw [List.getElem?_append_right (Nat.le_refl _)] at em; simp at em)),L,hnew,fun a ha=>(hold a (hne a ha)).1,fun h0 g0 w1 X hb=>X.later' L (fun key hk=>?_) (fun l z' k es el=>?_) (fun _ _ _ _ e=>e)⟩
 ·intro l hn hv
  have h1:=hlv _ hv hn
  exact ⟨List.getElem?_append_left (zfa_ h1),(hold _ hn).1,(hold _ hn).2,rfl,fun _=>rfl⟩
 ·intro l o hn hv
  have h1:=hlv _ hv (by simp)
  obtain ⟨x,n,e1,k1⟩:=h1
  exact ⟨(zpr_ e1).trans e1.symm,(hold _ (by simp)).1,(hold _ (by simp)).2,rfl,rfl,fun _=>rfl⟩
 ·intro l z' cs ht ee
  injection ht with ht
  subst ht
  rw [List.getElem?_append_right (Nat.le_refl _)] at ee
  simp only [Nat.sub_self,List.getElem?_cons_zero,Option.some.injEq] at ee
  injection ee with e1 e2
  subst e1 e2
  exact ⟨ms,E,by rw [hnew]; exact e,zav_ L _ _ _ r,p.ok,fun h=>by (cases h),fun _ j=>by rw [hnew]; exact p.none j⟩
 ·intro l z' k' d ht ee
  injection ht with ht
  subst ht
  rw [List.getElem?_append_right (Nat.le_refl _)] at ee
  simp at ee
 ·intro l o x n ht
  cases ht
 ·intro a d va vd ead
  by_cases ea:a=.obj h.length <;> by_cases eb:d=.obj h.length
  ·rw [ea,eb]
  ·rw [ea,hnew,(hold d eb).1] at ead
   exact absurd ead.symm (p.apart d (hlv d vd eb))
  ·rw [eb,hnew,(hold a ea).1] at ead
   exact absurd ead (p.apart a (hlv a va ea))
  ·rw [(hold a ea).1,(hold d eb).1] at ead
   exact S.inj a d (hlv a va ea) (hlv d vd eb) ead
 ·by_cases ek:key=.obj h.length
  ·right
   rw [ek,hnew]
   exact hb
  ·exact .inl ⟨hlv key hk ek,(hold key ek).1⟩
 ·rcases zca_ el with ⟨h1,h2⟩ | ⟨h1,h2⟩
  ·exact .inl ⟨h2,(hold _ (by simp; omega)).1⟩
  ·cases h2
theorem PendOk.adopted {b2:Nat} {z2:List V} (p:PendOk φ g h w w0 b z) (q:PendOk φ g h w w0 b2 z2) (hb:b2≠b):PendOk φ (g.setB (.obj h.length) b 0) (h++[.box false z]) w w0 b2 z2:=by
 obtain ⟨ms,E,e,r⟩:=q.row
 have L:=Later.push g h (.box false z) b 0
 refine ⟨q.ge,⟨ms,E,e,zav_ L _ _ _ r⟩,q.none,fun a ha e'=>?_,q.ok,q.tl⟩
 rcases zgs_ ha with h1 | h1 | ⟨o,z',cs,x,n,_,h2,h3,h4⟩
 ·have hne:a≠.obj h.length:=by
   rintro rfl
   exact absurd (zfa_ h1) (Nat.lt_irrefl _)
  simp only [G.setB,if_neg hne] at e'
  exact q.apart a h1 e'
 ·subst h1
  simp only [G.setB,if_true] at e'
  exact hb e'.symm
 ·injection h2 with _ h2
  subst h2
  rw [p.tl o x h3] at h4
  cases h4
theorem zqo_ {x:XOp} (k:isLate x=true):∃ z t,x.op=.alloc z∧x.guard=none∧x.dst=some t:=by
 unfold isLate at k
 split at k
 ·rename_i z t h1 h2 h3
  exact ⟨z,t,h1,h2,h3⟩
 ·cases k
theorem zdp_ {x:XOp} (k:isLate x=true):x.op.cls=2:=by
 obtain ⟨z,t,h1,_⟩:=zqo_ k
 rw [h1]
 rfl
variable {xs:List XOp} {st:St} {T:Nat→St} {D:Nat→Option Nat} {val:Nat→V} {cf:CallF} {base:Nat} {h0:H} {g0:G}
def lateAt (xs:List XOp) (i:Nat):Bool:=(xs[i]?).any isLate
theorem zcu_ {i:Nat} {x:XOp} (e:xs[i]?=some x):lateAt xs i=isLate x:=by simp [lateAt,e]
def valp (xs:List XOp) (val:Nat→V) (m:Nat) (β:Nat→Nat) (j:Nat):V:=if lateAt xs j=true∧m≤j then .s (.pointer (some ⟨β j,0,none⟩)) else val j
def SOP (φ:Nat→Option FuncId) (N:Nat) (h0:H) (g0:G) (w0:World) (xs:List XOp) (T:Nat→St) (D:Nat→Option Nat) (val:Nat→V) (s0:Sl) (l:Nat→Bool) (m:Nat) (β:Nat→Nat) (a:Act) (w:World):Prop :=
 ∃ g,SR φ (T m).h g w∧Ext h0 g0 w0 (T m).h g w∧Slots φ g (T m).h N (mix D (valp xs val m β) l s0 xs.length) a ∧
  (∀ j y z,xs[j]?=some y→isLate y=true→y.op=.alloc z→l j=true→m≤j→PendOk φ g (T m).h w w0 (β j) z) ∧
  ∀ j k,lateAt xs j=true→lateAt xs k=true→l j=true→l k=true→m≤j→m≤k→j≠k→β j≠β k
theorem SOP.adopt (K:TrOk cf base xs st T D val) {s0:Sl} {l:Nat→Bool} {m:Nat} {β:Nat→Nat} (so:SOP φ N h0 g0 w0 xs T D val s0 l m β a w) {j:Nat} {y:XOp} (hy:xs[j]?=some y) (hl:isLate y=true) (hj:l j=true) (hm:m≤j) (hh:(T m).h=(T j).h)
  (hno:∀ q u,m≤q→q < j→xs[q]?=some u→u.op.cls≠2):SOP φ N h0 g0 w0 xs T D val s0 l (j + 1) β a w:=by
 obtain ⟨g,R,X,S,Pd,Inj⟩:=so
 obtain ⟨z,t,h1,h2,h3⟩:=zqo_ hl
 have hlj:lateAt xs j=true:=by rw [zcu_ hy]; exact hl
 have hstep:=K.step j y hy
 unfold xstep at hstep
 have hop:xop cf base (T j).s (T j).h y.op=some (.ptr (T j).h.length 0,(T j).h++[.box false z]):=by rw [h1]; rfl
 rw [h2,show wanted (T j).s none=some true from rfl,zab_,if_pos rfl,hop,zab_] at hstep
 injection hstep with hstep
 have hT:(T (j + 1)).h=(T m).h++[.box false z]:=by rw [← hstep,hh]
 have hval:val j=.ptr (T m).h.length 0:=by
  have:=K.val j t (by rw [K.dst j y hy,h3])
  rw [this,← hstep,h3,hh]
  simp [zcj_]
 have p:=Pd j y z hy hl h1 hj hm
 obtain ⟨R2,L2,hb,hbo,hX⟩:=R.adoptBox p
 unfold SOP
 rw [hT]
 refine ⟨_,R2,hX _ _ _ X p.ge,⟨S.defers,S.size,fun t' ht'=>?_⟩,fun k u z' hu hul hz hk hk2=>?_,fun k q a1 a2 a3 a4 a5 a6 a7=>Inj k q a1 a2 a3 a4 (by omega) (by omega) a7⟩
 ·have old:=S.rel t' ht'
  have key:∀ k,k < xs.length→l k=true→k≠j→valp xs val m β k=valp xs val (j + 1) β k:=by
   intro k hk hlk hkj
   unfold valp
   by_cases hlt:lateAt xs k=true
   ·by_cases hmk:m≤k
    ·have hk2:j + 1≤k:=by
      rcases Nat.lt_or_ge k j with h | h
      ·have hu:=List.getElem?_eq_getElem hk
       rw [zcu_ hu] at hlt
       exact absurd (zdp_ hlt) (hno k _ hmk h hu)
      ·omega
     rw [if_pos ⟨hlt,hmk⟩,if_pos ⟨hlt,hk2⟩]
    ·rw [if_neg fun h=>hmk h.2,if_neg fun h=>absurd h.2 (by omega)]
   ·rw [if_neg fun h=>hlt h.1,if_neg fun h=>hlt h.1]
  rcases zvc_ (D:=D) (val:=valp xs val m β) (p:=l) (s0:=s0) (val2:=valp xs val (j + 1) β) (t:=t') xs.length with h | ⟨k,hk,hlk,_,e1,e2⟩
  ·rw [← h]
   exact zcq_ L2 _ _ _ old
  ·by_cases hkj:k=j
   ·subst hkj
    rw [e1] at old
    rw [e2]
    have v1:valp xs val m β k=.s (.pointer (some ⟨β k,0,none⟩)):=by unfold valp; rw [if_pos ⟨hlj,hm⟩]
    have v2:valp xs val (k + 1) β k=val k:=by unfold valp; rw [if_neg fun h=>absurd h.2 (by omega)]
    rw [v1] at old
    rw [v2,hval,rel_s old]
    simp only [rel]
    refine ⟨trivial,by rw [hb],false,z,?_⟩
    rw [List.getElem?_append_right (Nat.le_refl _)]
    simp
   ·rw [e2,← key k hk hlk hkj,← e1]
    exact zcq_ L2 _ _ _ old
 ·exact p.adopted (Pd k u z' hu hul hz hk (by omega)) (Inj k j (by rw [zcu_ hu]; exact hul) hlj hk hj (by omega) hm (by omega))
structure LInv (xs:List XOp) (l:Nat→Bool) (m:Nat):Prop where
 le:m≤xs.length
 eff:∀ j y,xs[j]?=some y→y.op.cls=2→isLate y=false→(l j=true↔j < m)
 late:∀ j y,xs[j]?=some y→isLate y=true→j < m→l j=true
theorem zbpm_ {p:Nat→Prop}:∀ n,p n→∃ k,p k∧∀ q,q < k→¬ p q:=by
 intro n
 induction n using Nat.strongRecOn with
 | _ n ih =>
  intro hn
  by_cases h:∃ q,q < n∧p q
  ·obtain ⟨q,h1,h2⟩:=h
   exact ih q h1 h2
  ·exact ⟨n,hn,fun q hq hp=>h ⟨q,hq,hp⟩⟩
theorem SOP.all (K:TrOk cf base xs st T D val) {s0:Sl} {l:Nat→Bool} {β:Nat→Nat}:∀ (fuel m:Nat),xs.length - m≤fuel→LInv xs l m→SOP φ N h0 g0 w0 xs T D val s0 l m β a w →
  ∃ m',LInv xs l m'∧SOP φ N h0 g0 w0 xs T D val s0 l m' β a w∧∀ j y,xs[j]?=some y→isLate y=true→l j=true→m'≤j→∃ q u,q < j∧xs[q]?=some u∧u.op.cls=2∧l q=false:=by
 intro fuel
 induction fuel with
 | zero =>
  intro m hf I so
  refine ⟨m,I,so,fun j y hy _ _ hm=>?_⟩
  have:=(List.getElem?_eq_some_iff.1 hy).1
  omega
 | succ fuel ih =>
  intro m hf I so
  by_cases hex:∃ j,∃ y,xs[j]?=some y∧isLate y=true∧l j=true∧m≤j∧∀ q u,q < j→xs[q]?=some u→u.op.cls=2→l q=true
  ·obtain ⟨j0,hj0⟩:=hex
   obtain ⟨j,⟨y,hy,hl,hj,hm,hall⟩,hmin⟩:=zbpm_ (p:=fun j=>∃ y,xs[j]?=some y∧isLate y=true∧l j=true∧m≤j∧∀ q u,q < j→xs[q]?=some u→u.op.cls=2→l q=true) j0 hj0
   have hjl:=(List.getElem?_eq_some_iff.1 hy).1
   have hno:∀ q u,m≤q→q < j→xs[q]?=some u→u.op.cls≠2:=by
    intro q u h1 h2 hu hc
    have hlq:=hall q u h2 hu hc
    cases hlt:isLate u with
    | false =>
     have:=(I.eff q u hu hc hlt).1 hlq
     omega
    | true=>exact hmin q h2 ⟨u,hu,hlt,hlq,h1,fun q' u' h3 h4 h5=>hall q' u' (by omega) h4 h5⟩
   have hh:=zka_ K (j - m) m (by omega) (by omega) fun q u h1 h2 hu=>hno q u h1 h2 hu
   refine ih (j + 1) (by omega) ⟨by omega,fun k u hu hc hlt=>?_,fun k u hu hlt hk=>?_⟩ (so.adopt K hy hl hj hm hh hno)
   ·rw [I.eff k u hu hc hlt]
    refine ⟨fun _=>by omega,fun hk=>?_⟩
    have hkj:k≠j:=by
     rintro rfl
     rw [hy] at hu
     injection hu with hu
     subst hu
     rw [hl] at hlt
     cases hlt
    exact (I.eff k u hu hc hlt).1 (hall k u (by omega) hu hc)
   ·rcases Nat.lt_or_ge k j with h | h
    ·exact hall k u h hu (zdp_ hlt)
    ·obtain rfl:k=j:=by omega
     exact hj
  ·refine ⟨m,I,so,fun j y hy hl hj hm=>?_⟩
   by_cases hq:∃ q u,q < j∧xs[q]?=some u∧u.op.cls=2∧l q=false
   ·exact hq
   ·refine absurd ⟨j,y,hy,hl,hj,hm,fun q u h1 h2 h3=>?_⟩ hex
    cases hlq:l q with
    | true=>rfl
    | false=>exact absurd ⟨q,u,h1,h2,h3,hlq⟩ hq
end
end Go.Proofs.Sl
namespace Go.Proofs.Sl
section
variable {P:Program} {φ:Nat→Option FuncId} {h h':H} {g g':G} {w w':World} {N:Nat} {s:Sl} {a:Act} {ops:Array Oper} {h0:H} {g0:G} {w0:World} {cf:CallF} {base:Nat}
variable {xs:List XOp} {st:St} {T:Nat→St} {D:Nat→Option Nat} {val:Nat→V} {d:List (Nat × Option Nat)} {A:List Nat}
def isL (l:Array Bool) (i:Nat):Bool:=l.getD i false
def zve_ (ops:Array Oper) (l:Array Bool):Prop:=∀ (i:Nat) (o:Oper),isL l i=true→ops[i]?=some o→∀ j ∈ depsOf o,isL l j=true
theorem zvf_ {l:Array Bool} (hs:l.size=ops.size) {i:Nat}:i ∈ Region.ready .any ops l↔i < ops.size∧isL l i=false∧∀ o,ops[i]?=some o→∀ j ∈ depsOf o,isL l j=true:=by
 unfold Region.ready
 rw [List.mem_filter,List.mem_range]
 constructor
 ·rintro ⟨hi,h⟩
  rw [Bool.and_eq_true] at h
  obtain ⟨h1,h2⟩:=h
  refine ⟨hi,?_,fun o ho j hj=>?_⟩
  ·simp only [Bool.not_eq_true',Array.getD_eq_getD_getElem?] at h1
   rw [Array.getElem?_eq_getElem (by omega)] at h1
   simp only [isL,Array.getD_eq_getD_getElem?,Array.getElem?_eq_getElem (show i < l.size by omega)]
   simpa using h1
  ·rw [ho] at h2
   simp only [Option.map_some,Option.getD_some,Array.all_eq_true',Bool.or_eq_true,Bool.not_eq_true'] at h2
   simp only [depsOf,List.mem_map,List.mem_filter,Array.mem_toList_iff] at hj
   obtain ⟨e,⟨he,hb⟩,rfl⟩:=hj
   rcases h2 e he with h3 | h3
   ·rw [hb] at h3; cases h3
   ·exact h3
 ·rintro ⟨hi,h1,h2⟩
  refine ⟨hi,?_⟩
  rw [Bool.and_eq_true]
  have ho:=Array.getElem?_eq_getElem hi
  refine ⟨?_,?_⟩
  ·simp only [Bool.not_eq_true',Array.getD_eq_getD_getElem?]
   rw [Array.getElem?_eq_getElem (by omega)]
   simp only [isL,Array.getD_eq_getD_getElem?,Array.getElem?_eq_getElem (show i < l.size by omega)] at h1
   simpa using h1
  ·rw [ho]
   simp only [Option.map_some,Option.getD_some,Array.all_eq_true',Bool.or_eq_true,Bool.not_eq_true']
   intro e he
   cases hb:Region.binds .any e with
   | false=>exact .inl rfl
   | true =>
    right
    refine h2 _ ho e.on ?_
    simp only [depsOf,List.mem_map,List.mem_filter,Array.mem_toList_iff]
    exact ⟨e,⟨he,hb⟩,rfl⟩
theorem zbei_ {l:Array Bool} (hc:zve_ ops l) {i j:Nat} (r:Reach ops i j):(∀ o,ops[i]?=some o→∀ q ∈ depsOf o,isL l q=true)→isL l j=true:=by
 induction r with
 | one ho k=>intro h; exact h _ ho _ k
 | more ho e r ih=>intro h; exact ih fun o h1=>hc _ o (h _ ho _ e) h1
theorem zbpn_ {l:Array Bool} {i j:Nat} (hi:i < l.size):isL (l.setIfInBounds i true) j=if j=i then true else isL l j:=by
 simp only [isL,Array.getD_eq_getD_getElem?]
 by_cases hj:j=i
 ·subst hj
  rw [if_pos rfl,Array.getElem?_setIfInBounds_self_of_lt hi]
  rfl
 ·rw [if_neg hj,Array.getElem?_setIfInBounds_ne (Ne.symm hj)]
theorem any_ok (Tk:TOk P φ) (F:FOk P φ cf) (hlen:ops.size=xs.length) (k1:∀ (i:Nat) (o:Oper) (x:XOp),ops.toList[i]?=some o→xs[i]?=some x→chkX P φ N ops o x=true) (k2:zqn_ ops xs d A=true) (K:TrOk cf base xs st T D val) (Z:StOk xs T d)
  {Q:Exit→Act→World→Prop} (hQ:∀ a' w',SO φ N h0 g0 w0 (T xs.length) a' w'→Q .normal a' w'):∀ (fuel:Nat) (l:Array Bool) (m:Nat) (β:Nat→Nat) (a:Act) (w:World),l.size=ops.size→zve_ ops l→l.toList.countP (fun b=>b == false)≤fuel →
   LInv xs (isL l) m→SOP φ N h0 g0 w0 xs T D val st.s (isL l) m β a w→wpAny P .any ops Q fuel l a w:=by
 simp only [zqn_,Bool.and_eq_true] at k2
 obtain ⟨ka,kp⟩:=k2
 obtain ⟨hal,hag⟩:=zuz_ ka
 rw [Array.length_toList] at hal
 have hreach:=zbpg_ ka
 have hpair0:∀ i j x y,xs[i]?=some x→xs[j]?=some y→∃ mi mj e,(∀ q,mi.testBit q=true→Reach ops i q)∧(∀ q,mj.testBit q=true→Reach ops j q)∧zjy_ d i mi x j mj y e=true∧∀ (q:Nat) (u:XOp),q≤j→xs[q]?=some u→u.op.cls=2→e.testBit q=true:=by
  intro i j x y hx hy
  have hi:i < A.length:=by rw [← hal,hlen]; exact (List.getElem?_eq_some_iff.1 hx).1
  have hj:j < A.length:=by rw [← hal,hlen]; exact (List.getElem?_eq_some_iff.1 hy).1
  have hmi:=List.getElem?_eq_getElem hi
  have hmj:=List.getElem?_eq_getElem hj
  obtain ⟨e,h1,_,h3⟩:=zbed_ (zbee_ kp i _ x hmi hx) j _ y hmj hy
  refine ⟨_,_,e,fun q hq=>hreach i q (by rw [List.getD_eq_getElem?_getD,hmi]; exact hq),fun q hq=>hreach j q (by rw [List.getD_eq_getElem?_getD,hmj]; exact hq),by simpa using h1,fun q u hq hu hc=>?_⟩
  have:=h3 q u hq hu hc
  rwa [Nat.zero_add] at this
 -- against an allocation
 have pairL:∀ i j x y,xs[i]?=some x→xs[j]?=some y→i≠j→isLate y=true→(i < j∧Reach ops j i)∨(j < i∧∀ q u,q≤j→xs[q]?=some u→u.op.cls=2→Reach ops i q) ∨
   (noConf x y=true∧noConf y x=true∧(x.op.cls=0∨(x.op.cls=1∧zci_ d j i=true)∨(x.op.cls=2∧(i < j∨isLate x=true)))):=by
  intro i j x y hx hy hij hl
  obtain ⟨mi,mj,e,h1,h2,h3,h4⟩:=hpair0 i j x y hx hy
  simp only [zjy_,hl,if_true,Bool.or_eq_true,beq_iff_eq,Bool.and_eq_true,decide_eq_true_eq] at h3
  rcases h3 with h3 | (⟨h3,h5⟩ | ⟨h3,h5⟩) | ⟨⟨h3,h5⟩,h6⟩
  ·exact absurd h3 hij
  ·exact .inl ⟨h3,h2 i h5⟩
  ·refine .inr (.inl ⟨h3,fun q u hq hu hc=>h1 q ?_⟩)
   have:=h4 q u hq hu hc
   rw [← h5,Nat.testBit_and,Bool.and_eq_true] at this
   exact this.1
  ·rcases h6 with (h6 | h6) | h6
   ·exact .inr (.inr ⟨h3,h5,.inl h6⟩)
   ·exact .inr (.inr ⟨h3,h5,.inr (.inl h6)⟩)
   ·exact .inr (.inr ⟨h3,h5,.inr (.inr h6)⟩)
 -- against others
 have pairN:∀ i j x y,xs[i]?=some x→xs[j]?=some y→i≠j→isLate y=false→Reach ops i j∨Reach ops j i∨(noConf x y=true∧(y.op.cls=2→x.op.cls=0∨(x.op.cls=1∧zci_ d j i=true)∨isLate x=true)):=by
  intro i j x y hx hy hij hl
  obtain ⟨mi,mj,e,h1,h2,h3,_⟩:=hpair0 i j x y hx hy
  simp only [zjy_,hl,Bool.false_eq_true,if_false,Bool.or_eq_true,beq_iff_eq,Bool.and_eq_true,bne_iff_ne,ne_eq] at h3
  rcases h3 with h3 | (h3 | h3) | ⟨h3,h5⟩
  ·exact absurd h3 hij
  ·exact .inl (h1 j h3)
  ·exact .inr (.inl (h2 i h3))
  ·refine .inr (.inr ⟨h3,fun hc=>?_⟩)
   rcases h5 with ((h5 | h5) | h5) | h5
   ·exact absurd hc h5
   ·exact .inl h5
   ·exact .inr (.inl h5)
   ·exact .inr (.inr h5)
 have hlt:∀ i j,Reach ops i j→j < i:=by
  intro i j r
  induction r with
  | @one i j o ho k =>
   have hi:i < A.length:=by rw [← hal]; exact (Array.getElem?_eq_some_iff.1 ho).1
   have:=(hag i o _ (by rw [Array.getElem?_toList]; exact ho) (List.getElem?_eq_getElem hi)).2 j k
   omega
  | @more i q j o ho e r ih =>
   have hi:i < A.length:=by rw [← hal]; exact (Array.getElem?_eq_some_iff.1 ho).1
   have:=(hag i o _ (by rw [Array.getElem?_toList]; exact ho) (List.getElem?_eq_getElem hi)).2 q e
   omega
 -- all is done
 have finish:∀ (l:Array Bool) (m:Nat) (β:Nat→Nat) (a:Act) (w:World),LInv xs (isL l) m→(∀ j y,xs[j]?=some y→isLate y=true→isL l j=true→m≤j→∃ q u,q < j∧xs[q]?=some u∧u.op.cls=2∧isL l q=false)→(∀ i,i < xs.length→isL l i=true) →
   SOP φ N h0 g0 w0 xs T D val st.s (isL l) m β a w→Q .normal a w:=by
  intro l m β a w I hN hall so
  obtain ⟨g,R,X,S,_,_⟩:=so
  refine hQ a w ?_
  have hnp:∀ j y,xs[j]?=some y→isLate y=true→j < m:=by
   intro j y hy hl
   rcases Nat.lt_or_ge j m with h | h
   ·exact h
   ·obtain ⟨q,u,h1,h2,_,h3⟩:=hN j y hy hl (hall j (List.getElem?_eq_some_iff.1 hy).1) h
    rw [hall q (List.getElem?_eq_some_iff.1 h2).1] at h3
    cases h3
  have hs1:mix D (valp xs val m β) (isL l) st.s xs.length=(T xs.length).s:=by
   rw [K.all xs.length (Nat.le_refl _)]
   funext t
   refine zjz_ _ fun i hi _=>⟨hall i hi,fun _=>?_⟩
   unfold valp
   rw [if_neg]
   rintro ⟨h1,h2⟩
   have hu:=List.getElem?_eq_getElem hi
   rw [zcu_ hu] at h1
   have:=hnp i _ hu h1
   omega
  have hh:(T m).h=(T xs.length).h:=zka_ K (xs.length - m) m (by have:=I.le; omega) (Nat.le_refl _) fun j y h1 h2 hy hc=>by
   cases hl:isLate y with
   | false =>
    have:=(I.eff j y hy hc hl).1 (hall j h2)
    omega
   | true =>
    have:=hnp j y hy hl
    omega
  rw [hs1] at S
  rw [hh] at R X S
  exact ⟨g,R,X,S⟩
 intro fuel
 induction fuel with
 | zero =>
  intro l m β a w hs hc hf I so
  obtain ⟨m',I',so',hN⟩:=so.all K (xs.length - m) m (Nat.le_refl _) I
  have hall:∀ i,i < xs.length→isL l i=true:=by
   intro i hi
   have h0:l.toList.countP (fun b=>b == false)=0:=by omega
   rw [List.countP_eq_zero] at h0
   have hi2:i < l.size:=by omega
   have:=h0 l[i] (by rw [Array.mem_toList_iff]; exact Array.getElem_mem hi2)
   simp only [isL,Array.getD_eq_getD_getElem?,Array.getElem?_eq_getElem hi2]
   simpa using this
  refine ⟨?_,finish l m' β a w I' hN hall so'⟩
  cases hr:Region.ready .any ops l with
  | nil=>rfl
  | cons i r =>
   have hi:i ∈ Region.ready .any ops l:=by rw [hr]; simp
   obtain ⟨h1,h2,_⟩:=(zvf_ hs).1 hi
   rw [hall i (by omega)] at h2
   cases h2
 | succ fuel ih =>
  intro l m0 β a w hs hc hf I0 so0
  obtain ⟨m,I,so,hN⟩:=so0.all K (xs.length - m0) m0 (Nat.le_refl _) I0
  clear I0 so0
  refine ⟨fun hr=>finish l m β a w I hN ?_ so,fun i hi=>?_⟩
  ·intro i
   induction i using Nat.strongRecOn with
   | _ i ihi =>
    intro hi
    cases hl:isL l i with
    | true=>rfl
    | false =>
     have:i ∈ Region.ready .any ops l:=(zvf_ hs).2 ⟨by omega,hl,fun o ho j hj=>by
      have hji:=hlt i j (.one ho hj)
      exact ihi j hji (by omega)⟩
     rw [hr] at this
     cases this
  ·obtain ⟨hin,hli,hdeps⟩:=(zvf_ hs).1 hi
   have hix:i < xs.length:=by omega
   have hx:=List.getElem?_eq_getElem hix
   have ho:=Array.getElem?_eq_getElem hin
   have hil:i < l.size:=by omega
   have hm:=I.le
   -- who is in order with i
   have before:∀ j,Reach ops i j→isL l j=true:=fun j r=>zbei_ hc r hdeps
   have after:∀ j,Reach ops j i→isL l j=false:=fun j r=>by
    cases hj:isL l j with
    | false=>rfl
    | true =>
     have:=zbei_ hc r fun o h1=>hc j o hj h1
     rw [hli] at this
     cases this
   -- an allocation that i is in order with has been taken up if it is ahead of i
   have taken:∀ j y,xs[j]?=some y→isLate y=true→isL l j=true→(∀ q u,q≤j→xs[q]?=some u→u.op.cls=2→Reach ops i q)→j < m:=by
    intro j y hy hl hj hr
    rcases Nat.lt_or_ge j m with h | h
    ·exact h
    ·obtain ⟨q,u,h1,h2,h3,h4⟩:=hN j y hy hl hj h
     rw [before q (hr q u (by omega) h2 h3)] at h4
     cases h4
   have conf:∀ j y,xs[j]?=some y→(noConf xs[i] y=false∨noConf y xs[i]=false)→j≠i→isLate y=true→(isL l j=true↔j < i)∧(isL l j=true→j < m):=by
    intro j y hy hn hji hl
    rcases pairL i j _ y hx hy (Ne.symm hji) hl with ⟨h1,h2⟩ | ⟨h1,h2⟩ | ⟨h1,h2,_⟩
    ·have h3:=after j h2
     exact ⟨⟨fun e=>by (rw [h3] at e; cases e),fun e=>by omega⟩,fun e=>by (rw [h3] at e; cases e)⟩
    ·have h3:=before j (h2 j y (Nat.le_refl _) hy (zdp_ hl))
     exact ⟨⟨fun _=>h1,fun _=>h3⟩,fun e=>taken j y hy hl e h2⟩
    ·rcases hn with hn | hn
     ·rw [hn] at h1; cases h1
     ·rw [hn] at h2; cases h2
   have confN:∀ j y,xs[j]?=some y→noConf xs[i] y=false→j≠i→isLate y=false→(isL l j=true↔j < i):=by
    intro j y hy hn hji hl
    rcases pairN i j _ y hx hy (Ne.symm hji) hl with h | h | ⟨h,_⟩
    ·exact ⟨fun _=>hlt i j h,fun _=>before j h⟩
    ·have:=hlt j i h
     rw [after j h]
     exact ⟨fun e=>by (cases e),fun e=>by omega⟩
    ·rw [hn] at h
     cases h
   have conf1:∀ j y,xs[j]?=some y→noConf xs[i] y=false→j≠i→(isL l j=true↔j < i)∧(isL l j=true→valp xs val m β j=val j):=by
    intro j y hy hn hji
    cases hl:isLate y with
    | true =>
     obtain ⟨h1,h2⟩:=conf j y hy (.inl hn) hji hl
     exact ⟨h1,fun e=>by unfold valp; rw [if_neg fun hh=>absurd (h2 e) (by omega)]⟩
    | false=>exact ⟨confN j y hy hn hji hl,fun _=>by unfold valp; rw [if_neg fun hh=>by (rw [zcu_ hy,hl] at hh; cases hh.1)]⟩
   have hagree:Agree (mix D (valp xs val m β) (isL l) st.s xs.length) (T i).s xs[i].reads:=by
    intro t ht
    have e1:mix D (valp xs val m β) (isL l) st.s xs.length t=mix D val (fun j=>decide (j < i)) st.s xs.length t:=by
     refine zjz_ _ fun j hj hdj=>?_
     by_cases hji:j=i
     ·subst hji
      rw [hli]
      simp
     ·have hy:=List.getElem?_eq_getElem hj
      have hyd:=K.dst j _ hy
      have hn:noConf xs[i] xs[j]=false:=by
       unfold noConf
       rw [← hyd,hdj]
       simp only [Bool.and_eq_false_iff,Bool.not_eq_false']
       exact .inl (by simpa using ht)
      obtain ⟨h1,h2⟩:=conf1 j _ hy hn hji
      refine ⟨?_,h2⟩
      cases hl:isL l j with
      | true=>simpa using h1.1 hl
      | false =>
       have h2:¬ j < i:=fun h=>by
        have:=h1.2 h
        rw [hl] at this
        cases this
       simpa using h2
    have e2:mix D val (fun j=>decide (j < i)) st.s xs.length=mix D val (fun j=>decide (j < i)) st.s i:=zvb_ i _ xs.length (fun j h1 _=>by simpa using h1) (by omega)
    have e3:mix D val (fun j=>decide (j < i)) st.s i t=mix D val (fun _=>true) st.s i t:=zva_ i fun j hj _=>by simpa using hj
    rw [e1,e2,e3,K.all i (by omega)]
   have hl':∀ j,isL (l.setIfInBounds i true) j=if j=i then true else isL l j:=fun j=>zbpn_ hil
   have hmix:∀ v:Nat→V,mix D v (isL (l.setIfInBounds i true)) st.s xs.length=put (mix D v (isL l) st.s xs.length) (D i) (v i):=by
    intro v
    rw [show isL (l.setIfInBounds i true)=fun j=>if j=i then true else isL l j from funext hl']
    refine zbph_ hli xs.length hix fun j hij hj t h1 h2=>?_
    have hy:=List.getElem?_eq_getElem hj
    have hxd:=K.dst i _ hx
    have hyd:=K.dst j _ hy
    have hn:noConf xs[i] xs[j]=false:=by
     unfold noConf
     rw [← hyd,h2]
     simp only [← hxd,h1,bne_self_eq_false,Bool.and_false]
    have:=(conf1 j _ hy hn (by omega)).1
    cases hl:isL l j with
    | false=>rfl
    | true =>
     have:=this.1 hl
     omega
   have hcnt:(l.setIfInBounds i true).toList.countP (fun b=>b == false)≤fuel:=by
    rw [Array.toList_setIfInBounds,List.countP_set (by rw [Array.length_toList]; exact hil)]
    have hli':l.toList[i]'(by rw [Array.length_toList]; exact hil)=false:=by
     simp only [isL,Array.getD_eq_getD_getElem?,Array.getElem?_eq_getElem hil] at hli
     simpa using hli
    rw [hli']
    simp only [beq_self_eq_true,if_true,show (true == false)=false from rfl,Bool.false_eq_true,if_false]
    omega
   have hcl:zve_ ops (l.setIfInBounds i true):=by
    intro j o hj hoj q hq
    rw [hl'] at hj ⊢
    split
    ·rfl
    ·split at hj
     ·rename_i hji
      subst hji
      exact hdeps o hoj q hq
     ·exact hc j o hj hoj q hq
   have hchk:=k1 i _ _ (by rw [Array.getElem?_toList]; exact ho) hx
   obtain ⟨g,R,X,S,Pd,Inj⟩:=so
   -- run in the text's way: m2 is how far the evaluator is then
   have normal:∀ m2 (hheap:xs[i].op.cls=2→(T m).h=(T i).h) (hup:xs[i].op.cls=1→∀ j y,m≤j→j < i→xs[j]?=some y→y.op.cls=2→zci_ d j i=true) (hdown:xs[i].op.cls=1→∀ j y,i < j→j < m→xs[j]?=some y→y.op.cls=2→zci_ d j i=true),
     (if xs[i].op.cls=2 then (T (i + 1)).h else (T m).h)=(T m2).h→LInv xs (isL (l.setIfInBounds i true)) m2→m≤m2→(lateAt xs i=true→i < m2)→(∀ j,lateAt xs j=true→isL l j=true→m≤j→m2≤j) →
     wpOp P ops Q i (fun a w=>wpAny P .any ops Q fuel (l.setIfInBounds i true) a w) a w:=by
    intro m2 hheap hup hdown hT I2 hm2 hi2 hp2
    have hstep:=zbpk_ K Z hx hm hagree hheap hup hdown
    refine zbdx_ Tk F ho hchk (h0:=(T m).h) (g0:=g) (w0:=w) (show SO φ N (T m).h g w ⟨mix D (valp xs val m β) (isL l) st.s xs.length,(T m).h⟩ a w from ⟨g,R,Ext.refl _ _ _,S⟩) hstep fun a' w' so'=>?_
    obtain ⟨g',R',X',S'⟩:=so'
    simp only [hT] at R' X' S'
    refine ih _ m2 β a' w' (by simpa using hs) hcl hcnt I2 ⟨g',R',X.trans X',?_,fun j y z hy hl hz hj hm3=>?_,fun j k a1 a2 a3 a4 a5 a6 a7=>?_⟩
    ·rw [hmix]
     have hvi:valp xs val m2 β i=val i:=by
      unfold valp
      rw [if_neg]
      rintro ⟨h1,h2⟩
      have:=hi2 h1
      omega
     rw [hvi]
     have hsame:mix D (valp xs val m2 β) (isL l) st.s xs.length=mix D (valp xs val m β) (isL l) st.s xs.length:=by
      funext t
      refine zjz_ _ fun j hj _=>⟨rfl,fun hlj=>?_⟩
      unfold valp
      by_cases hlt2:lateAt xs j=true
      ·by_cases hmj:m≤j
       ·rw [if_pos ⟨hlt2,hp2 j hlt2 hlj hmj⟩,if_pos ⟨hlt2,hmj⟩]
       ·rw [if_neg (fun h=>absurd h.2 (by omega)),if_neg fun h=>hmj h.2]
      ·rw [if_neg fun h=>hlt2 h.1,if_neg fun h=>hlt2 h.1]
     rw [hsame]
     exact S'
    ·rw [hl'] at hj
     split at hj
     ·rename_i hji
      subst hji
      have:=hi2 (by rw [zcu_ hy]; exact hl)
      omega
     ·exact (Pd j y z hy hl hz hj (by omega)).ext X'
    ·rw [hl'] at a3 a4
     have hji:j≠i:=by rintro rfl; have:=hi2 a1; omega
     have hki:k≠i:=by rintro rfl; have:=hi2 a2; omega
     rw [if_neg hji] at a3
     rw [if_neg hki] at a4
     exact Inj j k a1 a2 a3 a4 (by omega) (by omega) a7
   -- reads
   have rd:xs[i].op.cls=1→∀ j y,xs[j]?=some y→y.op.cls=2→(m≤j∧j < i)∨(i < j∧j < m)→zci_ d j i=true:=by
    intro hci j y hy hcj hjm
    have hji:j≠i:=by omega
    cases hl:isLate y with
    | true =>
     rcases pairL i j _ y hx hy (Ne.symm hji) hl with ⟨h1,h2⟩ | ⟨h1,h2⟩ | ⟨_,_,h3⟩
     ·have h3:=after j h2
      rcases hjm with h | h
      ·omega
      ·rw [I.late j y hy hl h.2] at h3
       cases h3
     ·have h3:=before j (h2 j y (Nat.le_refl _) hy hcj)
      have:=taken j y hy hl h3 h2
      omega
     ·rcases h3 with h3 | h3 | h3
      ·omega
      ·exact h3.2
      ·omega
    | false =>
     rcases pairN i j _ y hx hy (Ne.symm hji) hl with h | h | ⟨_,h⟩
     ·have h1:=(I.eff j y hy hcj hl).1 (before j h)
      have:=hlt i j h
      omega
     ·have h1:=after j h
      have h2:=hlt j i h
      rcases hjm with h3 | h3
      ·omega
      ·rw [(I.eff j y hy hcj hl).2 h3.2] at h1
       cases h1
     ·rcases h hcj with h | h | h
      ·omega
      ·exact h.2
      ·have:=zdp_ h
       omega
   by_cases hci:xs[i].op.cls=2
   ·cases hlx:isLate xs[i] with
    | false =>
     -- an effect: what is ahead of it in the text has been done
     have ahead:∀ j y,xs[j]?=some y→y.op.cls=2→j < i→isL l j=true∧j < m:=by
      intro j y hy hcj hji
      cases hl:isLate y with
      | true =>
       rcases pairL i j _ y hx hy (by omega) hl with ⟨h1,h2⟩ | ⟨h1,h2⟩ | ⟨_,_,h3⟩
       ·omega
       ·have h3:=before j (h2 j y (Nat.le_refl _) hy hcj)
        exact ⟨h3,taken j y hy hl h3 h2⟩
       ·rcases h3 with h3 | h3 | h3
        ·omega
        ·omega
        ·rcases h3.2 with h4 | h4
         ·omega
         ·rw [hlx] at h4; cases h4
      | false =>
       rcases pairN i j _ y hx hy (by omega) hl with h | h | ⟨_,h⟩
       ·exact ⟨before j h,(I.eff j y hy hcj hl).1 (before j h)⟩
       ·have:=hlt j i h
        omega
       ·rcases h hcj with h | h | h
        ·omega
        ·omega
        ·rw [hlx] at h; cases h
     have hmi:m≤i:=by
      rcases Nat.lt_or_ge i m with h | h
      ·have:=(I.eff i _ hx hci hlx).2 h
       rw [hli] at this
       cases this
      ·exact h
     have hheap:(T m).h=(T i).h:=zka_ K (i - m) m (by omega) (by omega) fun j y h1 h2 hy hcj=>by
      have:=(ahead j y hy hcj h2).2
      omega
     refine normal (i + 1) (fun _=>hheap) (fun h=>by omega) (fun h=>by omega) (by rw [if_pos hci]) ⟨by omega,fun j y hy hcj hl=>?_,fun j y hy hl hji=>?_⟩ (by omega) (fun _=>by omega) (fun j hlj hj hmj=>?_)
     ·rw [hl']
      split
      ·rename_i hji
       subst hji
       exact ⟨fun _=>by omega,fun _=>rfl⟩
      ·rename_i hji
       rw [I.eff j y hy hcj hl]
       refine ⟨fun _=>by omega,fun h=>?_⟩
       exact (ahead j y hy hcj (by omega)).2
     ·rw [hl']
      split
      ·rfl
      ·exact (ahead j y hy (zdp_ hl) (by omega)).1
     ·rcases Nat.lt_or_ge i j with h | h
      ·omega
      ·have hjl:j < xs.length:=by
        unfold lateAt at hlj
        cases hu:xs[j]? with
        | none=>rw [hu] at hlj; simp at hlj
        | some u=>exact (List.getElem?_eq_some_iff.1 hu).1
       have hu:=List.getElem?_eq_getElem hjl
       have hlu:isLate xs[j]=true:=by rw [← zcu_ hu]; exact hlj
       by_cases hji:j=i
       ·subst hji
        rw [hlx] at hlu
        cases hlu
       ·have:=(ahead j _ hu (zdp_ hlu) (by omega)).2
        omega
    | true =>
     obtain ⟨z,t,hz,hgd,hdst⟩:=zqo_ hlx
     have hmi:m≤i:=by
      rcases Nat.lt_or_ge i m with h | h
      ·have:=I.late i _ hx hlx h
       rw [hli] at this
       cases this
      ·exact h
     by_cases hB:∀ q u,q < i→xs[q]?=some u→u.op.cls=2→isL l q=true
     ·have ahead:∀ j y,xs[j]?=some y→y.op.cls=2→j < i→j < m:=by
       intro j y hy hcj hji
       have hj:=hB j y hji hy hcj
       cases hl:isLate y with
       | false=>exact (I.eff j y hy hcj hl).1 hj
       | true =>
        rcases Nat.lt_or_ge j m with h | h
        ·exact h
        ·obtain ⟨q,u,h1,h2,h3,h4⟩:=hN j y hy hl hj h
         rw [hB q u (by omega) h2 h3] at h4
         cases h4
      have hheap:(T m).h=(T i).h:=zka_ K (i - m) m (by omega) (by omega) fun j y h1 h2 hy hcj=>by
       have:=ahead j y hy hcj h2
       omega
      refine normal (i + 1) (fun _=>hheap) (fun h=>by omega) (fun h=>by omega) (by rw [if_pos hci]) ⟨by omega,fun j y hy hcj hl=>?_,fun j y hy hl hji=>?_⟩ (by omega) (fun _=>by omega) (fun j hlj hj hmj=>?_)
      ·rw [hl']
       split
       ·rename_i hji
        subst hji
        exact ⟨fun _=>by omega,fun _=>rfl⟩
       ·rename_i hji
        rw [I.eff j y hy hcj hl]
        exact ⟨fun _=>by omega,fun h=>ahead j y hy hcj (by omega)⟩
      ·rw [hl']
       split
       ·rfl
       ·exact hB j y (by omega) hy (zdp_ hl)
      ·rcases Nat.lt_or_ge i j with h | h
       ·omega
       ·by_cases hji:j=i
        ·subst hji
         rw [hli] at hj
         cases hj
        ·have hjl:j < xs.length:=by omega
         have hu:=List.getElem?_eq_getElem hjl
         rw [zcu_ hu] at hlj
         have:=ahead j _ hu (zdp_ hlj) (by omega)
         omega
     ·-- the machine is ahead with it
      simp only [chkX,Bool.and_eq_true] at hchk
      obtain ⟨⟨c1,c2⟩,c3⟩:=hchk
      obtain ⟨hd,hNN⟩:=zux_ c1
      have hop:∃ ty,ops[i].op=.alloc ty∧zeroIs P ty z=true:=by
       rw [hz] at c3
       cases ho2:ops[i].op <;> rw [ho2] at c3 <;> simp only [chkOp,Bool.false_eq_true] at c3
       exact ⟨_,rfl,c3⟩
      obtain ⟨ty,hop,hzero⟩:=hop
      have hwt:Region.wanted ops[i] (yielded ops a.tmps)=true:=zuy_ S c2 (by rw [hgd]; rfl)
      obtain ⟨g',w',h1,R',X',p⟩:=zbpl_ (w0:=w0) R hzero X.size
      simp only [wpOp,ho,hwt,if_true]
      left
      unfold Oper.wp
      have hrun:(execOp a.eval ops[i]).run P w=.ok (.value (.pointer (some ⟨w.heap.size,0,none⟩))) w':=by
       simp only [execOp,hop,Sem.run_bind,h1]
       rfl
      rw [hrun,Oper.upon_value]
      let β':Nat→Nat:=fun j=>if j=i then w.heap.size else β j
      have hvp:∀ j,isL l j=true→valp xs val m β' j=valp xs val m β j:=by
       intro j hj
       have hji:j≠i:=by rintro rfl; rw [hli] at hj; cases hj
       unfold valp
       simp only [β',if_neg hji]
      have hli2:lateAt xs i=true:=by rw [zcu_ hx]; exact hlx
      have hDi:D i=some t:=by rw [K.dst i _ hx,hdst]
      refine ih _ m β' _ w' (by simpa using hs) hcl hcnt ⟨hm,fun j y hy hcj hl=>?_,fun j y hy hl hj=>?_⟩ ⟨g',R',X.trans X',?_,fun j y z' hy hl hz' hj hmj=>?_,fun j k a1 a2 a3 a4 a5 a6 a7=>?_⟩
      ·have hji:j≠i:=by
        rintro rfl
        rw [hx] at hy
        injection hy with hy
        subst hy
        rw [hlx] at hl
        cases hl
       rw [hl',if_neg hji]
       exact I.eff j y hy hcj hl
      ·rw [hl']
       split
       ·rfl
       ·exact I.late j y hy hl hj
      ·rw [hmix]
       have hsame:mix D (valp xs val m β') (isL l) st.s xs.length=mix D (valp xs val m β) (isL l) st.s xs.length:=by
        funext t
        exact zjz_ _ fun j hj _=>⟨rfl,fun hlj=>hvp j hlj⟩
       have hvi:valp xs val m β' i=.s (.pointer (some ⟨w.heap.size,0,none⟩)):=by
        unfold valp
        rw [if_pos ⟨hli2,hmi⟩]
        simp [β']
       rw [hsame,hvi,hDi]
       have:=(S.later X'.later).put (d:=ops[i].dst) hNN (v:=.s (.pointer (some ⟨w.heap.size,0,none⟩))) (mv:=.pointer (some ⟨w.heap.size,0,none⟩)) (rel_of rfl)
       rw [hd,hdst] at this
       rw [hd,hdst]
       exact this
      ·rw [hl'] at hj
       split at hj
       ·rename_i hji
        subst hji
        rw [hx] at hy
        injection hy with hy
        subst hy
        rw [hz] at hz'
        injection hz' with hz'
        subst hz'
        simp only [β',if_true]
        exact p
       ·rename_i hji
        simp only [β',if_neg hji]
        exact (Pd j y z' hy hl hz' hj hmj).ext X'
      ·rw [hl'] at a3 a4
       have blt:∀ j,lateAt xs j=true→isL l j=true→m≤j→β j < w.heap.size:=by
        intro j h1 h2 h3
        have hjl:j < xs.length:=by
         unfold lateAt at h1
         cases hu:xs[j]? with
         | none=>rw [hu] at h1; simp at h1
         | some u=>exact (List.getElem?_eq_some_iff.1 hu).1
        have hu:=List.getElem?_eq_getElem hjl
        rw [zcu_ hu] at h1
        obtain ⟨z2,_,hz2,_⟩:=zqo_ h1
        exact (Pd j _ z2 hu h1 hz2 h2 h3).lt
       simp only [β']
       by_cases hji:j=i <;> by_cases hki:k=i
       ·omega
       ·rw [if_neg hki] at a4
        rw [if_pos hji,if_neg hki]
        have:=blt k a2 a4 a6
        omega
       ·rw [if_neg hji] at a3
        rw [if_neg hji,if_pos hki]
        have:=blt j a1 a3 a5
        omega
       ·rw [if_neg hji] at a3
        rw [if_neg hki] at a4
        rw [if_neg hji,if_neg hki]
        exact Inj j k a1 a2 a3 a4 a5 a6 a7
   ·have hnl:lateAt xs i=false:=by
     rw [zcu_ hx]
     cases h:isLate xs[i] with
     | false=>rfl
     | true=>exact absurd (zdp_ h) hci
    refine normal m (fun h=>absurd h hci) (fun h j y h1 h2 hy hcj=>rd h j y hy hcj (.inl ⟨h1,h2⟩)) (fun h j y h1 h2 hy hcj=>rd h j y hy hcj (.inr ⟨h1,h2⟩)) (by rw [if_neg hci]) ⟨hm,fun j y hy hcj hl=>?_,fun j y hy hl hj=>?_⟩ (Nat.le_refl _) (fun h=>by (rw [hnl] at h; cases h)) (fun j _ _ h=>h)
    ·have hji:j≠i:=by
      rintro rfl
      rw [hx] at hy
      injection hy with hy
      subst hy
      exact hci hcj
     rw [hl',if_neg hji]
     exact I.eff j y hy hcj hl
    ·rw [hl']
     split
     ·rfl
     ·exact I.late j y hy hl hj
theorem SO.drew (so:SO φ N h0 g0 w0 st a w):SO φ N h0 g0 w0 st a { w with drawn:=w.drawn + 1 }:=by
 obtain ⟨g,R,X,S⟩:=so
 exact ⟨g,R.drew,X.trans (Ext.drew _ _ _),S⟩
theorem zbej_:∀ (xs:List XOp) {st:St} {tr:List St},xtrace cf base xs st=some tr→∀ (i:Nat) (x:XOp),xs[i]?=some x→∃ s1 s2,tr[i]?=some s1∧tr[i + 1]?=some s2∧xstep cf base x s1=some s2
 | [],st,tr,e,i,x,hx=>by simp at hx
 | o :: r,st,tr,e,i,x,hx=>by
  simp only [xtrace] at e
  obtain ⟨s1,e1,e⟩:=zaa_.1 e
  obtain ⟨l,e2,e⟩:=zaa_.1 e
  injection e with e
  subst e
  cases i with
  | zero =>
   simp only [List.getElem?_cons_zero,Option.some.injEq] at hx
   subst hx
   obtain ⟨_,_,_,_,h4⟩:=zqj_ r e2
   exact ⟨st,s1,rfl,by simpa using h4,e1⟩
  | succ i =>
   obtain ⟨a1,a2,h1,h2,h3⟩:=zbej_ r e2 i x (by simpa using hx)
   exact ⟨a1,a2,by simpa using h1,by simpa using h2,h3⟩
theorem zbek_:∀ {tr:List St} {st:St},lastSt tr=some st→tr[tr.length - 1]?=some st
 | [],_,e=>by cases e
 | [x],st,e=>by
  simp only [lastSt,Option.some.injEq] at e
  subst e
  rfl
 | x :: y :: l,st,e=>by
  have:=zbek_ (tr:=y :: l) (st:=st) e
  simpa using this
theorem zbpo_ (Tk:TOk P φ) (F:FOk P φ cf) (hfol:P.follows .mixedOrders=true) (k1:chkXs P φ N ops ops.toList xs=true) (k2:zqn_ ops xs d A=true) {Q:Exit→Act→World→Prop} {st':St} (so:SO φ N h0 g0 w0 st a w)
  (e:zdn_ cf base xs (some d) st=some st') (hQ:∀ a' w',SO φ N h0 g0 w0 st' a' w'→Q .normal a' w') (id:Nat):(Code.region id ops true).wp P Q a w:=by
 obtain ⟨hlen,hk⟩:=zhd_ k1
 rw [Array.length_toList] at hlen
 simp only [zdn_] at e
 obtain ⟨tr,e1,e⟩:=zaa_.1 e
 split at e
 ·rename_i hst
  obtain ⟨st2,h1,h2,h3,h4⟩:=zqj_ xs e1
  have hlast:=zbek_ e
  have hT:∀ i,i≤xs.length→tr[i]?=some (tr.getD i st):=fun i hi=>by
   rw [List.getD_eq_getElem?_getD,List.getElem?_eq_getElem (show i < tr.length by omega)]
   rfl
  have K:TrOk cf base xs st (fun i=>tr.getD i st) (fun i=>(xs[i]?).bind (·.dst)) (fun i=>match (xs[i]?).bind (·.dst) with
    | some t=>(tr.getD (i + 1) st).s t
    | none=>.u):=by
   refine ⟨?_,fun i x hx=>?_,fun i x hx=>by rw [hx]; rfl,fun i t ht=>by simp only [ht]⟩
   ·rw [List.getD_eq_getElem?_getD,h4]
    rfl
   ·obtain ⟨s1,s2,a1,a2,a3⟩:=zbej_ xs e1 i x hx
    simp only [List.getD_eq_getElem?_getD,a1,a2,Option.getD_some]
    exact a3
  have Z:StOk xs (fun i=>tr.getD i st) d:=zbpj_ hT hst
  have hend:tr.getD xs.length st=st':=by
   rw [List.getD_eq_getElem?_getD]
   rw [h3,show xs.length + 1 - 1=xs.length by omega] at hlast
   rw [hlast]
   rfl
  have hfalse:∀ i,isL (Array.replicate ops.size false) i=false:=fun i=>by
   simp only [isL,Array.getD_eq_getD_getElem?,Array.getElem?_replicate]
   split <;> rfl
  refine wp_region_any hfol ?_
  refine any_ok Tk F hlen hk k2 K Z (Q:=Q) (h0:=h0) (g0:=g0) (w0:=w0) (fun a' w' so'=>hQ a' w' (by
   simp only [hend] at so'
   exact so')) ops.size _ 0 (fun _=>0) a _ (by simp) (fun i o hi=>by rw [hfalse] at hi; cases hi) ?_ ⟨Nat.zero_le _,fun j y _ _ _=>by rw [hfalse]; exact ⟨fun e=>by (cases e),fun e=>by omega⟩,fun j y _ _ h=>by omega⟩ ?_
  ·have:=List.countP_le_length (p:=fun b=>b == false) (l:=(Array.replicate ops.size false).toList)
   simpa using this
  ·have hm:∀ v:Nat→V,mix (fun i=>(xs[i]?).bind (·.dst)) v (isL (Array.replicate ops.size false)) st.s xs.length=st.s:=by
    intro v
    rw [zvb_ 0 _ xs.length (fun i _ _=>hfalse i) (Nat.zero_le _)]
    rfl
   obtain ⟨g,R,X,S⟩:=so.drew
   refine ⟨g,?_,?_,?_,fun j y z _ _ _ h=>by (rw [hfalse] at h; cases h),fun j k _ _ h=>by (rw [hfalse] at h; cases h)⟩
   ·have h00:tr.getD 0 st=st:=K.zero
    simp only [h00]
    exact R
   ·have h00:tr.getD 0 st=st:=K.zero
    simp only [h00]
    exact X
   ·have h00:tr.getD 0 st=st:=K.zero
    rw [hm]
    simp only [h00]
    exact S
 ·cases e
end
end Go.Proofs.Sl
namespace Go.Proofs.Sl
def zbk_ (P:Program) (φ:Nat→Option FuncId) (N:Nat):Code→XC→Bool
 | .skip,.skip=>true
 | .region _ ops false,.region xs none=>chkXs P φ N ops ops.toList xs
 | .region _ ops true,.region xs (some d)=>chkXs P φ N ops ops.toList xs && zqn_ ops xs d (ancs (ops.toList.map depsOf) [])
 | .seq a b,.seq x y=>zbk_ P φ N a x && zbk_ P φ N b y
 | .cond c a b,.cond z x y=>chkOpd φ N c z && zbk_ P φ N a x && zbk_ P φ N b y
 | .block i b,.block j x=>i == j && zbk_ P φ N b x
 | .loop b,.loop x=>zbk_ P φ N b x
 | .exit i,.exit j=>i == j
 | .ret,.ret=>true
 | _,_=>false
def Ex.toExit:Ex→Exit
 | .norm=>.normal
 | .exit i=>.exit i
 | .ret=>.ret
section
variable {P:Program} {φ:Nat→Option FuncId} {N:Nat} {h0:H} {g0:G} {w0:World} {cf:CallF} {base:Nat}
theorem zbel_ (hfol:P.follows .mixedOrders=true) (Tk:TOk P φ) (F:FOk P φ cf) (n:Nat):∀ (x:XC) (c:Code),zbk_ P φ N c x=true→∀ (st:St) (r:Ex × St) (a:Act) (w:World) (Q:Exit→Act→World→Prop),xcode cf (loopN n) base x st=some r →
  SO φ N h0 g0 w0 st a w→(∀ a' w',SO φ N h0 g0 w0 r.2 a' w'→Q r.1.toExit a' w')→c.wp P Q a w:=by
 intro x
 induction x with
 | skip =>
  intro c k st r a w Q e so hQ
  cases c <;> simp only [zbk_,Bool.false_eq_true] at k
  simp only [xcode,Option.some.injEq] at e
  subst e
  exact wp_skip (hQ a w so)
 | region xs d =>
  intro c k st r a w Q e so hQ
  simp only [xcode] at e
  obtain ⟨st',e1,e⟩:=zaa_.1 e
  injection e with e
  subst e
  cases c <;> try (cases d <;> simp [zbk_] at k; done)
  rename_i id ops draw
  cases draw
  ·cases d with
   | none=>exact zbpb_ Tk F k so e1 (fun a' w' so'=>hQ a' w' so') id
   | some d=>simp [zbk_] at k
  ·cases d with
   | none=>simp [zbk_] at k
   | some d =>
    simp only [zbk_,Bool.and_eq_true] at k
    exact zbpo_ Tk F hfol k.1 k.2 so e1 (fun a' w' so'=>hQ a' w' so') id
 | seq x y ihx ihy =>
  intro c k st r a w Q e so hQ
  cases c <;> simp only [zbk_,Bool.false_eq_true,Bool.and_eq_true] at k
  simp only [xcode] at e
  obtain ⟨⟨ex,s1⟩,e1,e⟩:=zaa_.1 e
  refine wp_seq (ihx _ k.1 st _ a w _ e1 so fun a' w' so'=>?_)
  cases ex with
  | norm=>exact ihy _ k.2 s1 r a' w' Q e so' hQ
  | exit i =>
   simp only [thenC,Option.some.injEq] at e
   subst e
   exact hQ a' w' so'
  | ret =>
   simp only [thenC,Option.some.injEq] at e
   subst e
   exact hQ a' w' so'
 | cond z x y ihx ihy =>
  intro c k st r a w Q e so hQ
  cases c <;> simp only [zbk_,Bool.false_eq_true,Bool.and_eq_true] at k
  rename_i z' tc ec
  simp only [xcode] at e
  split at e
  ·rename_i t ht
   have hr:a.eval z'=.bool t:=by
    obtain ⟨g,R,X,S⟩:=so
    have:=opd_ok S k.1.1
    rw [ht] at this
    exact rel_s this
   refine wp_cond hr ?_
   cases t
   ·exact ihy _ k.2 st r a w Q e so hQ
   ·exact ihx _ k.1.2 st r a w Q e so hQ
  ·cases e
 | block j x ih =>
  intro c k st r a w Q e so hQ
  cases c <;> simp only [zbk_,Bool.false_eq_true,Bool.and_eq_true,beq_iff_eq] at k
  obtain ⟨rfl,k⟩:=k
  simp only [xcode] at e
  obtain ⟨⟨ex,s1⟩,e1,e⟩:=zaa_.1 e
  injection e with e
  subst e
  refine wp_block (ih _ k st _ a w _ e1 so fun a' w' so'=>?_)
  cases ex with
  | norm=>exact hQ a' w' so'
  | exit i =>
   simp only [outOf] at hQ
   simp only [Ex.toExit,Exit.inBlock]
   split
   ·rename_i hi
    rw [if_pos hi.symm] at hQ
    exact hQ a' w' so'
   ·rename_i hi
    rw [if_neg fun h=>hi h.symm] at hQ
    exact hQ a' w' so'
  | ret=>exact hQ a' w' so'
 | loop x ih =>
  intro c k st r a w Q e so hQ
  cases c <;> simp only [zbk_,Bool.false_eq_true] at k
  simp only [xcode] at e
  refine wp_loop_ghost (fun m a w=>∃ st,SO φ N h0 g0 w0 st a w∧loopN m (xcode cf (loopN n) base x) st=some r) n ⟨st,so,e⟩ ?_
  rintro m a w ⟨st,so,e⟩
  cases m with
  | zero=>cases e
  | succ m =>
   simp only [loopN] at e
   obtain ⟨⟨ex,s1⟩,e1,e⟩:=zaa_.1 e
   refine ih _ k st _ a w _ e1 so fun a' w' so'=>?_
   cases ex with
   | norm=>exact ⟨m,by omega,s1,so',e⟩
   | exit i =>
    simp only [thenC,Option.some.injEq] at e
    subst e
    exact hQ a' w' so'
   | ret =>
    simp only [thenC,Option.some.injEq] at e
    subst e
    exact hQ a' w' so'
 | exit j =>
  intro c k st r a w Q e so hQ
  cases c <;> simp only [zbk_,Bool.false_eq_true,beq_iff_eq] at k
  subst k
  simp only [xcode,Option.some.injEq] at e
  subst e
  exact wp_exit (hQ a w so)
 | ret =>
  intro c k st r a w Q e so hQ
  cases c <;> simp only [zbk_,Bool.false_eq_true] at k
  simp only [xcode,Option.some.injEq] at e
  subst e
  exact wp_ret (hQ a w so)
end
end Go.Proofs.Sl
namespace Go.Proofs.Sl
structure Frz (fb:Bool) (base:Nat) (h h1:H):Prop where
 len:h1.length=h.length
 get:∀ l,h1[l]?=h[l]?∨(base≤l∧((∃ k es z,h[l]?=some (.arr z k es)∧h1[l]?=some (.arr true k es))∨(fb=true∧∃ cs z,h[l]?=some (.box z cs)∧h1[l]?=some (.box true cs))))
theorem Frz.refl (fb:Bool) (base:Nat) (h:H):Frz fb base h h:=⟨rfl,fun _=>.inl rfl⟩
theorem Frz.old {fb:Bool} {base:Nat} {h h1:H} (Z:Frz fb base h h1) {l:Nat} (hl:l < base):h1[l]?=h[l]?:=by
 rcases Z.get l with e | ⟨e,_⟩
 ·exact e
 ·omega
theorem Frz.arr {fb:Bool} {base:Nat} {h h1:H} (Z:Frz fb base h h1) {l k:Nat} {z:Bool} {es:List V} (e:h[l]?=some (.arr z k es)):∃ z',h1[l]?=some (.arr z' k es)∧(z=true→z'=true):=by
 rcases Z.get l with e1 | ⟨_,⟨k',es',z',e1,e2⟩ | ⟨_,cs,z',e1,e2⟩⟩
 ·exact ⟨z,by rw [e1,e],id⟩
 ·rw [e] at e1
  injection e1 with e1
  injection e1 with h1 h2 h3
  subst h1 h2 h3
  exact ⟨true,e2,fun _=>rfl⟩
 ·rw [e] at e1
  cases e1
theorem Frz.box {fb:Bool} {base:Nat} {h h1:H} (Z:Frz fb base h h1) {l:Nat} {z:Bool} {cs:List V} (e:h[l]?=some (.box z cs)):(∃ z',h1[l]?=some (.box z' cs))∧(fb=false→h1[l]?=some (.box z cs)):=by
 rcases Z.get l with e1 | ⟨_,⟨k',es',z',e1,e2⟩ | ⟨hf,cs',z',e1,e2⟩⟩
 ·exact ⟨⟨z,by rw [e1,e]⟩,fun _=>by rw [e1,e]⟩
 ·rw [e] at e1
  cases e1
 ·rw [e] at e1
  injection e1 with e1
  injection e1 with h1 h2
  subst h1 h2
  exact ⟨⟨true,e2⟩,fun h=>by rw [hf] at h; cases h⟩
theorem zbpp_ {h:H} {l:Nat} {es:List (Value × V)} (e:mpAt h l=some es):h[l]?=some (.mp es):=by
 unfold mpAt at e
 split at e
 ·rename_i es' he
  injection e with e
  subst e
  exact he
 ·cases e
theorem Frz.mp {fb:Bool} {base:Nat} {h h1:H} (Z:Frz fb base h h1) {l:Nat} {es:List (Value × V)} (e:h[l]?=some (.mp es)):h1[l]?=some (.mp es):=by
 rcases Z.get l with e1 | ⟨_,⟨k',es',z',e1,e2⟩ | ⟨hf,cs',z',e1,e2⟩⟩
 ·rw [e1,e]
 ·rw [e] at e1
  cases e1
 ·rw [e] at e1
  cases e1
theorem Frz.setArr {fb:Bool} {base:Nat} {h h1:H} (Z:Frz fb base h h1) {l k:Nat} {z:Bool} {es:List V} (hl:base≤l) (e:h[l]?=some (.arr z k es)):Frz fb base h (h1.set l (.arr true k es)):=by
 refine ⟨by simp [Z.len],fun q=>?_⟩
 rw [zfc_]
 split
 ·rename_i hq
  subst hq
  rw [if_pos (by rw [Z.len]; exact zau_ e)]
  exact .inr ⟨hl,.inl ⟨k,es,z,e,rfl⟩⟩
 ·exact Z.get q
theorem Frz.setBox {base:Nat} {h h1:H} (Z:Frz true base h h1) {l:Nat} {z:Bool} {cs:List V} (hl:base≤l) (e:h[l]?=some (.box z cs)):Frz true base h (h1.set l (.box true cs)):=by
 refine ⟨by simp [Z.len],fun q=>?_⟩
 rw [zfc_]
 split
 ·rename_i hq
  subst hq
  rw [if_pos (by rw [Z.len]; exact zau_ e)]
  exact .inr ⟨hl,.inr ⟨rfl,cs,z,e,rfl⟩⟩
 ·exact Z.get q
def RK.fits (fb:Bool):RK→Bool
 | .v=>true
 | .o=>!fb
 | .f=>fb
 | .c=>fb
 | .m=>!fb
def chkRes (P:Program) (N:Nat) (fb:Bool):List ResultVar→List ((Nat ⊕ (Nat × Nat × Bool)) × RK)→Bool
 | [],[]=>true
 | .tmp t :: r,(.inl u,k) :: l=>t == u && decide (t < N) && k.fits fb && chkRes P N fb r l
 | .cell t ty :: r,(.inr (u,n,g),k) :: l=>t == u && decide (t < N) && sizeIs P ty n && aggIs P ty g && k.fits fb && chkRes P N fb r l
 | _,_=>false
def fbOf (l:List ((Nat ⊕ (Nat × Nat × Bool)) × RK)):Bool:=l.any fun p=>match p.2 with
 | .f=>true
 | .c=>true
 | _=>false
section
variable {P:Program} {φ:Nat→Option FuncId} {h h':H} {g g':G} {w w':World} {N:Nat} {s:Sl} {a:Act} {base:Nat}
def resF (tmps:Array Value):ResultVar→Sem Value
 | .tmp t=>pure (tmps.getD t undef)
 | .cell ad t=>do loadVar t (← asAddr (tmps.getD ad undef))
def Fin (φ:Nat→Option FuncId) (base lt:Nat) (tail:List O) (h:H) (g:G) (v:V) (mv:Value):Prop :=
 (v.top≤base∧rel φ g h false v mv)∨(tail≠[]∧base≤lt∧((v=.ptr base 0∧IsBox h lt∧(∃ z cs,tail=[.box z cs])∧mv=.pointer (some ⟨g.b (.obj lt),0,none⟩))∨(v=.mref base∧IsMp h lt∧(∃ es,tail=[.mp es])∧mv=.map (some (g.b (.obj lt))))))
theorem Fin.later {lt:Nat} {tail:List O} {v:V} {mv:Value} (f:Fin φ base lt tail h g v mv) (L:Later g h g' h'):Fin φ base lt tail h' g' v mv:=by
 rcases f with ⟨h1,h2⟩ | ⟨h0,h2,⟨h1,h3,ht,h4⟩ | ⟨h1,h3,ht,h4⟩⟩
 ·exact .inl ⟨h1,zcq_ L _ _ _ h2⟩
 ·obtain ⟨h5,h6⟩:=L.box lt h3
  exact .inr ⟨h0,h2,.inl ⟨h1,h5,ht,by rw [h6]; exact h4⟩⟩
 ·obtain ⟨h5,h6⟩:=L.mp lt h3
  exact .inr ⟨h0,h2,.inr ⟨h1,h5,ht,by rw [h6]; exact h4⟩⟩
theorem zvg_ (R:SR φ h g w) (S:Slots φ g h N s a) {rv:ResultVar} {r:Nat ⊕ (Nat × Nat × Bool)} {k:RK} {fb:Bool} {rr:List ResultVar} {l:List ((Nat ⊕ (Nat × Nat × Bool)) × RK)} (hk:chkRes P N fb (rv :: rr) ((r,k) :: l)=true) {v:V} (e:resV s h r=some v) :
  k.fits fb=true∧chkRes P N fb rr l=true∧∃ mv,(resF a.tmps rv).run P w=.ok mv w∧rel φ g h false v mv:=by
 cases rv with
 | tmp t=>cases r with
  | inl u =>
   simp only [chkRes,Bool.and_eq_true,beq_iff_eq,decide_eq_true_eq] at hk
   obtain ⟨⟨⟨rfl,ht⟩,h1⟩,h2⟩:=hk
   simp only [resV,Option.some.injEq] at e
   subst e
   exact ⟨h1,h2,_,rfl,S.rel t ht⟩
  | inr p=>simp [chkRes] at hk
 | cell ad ty=>cases r with
  | inl u=>simp [chkRes] at hk
  | inr p =>
   obtain ⟨u,n,gg⟩:=p
   simp only [chkRes,Bool.and_eq_true,beq_iff_eq,decide_eq_true_eq] at hk
   obtain ⟨⟨⟨⟨⟨rfl,ht⟩,hs⟩,ha⟩,h1⟩,h2⟩:=hk
   simp only [resV] at e
   have hr:=S.rel ad ht
   obtain ⟨mv,h3,h4⟩:=zuk_ (P:=P) R hs ha hr e
   refine ⟨h1,h2,mv,?_,h4⟩
   have hp:∃ q,a.tmps.getD ad undef=.pointer (some q):=by
    unfold xload at e
    split at e
    ·rename_i hx; rw [hx] at hr; simp only [rel] at hr; exact ⟨_,hr.2.1⟩
    ·rename_i hx; rw [hx] at hr; simp only [rel] at hr; obtain ⟨_,_,_,hr,_⟩:=hr; exact ⟨_,hr⟩
    ·rename_i hx; rw [hx] at hr; simp only [rel] at hr; exact hr.2.1
    ·cases e
   obtain ⟨q,hq⟩:=hp
   rw [hq] at h3
   simp only [Instr.loadAt,Instr.sureAddr,Sem.run_bind,Sem.run_pure,Result.andThen_ok] at h3
   simp only [resF,hq,asAddr,Sem.run_bind,Sem.run_pure,Result.andThen_ok,h3]
theorem zbpq_ {fb:Bool} {k:RK} {v v':V} {mv:Value} {tail tail':List O} {lt:Nat} {h1:H} {g1:G} (hfit:k.fits fb=true) (Z:Frz fb base h h1) (R1:SR φ h1 g1 w) (L1:Later g h g1 h1) (hb:base≤h.length) (r:rel φ g h false v mv) (ht:Tail h base lt tail)
  (e:retV base h k v tail=some (v',tail')) :
  ∃ h2 g2 lt',Frz fb base h h2∧SR φ h2 g2 w∧Ext h1 g1 w h2 g2 w∧Tail h base lt' tail'∧(tail≠[]→lt'=lt∧tail'=tail)∧(fb=true→tail'=tail)∧Fin φ base lt' tail' h2 g2 (res0 v') mv:=by
 have same:∀ u:V,u.top≤base→rel φ g1 h1 false (res0 u) mv→(res0 u).top≤base→∃ h2 g2 lt',Frz fb base h h2∧SR φ h2 g2 w∧Ext h1 g1 w h2 g2 w∧Tail h base lt' tail∧(tail≠[]→lt'=lt∧tail=tail)∧(fb=true→tail=tail)∧Fin φ base lt' tail h2 g2 (res0 u) mv :=
  fun u _ h2 h3=>⟨h1,g1,lt,Z,R1,Ext.refl _ _ _,ht,fun _=>⟨rfl,rfl⟩,fun _=>rfl,.inl ⟨h3,h2⟩⟩
 have r1:=zcq_ L1 _ _ _ r
 cases k with
 | v =>
  simp only [retV] at e
  split at e
  ·rename_i l n
   split at e
   ·rename_i hl
    injection e with e
    injection e with e1 e2
    subst e1 e2
    exact same _ (by simp only [V.top]; omega) r1 (by simp only [res0,V.top]; omega)
   ·rename_i hl
    obtain ⟨p,e1,e⟩:=zaa_.1 e
    obtain ⟨ha,hn⟩:=zbg_ e1
    split at e
    ·rename_i hc
     injection e with e
     injection e with e2 e3
     subst e2 e3
     obtain ⟨z',ha1,_⟩:=Z.arr ha
     obtain ⟨g2,R2,X2,hfr⟩:=R1.freeze ha1 hc
     rw [← hn] at r1
     have hv:res0 (if p.1=true then V.lst p.2.1 p.2.2 else V.own p.2.1 p.2.2)=.lst p.2.1 p.2.2:=by split <;> rfl
     rw [hv]
     exact ⟨_,g2,lt,Z.setArr (by omega) ha,R2,X2,ht,fun _=>⟨rfl,rfl⟩,fun _=>rfl,.inl ⟨Nat.zero_le _,zbq_ (fun _ _ _ e=>e) false _ _ (hfr mv r1)⟩⟩
    ·cases e
  ·injection e with e
   injection e with e1 e2
   subst e1 e2
   refine same _ (Nat.zero_le _) ?_ (Nat.zero_le _)
   simp only [rel] at r1
   simp only [res0,rel]
   exact .inl r1.2.1
  ·cases e
  ·cases e
  ·cases e
  ·split at e
   ·rename_i n1 n2 n3 n4 n5 hx
    injection e with e
    injection e with e1 e2
    subst e1 e2
    have hr0:res0 v=v:=by
     cases v <;> first | rfl | exact absurd rfl (n4 _ _)
    refine same v hx ?_ ?_
    ·rw [hr0]; exact r1
    ·rw [hr0]; exact hx
   ·cases e
 | o =>
  simp only [retV] at e
  split at e
  ·rename_i l
   split at e
   ·rename_i hl
    injection e with e
    injection e with e1 e2
    subst e1 e2
    exact same _ (by simp only [V.top]; omega) r1 (by simp only [res0,V.top]; omega)
   ·rename_i hl
    obtain ⟨p,e1,e⟩:=zaa_.1 e
    have hbx:=zcg_ e1
    split at e
    ·rename_i hc
     injection e with e
     injection e with e2 e3
     subst e2 e3
     have ht0:tail=[]:=List.eq_nil_of_length_eq_zero hc.2
     subst ht0
     have hfb:fb=false:=by simpa [RK.fits] using hfit
     refine ⟨h1,g1,l,Z,R1,Ext.refl _ _ _,.inr ⟨_,by omega,hbx,.inl ⟨p.1,p.2,rfl,hc.1⟩,rfl⟩,fun h=>(h rfl).elim,fun h=>by (rw [hfb] at h; cases h),.inr ⟨by simp,by omega,.inl ⟨rfl,⟨_,_,(Z.box hbx).2 hfb⟩,⟨_,_,rfl⟩,?_⟩⟩⟩
     simp only [rel] at r1
     exact r1.2.1
    ·cases e
  ·injection e with e
   injection e with e1 e2
   subst e1 e2
   exact same _ (Nat.zero_le _) r1 (Nat.zero_le _)
  ·cases e
 | f =>
  simp only [retV] at e
  split at e
  ·rename_i l o
   split at e
   ·cases e
   ·rename_i hl
    obtain ⟨p,e1,e⟩:=zaa_.1 e
    have hbx:=zcg_ e1
    split at e
    ·rename_i hc
     injection e with e
     injection e with e2 e3
     subst e2 e3
     have hfb:fb=true:=by simpa [RK.fits] using hfit
     subst hfb
     obtain ⟨⟨z',hb1⟩,_⟩:=Z.box hbx
     obtain ⟨g2,R2,X2,hgb,ms,rr,hM,hone⟩:=R1.freezeBox hb1 hc
     refine ⟨_,g2,lt,Z.setBox (by omega) hbx,R2,X2,ht,fun _=>⟨rfl,rfl⟩,fun _=>rfl,.inl ⟨by simp [res0,V.top],?_⟩⟩
     simp only [rel] at r1
     simp only [res0,rel]
     refine ⟨g1.b (.obj l),0,.agg ms.toArray,by rw [Nat.zero_add]; exact r1.2.1,⟨ms.toArray,rfl,rr⟩,fun j u eu=>?_⟩
     rw [Nat.zero_add]
     simp only [Value.cells,List.getElem?_toArray] at eu
     exact hM j u eu
    ·cases e
  ·injection e with e
   injection e with e1 e2
   subst e1 e2
   refine same _ (Nat.zero_le _) ?_ (Nat.zero_le _)
   exact r1
  ·injection e with e
   injection e with e1 e2
   subst e1 e2
   exact same _ (Nat.zero_le _) r1 (Nat.zero_le _)
  ·cases e
 | c =>
  simp only [retV] at e
  split at e
  ·rename_i f l
   split at e
   ·cases e
   ·rename_i hl
    obtain ⟨p,e1,e⟩:=zaa_.1 e
    have hbx:=zcg_ e1
    split at e
    ·rename_i hc
     injection e with e
     injection e with e2 e3
     subst e2 e3
     have hfb:fb=true:=by simpa [RK.fits] using hfit
     subst hfb
     obtain ⟨⟨z',hb1⟩,_⟩:=Z.box hbx
     obtain ⟨g2,R2,X2,hgb,ms,rr,hM,hone⟩:=R1.freezeBox hb1 (by rw [zjq_ hc]; exact hc)
     rw [zjq_ hc] at rr
     refine ⟨_,g2,lt,Z.setBox (by omega) hbx,R2,X2,ht,fun _=>⟨rfl,rfl⟩,fun _=>rfl,.inl ⟨by simp [res0,V.top,V.top.tops],?_⟩⟩
     simp only [rel] at r1
     obtain ⟨id,A,C,hid,hmv,rA,rC⟩:=r1
     obtain ⟨m,s',hC,rp,rn⟩:=zam_.1 rC
     rw [zad_] at rn
     simp only [rel] at rp
     simp only [res0,rel]
     refine ⟨id,A,C,hid,hmv,zad_.2 (zad_.1 rA),?_⟩
     rw [hC,rn]
     refine zaj_.2 ⟨?_,zad_.2 rfl⟩
     simp only [rel]
     refine ⟨g1.b (.obj l),0,.agg ms.toArray,by rw [Nat.zero_add]; exact rp.2.1,⟨ms.toArray,rfl,rr⟩,fun j u eu=>?_⟩
     rw [Nat.zero_add]
     simp only [Value.cells,List.getElem?_toArray] at eu
     exact hM j u eu
    ·cases e
  ·cases e
 | m =>
  simp only [retV] at e
  split at e
  ·rename_i l
   split at e
   ·rename_i hl
    injection e with e
    injection e with e1 e2
    subst e1 e2
    exact same _ (by simp only [V.top]; omega) r1 (by simp only [res0,V.top]; omega)
   ·rename_i hl
    obtain ⟨p,e1,e⟩:=zaa_.1 e
    have hbx:=zbpp_ e1
    split at e
    ·rename_i hc
     injection e with e
     injection e with e2 e3
     subst e2 e3
     have ht0:tail=[]:=List.eq_nil_of_length_eq_zero hc
     subst ht0
     have hfb:fb=false:=by simpa [RK.fits] using hfit
     refine ⟨h1,g1,l,Z,R1,Ext.refl _ _ _,.inr ⟨_,by omega,hbx,.inr ⟨p,rfl⟩,rfl⟩,fun h=>(h rfl).elim,fun h=>by (rw [hfb] at h; cases h),.inr ⟨by simp,by omega,.inr ⟨rfl,⟨_,Z.mp hbx⟩,⟨_,rfl⟩,?_⟩⟩⟩
     simp only [rel] at r1
     exact r1.2.1
    ·cases e
  ·cases e
theorem zbem_ {fb:Bool} (R:SR φ h g w) (S:Slots φ g h N s a) (hb:base≤h.length):∀ (rv:List ResultVar) (l:List ((Nat ⊕ (Nat × Nat × Bool)) × RK)) (tail tail':List O) (vs:List V) (lt:Nat) (h1:H) (g1:G),chkRes P N fb rv l=true→retVs base s h l tail=some (vs,tail') →
  Frz fb base h h1→SR φ h1 g1 w→Later g h g1 h1→Tail h base lt tail →
  ∃ h2 g2 lt' ms,Frz fb base h h2∧SR φ h2 g2 w∧Ext h1 g1 w h2 g2 w∧Tail h base lt' tail'∧(tail≠[]→lt'=lt∧tail'=tail)∧(fb=true→tail'=tail) ∧
   (rv.mapM (resF a.tmps)).run P w=.ok ms w∧vs.length=ms.length∧∀ (i:Nat) (v:V) (m:Value),vs[i]?=some v→ms[i]?=some m→Fin φ base lt' tail' h2 g2 (res0 v) m
 | [],[],tail,tail',vs,lt,h1,g1,hk,e,Z,R1,L1,ht=>by
  simp only [retVs,Option.some.injEq,Prod.mk.injEq] at e
  obtain ⟨rfl,rfl⟩:=e
  exact ⟨h1,g1,lt,[],Z,R1,Ext.refl _ _ _,ht,fun _=>⟨rfl,rfl⟩,fun _=>rfl,by simp,rfl,fun i v m e=>by simp at e⟩
 | rv :: rr,(r,k) :: l,tail,tail',vs,lt,h1,g1,hk,e,Z,R1,L1,ht=>by
  simp only [retVs] at e
  obtain ⟨v,e1,e⟩:=zaa_.1 e
  obtain ⟨⟨v1,t1⟩,e2,e⟩:=zaa_.1 e
  obtain ⟨⟨v2,t2⟩,e3,e⟩:=zaa_.1 e
  injection e with e
  injection e with e4 e5
  subst e4 e5
  obtain ⟨hfit,hk2,mv,hrun,hrel⟩:=zvg_ (P:=P) R S hk e1
  obtain ⟨h2,g2,lt2,Z2,R2,X2,ht2,hs2,hf2,F2⟩:=zbpq_ hfit Z R1 L1 hb hrel ht e2
  obtain ⟨h3,g3,lt3,ms,Z3,R3,X3,ht3,hs3,hf3,hrun3,hlen,F3⟩:=zbem_ R S hb rr l t1 t2 v2 lt2 h2 g2 hk2 e3 Z2 R2 (L1.trans X2.later) ht2
  have hF2:Fin φ base lt3 t2 h3 g3 (res0 v1) mv:=by
   have F2':=F2.later X3.later
   rcases F2' with ⟨q1,q2⟩ | ⟨q0,q1⟩
   ·exact .inl ⟨q1,q2⟩
   ·obtain ⟨e1,e2⟩:=hs3 q0
    rw [e1,e2]
    exact .inr ⟨q0,q1⟩
  refine ⟨h3,g3,lt3,mv :: ms,Z3,R3,X2.trans X3,ht3,fun hne=>?_,fun hf=>(hf3 hf).trans (hf2 hf),?_,by simp [hlen],fun i v m ev em=>?_⟩
  ·obtain ⟨q1,q2⟩:=hs2 hne
   have:t1≠[]:=by rw [q2]; exact hne
   obtain ⟨q3,q4⟩:=hs3 this
   exact ⟨q3.trans q1,q4.trans q2⟩
  ·rw [List.mapM_cons,Sem.run_bind,hrun,Result.andThen_ok,Sem.run_bind,hrun3]
   rfl
  ·cases i with
   | zero =>
    simp only [List.getElem?_cons_zero,Option.some.injEq] at ev em
    subst ev em
    exact hF2
   | succ i=>exact F3 i v m (by simpa using ev) (by simpa using em)
 | [],_ :: _,_,_,_,_,_,_,hk,_,_,_,_,_=>by simp [chkRes] at hk
 | rv :: _,[],_,_,_,_,_,_,hk,_,_,_,_,_=>by cases rv <;> simp [chkRes] at hk
end
end Go.Proofs.Sl
namespace Go.Proofs.Sl
def chkFun (P:Program) (φ:Nat→Option FuncId) (fn:Func) (X:XF):Bool:=match fn.body with
 | some c=>zbk_ P φ fn.ntmps c X.body && decide (X.np≤fn.ntmps) && chkRes P fn.ntmps (fbOf X.results) fn.results.toList X.results
 | none=>false
section
variable {P:Program} {φ:Nat→Option FuncId} {h h':H} {g g':G} {w w':World} {N:Nat} {s:Sl} {a:Act} {base:Nat}
theorem zqp_ {args:List V} {ms:List Value} {n:Nat} (r:rels φ g h false args ms) (hn:args.length≤n):Slots φ g h n (args0 args) { tmps:=ms.toArray++Array.replicate (n - ms.toArray.size) undef,defers:=[] }:=by
 have hl:=zah_ r
 refine ⟨rfl,by simp; omega,fun t ht=>?_⟩
 simp only [args0,List.getD_eq_getElem?_getD,Array.getD_eq_getD_getElem?]
 by_cases h1:t < args.length
 ·have hv:=List.getElem?_eq_getElem h1
  obtain ⟨m,e1,r1⟩:=zdd_ r hv
  rw [hv,Array.getElem?_append_left (by simp; omega),List.getElem?_toArray,e1]
  exact r1
 ·rw [List.getElem?_eq_none (by omega),Array.getElem?_append_right (by simp; omega),Array.getElem?_replicate]
  simp only [Option.getD_none]
  split
  ·exact rel_of rfl
  ·exact rel_of rfl
theorem zbpr_ {n:Nat} (hn:n≤h.length) {k:Key} (e:live (h.take n++[]) k):live h k∧((∃ q,q < n∧k=.obj q)∨∃ q o,q < n∧k=.cell q o):=by
 have ht:Tail h n n []:=.inl rfl
 cases k with
 | obj q =>
  rcases e with ⟨z,cs,e⟩ | ⟨z,k,es,e⟩ | ⟨es,e⟩
  ·rcases zbu_ hn ht e with ⟨hq,e3⟩ | ⟨_,_,_,_,h0⟩
   ·exact ⟨.inl ⟨z,cs,e3⟩,.inl ⟨q,hq,rfl⟩⟩
   ·cases h0
  ·rcases zbu_ hn ht e with ⟨hq,e3⟩ | ⟨_,_,_,_,h0⟩
   ·exact ⟨.inr (.inl ⟨z,k,es,e3⟩),.inl ⟨q,hq,rfl⟩⟩
   ·cases h0
  ·rcases zbu_ hn ht e with ⟨hq,e3⟩ | ⟨_,_,_,_,h0⟩
   ·exact ⟨.inr (.inr ⟨es,e3⟩),.inl ⟨q,hq,rfl⟩⟩
   ·cases h0
 | cell q o =>
  obtain ⟨x,n',e,k⟩:=e
  have e':=e
  obtain ⟨z,cs,e1,e2⟩:=zde_ e
  rcases zbu_ hn ht e1 with ⟨hq,e3⟩ | ⟨_,_,_,_,h0⟩
  ·exact ⟨⟨x,n',by rw [zbd_ e3]; exact e2,k⟩,.inr ⟨q,o,hq,rfl⟩⟩
  ·cases h0
theorem own_ok {h0:H} {g0:G} {w0:World} (R:SR φ h g w) (X:Ext h0 g0 w0 h g w) (hb:h0.length=base) (hn:base≤h.length) {l k:Nat} {es:List V} {mv:Value} (hl:base≤l) (ha:h[l]?=some (.arr false k es)) (hc:V.closed.closeds es=true)
  (r:rel φ g h false (.ref l es.length) mv) (lt:Nat):RetOk φ w0.heap.size (h.take base++[]) (g.ren base lt) w (.own k es) mv:=by
 simp only [rel] at r
 obtain ⟨_,_,_,r⟩:=r
 have hm:=(r _ _ _ ha).2 rfl
 obtain ⟨cur,E,ms,e,s,n1,n2,rr,wd,t,_,k3⟩:=R.arr l false k es ha
 have rt:=zbt_ es ms hc rr
 refine ⟨g.b (.obj l),g.c (.obj l),?_,?_⟩
 ·rcases X.arrB l false k es ha with ⟨z',es',e1,_⟩ | h1
  ·have:=zau_ e1
   omega
  ·exact h1
 ·refine ⟨hm,⟨cur,E,ms,e,s,zal_ (g:=g) (h:=h) (g':=g.ren base lt) (h':=h.take base++[]) (fun _ _ _ e=>e) true _ _ rt,t⟩,n1,n2,wd,hc,k3 rfl,fun key hk=>?_⟩
  obtain ⟨h1,h2⟩:=zbpr_ hn hk
  rcases h2 with ⟨q,hq,rfl⟩ | ⟨q,o,hq,rfl⟩
  ·rw [(ren_lt hq).1]
   intro e
   have:=R.inj _ (.obj l) h1 (Or.inr (Or.inl ⟨_,_,_,ha⟩)) e
   injection this with this
   omega
  ·rw [((ren_lt hq).2.2 o).1]
   intro e
   have:=R.inj _ (.obj l) h1 (Or.inr (Or.inl ⟨_,_,_,ha⟩)) e
   cases this
theorem zbps_ {k:RK} {v:V} {kk:Nat} {es:List V} {tail tail':List O} (e:retV base h k v tail=some (.own kk es,tail')):∃ l n,v=.ref l n∧base≤l∧h[l]?=some (.arr false kk es)∧es.length=n∧V.closed.closeds es=true∧tail'=tail:=by
 cases k with
 | v =>
  simp only [retV] at e
  split at e
  ·rename_i l n
   split at e
   ·cases e
   ·rename_i hl
    obtain ⟨p,e1,e⟩:=zaa_.1 e
    obtain ⟨ha,hn⟩:=zbg_ e1
    split at e
    ·rename_i hc
     injection e with e
     injection e with e2 e3
     split at e2
     ·cases e2
     ·rename_i hp
      injection e2 with e4 e5
      subst e4 e5
      have hp:p.1=false:=by simpa using hp
      rw [hp] at ha
      exact ⟨l,n,rfl,by omega,ha,hn,hc,e3.symm⟩
    ·cases e
  ·cases e
  ·cases e
  ·cases e
  ·cases e
  ·rename_i n1 n2 n3 n4 n5
   split at e
   ·injection e with e
    injection e with e2 e3
    exact absurd e2 (n4 _ _)
   ·cases e
 | o =>
  simp only [retV] at e
  split at e
  ·split at e
   ·cases e
   ·obtain ⟨p,e1,e⟩:=zaa_.1 e
    split at e
    ·cases e
    ·cases e
  ·cases e
  ·cases e
 | f =>
  simp only [retV] at e
  split at e
  ·split at e
   ·cases e
   ·obtain ⟨p,e1,e⟩:=zaa_.1 e
    split at e
    ·cases e
    ·cases e
  ·cases e
  ·cases e
  ·cases e
 | c =>
  simp only [retV] at e
  split at e
  ·split at e
   ·cases e
   ·obtain ⟨p,e1,e⟩:=zaa_.1 e
    split at e
    ·cases e
    ·cases e
  ·cases e
 | m =>
  simp only [retV] at e
  split at e
  ·split at e
   ·cases e
   ·obtain ⟨p,e1,e⟩:=zaa_.1 e
    split at e
    ·cases e
    ·cases e
  ·cases e
theorem zvh_ (fn:Func) (tmps:Array Value):results fn tmps=(do
  let vs ← fn.results.mapM (resF tmps)
  pure (if h:vs.size=1 then vs[0] else .tuple vs)):=by
 unfold results
 congr 1
theorem zbpt_ {h0:H} {g0:G} {w0:World} {F:XF} {fn:Func} (hres:chkRes P fn.ntmps (fbOf F.results) fn.results.toList F.results=true) (hb:h0.length=base) {st:St} (R:SR φ st.h g w) (X:Ext h0 g0 w0 st.h g w) (S:Slots φ g st.h fn.ntmps st.s a) (hn:base≤st.h.length)
  (htop:∀ q o,q < base→st.h[q]?=some o→o.top≤base) {p:List V × List O} (e:retVs base st.s st.h F.results []=some p) :
  ∃ mv g',(results fn a.tmps).run P w=.ok mv w∧SR φ (st.h.take base++p.2) g' w∧Ext h0 g0 w0 (st.h.take base++p.2) g' w∧RetOk φ w0.heap.size (st.h.take base++p.2) g' w (V.ofRes p.1) mv:=by
 obtain ⟨vs,tail⟩:=p
 obtain ⟨h2,g2,lt,ms,Z,R2,X2,ht,_,hf,hrun,hlen,hfin⟩:=zbem_ (P:=P) R S hn fn.results.toList F.results [] tail vs 0 st.h g hres e (Frz.refl _ _ _) R (Later.refl _ _) (.inl rfl)
 have hrun':(fn.results.mapM (resF a.tmps)).run P w=.ok ms.toArray w:=by
  have hl:fn.results=fn.results.toList.toArray:=by simp
  rw [hl,List.mapM_toArray,Sem.run_map,hrun]
  rfl
 by_cases hown:∃ k es,vs=[.own k es]
 ·-- one list of its own
  obtain ⟨k,es,rfl⟩:=hown
  have hl1:ms.length=1:=by rw [← hlen]; rfl
  obtain ⟨m,rfl⟩:∃ m,ms=[m]:=List.length_eq_one_iff.1 hl1
  cases hrv:fn.results.toList with
  | nil=>rw [hrv] at hrun; simp at hrun
  | cons rv rr =>
   cases hfr:F.results with
   | nil=>rw [hfr] at e; simp [retVs] at e
   | cons rk l =>
    obtain ⟨r0,k0⟩:=rk
    rw [hfr] at e
    rw [hrv,hfr] at hres
    simp only [retVs] at e
    obtain ⟨v,e1,e⟩:=zaa_.1 e
    obtain ⟨⟨v1,t1⟩,e2,e⟩:=zaa_.1 e
    obtain ⟨⟨v2,t2⟩,e3,e⟩:=zaa_.1 e
    injection e with e
    injection e with e4 e5
    injection e4 with e4 e6
    subst e4 e5 e6
    obtain ⟨_,hk2,mv,hr1,hrel⟩:=zvg_ (P:=P) R S hres e1
    have hl:l=[]:=by
     cases l with
     | nil=>rfl
     | cons q l =>
      simp only [retVs] at e3
      obtain ⟨_,_,e3⟩:=zaa_.1 e3
      obtain ⟨_,_,e3⟩:=zaa_.1 e3
      obtain ⟨_,_,e3⟩:=zaa_.1 e3
      cases e3
    subst hl
    simp only [retVs,Option.some.injEq,Prod.mk.injEq,true_and] at e3
    subst e3
    obtain ⟨lq,nq,rfl,hbl,ha,hnq,hc,rfl⟩:=zbps_ e2
    have hrr:rr=[]:=by
     cases rr with
     | nil=>rfl
     | cons q rr=>simp [chkRes] at hk2
    subst hrr
    have hm:m=mv:=by
     rw [hrv,List.mapM_cons,Sem.run_bind,hr1,Result.andThen_ok] at hrun
     simp at hrun
     exact hrun.symm
    subst hm
    rw [← hnq] at hrel
    refine ⟨m,g.ren base 0,?_,R.back hn htop (.inl rfl),X.back hb hn (.inl rfl),own_ok R X hb hn hbl ha hc hrel 0⟩
    rw [zvh_,Sem.run_bind,hrun']
    rfl
 ·have hn2:base≤h2.length:=by rw [Z.len]; exact hn
  have htk:h2.take base=st.h.take base:=by
   apply List.ext_getElem?
   intro q
   rw [List.getElem?_take,List.getElem?_take]
   split
   ·rename_i hq
    exact Z.old hq
   ·rfl
  have ht2:Tail h2 base lt tail:=by
   rcases ht with rfl | ⟨x,h1,h3,h4,rfl⟩
   ·exact .inl rfl
   ·refine .inr ⟨x,h1,?_,h4,rfl⟩
    rcases h4 with ⟨z,cs,rfl,h4⟩ | ⟨es,rfl⟩
    ·refine (Z.box h3).2 ?_
     cases hfb:fbOf F.results with
     | false=>rfl
     | true =>
      have:=hf hfb
      cases this
    ·exact Z.mp h3
  have htop2:∀ q o,q < base→h2[q]?=some o→o.top≤base:=fun q o hq e=>htop q o hq (by rw [← Z.old hq]; exact e)
  have R3:=R2.back hn2 htop2 ht2
  have X3:=(X.trans X2).back hb hn2 ht2
  rw [htk] at R3 X3
  have hfin3:∀ (i:Nat) (v:V) (m:Value),vs[i]?=some v→ms[i]?=some m→rel φ (g2.ren base lt) (st.h.take base++tail) false (res0 v) m:=by
   intro i v m ev em
   rcases hfin i v m ev em with ⟨h1,h3⟩ | ⟨h1,h4,⟨h3,h5,⟨z,cs,ht3⟩,h6⟩ | ⟨h3,h5,⟨es,ht3⟩,h6⟩⟩
   ·have:=zpy_ (t:=tail) (g:=g2) hn2 (g':=g2.ren base lt) (fun _ _ _ e=>e) (fun q hq=>ren_lt hq) false (res0 v) m h1 h3
    rw [htk] at this
    exact this
   ·rw [h3]
    simp only [rel]
    refine ⟨trivial,by rw [ren_eq.1]; exact h6,?_⟩
    refine ⟨z,cs,?_⟩
    have hlk:(st.h.take base).length=base:=by simp; omega
    rw [List.getElem?_append_right (by omega),hlk,Nat.sub_self,ht3]
    rfl
   ·rw [h3]
    simp only [rel]
    refine ⟨trivial,by rw [ren_eq.1]; exact h6,?_⟩
    refine ⟨es,?_⟩
    have hlk:(st.h.take base).length=base:=by simp; omega
    rw [List.getElem?_append_right (by omega),hlk,Nat.sub_self,ht3]
    rfl
  refine ⟨if h:ms.toArray.size=1 then ms.toArray[0] else .tuple ms.toArray,g2.ren base lt,?_,R3,X3,?_⟩
  ·rw [zvh_,Sem.run_bind,hrun']
   rfl
  ·by_cases h1:vs.length=1
   ·obtain ⟨v,rfl⟩:=List.length_eq_one_iff.1 h1
    obtain ⟨m,rfl⟩:=List.length_eq_one_iff.1 (hlen ▸ h1)
    have:=hfin3 0 v m rfl rfl
    have hno:∀ k es,v≠.own k es:=fun k es hv=>hown ⟨k,es,by rw [hv]⟩
    have hr0:res0 v=v:=by cases v <;> first | rfl | exact absurd rfl (hno _ _)
    rw [hr0] at this
    simp only [V.ofRes]
    cases v <;> first | exact this | exact absurd rfl (hno _ _)
   ·have hof:V.ofRes vs=.tup (vs.map res0):=by
     unfold V.ofRes
     split
     ·exact absurd rfl h1
     ·rfl
    have hms:¬ ms.toArray.size=1:=by simp; omega
    rw [hof,dif_neg hms]
    simp only [RetOk,rel]
    refine ⟨ms.toArray,rfl,zdw_ (by simp [hlen]) fun i v m ev em=>?_⟩
    rw [List.getElem?_map] at ev
    cases hv:vs[i]? with
    | none=>rw [hv] at ev; cases ev
    | some u =>
     rw [hv] at ev
     injection ev with ev
     subst ev
     exact hfin3 i u m hv em
theorem zbpu_ (hfol:P.follows .mixedOrders=true) (Tk:TOk P φ) {cf:CallF} (F:FOk P φ cf) (HG:CfHG cf) (n:Nat) {id:FuncId} {fn:Func} (hf:P.funcs[id]?=some fn) {X:XF} (k:chkFun P φ fn X=true) {args:List V} {v:V} (e:xfun0 cf (loopN n) X args h=some (v,h'))
  (R:SR φ h g w) {ms:List Value} (r:rels φ g h false args ms) :
  Calls P id ms.toArray w fun e w'=>∃ mv g',e=.returned mv∧SR φ h' g' w'∧Ext h g w h' g' w'∧RetOk φ w.heap.size h' g' w' v mv:=by
 unfold chkFun at k
 split at k
 ·rename_i c hbody
  simp only [Bool.and_eq_true,decide_eq_true_eq] at k
  obtain ⟨⟨k1,k2⟩,k3⟩:=k
  unfold xfun0 at e
  split at e
  ·rename_i hnp
   obtain ⟨rr,e1,e⟩:=zaa_.1 e
   refine calls_of_wp hf hbody ?_
   have hg1:=zdo_ (base:=h.length) (st:=⟨args0 args,h⟩) HG n X.body (Nat.le_refl _) e1
   refine zbel_ (base:=h.length) (h0:=h) (g0:=g) (w0:=w) hfol Tk F n X.body c k1 ⟨args0 args,h⟩ rr _ w _ e1 ⟨g,R,Ext.refl _ _ _,zqp_ r (by omega)⟩ ?_
   rintro a' w' ⟨g1,R1,X1,S1⟩
   have htop:∀ q o,q < h.length→rr.2.h[q]?=some o→o.top≤h.length:=fun q o hq eo=>by
    obtain ⟨o1,h1,h2⟩:=hg1.2 q o hq eo
    have:=R.top h1
    omega
   have hfinal:∀ p,retVs h.length rr.2.s rr.2.h X.results []=some p→(v,h')=(V.ofRes p.1,rr.2.h.take h.length++p.2)→a'.defers=[]∧∃ mv,(results fn a'.tmps).run P w'=.ok mv w'∧∃ mv' g',Ending.returned mv=.returned mv'∧SR φ h' g' w'∧Ext h g w h' g' w'∧RetOk φ w.heap.size h' g' w' v mv':=by
    intro p hp hv
    injection hv with hv1 hv2
    subst hv1 hv2
    obtain ⟨mv,g',q1,q2,q3,q4⟩:=zbpt_ (P:=P) k3 rfl R1 X1 S1 hg1.1 htop hp
    exact ⟨S1.defers,mv,q1,mv,g',rfl,q2,q3,q4⟩
   unfold xback at e
   split at e
   ·cases e
   ·rename_i hne
    obtain ⟨p,e2,e⟩:=zaa_.1 e
    injection e with e
    have:=hfinal p e2 e.symm
    cases hr:rr.1 with
    | norm=>exact this
    | ret=>exact this
    | exit i=>exact absurd hr (hne i)
  ·cases e
 ·cases k
theorem zben_ (R:SR φ h g w) (S:Slots φ g h N s a) {fb:Bool}:∀ (rr:List ResultVar) (l:List ((Nat ⊕ (Nat × Nat × Bool)) × RK)) (vs:List V),chkRes P N fb rr l=true→resKs s h l=some vs→∃ ms:List Value,(rr.mapM (resF a.tmps)).run P w=.ok ms w∧rels φ g h false vs ms
 | [],[],vs,_,e=>by
  simp only [resKs,Option.some.injEq] at e
  subst e
  exact ⟨[],rfl,zad_.2 rfl⟩
 | [],_ :: _,_,hk,_=>by simp [chkRes] at hk
 | _ :: _,[],_,hk,_=>by simp [chkRes] at hk
 | rv :: rr,(r,k) :: l,vs,hk,e=>by
  simp only [resKs] at e
  obtain ⟨v,e1,e⟩:=zaa_.1 e
  obtain ⟨v',e2,e⟩:=zaa_.1 e
  obtain ⟨vs',e3,e⟩:=zaa_.1 e
  injection e with e
  subst e
  obtain ⟨_,hk2,mv,hr1,hrel⟩:=zvg_ (P:=P) R S hk e1
  obtain ⟨ms,h1,h2⟩:=zben_ R S rr l vs' hk2 e3
  refine ⟨mv :: ms,?_,zaj_.2 ⟨zbds_ hrel e2,h2⟩⟩
  simp only [List.mapM_cons,Sem.run_bind,hr1,Result.andThen_ok,h1,Sem.run_pure]
theorem zbeo_:∀ (l:List ((Nat ⊕ (Nat × Nat × Bool)) × RK)) (vs:List V) {s:Sl} {h:H},resKs s h l=some vs→∀ v ∈ vs,∀ k es,v≠.own k es
 | [],vs,s,h,e=>by
  simp only [resKs,Option.some.injEq] at e
  subst e
  exact fun v hv=>by simp at hv
 | p :: l,vs,s,h,e=>by
  simp only [resKs] at e
  obtain ⟨v,e1,e⟩:=zaa_.1 e
  obtain ⟨v',e2,e⟩:=zaa_.1 e
  obtain ⟨vs',e3,e⟩:=zaa_.1 e
  injection e with e
  subst e
  intro u hu k es he
  rcases List.mem_cons.1 hu with rfl | hu
  ·subst he
   cases v <;> simp [arg0] at e2
  ·exact zbeo_ l vs' e3 u hu k es he
theorem zbpv_ (hfol:P.follows .mixedOrders=true) (Tk:TOk P φ) {cf:CallF} (F:FOk P φ cf) (HG:CfHG cf) (n:Nat) {id:FuncId} {fn:Func} (hf:P.funcs[id]?=some fn) {X:XF} (k:chkFun P φ fn X=true) {b n0 k0:Nat} {es0 args:List V} {v:V}
  (e:xfunK cf (loopN n) X (.gro b n0 k0 es0 :: args) h=some (v,h')) (R:SR φ h g w) {ms:List Value} (r:rels φ g h false args ms) :
  Calls P id ms.toArray w fun e w'=>∃ mv g',e=.returned mv∧SR φ h' g' w'∧Ext h g w h' g' w'∧RetOk φ w.heap.size h' g' w' v mv:=by
 unfold chkFun at k
 split at k
 ·rename_i c hbody
  simp only [Bool.and_eq_true,decide_eq_true_eq] at k
  obtain ⟨⟨k1,k2⟩,k3⟩:=k
  simp only [xfunK] at e
  split at e
  ·rename_i hnp
   obtain ⟨rr,e1,e⟩:=zaa_.1 e
   refine calls_of_wp hf hbody ?_
   refine zbel_ (base:=b) (h0:=h) (g0:=g) (w0:=w) hfol Tk F n X.body c k1 ⟨args0 args,h⟩ rr _ w _ e1 ⟨g,R,Ext.refl _ _ _,zqp_ r (by omega)⟩ ?_
   rintro a' w' ⟨g1,R1,X1,S1⟩
   have hfinal:∀ vs,resKs rr.2.s rr.2.h X.results=some vs→(v,h')=(V.ofResK vs,rr.2.h)→a'.defers=[]∧∃ mv,(results fn a'.tmps).run P w'=.ok mv w'∧∃ mv' g',Ending.returned mv=.returned mv'∧SR φ h' g' w'∧Ext h g w h' g' w'∧RetOk φ w.heap.size h' g' w' v mv':=by
    intro vs hp hv
    injection hv with hv1 hv2
    subst hv1 hv2
    obtain ⟨ml,q1,q2⟩:=zben_ (P:=P) R1 S1 fn.results.toList X.results vs k3 hp
    have hno:=zbeo_ X.results vs hp
    have hrun':(fn.results.mapM (resF a'.tmps)).run P w'=.ok ml.toArray w':=by
     have hl:fn.results=fn.results.toList.toArray:=by simp
     rw [hl,List.mapM_toArray,Sem.run_map,q1]
     rfl
    have hlen:=zah_ q2
    refine ⟨S1.defers,if h:ml.toArray.size=1 then ml.toArray[0] else .tuple ml.toArray,?_,_,g1,rfl,R1,X1,?_⟩
    ·rw [zvh_,Sem.run_bind,hrun']
     rfl
    ·by_cases h1:vs.length=1
     ·obtain ⟨u,rfl⟩:=List.length_eq_one_iff.1 h1
      obtain ⟨m,rfl⟩:=List.length_eq_one_iff.1 (hlen ▸ h1)
      have:=(zaj_.1 q2).1
      have hn:=hno u (by simp)
      simp only [V.ofResK]
      cases u <;> first | exact this | exact absurd rfl (hn _ _)
     ·have hof:V.ofResK vs=.tup vs:=by
       unfold V.ofResK
       split
       ·exact absurd rfl h1
       ·rfl
      have hms:¬ ml.toArray.size=1:=by simp; omega
      rw [hof,dif_neg hms]
      simp only [RetOk,rel]
      exact ⟨ml.toArray,rfl,q2⟩
   unfold xbackK at e
   split at e
   ·cases e
   ·rename_i hne
    obtain ⟨p,e2,e⟩:=zaa_.1 e
    injection e with e
    have:=hfinal p e2 e.symm
    cases hr:rr.1 with
    | norm=>exact this
    | ret=>exact this
    | exit i=>exact absurd hr (hne i)
  ·cases e
 ·cases k
def NatOk (P:Program) (φ:Nat→Option FuncId) (id:FuncId) (k:NK):Prop:=∀ cf,FOk P φ cf→CfHG cf→∀ args h v h',xnat cf args h k=some (v,h')→∀ g w ms,SR φ h g w→rels φ g h false args ms →
 Calls P id ms.toArray w fun e w'=>∃ mv g',e=.returned mv∧SR φ h' g' w'∧Ext h g w h' g' w'∧RetOk φ w.heap.size h' g' w' v mv
def FunOk (P:Program) (φ:Nat→Option FuncId) (id:FuncId) (fn:Func) (X:XF):Prop:=match X.nat with
 | none=>chkFun P φ fn X=true
 | some .keep=>chkFun P φ fn X=true
 | some k=>NatOk P φ id k
structure Table (P:Program) (φ:Nat→Option FuncId) (XP:Nat→Option XF):Prop where
 follows:P.follows .mixedOrders=true
 there:TOk P φ
 code:∀ f id X,φ f=some id→XP f=some X→∃ fn,P.funcs[id]?=some fn∧FunOk P φ id fn X
 keep:∀ f id X,φ (f + 1000000)=some id→XP f=some X→X.nat=some .keep
theorem zqq_ {XP:Nat→Option XF} (Tb:Table P φ XP):∀ n,FOk P φ (runN XP n)
 | 0=>fun f id args h v h' _ e=>by cases e
 | n + 1=>fun f id args h v h' hid e g w ms R r=>by
  simp only [runN] at e
  obtain ⟨X,e1,e⟩:=zaa_.1 e
  obtain ⟨fn,h1,h2⟩:=Tb.code f id X hid e1
  unfold xfun at e
  unfold FunOk at h2
  rcases r with ⟨hnb,r⟩ | ⟨b,n0,k0,es0,l,rfl,hk,r⟩
  ·cases hX:X.nat with
   | none =>
    rw [hX] at e h2
    exact zbpu_ Tb.follows Tb.there (zqq_ Tb n) (zqk_ XP n) n h1 h2 e R r
   | some k =>
    rw [hX] at e h2
    by_cases hkk:k=.keep
    ·subst hkk
     simp only [xfunK] at e
     split at e
     ·exact hnb.elim
     ·cases e
    ·have e':xnat (runN XP n) args h k=some (v,h'):=by
      cases k <;> first | exact e | exact absurd rfl hkk
     have h2':NatOk P φ id k:=by
      cases k <;> first | exact h2 | exact absurd rfl hkk
     exact h2' _ (zqq_ Tb n) (zqk_ XP n) args h v h' e' g w ms R r
  ·have hX:=Tb.keep f id X (hk.trans hid) e1
   rw [hX] at e h2
   exact zbpv_ Tb.follows Tb.there (zqq_ Tb n) (zqk_ XP n) n h1 h2 e R r
end
end Go.Proofs.Sl
namespace Go.Proofs.Sl
open Go.ChangeShapes Go.WideShapes Go.ChangeAt Go.RowKit Go.ChangeMaps
inductive Ty where
 | b
 | i (k:IntKind)
 | s
 | sl (e:Ty)
 | st (fs:List Ty)
 | ar (n:Nat) (e:Ty)
 | rs (fs:List Ty)
 deriving Inhabited
def Ty.cells:Ty→Nat
 | .st fs=>sum fs
 | .ar n e=>n * e.cells
 | .rs fs=>sum fs + 1
 | _=>1
where sum:List Ty→Nat
 | []=>0
 | f :: r=>f.cells + sum r
def Ty.isAgg:Ty→Bool
 | .st _ | .ar .. | .rs _=>true
 | _=>false
inductive RsOk (Q:List V→Prop) (k:Nat):List V→Prop
 | nil {a:List V} (h:Q a):RsOk Q k (a++[vnil])
 | lst {a:List V} {ess:List (List V)} (h:Q a) (hl:ess.length≤maxLen) (he:∀ c ∈ ess,RsOk Q k c):RsOk Q k (a++[.lst k (ess.map .agg)])
mutual
def Ty.ok:Ty→List V→Prop
 | .b,cs=>∃ x,cs=[vb x]
 | .i k,cs=>∃ n,cs=[vk k n]∧(Lit.int k n).wf=true
 | .s,cs=>∃ x:ByteArray,cs=[vs x]∧x.size≤maxLen
 | .sl e,cs=>cs=[vnil]∨∃ es,cs=[.lst e.cells es]∧es.length≤maxLen∧∀ x ∈ es,(if e.isAgg=true then ∃ c,x=.agg c∧e.ok c else e.ok [x])
 | .st fs,cs=>Ty.oks fs cs
 | .ar n e,cs=>∃ css:List (List V),css.length=n∧cs=css.flatten∧∀ c ∈ css,e.ok c
 | .rs fs,cs=>RsOk (Ty.oks fs) (Ty.cells.sum fs + 1) cs
def Ty.oks:List Ty→List V→Prop
 | [],cs=>cs=[]
 | f :: r,cs=>∃ a b,cs=a++b∧f.ok a∧Ty.oks r b
end
def Ty.okV (e:Ty) (x:V):Prop:=if e.isAgg=true then ∃ c,x=.agg c∧e.ok c else e.ok [x]
def Ty.okVs:List Ty→List V→Prop
 | [],[]=>True
 | t :: ts,v :: vs=>t.okV v∧Ty.okVs ts vs
 | _,_=>False
def Ty.fits (P:Program):Ty→TypeId→Bool
 | .b,t=>match P.underlying t with
  | some .bool=>true
  | _=>false
 | .i k,t=>match P.underlying t with
  | some (.int k')=>k == k'
  | _=>false
 | .s,t=>match P.underlying t with
  | some .string=>true
  | _=>false
 | .sl e,t=>match P.underlying t with
  | some (.slice u)=>P.cellsOf u == e.cells && decide (0 < e.cells) && (match P.underlying u with | some (.struct _) | some (.array ..)=>e.isAgg | _=>!e.isAgg) && e.fits P u
  | _=>false
 | .st fs,t=>match P.underlying t with
  | some (.struct a)=>P.cellsOf t == Ty.cells.sum fs && go P 0 fs a.toList
  | _=>false
 | .ar n e,t=>match P.underlying t with
  | some (.array m u)=>m == n && P.cellsOf t == n * e.cells && P.cellsOf u == e.cells && e.fits P u
  | _=>false
 | .rs fs,t=>match P.underlying t with
  | some (.struct a)=>P.cellsOf t == Ty.cells.sum fs + 1 && go P 0 fs a.toList.dropLast && (match a.toList.getLast? with
   | some y=>y.offset == Ty.cells.sum fs && P.cellsOf y.type == 1 && (match P.underlying y.type with
    | some (.slice u)=>u == t
    | _=>false)
   | none=>false)
  | _=>false
where go (P:Program):Nat→List Ty→List Field→Bool
 | _,[],l=>l.isEmpty
 | o,f :: r,x :: l=>x.offset == o && P.cellsOf x.type == f.cells && f.fits P x.type && go P (o + f.cells) r l
 | _,_ :: _,[]=>false
mutual
theorem Ty.ok_len:∀ (T:Ty) (cs:List V),T.ok cs→cs.length=T.cells
 | .b,cs,h=>by
  simp only [Ty.ok] at h
  obtain ⟨x,rfl⟩:=h
  rfl
 | .i k,cs,h=>by
  simp only [Ty.ok] at h
  obtain ⟨n,rfl,_⟩:=h
  rfl
 | .s,cs,h=>by
  simp only [Ty.ok] at h
  obtain ⟨x,rfl,_⟩:=h
  rfl
 | .sl e,cs,h=>by
  rcases (by simpa only [Ty.ok] using h) with rfl | ⟨es,rfl,_⟩ <;> rfl
 | .st fs,cs,h=>by
  simp only [Ty.ok] at h
  exact Ty.oks_len fs cs h
 | .ar n e,cs,h=>by
  simp only [Ty.ok] at h
  obtain ⟨css,rfl,rfl,h⟩:=h
  simp only [Ty.cells]
  have:∀ l:List (List V),(∀ c ∈ l,e.ok c)→l.flatten.length=l.length * e.cells:=by
   intro l
   induction l with
   | nil=>intro _; simp
   | cons c l ih =>
    intro hl
    simp only [List.flatten_cons,List.length_append,List.length_cons,Nat.add_mul,Nat.one_mul]
    rw [ih fun c hc=>hl c (List.mem_cons_of_mem _ hc),Ty.ok_len e c (hl c (by simp)),Nat.add_comm]
  exact this css h
 | .rs fs,cs,h=>by
  simp only [Ty.ok] at h
  simp only [Ty.cells]
  cases h with
  | nil h=>rw [List.length_append,Ty.oks_len fs _ h]; rfl
  | lst h _ _=>rw [List.length_append,Ty.oks_len fs _ h]; rfl
theorem Ty.oks_len:∀ (fs:List Ty) (cs:List V),Ty.oks fs cs→cs.length=Ty.cells.sum fs
 | [],cs,h=>by simp only [Ty.oks] at h; subst h; rfl
 | f :: r,cs,h=>by
  simp only [Ty.oks] at h
  obtain ⟨a,b,rfl,h1,h2⟩:=h
  rw [List.length_append,Ty.ok_len f a h1,Ty.oks_len r b h2]
  rfl
end
section
variable {P:Program} {φ:Nat→Option FuncId} {XP:Nat→Option XF}
def g0 (W:World):G:=⟨fun _=>0,fun _=>0,fun b o=>W.cell? ⟨b,o,none⟩⟩
theorem SR0 (W:World):SR φ [] (g0 W) W where
 box:=fun l z cs e=>by simp at e
 arr:=fun l z k es e=>by simp at e
 own:=fun l o x n e _=>by simp [cellAt] at e
 inj:=fun a b ha _ _=>by
  cases a with
  | obj l=>rcases ha with ⟨z,cs,e⟩ | ⟨z,k,es,e⟩ | ⟨es,e⟩ <;> simp at e
  | cell l o=>obtain ⟨x,n,e,_⟩:=ha; simp [cellAt] at e
 mem:=fun b o u e=>e
 mp:=fun l es e=>by simp at e
theorem zbpw_ (key:Key):¬ live [] key:=by
 intro h
 cases key with
 | obj l=>rcases h with ⟨z,cs,e⟩ | ⟨z,k,es,e⟩ | ⟨es,e⟩ <;> simp at e
 | cell l o=>obtain ⟨x,n,e,_⟩:=h; simp [cellAt] at e
theorem zbpx_ {g:G} {h:H} {args:List V} {ms:List Value} (r:rels φ g h true args ms):noB args:=by
 cases args with
 | nil=>trivial
 | cons v l =>
  obtain ⟨m,s,rfl,r1,_⟩:=zam_.1 r
  cases v <;> first
   | trivial
   | (simp only [rel,Bool.true_eq_false,false_and] at r1)
theorem zbpy_ (Tb:Table P φ XP) {f:Nat} {id:FuncId} (hf:φ f=some id) {args:List V} {ms:List Value} {W:World} (r:rels φ (g0 W) [] true args ms) {b:Bool}
  (e:run XP f args []=some (vb b,[])):Calls P id ms.toArray W fun e W'=>e=.returned (.bool b)∧Below W.heap.size W W':=by
 obtain ⟨n,hn⟩:=zbmk_ _ e
 refine (zqq_ Tb n f id args [] _ _ hf hn (g0 W) W ms (SR0 W) (.inl ⟨zbpx_ r,zal_ (fun _ _ _ e=>e) false _ _ r⟩)).mono ?_
 rintro e' W' ⟨mv,g',rfl,R,X,rr⟩
 have hm:mv=.bool b:=by
  simp only [RetOk,rel] at rr
  exact rr.1
 subst hm
 exact ⟨rfl,X.os,X.tape,X.output,X.size,fun k hk=>X.frame k hk fun key hl=>absurd hl (zbpw_ key)⟩
variable {H:Type} {enc:TypeId × Value→H} {W:World} {base:Nat} {sp:Nat→Bool} {held:Bool}
theorem zbep_ {b o n:Nat} {s:Option Nat} {cs:List Value} (h:W.cells? base ⟨b,o,s⟩ n=some cs):cs.length=n∧(0 < n→s=none)∧∀ j u,cs[j]?=some u→W.cell? ⟨b,o + j,none⟩=some u:=by
 unfold World.cells? at h
 split at h
 ·have hl:=mapM_some_length h
  simp only [List.length_range] at hl
  have hg:∀ j,j < n→W.cell? ((⟨b,o,s⟩:Addr).add j)=cs[j]?:=fun j hj=>mapM_some_get h j j (by simp [hj])
  refine ⟨hl,fun hn=>?_,fun j u e=>?_⟩
  ·have:=hg 0 hn
   have hc:cs[0]?=some (cs[0]'(by omega)):=List.getElem?_eq_getElem (by omega)
   rw [hc] at this
   simp only [Addr.add,if_true] at this
   unfold World.cell? at this
   split at this
   ·split at this
    ·cases this
    ·rename_i hsp; simpa using hsp
   ·cases this
  ·have hj:j < n:=by rw [← hl]; exact (List.getElem?_eq_some_iff.1 e).1
   have h1:=hg j hj
   rw [e] at h1
   by_cases h0:j=0
   ·subst h0
    simp only [Addr.add,if_true] at h1
    unfold World.cell? at h1 ⊢
    split at h1
    ·rename_i cc _ _ _ hb
     split at h1
     ·cases h1
     ·simp only [Nat.add_zero]; simpa [hb] using h1
    ·cases h1
   ·simp only [Addr.add,h0,if_false] at h1
    exact h1
 ·cases h
theorem zbeq_ {a:Addr} {q n:Nat} {cs:List Value} (h:W.cells? base (a.add q) n=some cs):cs.length=n∧(0 < n→q=0→a.spot=none)∧∀ j u,cs[j]?=some u→W.cell? ⟨a.block,a.off + q + j,none⟩=some u:=by
 obtain ⟨b,o,s⟩:=a
 by_cases hq:q=0
 ·subst hq
  simp only [Addr.add,if_true] at h
  obtain ⟨h1,h2,h3⟩:=zbep_ h
  exact ⟨h1,fun hn _=>h2 hn,h3⟩
 ·simp only [Addr.add,hq,if_false] at h
  obtain ⟨h1,_,h3⟩:=zbep_ h
  exact ⟨h1,fun _ h=>absurd h hq,h3⟩
theorem zbpz_ {fuel:Nat} {t:TypeId} {cs:List Value} {x:DataW H × List MemPlace} {n:Nat} {e:TypeId} (ht:P.underlying t=some (.array n e)) (h:DataW.trod enc P W base sp held fuel t cs=some x) :
  ∃ m,cs.length=P.cellsOf t∧∀ i,i < n→∃ y,DataW.trod enc P W base sp held m e ((cs.drop (i * P.cellsOf e)).take (P.cellsOf e))=some y:=by
 cases fuel with
 | zero=>simp [DataW.trod] at h
 | succ m =>
  unfold DataW.trod at h
  rw [ht] at h
  split at h <;> simp_all
  obtain ⟨hl,xs,hp,-⟩:=h
  refine ⟨m,fun i hi=>?_⟩
  have:=mapM_some_get hp i i (by simp [hi])
  have hlen:=mapM_some_length hp
  simp only [List.length_range] at hlen
  rw [List.getElem?_eq_getElem (by omega)] at this
  exact ⟨_,_,this⟩
theorem build {α β:Type} (Q:Nat→α→β→Prop):∀ n,(∀ i,i < n→∃ a b,Q i a b)→∃ (la:List α) (lb:List β),la.length=n∧lb.length=n∧∀ i a b,la[i]?=some a→lb[i]?=some b→Q i a b
 | 0,_=>⟨[],[],rfl,rfl,fun i a b e=>by simp at e⟩
 | n + 1,h=>by
  obtain ⟨la,lb,h1,h2,h3⟩:=build Q n fun i hi=>h i (by omega)
  obtain ⟨a,b,hq⟩:=h n (by omega)
  refine ⟨la++[a],lb++[b],by simp [h1],by simp [h2],fun i x y ex ey=>?_⟩
  by_cases hi:i < n
  ·rw [List.getElem?_append_left (by omega)] at ex ey
   exact h3 i x y ex ey
  ·have hl:i < n + 1:=by
    have:=(List.getElem?_eq_some_iff.1 ex).1
    simp [h1] at this
    omega
   obtain rfl:i=n:=by omega
   rw [List.getElem?_append_right (by omega)] at ex ey
   simp [h1] at ex
   simp [h2] at ey
   subst ex ey
   exact hq
theorem zbqa_ {t u:TypeId} (hu:P.underlying t=some (.slice u)) {fuel:Nat} {cs:List Value} {x:DataW H × List MemPlace} (h:DataW.trod enc P W base sp held fuel t cs=some x) {k:Nat} (k1:P.cellsOf u=k) (k2:0 < k) {Q:List V→Prop}
  (hel:∀ m,m < fuel→∀ ci y,DataW.trod enc P W base sp held m u ci=some y→∃ vs,Q vs∧rels φ (g0 W) [] true vs ci) :
  ∃ v m,cs=[m]∧rel φ (g0 W) [] true v m∧(v=vnil∨∃ ess:List (List V),v=.lst k (ess.map .agg)∧ess.length≤maxLen∧∀ c ∈ ess,Q c):=by
 rcases DataW.trod_slice hu h with ⟨rfl,_⟩ | ⟨a,len,cap,elems,rest,n,rfl,rfl,_,_,hlc,hcap,hel',hrd,_⟩
 ·exact ⟨vnil,_,rfl,by simp [rel,notAgg],.inl rfl⟩
 ·obtain ⟨b,o,sp'⟩:=a
  by_cases h0:len=0
  ·subst h0
   refine ⟨.lst k [],_,rfl,?_,.inr ⟨[],rfl,by simp,by simp⟩⟩
   simp only [rel]
   exact .inr ⟨trivial,_,_,rfl⟩
  ·have hcell:∀ i,i < len→∃ (c:List V) (m:Value),Q c∧rel φ (g0 W) [] true (.agg c) m∧m.cells.size=k ∧
     (∀ j u,m.cells[j]?=some u→W.cell? ⟨b,o + i * k + j,none⟩=some u)∧(i=0→sp'=none):=by
    intro i hi
    have hr:=hrd i hi
    have hne:elems[i]?=some (elems[i]'(by omega)):=List.getElem?_eq_getElem (by omega)
    rw [hne,Option.bind_eq_some_iff] at hr
    obtain ⟨ci,hci,htr⟩:=hr
    rw [k1] at hci
    obtain ⟨vs,ho,rr⟩:=hel _ (by omega) _ _ htr
    obtain ⟨hlen,hsp,hat⟩:=zbeq_ hci
    refine ⟨vs,.agg ci.toArray,ho,?_,by simpa [Value.cells] using hlen,fun j u' eu=>hat j u' (by simpa [Value.cells] using eu),fun h0=>hsp (by omega) (by simp [h0])⟩
    simp only [rel]
    exact ⟨_,rfl,by simpa using rr⟩
   obtain ⟨ess,ms,he1,he2,hq⟩:=build _ len hcell
   have hsp:sp'=none:=by
    obtain ⟨y,m,_,_,_,_,h6⟩:=hcell 0 (by omega)
    exact h6 rfl
   subst hsp
   refine ⟨.lst k (ess.map .agg),_,rfl,?_,.inr ⟨ess,rfl,by omega,fun y hy=>?_⟩⟩
   ·simp only [rel]
    refine .inl ⟨b,o,cap,ms,by rw [List.length_map,he1],by rw [List.length_map]; omega,zdw_ (by rw [List.length_map]; omega) fun i v m e1 e2=>?_,?_,?_⟩
    ·rw [List.getElem?_map,Option.map_eq_some_iff] at e1
     obtain ⟨c,e1,rfl⟩:=e1
     exact (hq i c m e1 e2).2.1
    ·intro m hm
     obtain ⟨i,hi⟩:=List.getElem?_of_mem hm
     have hi':i < ess.length:=by rw [he1,← he2]; exact (List.getElem?_eq_some_iff.1 hi).1
     exact (hq i _ m (List.getElem?_eq_getElem hi') hi).2.2.1
    ·intro i m hi j u' eu
     have hi':i < ess.length:=by rw [he1,← he2]; exact (List.getElem?_eq_some_iff.1 hi).1
     exact (hq i _ m (List.getElem?_eq_getElem hi') hi).2.2.2.1 j u' eu
   ·obtain ⟨i,hi⟩:=List.getElem?_of_mem hy
    have hi':i < ms.length:=by rw [he2,← he1]; exact (List.getElem?_eq_some_iff.1 hi).1
    exact (hq i y _ hi (List.getElem?_eq_getElem hi')).1
mutual
theorem Ty.opens:∀ (T:Ty) (t:TypeId),T.fits P t=true→∀ (fuel:Nat) (cs:List Value) (x:DataW H × List MemPlace),DataW.trod enc P W base sp held fuel t cs=some x →
  ∃ vs,T.ok vs∧rels φ (g0 W) [] true vs cs∧(T.isAgg=false→∃ v m,vs=[v]∧cs=[m]∧m.cells=#[m])
 | .b,t,k,fuel,cs,x,h=>by
  simp only [Ty.fits] at k
  split at k
  ·rename_i hu
   obtain ⟨b,rfl,_⟩:=DataW.trod_bool hu h
   exact ⟨[vb b],by simp [Ty.ok],by simp [rels,rel,notAgg],fun _=>⟨_,_,rfl,rfl,rfl⟩⟩
  ·cases k
 | .i kk,t,k,fuel,cs,x,h=>by
  simp only [Ty.fits] at k
  split at k
  ·rename_i k' hu
   obtain rfl:kk=k':=by simpa using k
   obtain ⟨n,rfl,_,hw⟩:=DataW.trod_int hu h
   exact ⟨[vk kk n],by simp only [Ty.ok]; exact ⟨n,rfl,hw⟩,by simp [rels,rel,notAgg],fun _=>⟨_,_,rfl,rfl,rfl⟩⟩
  ·cases k
 | .s,t,k,fuel,cs,x,h=>by
  simp only [Ty.fits] at k
  split at k
  ·rename_i hu
   obtain ⟨s,rfl,_,hs⟩:=DataW.trod_string hu h
   exact ⟨[vs s],by simp only [Ty.ok]; exact ⟨s,rfl,hs⟩,by simp [rels,rel,notAgg],fun _=>⟨_,_,rfl,rfl,rfl⟩⟩
  ·cases k
 | .sl e,t,k,fuel,cs,x,h=>by
  simp only [Ty.fits] at k
  split at k
  ·rename_i u hu
   simp only [Bool.and_eq_true,beq_iff_eq,decide_eq_true_eq] at k
   obtain ⟨⟨⟨k1,k2⟩,k3⟩,k4⟩:=k
   rcases DataW.trod_slice hu h with ⟨rfl,_⟩ | ⟨a,len,cap,elems,rest,n,rfl,rfl,_,_,hlc,hcap,hel,hrd,_⟩
   ·exact ⟨[vnil],by simp [Ty.ok],by simp [rels,rel,notAgg],fun _=>⟨_,_,rfl,rfl,rfl⟩⟩
   ·obtain ⟨b,o,sp'⟩:=a
    by_cases h0:len=0
    ·subst h0
     refine ⟨[.lst e.cells []],by simp [Ty.ok],?_,fun _=>⟨_,_,rfl,rfl,rfl⟩⟩
     rw [zaj_,zad_]
     simp only [rel]
     exact ⟨.inr ⟨trivial,_,_,rfl⟩,trivial⟩
    ·have hcell:∀ i,i < len→∃ (y:V) (m:Value),(if e.isAgg=true then ∃ c,y=.agg c∧e.ok c else e.ok [y])∧rel φ (g0 W) [] true y m∧m.cells.size=e.cells ∧
       (∀ j u,m.cells[j]?=some u→W.cell? ⟨b,o + i * e.cells + j,none⟩=some u)∧(i=0→sp'=none):=by
      intro i hi
      have hr:=hrd i hi
      have hne:elems[i]?=some (elems[i]'(by omega)):=List.getElem?_eq_getElem (by omega)
      rw [hne,Option.bind_eq_some_iff] at hr
      obtain ⟨ci,hci,htr⟩:=hr
      rw [k1] at hci
      obtain ⟨vs,ho,rr,hone⟩:=Ty.opens e u k4 _ _ _ htr
      obtain ⟨hlen,hsp,hat⟩:=zbeq_ hci
      cases hag:e.isAgg with
      | true =>
       refine ⟨.agg vs,.agg ci.toArray,by simpa using ho,?_,by simpa [Value.cells] using hlen,fun j u' eu=>hat j u' (by simpa [Value.cells] using eu),fun h0=>hsp (by omega) (by simp [h0])⟩
       simp only [rel]
       exact ⟨_,rfl,by simpa using rr⟩
      | false =>
       obtain ⟨v,m,rfl,rfl,hm⟩:=hone hag
       refine ⟨v,m,by simpa using ho,(zaj_.1 rr).1,by rw [hm]; simpa using hlen,fun j u' eu=>hat j u' (by rw [hm] at eu; simpa using eu),fun h0=>hsp (by omega) (by simp [h0])⟩
     obtain ⟨es,ms,he1,he2,hq⟩:=build _ len hcell
     have hsp:sp'=none:=by
      obtain ⟨y,m,_,_,_,_,h6⟩:=hcell 0 (by omega)
      exact h6 rfl
     subst hsp
     refine ⟨[.lst e.cells es],?_,?_,fun _=>⟨_,_,rfl,rfl,rfl⟩⟩
     ·simp only [Ty.ok]
      refine .inr ⟨es,rfl,by omega,fun y hy=>?_⟩
      obtain ⟨i,hi⟩:=List.getElem?_of_mem hy
      have hi':i < ms.length:=by rw [he2,← he1]; exact (List.getElem?_eq_some_iff.1 hi).1
      exact (hq i y _ hi (List.getElem?_eq_getElem hi')).1
     ·rw [zaj_,zad_]
      refine ⟨?_,rfl⟩
      simp only [rel]
      refine .inl ⟨b,o,cap,ms,by rw [he1],by omega,zdw_ (by omega) fun i v m e1 e2=>(hq i v m e1 e2).2.1,?_,?_⟩
      ·intro m hm
       obtain ⟨i,hi⟩:=List.getElem?_of_mem hm
       have hi':i < es.length:=by rw [he1,← he2]; exact (List.getElem?_eq_some_iff.1 hi).1
       exact (hq i _ m (List.getElem?_eq_getElem hi') hi).2.2.1
      ·intro i m hi j u' eu
       have hi':i < es.length:=by rw [he1,← he2]; exact (List.getElem?_eq_some_iff.1 hi).1
       exact (hq i _ m (List.getElem?_eq_getElem hi') hi).2.2.2.1 j u' eu
  ·cases k
 | .st fs,t,k,fuel,cs,x,h=>by
  simp only [Ty.fits] at k
  split at k
  ·rename_i a hu
   simp only [Bool.and_eq_true,beq_iff_eq] at k
   obtain ⟨xs,n,rfl,_,hl,hxs,hf⟩:=DataW.trod_struct hu h
   obtain ⟨vs,ho,hr⟩:=Ty.opens_go fs 0 a.toList k.2 n cs (by omega) fun i f hi=>by
    have hi':a[i]?=some f:=by rw [← Array.getElem?_toList]; exact hi
    have:=hf i f hi'
    have hlt:i < xs.length:=by rw [hxs]; exact (Array.getElem?_eq_some_iff.1 hi').1
    rw [List.getElem?_eq_getElem hlt] at this
    exact ⟨_,this⟩
   rw [List.drop_zero,List.take_of_length_le (by omega)] at hr
   exact ⟨vs,by simp only [Ty.ok]; exact ho,hr,fun h=>by cases h⟩
  ·cases k
 | .ar m e,t,k,fuel,cs,x,h=>by
  simp only [Ty.fits] at k
  split at k
  ·rename_i m' u hu
   simp only [Bool.and_eq_true,beq_iff_eq] at k
   obtain ⟨⟨⟨rfl,k1⟩,k2⟩,k3⟩:=k
   obtain ⟨n,hl,hf⟩:=zbpz_ hu h
   have key:∀ q,q≤m'→∃ css:List (List V),css.length=q∧(∀ c ∈ css,e.ok c)∧rels φ (g0 W) [] true css.flatten (cs.take (q * e.cells)):=by
    intro q
    induction q with
    | zero=>intro _; exact ⟨[],rfl,by simp,by simp [rels]⟩
    | succ q ih =>
     intro hq
     obtain ⟨css,h1,h2,h3⟩:=ih (by omega)
     obtain ⟨_,this⟩:=hf q (by omega)
     rw [k2] at this
     obtain ⟨vs,ho,rr,_⟩:=Ty.opens e u k3 _ _ _ this
     refine ⟨css++[vs],by simp [h1],?_,?_⟩
     ·intro c hc
      rcases List.mem_append.1 hc with hc | hc
      ·exact h2 c hc
      ·simp at hc; subst hc; exact ho
     ·have e1:cs.take ((q + 1) * e.cells)=cs.take (q * e.cells)++(cs.drop (q * e.cells)).take e.cells:=by
       rw [Nat.add_mul,Nat.one_mul,List.take_add]
      rw [e1,List.flatten_append]
      exact zbz_ h3 (by simpa using rr)
   obtain ⟨css,h1,h2,h3⟩:=key m' (Nat.le_refl _)
   refine ⟨css.flatten,by simp only [Ty.ok]; exact ⟨css,h1,rfl,h2⟩,?_,fun h=>by cases h⟩
   rw [List.take_of_length_le (by omega)] at h3
   exact h3
  ·cases k
 | .rs fs,t,k,fuel,cs,x,h=>by
  simp only [Ty.fits] at k
  split at k
  ·rename_i a hu
   simp only [Bool.and_eq_true,beq_iff_eq] at k
   obtain ⟨⟨k1,k2⟩,k3⟩:=k
   split at k3
   ·rename_i y hy
    simp only [Bool.and_eq_true,beq_iff_eq] at k3
    obtain ⟨⟨k4,k5⟩,k6⟩:=k3
    split at k6
    ·rename_i u hu2
     obtain rfl:u=t:=by simpa using k6
     have hlst:a.toList=a.toList.dropLast++[y]:=by
      have hne:a.toList≠[]:=by
       intro e
       rw [e] at hy
       cases hy
      rw [List.getLast?_eq_some_getLast hne,Option.some.injEq] at hy
      rw [← hy,List.dropLast_concat_getLast]
     have key:∀ (fuel:Nat) (cs:List Value) (x:DataW H × List MemPlace),DataW.trod enc P W base sp held fuel u cs=some x→∃ vs,RsOk (Ty.oks fs) (Ty.cells.sum fs + 1) vs∧rels φ (g0 W) [] true vs cs:=by
      intro fuel
      induction fuel using Nat.strongRecOn with
      | ind fuel ih =>
       intro cs x h
       obtain ⟨xs,n,rfl,_,hl,hxs,hf⟩:=DataW.trod_struct hu h
       have hf':∀ (i:Nat) (f:Field),a.toList[i]?=some f→∃ x,DataW.trod enc P W base sp held n f.type ((cs.drop f.offset).take (P.cellsOf f.type))=some x:=fun i f hi=>by
        have hi':a[i]?=some f:=by rw [← Array.getElem?_toList]; exact hi
        have:=hf i f hi'
        have hlt:i < xs.length:=by rw [hxs]; exact (Array.getElem?_eq_some_iff.1 hi').1
        rw [List.getElem?_eq_getElem hlt] at this
        exact ⟨_,this⟩
       obtain ⟨vs,ho,hr⟩:=Ty.opens_go fs 0 a.toList.dropLast k2 n cs (by omega) fun i f hi=>hf' i f (by
        rw [hlst,List.getElem?_append_left (List.getElem?_eq_some_iff.1 hi).1]
        exact hi)
       rw [List.drop_zero] at hr
       obtain ⟨xy,hxy⟩:=hf' a.toList.dropLast.length y (by rw [hlst]; simp)
       rw [k4,k5] at hxy
       obtain ⟨v,m,e1,rv,hv⟩:=zbqa_ (φ:=φ) hu2 hxy k1 (by omega) fun m hm ci y hy=>ih m (by omega) ci y hy
       have e2:cs=cs.take (Ty.cells.sum fs)++[m]:=by
        rw [List.take_of_length_le (by rw [List.length_drop]; omega)] at e1
        rw [← e1,List.take_append_drop]
       refine ⟨vs++[v],?_,?_⟩
       ·rcases hv with rfl | ⟨ess,rfl,h1,h2⟩
        ·exact .nil ho
        ·exact .lst ho h1 h2
       ·rw [e2]
        exact zbz_ hr (zaj_.2 ⟨rv,zad_.2 rfl⟩)
     obtain ⟨vs,h1,h2⟩:=key fuel cs x h
     exact ⟨vs,by simp only [Ty.ok]; exact h1,h2,fun h=>by cases h⟩
    ·cases k6
   ·cases k3
  ·cases k
theorem Ty.opens_go:∀ (fs:List Ty) (o:Nat) (l:List Field),Ty.fits.go P o fs l=true→∀ (n:Nat) (cs:List Value),o + Ty.cells.sum fs≤cs.length →
  (∀ (i:Nat) (f:Field),l[i]?=some f→∃ x,DataW.trod enc P W base sp held n f.type ((cs.drop f.offset).take (P.cellsOf f.type))=some x) →
  ∃ vs,Ty.oks fs vs∧rels φ (g0 W) [] true vs ((cs.drop o).take (Ty.cells.sum fs))
 | [],o,l,k,n,cs,hl,_=>by
  refine ⟨[],by simp [Ty.oks],?_⟩
  simp [rels,Ty.cells.sum]
 | f :: r,o,[],k,n,cs,hl,_=>by simp [Ty.fits.go] at k
 | f :: r,o,y :: l,k,n,cs,hl,hf=>by
  simp only [Ty.fits.go,Bool.and_eq_true,beq_iff_eq] at k
  obtain ⟨⟨⟨k1,k2⟩,k3⟩,k4⟩:=k
  simp only [Ty.cells.sum] at hl
  obtain ⟨x,hx⟩:=hf 0 y rfl
  rw [k1,k2] at hx
  obtain ⟨vs,ho,rr,_⟩:=Ty.opens f y.type k3 _ _ _ hx
  obtain ⟨vs',ho',rr'⟩:=Ty.opens_go r (o + f.cells) l k4 n cs (by omega) fun i f' hi=>hf (i + 1) f' (by simpa using hi)
  refine ⟨vs++vs',by simp only [Ty.oks]; exact ⟨vs,vs',rfl,ho,ho'⟩,?_⟩
  have e1:(cs.drop o).take (Ty.cells.sum (f :: r))=(cs.drop o).take f.cells++(cs.drop (o + f.cells)).take (Ty.cells.sum r):=by
   simp only [Ty.cells.sum]
   rw [List.take_add,List.drop_drop]
  rw [e1]
  exact zbz_ rr rr'
end
theorem zbqb_ {t:TypeId} {v:Value} {b0:Nat} (hval:Value.okWide P W .any b0 t v):match P.underlying t with
  | some (.struct _) | some (.array ..)=>∃ a,v=.agg a
  | _=>v.cells=#[v]:=by
 unfold Value.okWide at hval
 split at hval
 ·rename_i hu; rw [hu]; obtain ⟨cs,rfl,_⟩:=hval; exact ⟨_,rfl⟩
 ·rename_i hu; rw [hu]; obtain ⟨cs,rfl,_⟩:=hval; exact ⟨_,rfl⟩
 ·have hc:v.cells=#[v]:=by
   cases v with
   | agg a =>
    exfalso
    unfold Cell.okWide at hval
    split at hval <;> simp_all [Cell.ok]
   | _=>rfl
  split
  ·rename_i hu; simp_all
  ·rename_i hu; simp_all
  ·exact hc
theorem Ty.opensV {T:Ty} {t:TypeId} (k:T.fits P t=true) {v:Value} {d:DataW H} {ps:List MemPlace} {b0:Nat} (hval:Value.okWide P W .any b0 t v) (h:DataW.Trod enc P W base sp held t v d ps) :
  ∃ x,T.okV x∧rel φ (g0 W) [] true x v:=by
 obtain ⟨fuel,h⟩:=h
 obtain ⟨vs,ho,rr,hone⟩:=Ty.opens (φ:=φ) T t k _ _ _ h
 have hw:=zbqb_ hval
 cases hag:T.isAgg with
 | true =>
  have ha:∃ a,v=.agg a:=by
   cases T with
   | st fs =>
    simp only [Ty.fits] at k
    split at k
    ·rename_i hu; rw [hu] at hw; exact hw
    ·cases k
   | ar n e =>
    simp only [Ty.fits] at k
    split at k
    ·rename_i hu; rw [hu] at hw; exact hw
    ·cases k
   | rs fs =>
    simp only [Ty.fits] at k
    split at k
    ·rename_i hu; rw [hu] at hw; exact hw
    ·cases k
   | _=>cases hag
  obtain ⟨a,rfl⟩:=ha
  refine ⟨.agg vs,by unfold Ty.okV; rw [if_pos hag]; exact ⟨vs,rfl,ho⟩,?_⟩
  simp only [rel]
  exact ⟨a,rfl,rr⟩
 | false =>
  obtain ⟨x,m,rfl,hm,hmc⟩:=hone hag
  have hv:v.cells=#[v]:=by
   have:∀ (d:TypeDesc),P.underlying t=some d→(match some d with
     | some (.struct _) | some (.array ..)=>∃ a,v=.agg a
     | _=>v.cells=#[v]):=by intro d e; rw [e] at hw; exact hw
   cases T with
   | b =>
    simp only [Ty.fits] at k
    split at k
    ·rename_i hu; exact this _ hu
    ·cases k
   | i kk =>
    simp only [Ty.fits] at k
    split at k
    ·rename_i hu; exact this _ hu
    ·cases k
   | s =>
    simp only [Ty.fits] at k
    split at k
    ·rename_i hu; exact this _ hu
    ·cases k
   | sl e =>
    simp only [Ty.fits] at k
    split at k
    ·rename_i hu; exact this _ hu
    ·cases k
   | _=>cases hag
  rw [hv] at hm
  obtain rfl:v=m:=by simpa using hm
  refine ⟨x,by unfold Ty.okV; rw [if_neg (by simp [hag])]; exact ho,(zaj_.1 (by simpa [hv] using rr)).1⟩
def zdf_ (P:Program):List Ty→List TypeId→Bool
 | [],[]=>true
 | T :: r,t :: l=>T.fits P t && zdf_ P r l
 | _,_=>false
def zqr_ (P:Program) (t:TypeId):Bool:=P.readableRec t && decide (t < P.types.size)
theorem Ty.opensVs:∀ {Ts:List Ty} {ts:List TypeId},zdf_ P Ts ts=true→∀ {vs:List Value} {ds:List (DataW H)} {ps:List MemPlace} {b0:Nat},(∀ (j:Nat) t v,ts[j]?=some t→vs[j]?=some v→Value.okWide P W .any b0 t v) →
  DataW.TrodAll enc P W base sp held ts vs ds ps→∃ xs,Ty.okVs Ts xs∧rels φ (g0 W) [] true xs vs
 | [],[],_,vs,ds,ps,b0,_,h=>by
  obtain ⟨rfl,_⟩:=trodAll_nil h
  exact ⟨[],trivial,zad_.2 rfl⟩
 | T :: Ts,t :: ts,k,vs,ds,ps,b0,hval,h=>by
  simp only [zdf_,Bool.and_eq_true] at k
  match vs,ds,h with
  | v :: vs,d :: ds,h =>
   obtain ⟨p,q,h1,h2,rfl⟩:=h
   obtain ⟨x,hx,rx⟩:=Ty.opensV (φ:=φ) k.1 (hval 0 t v rfl rfl) h1
   obtain ⟨xs,hxs,rxs⟩:=Ty.opensVs k.2 (fun j t v e1 e2=>hval (j + 1) t v (by simpa using e1) (by simpa using e2)) h2
   exact ⟨x :: xs,⟨hx,hxs⟩,zaj_.2 ⟨rx,rxs⟩⟩
 | [],_ :: _,k,_,_,_,_,_,_=>by simp [zdf_] at k
 | _ :: _,[],k,_,_,_,_,_,_=>by simp [zdf_] at k
theorem zber_:∀ {ts:List TypeId} {vs:List Value} {ds:List (DataW H)} {ps:List MemPlace},DataW.TrodAll enc P W base sp held ts vs ds ps→ds.length=ts.length
 | [],vs,ds,ps,h=>by
  obtain ⟨_,rfl,_⟩:=trodAll_nil h
  rfl
 | t :: ts,vs,ds,ps,h=>by
  match vs,ds,h with
  | v :: vs,d :: ds,h =>
   obtain ⟨p,q,_,h2,_⟩:=h
   simp [zber_ h2]
theorem zbes_ (hl:laidOutB P=true) {W':World} (hb:Below W.heap.size W W'):∀ {ts:List TypeId} {vs:List Value} {ds:List (DataW H)} {ps:List MemPlace},ts.all (zqr_ P)=true→(∀ p ∈ ps,p.block < W.heap.size) →
  DataW.TrodAll enc P W 0 (fun _=>true) true ts vs ds ps→DataW.TrodAll enc P W' 0 (fun b=>decide (b < W.heap.size)) true ts vs ds ps
 | [],vs,ds,ps,_,_,h=>by
  obtain ⟨rfl,rfl,rfl⟩:=trodAll_nil h
  exact trodAll_mk0
 | t :: ts,vs,ds,ps,k,hp,h=>by
  simp only [List.all_cons,zqr_,Bool.and_eq_true,decide_eq_true_eq] at k
  match vs,ds,h with
  | v :: vs,d :: ds,h =>
   obtain ⟨p,q,h1,h2,rfl⟩:=h
   exact ⟨p,q,Below.trod hl k.1.1 k.1.2 h1 hb fun x hx=>hp x (List.mem_append_left _ hx),zbes_ hl hb (by simpa [zqr_] using k.2) (fun x hx=>hp x (List.mem_append_right _ hx)) h2,rfl⟩
end
theorem Ty.okVs_cons {t:Ty} {ts:List Ty} {vs:List V} (h:Ty.okVs (t :: ts) vs):∃ x xs,vs=x :: xs∧t.okV x∧Ty.okVs ts xs:=by
 cases vs with
 | nil=>exact h.elim
 | cons x xs=>exact ⟨x,xs,rfl,h.1,h.2⟩
theorem Ty.okVs_nil {vs:List V} (h:Ty.okVs [] vs):vs=[]:=by
 cases vs with
 | nil=>rfl
 | cons x xs=>exact h.elim
theorem Ty.okV_s {x:V} (h:Ty.s.okV x):∃ t:ByteArray,x=vs t∧t.size≤maxLen:=by
 unfold Ty.okV at h
 simp only [Ty.isAgg,Bool.false_eq_true,if_false,Ty.ok] at h
 obtain ⟨n,h,hw⟩:=h
 injection h with h _
 exact ⟨n,h,hw⟩
theorem law_of {C:Checked} {φ:Nat→Option FuncId} {XP:Nat→Option XF} (Tb:Table C.prog φ XP) {H:Type} {enc:TypeId × Value→H} {a:Assume} {os:Os} {f:Nat} {id:FuncId} {fn:Func} {s:ChangeSpec} {conds:List PathCond} {apart fresh handsOn:Bool}
  (own:ownKnob C.prog.godebug=none) (started:os.Started) (noInit:C.prog.inits.idxOf? id=none) (hfn:C.prog.funcs[id]?=some fn)
  (witness:∃ (w:World) (tape:Tape) (i:Input),w.os=os∧(w.forCall tape i).Shaped C.prog∧i.vars=[]∧Input.okWide C.prog (w.forCall tape i) .any w.heap.size id i ∧
   s.pre6 enc C.prog fn conds apart (w.forCall tape i).memory i.args∧a.holds C.prog (lone (Frame.enter C.prog id i.args .normal) [] (w.forCall tape i)))
  (hf:φ f=some id) (hl:laidOutB C.prog=true) (hcar:fn.params.toList.all (zqr_ C.prog)=true) {Ts:List Ty} (hfit:zdf_ C.prog Ts fn.params.toList=true)
  {tb:TypeId} (hres:fn.resultTypes=#[tb]) (htb:C.prog.underlying tb=some .bool) (hv:s.vars=[])
  (hs:∀ ds:List (DataW H),ds.length=Ts.length→s.fn H ds={ results:=[.lit (.bool true)],args:=ds })
  (law:∀ vs,Ty.okVs Ts vs→run XP f vs []=some (vb true,[])) :
  ReturnsInHanded a C os id .any (s.pre6 enc C.prog fn conds apart) (s.post enc C.prog fn apart fresh handsOn false):=by
 refine returnsInHanded_of_change own started noInit hfn witness ?_
 intro W base args ds gs before hval hW _ _
 have hW':=hW
 obtain ⟨p,q,hA,hV,rfl,hfz,hnd⟩:=hW
 rw [hv] at hV
 obtain ⟨rfl,rfl⟩:=trodVars_none hV
 obtain ⟨xs,hxs,rxs⟩:=Ty.opensVs (φ:=φ) hfit (fun j t v e1 e2=>hval j t v (by simpa using e1) (by simpa using e2)) hA
 have hn:ds.length=Ts.length:=by
  rw [zber_ hA]
  have:∀ (Ts:List Ty) (ts:List TypeId),zdf_ C.prog Ts ts=true→ts.length=Ts.length:=by
   intro Ts
   induction Ts with
   | nil=>intro ts k; cases ts with
    | nil=>rfl
    | cons _ _=>simp [zdf_] at k
   | cons T Ts ih=>intro ts k; cases ts with
    | nil=>simp [zdf_] at k
    | cons t ts=>simp only [zdf_,Bool.and_eq_true] at k; simp [ih ts k.2]
  exact this _ _ hfit
 have hc:=zbpy_ Tb hf rxs (law xs hxs)
 simp only [Array.toArray_toList] at hc
 refine hc.mono fun e W' ⟨he,hb⟩=>?_
 subst he
 have hsz:fn.resultTypes.size=1:=by rw [hres]; rfl
 have hsd:=hs ds hn
 refine ⟨_,rfl,ds,[],_,[],p,[],hW',?_,?_,?_,hb.frame _,fun h=>by cases h⟩
 ·rw [List.append_nil,hsd,hres]
  exact trodAll_mk1 (shut_bool htb true)
 ·rw [List.append_nil,hsd]
  exact zbes_ hl hb hcar (fun x hx=>hW'.lt x (List.mem_append_left _ hx)) hA
 ·rw [List.append_nil,hsd,hv]
  exact rfl
end Go.Proofs.Sl
