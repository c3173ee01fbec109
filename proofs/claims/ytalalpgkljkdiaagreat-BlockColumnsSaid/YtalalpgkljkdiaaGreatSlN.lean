/- A part of the proof. -/
import Derived.Shelf.SlSortCmp.InsertionK
import Derived.Sort.AssemblyPlain
import Derived.Shelf.SlSortCmp.NoneTotal
import Derived.RangeFuncNested
import Derived.RangeFuncLeaves
import Derived.OrdersIn
import Derived.Shelf.Spec.SlicesGrow
import Derived.Shelf.SortM.Plain
import Derived.Shelf.SortM.SortNone
import Derived.Test.YtalalpgkljkdiaaGreatSlB
import Derived.Test.YtalalpgkljkdiaaGreatSlS
set_option linter.unusedVariables false
set_option linter.unusedSimpArgs false
set_option linter.unnecessarySimpa false
namespace Go.Proofs.Sl
section
variable {P:Program} {φ:Nat→Option FuncId} {h h':H} {g g':G} {w w':World}
theorem SR.sameOld (S:SR φ h g w) (hh:∀ k,k < w.heap.size→w'.heap[k]?=w.heap[k]?):SR φ h g w':=by
 have hc:∀ b o,b < w.heap.size→w'.cell? ⟨b,o,none⟩=w.cell? ⟨b,o,none⟩:=fun b o hb=>by simp only [World.cell?,hh b hb]
 refine S.mk' (Later.refl _ _) (fun _=>False) ?_ ?_ (fun _ _ _ h=>h.elim) (fun _ _ _ _ h=>h.elim) (fun _ _ _ _ h=>h.elim) S.inj ?_ (fun _ _ h=>h.elim)
 ·exact fun l _ hv=>⟨rfl,rfl,rfl,hh _ (S.lt hv),fun _=>rfl⟩
 ·exact fun l o _ hv=>⟨rfl,rfl,rfl,hh _ (S.lt hv),hc _ _ (S.lt (a:=.obj l) (.inl (zbv_ hv))),fun _=>rfl⟩
 ·intro b o u e
  rw [hc _ _ (S.M_lt e)]
  exact S.mem b o u e
theorem Ext.sameOld (hh:∀ k,k < w.heap.size→w'.heap[k]?=w.heap[k]?) (h1:w'.os=w.os) (h2:w'.tape=w.tape) (h3:w'.output=w.output) (h4:w.drawn≤w'.drawn) (h5:w.heap.size≤w'.heap.size):Ext h g w h g w' where
 later:=Later.refl g h
 os:=h1
 tape:=h2
 output:=h3
 size:=h5
 frame:=fun k hk _=>hh k hk
 blks:=fun key hk=>.inl ⟨key,hk,rfl⟩
 arrB:=fun l z k es e=>.inl ⟨z,es,e,rfl⟩
 drawn:=h4
 mfr:=fun _ _ _ _ e=>.inl e
end
end Go.Proofs.Sl
namespace Go.Proofs.Sl
section
variable {P:Program} {φ:Nat→Option FuncId} {h h':H} {g g':G} {w w':World}
theorem SR.arrSort (S:SR φ h g w) {l k:Nat} {es es2:List V} {ms2:List Value} (ha:h[l]?=some (.arr false k es)) (hlen:es2.length=es.length) (r2:rels φ g h false es2 ms2) (hwd:wide k es2=true) {cur cur2:Array Value} {E:TypeId}
  (hcur:w.heap[g.b (.obj l)]?=some (.cells cur E (0,0))) (hsz:cur2.size=cur.size) (ht:cur2.toList.take (es.length * k)=flat ms2)
  (hb:w'.heap[g.b (.obj l)]?=some (.cells cur2 E (0,0))) (hh:∀ q,q < w.heap.size→q≠g.b (.obj l)→w'.heap[q]?=w.heap[q]?)
  (h1:w'.os=w.os) (h2:w'.tape=w.tape) (h3:w'.output=w.output) (h4:w.drawn≤w'.drawn) (h5:w.heap.size≤w'.heap.size) :
  SR φ (h.set l (.arr false k es2)) g w'∧Ext h g w (h.set l (.arr false k es2)) g w':=by
 obtain ⟨R1,X1⟩:=S.arrChange ha hlen r2 hwd hcur hsz ht
 have hs:(w.setRow (g.b (.obj l)) cur2).heap.size=w.heap.size:=by simp [World.setRow]
 have old:∀ q,q < (w.setRow (g.b (.obj l)) cur2).heap.size→w'.heap[q]?=(w.setRow (g.b (.obj l)) cur2).heap[q]?:=by
  intro q hq
  rw [hs] at hq
  by_cases hqb:q=g.b (.obj l)
  ·rw [hqb,hb,setRow_heap w _ cur cur2 E (0,0) hcur]
  ·rw [hh q hq hqb,zdz_ hqb]
 exact ⟨R1.sameOld old,X1.trans (Ext.sameOld old h1 h2 h3 h4 (by rw [hs]; exact h5))⟩
open Go.Shelf Go.RowKit Go.Sort in
def zbfg_ (P:Program) (id:FuncId) (k:Nat):Prop:=∀ (enc:Nat→List Value) (hk:∀ x,(enc x).length=k) (h1:∀ x,∀ v ∈ enc x,v.oneCell'=true) (cf:Nat→Nat→Int) (hO:SWO (ltOf cf)) (gn:Nat) (cb:Array Value) (blk off cap:Nat) (d:Array Nat) (w:World)
  (eg:∀ args w,(callFunc gn args).run P w=.ok (.enter gn args) w) (hcmp:CmpLays P gn cb enc k cf blk off d.size w) (hH:HoldsK enc k w blk off d) (hblk:blk < w.heap.size) (hsz:d.size < 4611686018427387904),
  Calls P id #[.slice (some ⟨blk,off,none⟩) d.size cap,.func (.func gn) #[] cb] w fun e w'=>e=.returned (.tuple #[])∧∃ n os,w'=sortWorldK enc k w blk off n (pdq (ltOf cf) d 0 d.size (Lib.bitLen d.size) true true) os
def zbfh_ (P:Program) (id:FuncId):Prop:=∀ (p:Option Addr) (cap:Nat) (fv:Value) (w:World),Calls P id #[.slice p 0 cap,fv] w fun e w'=>e=.returned (.tuple #[])∧w'=w
theorem zbfi_:∀ (f n:Nat),n < 2 ^ f→Go.Lib.bitLenAux f n=zgp_ n
 | 0,n,h=>by
  have:n=0:=by simpa using h
  subst this
  rfl
 | f + 1,n,h=>by
  unfold Go.Lib.bitLenAux
  split
  ·rename_i h0; subst h0; rfl
  ·rename_i h0
   rw [zbfi_ f (n / 2) (by rw [Nat.pow_succ] at h; omega)]
   unfold zgp_
   rw [if_neg h0,Nat.log2_def n]
   by_cases h2:2≤n
   ·rw [if_pos h2,if_neg (by omega)]
    omega
   ·rw [if_neg h2,if_pos (by omega)]
theorem zcdn_ {n:Nat} (h:n < 4611686018427387904):Go.Lib.bitLen n=zgp_ n:=zbfi_ 64 n (Nat.lt_trans h (by decide))
theorem zvn_:∀ {l:List V},allAgg l=true→∀ {i:Nat} {v:V},l[i]?=some v→∃ cs,v=.agg cs
 | [],_,i,v,e=>by simp at e
 | x :: l,k,i,v,e=>by
  cases x <;> simp only [allAgg,Bool.false_eq_true] at k
  cases i with
  | zero=>simp only [List.getElem?_cons_zero,Option.some.injEq] at e; exact ⟨_,e.symm⟩
  | succ i=>exact zvn_ k (by simpa using e)
open Go.Shelf Go.RowKit Go.Sort in
theorem zbfj_ (enc:Nat→List Value) (k:Nat) (blk off n:Nat) (dk:Array Nat) (os:Array Obj) (q:Nat) (hq:q < w.heap.size) (hn:q≠blk):(sortWorldK enc k w blk off n dk os).heap[q]?=w.heap[q]?:=by
 unfold sortWorldK putRowK Go.Sort.putRow mapBlock
 rw [heap_grow_old _ _ (by simpa [ahead] using hq)]
 simp only [Array.getElem?_modify]
 rw [if_neg (Ne.symm hn)]
 rfl
open Go.Shelf Go.RowKit Go.Sort in
theorem zcdo_ (enc:Nat→List Value) (k:Nat) (blk off n:Nat) (dk:Array Nat) (os:Array Obj) {cur:Array Value} {E:TypeId} {f:Nat × Nat} (hcur:w.heap[blk]?=some (.cells cur E f)) :
  (sortWorldK enc k w blk off n dk os).heap[blk]?=some (.cells (putCells _root_.id off (flatK enc k dk) cur) E f):=by
 have hq:=(Array.getElem?_eq_some_iff.1 hcur).1
 unfold sortWorldK putRowK Go.Sort.putRow mapBlock
 rw [heap_grow_old _ _ (by simpa [ahead] using hq)]
 simp only [Array.getElem?_modify,if_true]
 show Option.map _ (w.heap[blk]?)=_
 rw [hcur]
 rfl
open Go.Shelf Go.RowKit Go.Sort in
theorem zcdp_ (enc:Nat→List Value) (k:Nat) (blk off n:Nat) (dk:Array Nat) (os:Array Obj):(sortWorldK enc k w blk off n dk os).os=w.os∧(sortWorldK enc k w blk off n dk os).tape=w.tape∧(sortWorldK enc k w blk off n dk os).output=w.output ∧
  w.drawn≤(sortWorldK enc k w blk off n dk os).drawn∧w.heap.size≤(sortWorldK enc k w blk off n dk os).heap.size:=by
 refine ⟨rfl,rfl,rfl,Nat.le_add_right _ _,?_⟩
 simp [sortWorldK,grow,putRowK,Go.Sort.putRow,mapBlock,ahead]
theorem zcdq_ (h1:w'.os=w.os) (h2:w'.tape=w.tape) (h3:w'.output=w.output) (h4:w.drawn≤w'.drawn) (h5:w.heap.size≤w'.heap.size) (hh:∀ k,k < w.heap.size→w'.heap[k]?=w.heap[k]?):∃ q os,w'=Go.Sort.grow (w.drewN q) os:=by
 refine ⟨w'.drawn - w.drawn,w'.heap.extract w.heap.size w'.heap.size,?_⟩
 obtain ⟨hp,tp,dr,o,ou⟩:=w'
 simp only at h1 h2 h3 h4 h5 hh
 subst h1 h2 h3
 simp only [Go.Sort.grow,World.drewN,World.mk.injEq,true_and,and_true]
 refine ⟨?_,by omega⟩
 apply Array.ext_getElem?
 intro q
 by_cases hq:q < w.heap.size
 ·rw [Array.getElem?_append_left hq,hh q hq]
 ·rw [Array.getElem?_append_right (by omega),Array.getElem?_extract]
  by_cases hq2:q < hp.size
  ·rw [if_pos (by omega)]
   congr 1
   omega
  ·rw [if_neg (by omega),Array.getElem?_eq_none (by omega)]
theorem zbfk_ {k:Nat} {es:List V} (hw:wide k es=true):∀ {is:List Nat},(∀ i ∈ is,i < es.length)→wide k (pickEs es is)=true
 | [],_=>rfl
 | i :: is,hi=>by
  have h1:es.getD i .u=es[i]'(hi i (by simp)):=by rw [List.getD_eq_getElem?_getD,List.getElem?_eq_getElem (hi i (by simp))]; rfl
  have h2:=zjr_ hw (List.getElem?_eq_getElem (hi i (by simp)))
  have h3:=zbfk_ hw fun j hj=>hi j (List.mem_cons_of_mem _ hj)
  simp only [pickEs,List.map_cons] at h3 ⊢
  rw [h1]
  exact zcd_.2 ⟨h2.1,h2.2,h3⟩
theorem zbfl_ {es:List V} {ms:List Value} (r:rels φ g h false es ms) (f:Nat→Value):∀ {is:List Nat},(∀ i ∈ is,i < es.length∧ms[i]?=some (f i))→rels φ g h false (pickEs es is) (is.map f)
 | [],_=>zad_.2 rfl
 | i :: is,hi=>by
  obtain ⟨h0,h2⟩:=hi i (by simp)
  have h1:es.getD i .u=es[i]:=by rw [List.getD_eq_getElem?_getD,List.getElem?_eq_getElem h0]; rfl
  have h3:=zbfl_ r f fun j hj=>hi j (List.mem_cons_of_mem _ hj)
  simp only [pickEs,List.map_cons] at h3 ⊢
  rw [h1]
  exact zaj_.2 ⟨zby_ r (List.getElem?_eq_getElem h0) h2,h3⟩
open Go.Shelf Go.RowKit Go.Sort in
theorem zcdr_ {id:FuncId} {k:Nat} (hK:zbfg_ P id k) (hN:zbfh_ P id) (Tk:TOk P φ):NatOk P φ id (.sort k):=by
 intro cf F HG args h v h' e g w ms R r
 simp only [xnat] at e
 unfold xsort at e
 split at e
 ·injection e with e
  injection e with e1 e2
  subst e1 e2
  obtain ⟨m1,s1,rfl,r1,r⟩:=zam_.1 r
  obtain ⟨m2,s2,rfl,r2,r⟩:=zam_.1 r
  rw [zad_] at r
  subst r
  have:=rel_s r1
  subst this
  refine (hN none 0 m2 w).mono ?_
  rintro ee w' ⟨rfl,rfl⟩
  exact ⟨_,g,rfl,R,Ext.refl _ _ _,by simp only [RetOk,rel]; exact ⟨_,rfl,zad_.2 rfl⟩⟩
 ·rename_i l n f a b
  have e':xsort cf k h [.ref l n,.fn f a b]=some (v,h'):=by simpa only [xsort] using e
  clear e
  obtain ⟨es,c,ha,hn,hlt,hc1,_,hc3,⟨rfl,hag⟩,hS,hr⟩:=zew_.1 e'
  injection hr with hr1 hr2
  subst hr1 hr2
  obtain ⟨m1,s1,rfl,r1,r⟩:=zam_.1 r
  obtain ⟨m2,s2,rfl,r2,r⟩:=zam_.1 r
  rw [zad_] at r
  subst r
  simp only [rel] at r1 r2
  obtain ⟨_,_,_,r1⟩:=r1
  have hm1:=(r1 _ _ _ ha).2 hn
  obtain ⟨id2,A,C,hf,hm2,rA,rC⟩:=r2
  rw [zad_] at rA
  have hA:A=#[]:=Array.ext' (by simpa using rA)
  subst hA hm1 hm2
  obtain ⟨cur,E,msE,hcur,hsz,n1,n2,rE,wd,tk,_,k3⟩:=R.arr l false k es ha
  have hM:=k3 rfl
  have hret:∀ w2,RetOk φ w.heap.size (h.set l (.arr false k (pickEs es (zbf_ n c)))) g w2 (.tup []) (.tuple #[]):=fun w2=>by
   simp only [RetOk,rel]
   exact ⟨_,rfl,zad_.2 rfl⟩
  by_cases hn0:n=0
  ·subst hn0
   have hes:es=[]:=List.eq_nil_of_length_eq_zero hn
   subst hes
   refine (hN (some ⟨g.b (.obj l),0,none⟩) _ _ w).mono ?_
   rintro ee w' ⟨rfl,rfl⟩
   refine ⟨_,g,rfl,?_,?_,hret w'⟩
   ·rw [show pickEs [] (zbf_ 0 c)=[] from rfl,zqe_ ha]
    exact R
   ·rw [show pickEs [] (zbf_ 0 c)=[] from rfl,zqe_ ha]
    exact Ext.refl _ _ _
  ·have hpos:0 < n:=by omega
   have hlenE:=zah_ rE
   have hmsz:=zay_ wd rE
   let mOf:Nat→Value:=fun i=>msE.getD (clampI n i) undef
   let enc:Nat→List Value:=fun i=>(mOf i).cells.toList
   have hmOf:∀ i,∃ v,es[clampI n i]?=some v∧msE[clampI n i]?=some (mOf i):=by
    intro i
    have h1:=ztq_ (i:=i) hpos
    have h2:clampI n i < es.length:=by omega
    have h3:clampI n i < msE.length:=by omega
    refine ⟨_,List.getElem?_eq_getElem h2,?_⟩
    simp only [mOf,List.getD_eq_getElem?_getD,List.getElem?_eq_getElem h3,Option.getD_some]
   have hk:∀ x,(enc x).length=k:=fun x=>by
    obtain ⟨v,_,h2⟩:=hmOf x
    have:=hmsz _ (List.mem_of_getElem? h2)
    simpa [enc] using this
   have h1:∀ x,∀ v ∈ enc x,v.oneCell'=true:=fun x=>by
    obtain ⟨v,h2,h3⟩:=hmOf x
    exact zfe_ (zgw_ (zby_ rE h2 h3)) (zjr_ wd h2).2
   have hagm:∀ x,mOf x=.agg (enc x).toArray:=fun x=>by
    obtain ⟨v,h2,h3⟩:=hmOf x
    obtain ⟨cs,rfl⟩:=zvn_ hag h2
    have r4:=zby_ rE h2 h3
    simp only [rel] at r4
    obtain ⟨ar,h4,_⟩:=r4
    simp only [enc,h4,Value.cells]
   let cfN:Nat→Nat→Int:=fun i j=>c (clampI n i) (clampI n j)
   have hO:SWO (ltOf cfN):=by
    have:=hS.2
    rw [hn] at this
    exact this
   have hd:(Array.range n).size=n:=by simp
   have hcmp:CmpLays P id2 C enc k cfN (g.b (.obj l)) 0 (Array.range n).size w:=by
    intro m os dk hdk x y
    obtain ⟨vx,ex,mx⟩:=hmOf x
    obtain ⟨vy,ey,my⟩:=hmOf y
    have ecf:=hS.1 _ _ vx vy ex ey
    have hold:∀ q,q < w.heap.size→q≠g.b (.obj l)→(sortWorldK enc k w (g.b (.obj l)) 0 m dk os).heap[q]?=w.heap[q]?:=fun q h1 h2=>zbfj_ enc k _ 0 m dk os q h1 h2
    generalize sortWorldK enc k w (g.b (.obj l)) 0 m dk os=W at hold ⊢
    have RW:SR φ [] g W:=by
     refine ⟨fun l z cs e=>by simp at e,fun l z k es e=>by simp at e,fun l o x n e k=>by simp [cellAt] at e,fun a b ha hb e=>?_,fun b o u e=>?_,fun l es e=>by simp at e⟩
     ·cases a with
      | obj q=>rcases ha with ⟨z,cs,e⟩ | ⟨z,k,es,e⟩ | ⟨es,e⟩ <;> simp at e
      | cell q o=>obtain ⟨x,n,e,_⟩:=ha; simp [cellAt] at e
     ·have hb:=R.M_lt e
      have hne:b≠g.b (.obj l):=by
       rintro rfl
       rw [hM] at e
       cases e
      have:=R.mem b o u e
      simp only [World.cell?,hold b hb hne] at this ⊢
      exact this
    have rcl:∀ {v m},v.closed=true→rel φ g h false v m→rel φ g [] false v m:=fun hc r=>zbq_ (fun _ _ _ e=>e) false _ _ (zpp_ _ _ hc r)
    have hargs:rels φ g [] false ([]++[vx,vy]++b) ([mOf x,mOf y]++C.toList):=by
     refine zbz_ ?_ (zal_ (fun _ _ _ e=>e) false _ _ (zbt_ _ _ hc3 rC))
     exact zaj_.2 ⟨rcl (ztu_ hc1 ex) (zby_ rE ex mx),zaj_.2 ⟨rcl (ztu_ hc1 ey) (zby_ rE ey my),zad_.2 rfl⟩⟩
    have hcall:=F f id2 _ [] _ _ hf ecf g W _ RW (.inl ⟨by obtain ⟨cs0,rfl⟩:=zvn_ hag ex; trivial,hargs⟩)
    have harr:([mOf x,mOf y]++C.toList).toArray=#[.agg (enc x).toArray,.agg (enc y).toArray]++C:=by
     rw [← hagm x,← hagm y]
     apply Array.ext'
     simp
    rw [harr] at hcall
    refine hcall.mono ?_
    rintro ee w2 ⟨mv,g2,rfl,_,X2,rr⟩
    have hmv:mv=.int .i64 (cfN x y):=by (simp only [RetOk,rel] at rr; exact rr.1)
    refine ⟨by rw [hmv],zcdq_ X2.os X2.tape X2.output X2.drawn X2.size fun q hq=>X2.frame q hq fun key hk=>?_⟩
    cases key with
    | obj q=>rcases hk with ⟨z,cs,e⟩ | ⟨z,k,es,e⟩ | ⟨es,e⟩ <;> simp at e
    | cell q o=>obtain ⟨x,n,e,_⟩:=hk; simp [cellAt] at e
   have hfl:∀ (q j:Nat),q < n→j < k→(flat msE)[q * k + j]?=some ((enc q)[j]!):=by
    intro q j hq hj
    obtain ⟨v,h2,h3⟩:=hmOf q
    have hcq:clampI n q=q:=by simp [clampI,hq]
    rw [hcq] at h3
    have hj2:j < (mOf q).cells.size:=by have:=hk q; simp only [enc,Array.length_toList] at this; omega
    have:=zdy_ hmsz h3 (Array.getElem?_eq_getElem hj2)
    rw [this]
    have hj3:j < (enc q).length:=by rw [hk]; exact hj
    rw [getElem!_pos (enc q) j hj3]
    simp [enc]
   have hH:HoldsK enc k w (g.b (.obj l)) 0 (Array.range n):=by
    intro j hj
    rw [size_flatK,hd] at hj
    refine ⟨?_,frozen_of_row w _ _ cur E hcur⟩
    have hk0:0 < k:=by
     rcases Nat.eq_zero_or_pos k with h | h
     ·rw [h,Nat.mul_zero] at hj; omega
     ·exact h
    have hq:j / k < n:=by rw [Nat.div_lt_iff_lt_mul hk0]; exact hj
    have hdm:j / k * k + j % k=j:=by rw [Nat.mul_comm]; exact Nat.div_add_mod j k
    have h2:=hfl (j / k) (j % k) hq (Nat.mod_lt _ hk0)
    rw [hdm,← tk,hn,List.getElem?_take,if_pos hj,Array.getElem?_toList] at h2
    rw [Nat.zero_add,zbj_ hcur,h2]
    show _=some ((flatK enc k (Array.range n))[j]!)
    rw [get_flatK _ _ _ _ (by rw [hd]; exact hj)]
    have:(Array.range n)[j / k]! = j / k:=by rw [getElem!_pos _ _ (by rw [hd]; exact hq)]; simp
    rw [this]
   have hcall:=hK enc hk h1 cfN hO id2 C (g.b (.obj l)) 0 (g.c (.obj l)) (Array.range n) w (fun args w=>Tk.run hf args w) hcmp hH (zey_ hcur) (by rw [hd]; exact hlt)
   rw [hd] at hcall
   refine hcall.mono ?_
   rintro ee w' ⟨rfl,nn,os,hw'⟩
   have hps:=pdq_sorts (ltOf cfN) hO (Array.range n) 0 n (Lib.bitLen n) true true (Nat.zero_le _) (by rw [hd]; exact Nat.le_refl _) (Or.inl rfl)
   have hdd:(pdq (ltOf cfN) (Array.range n) 0 n (Lib.bitLen n) true true).toList=zbf_ n c:=by
    unfold zbf_
    rw [if_neg hn0,← zcdn_ hlt]
    rfl
   generalize pdq (ltOf cfN) (Array.range n) 0 n (Lib.bitLen n) true true=dd at hw' hps hdd
   obtain ⟨⟨hs1,_,hp⟩,_⟩:=hps
   rw [hd] at hs1
   have hmem:∀ i ∈ dd.toList,i < n:=by
    intro i hi
    have e1:(dd.extract 0 n).toList=dd.toList:=by
     rw [Array.toList_extract,List.extract_eq_take_drop,List.drop_zero,Nat.sub_zero,List.take_of_length_le (by rw [Array.length_toList,hs1]; exact Nat.le_refl _)]
    have e2:((Array.range n).extract 0 n).toList=List.range n:=by
     rw [Array.toList_extract,List.extract_eq_take_drop]
     simp
    rw [e1,e2] at hp
    exact List.mem_range.1 (hp.mem_iff.1 hi)
   have hcl:∀ i,i < n→clampI n i=i:=fun i hi=>by simp [clampI,hi]
   have r2:rels φ g h false (pickEs es (zbf_ n c)) (dd.toList.map mOf):=by
    rw [← hdd]
    refine zbfl_ rE mOf fun i hi=>?_
    have hi2:=hmem i hi
    obtain ⟨v,_,h3⟩:=hmOf i
    rw [hcl i hi2] at h3
    exact ⟨by omega,h3⟩
   have wd2:wide k (pickEs es (zbf_ n c))=true:=by
    rw [← hdd]
    exact zbfk_ wd fun i hi=>by have:=hmem i hi; omega
   have hplen:(pickEs es (zbf_ n c)).length=es.length:=by
    rw [← hdd]
    simp [pickEs,hs1,hn]
   have hrest:=zcdp_ (w:=w) enc k (g.b (.obj l)) 0 nn dd os
   have hck:n * k≤cur.size:=by rw [hsz,← hn]; exact Nat.mul_le_mul_right _ n1
   have hfin:=R.arrSort (w':=w') ha hplen r2 wd2 hcur (cur2:=putCells _root_.id 0 (flatK enc k dd) cur) (by simp [putCells]) (by
    have hf2:=zat_ (zay_ wd2 r2)
    rw [← zah_ r2,hplen,hn] at hf2
    rw [hn]
    apply List.ext_getElem?
    intro j
    rw [List.getElem?_take]
    by_cases hj:j < n * k
    ·rw [if_pos hj,Array.getElem?_toList]
     have hk0:0 < k:=by
      rcases Nat.eq_zero_or_pos k with h | h
      ·rw [h,Nat.mul_zero] at hj; omega
      ·exact h
     have hq:j / k < n:=by rw [Nat.div_lt_iff_lt_mul hk0]; exact hj
     have hdm:j / k * k + j % k=j:=by rw [Nat.mul_comm]; exact Nat.div_add_mod j k
     have hjc:j < cur.size:=by omega
     have hq2:j / k < dd.size:=by omega
     have e1:(putCells _root_.id 0 (flatK enc k dd) cur)[j]?=some ((flatK enc k dd)[j]!):=by
      simp only [putCells,Array.getElem?_mapIdx,Array.getElem?_eq_getElem hjc,Option.map_some,Nat.zero_le,true_and,size_flatK,hs1,Nat.zero_add,hj,if_true,Nat.sub_zero,_root_.id]
     rw [e1,get_flatK _ _ _ _ (by rw [hs1]; exact hj),getElem!_pos dd _ hq2]
     have e2:(dd.toList.map mOf)[j / k]?=some (mOf dd[j / k]):=by
      rw [List.getElem?_map,Array.getElem?_toList,Array.getElem?_eq_getElem hq2]
      rfl
     have hj2:j % k < (mOf dd[j / k]).cells.size:=by
      have:=hk dd[j / k]
      simp only [enc,Array.length_toList] at this
      rw [this]
      exact Nat.mod_lt _ hk0
     have e3:=zdy_ (zay_ wd2 r2) e2 (Array.getElem?_eq_getElem hj2)
     rw [hdm] at e3
     rw [e3]
     have hj3:j % k < (enc dd[j / k]).length:=by rw [hk]; exact Nat.mod_lt _ hk0
     rw [getElem!_pos (enc dd[j / k]) _ hj3]
     simp [enc]
    ·rw [if_neg hj,eq_comm,List.getElem?_eq_none_iff]
     omega) (by rw [hw']; exact zcdo_ enc k _ 0 nn dd os hcur) (fun q h2 h3=>by rw [hw']; exact zbfj_ enc k _ 0 nn dd os q h2 h3)
    (by rw [hw']; exact hrest.1) (by rw [hw']; exact hrest.2.1) (by rw [hw']; exact hrest.2.2.1) (by rw [hw']; exact hrest.2.2.2.1) (by rw [hw']; exact hrest.2.2.2.2)
   exact ⟨_,g,rfl,hfin.1,hfin.2,hret w'⟩
 ·cases e
end
end Go.Proofs.Sl
namespace Go.Proofs.Sl
open Go.Shelf Go.RowKit Go.Lib Go.Sort
theorem zcds_ {P:Program} {ρ:Ren} (L:SlLaysF0.n6 P ρ) (k:Nat) (aE:∀ w,(isAgg (ρ.t 24)).run P w=.ok true w) (zE:∀ w,(Go.sizeOf (ρ.t 24)).run P w=.ok k w):zbfg_ P (ρ.f 6) k:=by
 intro enc hk h1 cf hO gn cb blk off cap d w eg hcmp hH hblk hsz
 exact AnyQ.slices_SortFunc_eq L k aE zE enc hk h1 cf hO gn cb blk off cap d w eg hcmp hH hblk hsz
theorem zcdt_ {P:Program} {ρ:Ren} (L:SlLaysF0.n6 P ρ):zbfh_ P (ρ.f 6):=fun p cap fv w=>AnyF.slices_SortFunc_none L p cap fv w
end Go.Proofs.Sl
namespace Go.Proofs.Sl
section
variable {P:Program} {φ:Nat→Option FuncId} {h h':H} {g g':G} {w w':World} {N:Nat} {s:Sl} {a:Act} {ops:Array Oper} {h0:H} {g0:G} {w0:World} {cf:CallF} {base:Nat}
def _root_.Go.Obj.isDat:Obj→Bool
 | .cells ..=>true
 | .map ..=>true
 | _=>false
theorem SR.isCells (S:SR φ h g w) {a:Key} (ha:live h a):∃ o,w.heap[g.b a]?=some o∧o.isDat=true:=by
 cases a with
 | obj l =>
  rcases ha with ⟨z,cs,e⟩ | ⟨z,k,es,e⟩ | ⟨es,e⟩
  ·obtain ⟨ms,E,e,_⟩:=S.box l z cs e
   exact ⟨_,e,rfl⟩
  ·obtain ⟨cur,E,ms,e,_⟩:=S.arr l z k es e
   exact ⟨_,e,rfl⟩
  ·obtain ⟨ents,clock,e,_⟩:=S.mp l es e
   exact ⟨_,e,rfl⟩
 | cell l o =>
  obtain ⟨x,n,e,k⟩:=ha
  obtain ⟨cur,E,k,e,_⟩:=S.own l o x n e k
  exact ⟨_,e,rfl⟩
theorem SR.M_isCells (S:SR φ h g w) {b o:Nat} {u:Value} (e:g.M b o=some u):∃ x,w.heap[b]?=some x∧x.isDat=true:=by
 have:=S.mem b o u e
 unfold World.cell? at this
 split at this
 ·rename_i hh
  exact ⟨_,hh,rfl⟩
 ·cases this
structure Calm (B:Nat) (w w':World):Prop where
 os:w'.os=w.os
 tape:w'.tape=w.tape
 output:w'.output=w.output
 size:w.heap.size≤w'.heap.size
 drawn:w.drawn≤w'.drawn
 low:∀ k,k < B→k < w.heap.size→w'.heap[k]?=w.heap[k]?
 cells:∀ (k:Nat) (o:Obj),w.heap[k]?=some o→o.isDat=true→w'.heap[k]?=some o
theorem Calm.alloc (B:Nat) (w:World) (o:Obj):Calm B w (w.alloc o) where
 os:=rfl
 tape:=rfl
 output:=rfl
 size:=by simp
 drawn:=Nat.le_refl _
 low:=fun k _ hk=>zbm_ hk
 cells:=fun k o' e _=>by rw [zbm_ (Array.getElem?_eq_some_iff.1 e).1]; exact e
theorem Calm.put {B l:Nat} {o:Obj} (hl:B≤l) (e:w.heap[l]?=some o) (ho:o.isDat=false) (o':Obj):Calm B w (w.putObj l o') where
 os:=rfl
 tape:=rfl
 output:=rfl
 size:=by simp
 drawn:=Nat.le_refl _
 low:=fun k hk _=>World.putObj_heap_other (by omega)
 cells:=fun k x ex hx=>by
  rw [World.putObj_heap_other]
  ·exact ex
  ·rintro rfl
   rw [e] at ex
   injection ex with ex
   subst ex
   rw [ho] at hx
   cases hx
theorem SR.calm {B:Nat} (S:SR φ h g w) (C:Calm B w w'):SR φ h g w':=by
 have hl:∀ a,live h a→w'.heap[g.b a]?=w.heap[g.b a]?:=fun a ha=>by
  obtain ⟨o,e,ho⟩:=S.isCells ha
  rw [e,C.cells _ _ e ho]
 refine S.mk' (Later.refl _ _) (fun _=>False) ?_ ?_ (fun _ _ _ h=>h.elim) (fun _ _ _ _ h=>h.elim) (fun _ _ _ _ h=>h.elim) S.inj ?_ (fun _ _ h=>h.elim)
 ·exact fun l _ hv=>⟨rfl,rfl,rfl,hl _ hv,fun _=>rfl⟩
 ·intro l o _ hv
  refine ⟨rfl,rfl,rfl,hl _ hv,?_,fun _=>rfl⟩
  have hb:live h (.obj l):=.inl (zbv_ hv)
  simp only [World.cell?,hl _ hb]
 ·intro b o u e
  obtain ⟨x,e1,e2⟩:=S.M_isCells e
  have:=S.mem b o u e
  simp only [World.cell?,C.cells _ _ e1 e2,e1] at this ⊢
  exact this
theorem Ext.calm (X:Ext h0 g0 w0 h g w) (C:Calm w0.heap.size w w'):Ext h0 g0 w0 h g w' where
 later:=X.later
 os:=C.os.trans X.os
 tape:=C.tape.trans X.tape
 output:=C.output.trans X.output
 size:=Nat.le_trans X.size C.size
 frame:=fun k hk hn=>by rw [C.low k hk (Nat.lt_of_lt_of_le hk X.size),X.frame k hk hn]
 blks:=X.blks
 arrB:=X.arrB
 drawn:=Nat.le_trans X.drawn C.drawn
 mfr:=X.mfr
theorem Ext.other (R:SR φ h g w) (X:Ext h g w h' g' w') {k:Nat} {o:Obj} (e:w.heap[k]?=some o) (ho:o.isDat=false):w'.heap[k]?=some o:=by
 rw [X.frame k (Array.getElem?_eq_some_iff.1 e).1,e]
 intro key hk hb
 obtain ⟨x,e1,e2⟩:=R.isCells hk
 rw [hb,e] at e1
 injection e1 with e1
 subst e1
 rw [ho] at e2
 cases e2
def noCall:XO→Bool
 | .call .. | .callv .. | .calli .. | .callK .. | .slArr ..=>false
 | _=>true
theorem zcdu_ (R:SR φ h g w) (S:Slots φ g h N s a) {o:Oper} {x:XO} (k:chkOp P φ N o.op x=true) (nc:noCall x=true) {v:V} (e:xop cf base s h x=some (v,h')):Done P φ a o h g w v h':=by
 unfold xop at e
 split at e
 ·obtain ⟨u,e1,e⟩:=zaa_.1 e
  injection e with e
  injection e with e2 e3
  subst e2 e3
  by_cases hb:∃ k0 ps,x=.bslice false k0 ps
  ·obtain ⟨k0,ps,rfl⟩:=hb
   exact bs_ok R S k e1
  ·have hb2:∀ m k0 ps,x≠.bslice m k0 ps:=by
    rintro m k0 ps rfl
    cases m
    ·exact hb ⟨_,_,rfl⟩
    ·simp [xpure] at e1
   obtain ⟨mv,h1,h2⟩:=zbcq_ S k hb2 e1
   exact ⟨_,g,w,h1 w,R,Ext.refl _ _ _,.inl ⟨mv,rfl,h2⟩⟩
 ·obtain ⟨u,e1,e⟩:=zaa_.1 e
  injection e with e
  injection e with e2 e3
  subst e2 e3
  obtain ⟨mv,h1,h2⟩:=zbdc_ R S k e1
  exact ⟨_,g,w,h1,R,Ext.refl _ _ _,.inl ⟨mv,rfl,h2⟩⟩
 ·exact eff_ok R S k (by rintro m f xs rfl; cases nc) (by rintro m f xs rfl; cases nc) (by rintro m tb y xs rfl; cases nc) (by rintro f xs rfl; cases nc) e
theorem zcdv_ {o:Op} {x:XO} (k:chkOp P φ N o x=true) (nc:noCall x=true) (c:Call):o≠.defer c:=by
 rintro rfl
 unfold chkOp at k
 split at k <;> first | contradiction | cases nc
def withD (a:Act) (ds:List Deferred):Act:={ a with defers:=ds }
theorem zvo_ (a:Act) (ds:List Deferred) (d:Option Tmp) (v:Value):(withD a ds).put d v=withD (a.put d v) ds:=by cases d <;> rfl
variable {F:Fence} {n:Nat}
theorem zbfm_ (hF:∀ f,F.fn f) {i:Nat} {o:Oper} {x:XOp} (ho:ops[i]?=some o) (k:chkX P φ N ops o x=true) (nc:noCall x.op=true) {st st':St} (so:SO φ N h0 g0 w0 st a w) (e:xstep cf base x st=some st') (ds:List Deferred) {K:Act→World→Prop} {Q:Exit→Act→World→Prop}
  (hK:∀ a' w',SO φ N h0 g0 w0 st' a' w'→K (withD a' ds) w'):wpOpIn F n P ops Q i K (withD a ds) w:=by
 obtain ⟨g,R,X,S⟩:=so
 simp only [chkX,Bool.and_eq_true] at k
 obtain ⟨⟨k1,k2⟩,k3⟩:=k
 obtain ⟨hd,hN⟩:=zux_ k1
 unfold xstep at e
 obtain ⟨b,e1,e⟩:=zaa_.1 e
 have hw:=zuy_ S k2 e1
 have hw':Region.wanted o (yielded ops (withD a ds).tmps)=b:=hw
 simp only [wpOpIn,ho,hw']
 cases b with
 | true =>
  simp only [if_true] at e ⊢
  obtain ⟨p,e2,e⟩:=zaa_.1 e
  injection e with e
  subst e
  obtain ⟨nx,g',w',h1,h2,h3,h4⟩:=zcdu_ R S k3 nc (v:=p.1) (h':=p.2) e2
  unfold Oper.wpIn
  refine ⟨fun f _=>hF f,?_⟩
  rw [Oper.semAt_eq _ _ _ fun c=>zcdv_ k3 nc c,show (withD a ds).eval=a.eval from rfl,h1]
  rcases h4 with ⟨mv,rfl,h4⟩ | ⟨rfl,hv⟩
  ·rw [Oper.uponIn_value,zvo_]
   refine hK _ _ ⟨g',h2,X.trans h3,?_⟩
   rw [← hd]
   exact (S.later h3.later).put hN h4
  ·rw [Oper.uponIn_skip,zvo_]
   refine hK _ _ ⟨g',h2,X.trans h3,?_⟩
   rw [← hd,hv]
   exact (S.later h3.later).put hN (rel_of rfl)
 | false =>
  simp only [Bool.false_eq_true,if_false] at e ⊢
  injection e with e
  subst e
  refine ⟨fun f _=>hF f,?_⟩
  rw [zvo_]
  refine hK _ _ ⟨g,R,X,?_⟩
  have:=S.put (d:=o.dst) hN (v:=.u) (mv:=undef) (rel_of rfl)
  rw [hd] at this ⊢
  exact this
def zfl_:List XOp→Bool
 | []=>true
 | x :: l=>noCall x.op && zfl_ l
theorem zbfn_:∀ {l:List XOp},zfl_ l=true→∀ {i:Nat} {x:XOp},l[i]?=some x→noCall x.op=true
 | [],_,i,x,e=>by simp at e
 | y :: l,k,0,x,e=>by
  simp only [zfl_,Bool.and_eq_true] at k
  simp only [List.getElem?_cons_zero,Option.some.injEq] at e
  subst e
  exact k.1
 | y :: l,k,i + 1,x,e=>by
  simp only [zfl_,Bool.and_eq_true] at k
  exact zbfn_ k.2 (by simpa using e)
theorem zbfo_ (hF:∀ f,F.fn f) {xs:List XOp} (k:chkXs P φ N ops ops.toList xs=true) (nc:zfl_ xs=true) (ds:List Deferred) {Q:Exit→Act→World→Prop}:∀ (m i:Nat) (st st':St) (a:Act) (w:World),i + m=ops.size→SO φ N h0 g0 w0 st a w →
  xops cf base (xs.drop i) st=some st'→(∀ a' w',SO φ N h0 g0 w0 st' a' w'→Q .normal (withD a' ds) w')→wpOpsIn F n P ops Q (List.range' i m) (withD a ds) w
 | 0,i,st,st',a,w,hm,so,e,hQ=>by
  have hl:=(zhd_ k).1
  rw [List.drop_eq_nil_of_le (by rw [← hl,Array.length_toList]; omega)] at e
  simp only [xops,Option.some.injEq] at e
  subst e
  simp only [List.range'_zero,wpOpsIn]
  exact hQ a w so
 | m + 1,i,st,st',a,w,hm,so,e,hQ=>by
  obtain ⟨hl,hk⟩:=zhd_ k
  rw [Array.length_toList] at hl
  have hi:i < xs.length:=by omega
  have hio:i < ops.size:=by omega
  rw [List.drop_eq_getElem_cons hi] at e
  simp only [xops] at e
  obtain ⟨s1,e1,e⟩:=zaa_.1 e
  rw [List.range'_succ,wpOpsIn_cons]
  have ho:=Array.getElem?_eq_getElem hio
  have hx:=List.getElem?_eq_getElem hi
  exact zbfm_ hF ho (hk i _ _ (by rw [Array.getElem?_toList]; exact ho) hx) (zbfn_ nc hx) so e1 ds fun a' w' so'=>zbfo_ hF k nc ds m (i + 1) s1 st' a' w' (by omega) so' e hQ
theorem zbfp_ (hF:∀ f,F.fn f) {xs:List XOp} (k:chkXs P φ N ops ops.toList xs=true) (nc:zfl_ xs=true) (ds:List Deferred) {Q:Exit→Act→World→Prop} {st st':St} (so:SO φ N h0 g0 w0 st a w) (e:xops cf base xs st=some st')
  (hQ:∀ a' w',SO φ N h0 g0 w0 st' a' w'→Q .normal (withD a' ds) w') (id:Nat):(Code.region id ops false).wpIn F n P Q (withD a ds) w:=by
 refine wpIn_region ?_
 rw [List.range_eq_range']
 exact zbfo_ hF k nc ds ops.size 0 st st' a w (by omega) so (by simpa using e) hQ
theorem zej_ (hF:∀ f,F.fn f) {xs:List XOp} (k:chkXs P φ N ops ops.toList xs=true) (nc:zfl_ xs=true) {Q:Exit→Act→World→Prop} {st st':St} (so:SO φ N h0 g0 w0 st a w) (e:xops cf base xs st=some st')
  (hQ:∀ a' w',SO φ N h0 g0 w0 st' a' w'→Q .normal a' w') (id:Nat):(Code.region id ops false).wpIn F n P Q a w:=by
 have hd:∀ a' w' st,SO φ N h0 g0 w0 st a' w'→withD a' []=a':=by
  rintro a' w' st ⟨g,_,_,S⟩
  rw [← S.defers]
  rfl
 have:=zbfp_ (n:=n) hF k nc [] so e (Q:=Q) (fun a' w' so'=>by rw [hd _ _ _ so']; exact hQ a' w' so') id
 rw [hd _ _ _ so] at this
 exact this
end
end Go.Proofs.Sl
namespace Go.Proofs.Sl
def opq (c:List Value):V:=.agg (c.map V.s)
def OkC (k:Nat) (c:List Value):Prop:=c.length=k∧∀ x ∈ c,V.cell (.s x)=true
theorem zbfq_:∀ {c:List Value},(∀ x ∈ c,V.cell (.s x)=true)→zai_ (c.map V.s)=true
 | [],_=>rfl
 | x :: c,h=>by
  simp only [List.map_cons,zai_,Bool.and_eq_true]
  exact ⟨h x (by simp),zbfq_ fun y hy=>h y (List.mem_cons_of_mem _ hy)⟩
theorem zbfr_:∀ (c:List Value),V.closed.closeds (c.map V.s)=true
 | []=>rfl
 | x :: c=>by simp only [List.map_cons,V.closed.closeds,V.closed,zbfr_ c,Bool.and_self]
theorem zbfs_ (c:List Value):(c.map V.s).map zan_=c.map V.s:=by
 rw [List.map_map]
 rfl
theorem zcdw_ (c:List Value):(opq c).closed=true:=by simp only [opq,V.closed,zbfr_]
theorem zcdx_ {k:Nat} {c:List Value} (h:OkC k c):wide k [opq c]=true:=by
 simp only [wide,opq,V.cells,List.length_map,h.1,zbfq_ h.2,beq_self_eq_true,Bool.and_self]
def plainZ (z:List V):Prop:=∀ (i:Nat) (x:V),z[i]?=some x→x.tl=none
theorem zbft_ {base l:Nat} {h:H}:∀ (c:List Value) (o:Nat) (cs:List V),(∀ x ∈ c,V.cell (.s x)=true)→o + c.length≤cs.length→plainZ cs→zbi_ base l o (c.map V.s) h cs=some (cs.take o++c.map V.s++cs.drop (o + c.length),h)
 | [],o,cs,_,_,_=>by simp [zbi_]
 | x :: c,o,cs,hc,hl,hp=>by
  simp only [List.length_cons] at hl
  have ho:o < cs.length:=by omega
  have h0:=List.getElem?_eq_getElem ho
  have hx:=hc x (by simp)
  have hst:stCell base l o cs[o] (.s x) h=some (.s x,h):=by
   have ht:=hp o _ h0
   generalize cs[o]=old at ht
   cases old <;> first | (cases ht; done) | (cases x <;> first | (cases hx; done) | exact if_pos (.inr (Nat.zero_le _)))
  simp only [List.map_cons,zbi_,h0,zab_,hst]
  rw [zbft_ c (o + 1) (cs.set o (.s x)) (fun y hy=>hc y (List.mem_cons_of_mem _ hy)) (by simp; omega) ?_]
  ·congr 2
   rw [List.take_set,List.take_add_one,h0]
   have e1:(cs.take o++(some cs[o]).toList).set o (V.s x)=cs.take o++[V.s x]:=by
    rw [List.set_append_right _ _ (by simp; omega)]
    simp [Nat.min_eq_left (Nat.le_of_lt ho)]
   rw [e1,List.drop_set_of_lt (by omega)]
   simp [Nat.add_assoc,Nat.add_comm 1]
  ·intro i y e
   rw [List.getElem?_set] at e
   split at e
   ·first
     | (injection e with e; subst e; rfl)
     | (split at e
        ·injection e with e
         subst e
         rfl
        ·cases e)
   ·exact hp i y e
theorem zbfu_ {base k:Nat} {hh:H} {z:List V} {c:List Value} (hc:OkC k c) (hz:z.length=k) (hp:plainZ z):xstore base (hh++[.box false z]) k (.ptr hh.length 0) (opq c)=some (hh++[.box false (c.map V.s)]):=by
 have h1:=zbft_ (base:=base) (l:=hh.length) (h:=hh++[.box false z]) c 0 z hc.2 (by rw [hz,hc.1]; omega) hp
 have h2:z.drop (0 + c.length)=[]:=List.drop_of_length_le (by rw [hz,hc.1]; omega)
 rw [h2,List.take_zero,List.nil_append,List.append_nil] at h1
 simp only [xstore,opq,V.cells,List.length_map,hc.1,if_true,boxAt]
 rw [zkb_]
 simp only [List.getElem?_cons_zero,zab_,Bool.false_eq_true,if_false,h1,zbfa_,List.set_cons_zero]
def seqX0:List XOp:=[⟨some 2,.box false (.t 0),none⟩,⟨some 4,.cp (.c vnil),none⟩]
def seqX1:List XOp:=[⟨some 6,.cp (.t 1),none⟩]
def seqX2 (k:Nat) (z:List V):List XOp:=[⟨some 5,.alloc z,none⟩,⟨none,.store k (.t 5) (.t 7),none⟩]
def seqX3 (k lim:Nat):List XOp:=[⟨some 8,.load 1 false (.t 2),none⟩,⟨some 9,.load k true (.t 5),none⟩,⟨some 10,.bslice false k [.t 9],none⟩,⟨some 11,.append k lim (.t 8) (.t 10),none⟩,⟨none,.store 1 (.t 2) (.t 11),none⟩]
def seqX4:List XOp:=[⟨some 12,.load 1 false (.t 2),none⟩,⟨some 4,.cp (.t 12),none⟩]
def valX0:List XOp:=[⟨some 5,.load 1 false (.t 1),none⟩,⟨some 6,.len false (.t 5),none⟩,⟨some 7,.cp (.c (vi 0)),none⟩]
def valX1:List XOp:=[⟨some 8,.bin .lss (.t 7) (.t 6),none⟩]
def valX2 (k:Nat) (z:List V):List XOp:=[⟨some 9,.iaddr k (.t 5) (.t 7),none⟩,⟨some 10,.load k true (.t 9),none⟩,⟨some 4,.alloc z,none⟩,⟨none,.store k (.t 4) (.t 10),none⟩]
def valX4:List XOp:=[⟨some 15,.bin .add (.t 7) (.c (vi 1)),none⟩,⟨some 7,.cp (.t 15),none⟩]
def bv (k:Nat) (cs:List (List Value)):V:=if cs=[] then vnil else .own k (cs.map opq)
section
variable {cf:CallF} {base:Nat} {s:Sl} {hh:H} {k lim:Nat} {z:List V}
theorem zcdy_ (f:V):xops cf base seqX0 ⟨args0 [vnil,f],[]⟩=some ⟨upd (upd (args0 [vnil,f]) 2 (.ptr 0 0)) 4 vnil,[.box false [vnil]]⟩:=rfl
theorem zcdz_:xops cf base seqX1 ⟨s,hh⟩=some ⟨upd s 6 (s 1),hh⟩:=rfl
theorem zcea_ {c:List Value} (hc:OkC k c) (hz:z.length=k) (hp:plainZ z) (h7:s 7=opq c):xops cf base (seqX2 k z) ⟨s,hh⟩=some ⟨upd s 5 (.ptr hh.length 0),hh++[.box false (c.map V.s)]⟩:=by
 have s1:xop cf base s hh (.alloc z)=some (.ptr hh.length 0,hh++[.box false z]):=rfl
 have s2:xop cf base (upd s 5 (.ptr hh.length 0)) (hh++[.box false z]) (.store k (.t 5) (.t 7))=some (.u,hh++[.box false (c.map V.s)]):=by
  show ob (xstore base (hh++[.box false z]) k (.ptr hh.length 0) (s 7)) (fun h=>some (V.u,h))=_
  rw [h7,zbfu_ hc hz hp,zab_]
 simp only [seqX2,zef_,zee_,zeh_,s1,s2,zab_,zeg_,zqs_]
theorem zceb_ {q:Nat} {c:List Value} {pre:List (List Value)} (hc:OkC k c) (h2:s 2=.ptr 0 0) (h5:s 5=.ptr q 0) (hb:hh[0]?=some (.box false [bv k pre])) (hq:hh[q]?=some (.box false (c.map V.s))) (hl:pre.length + 1≤lim) :
  ∃ s' hh',xops cf base (seqX3 k lim) ⟨s,hh⟩=some ⟨s',hh'⟩∧hh'[0]?=some (.box false [bv k (pre++[c])])∧hh.length≤hh'.length:=by
 have hw:=zcdx_ hc
 have hcl:=zcdw_ c
 have h0:0 < hh.length:=(List.getElem?_eq_some_iff.1 hb).1
 have hr:=zbfs_ c
 have ht:(c.map V.s).take k=c.map V.s:=List.take_of_length_le (by simp [hc.1])
 have hld:xload hh k true (.ptr q 0)=some (opq c):=by
  simp only [xload,boxAt,hq,zab_,if_true,rdRow,hr,List.length_map,hc.1,Nat.zero_add,Nat.le_refl,List.drop_zero,ht,opq]
 have hcl':V.closed.closeds [opq c]=true:=by simp only [V.closed.closeds,hcl,Bool.and_self]
 have hbs:∀ s':Sl,s' 9=opq c→xop cf base s' hh (.bslice false k [.t 9])=some (.lst k [opq c],hh):=fun s' h9=>by
  show ob (ob (keep0s [s' 9]) fun l=>if V.closed.closeds l=true∧wide k l=true then some (V.lst k l) else none) (fun v=>some (v,hh))=_
  have:keep0s [opq c]=some [opq c]:=rfl
  rw [h9,this,zab_,if_pos ⟨hcl',hw⟩,zab_]
 have key:∀ (v v2:V) (h1 h2':H),xload hh 1 false (.ptr 0 0)=some v→zao_ hh k lim v (.lst k [opq c])=some (v2,h1)→xstore base h1 1 (.ptr 0 0) v2=some h2' →
   xops cf base (seqX3 k lim) ⟨s,hh⟩=some ⟨upd (upd (upd (upd s 8 v) 9 (opq c)) 10 (.lst k [opq c])) 11 v2,h2'⟩:=by
  intro v v2 h1 h2' e1 e2 e3
  have s1:xop cf base s hh (.load 1 false (.t 2))=some (v,hh):=by
   show ob (xload hh 1 false (s 2)) (fun v=>some (v,hh))=_
   rw [h2,e1,zab_]
  have s2:xop cf base (upd s 8 v) hh (.load k true (.t 5))=some (opq c,hh):=by
   show ob (xload hh k true (s 5)) (fun v=>some (v,hh))=_
   rw [h5,hld,zab_]
  have s3:=hbs (upd (upd s 8 v) 9 (opq c)) rfl
  have s4:xop cf base (upd (upd (upd s 8 v) 9 (opq c)) 10 (.lst k [opq c])) hh (.append k lim (.t 8) (.t 10))=some (v2,h1):=e2
  have s5:xop cf base (upd (upd (upd (upd s 8 v) 9 (opq c)) 10 (.lst k [opq c])) 11 v2) h1 (.store 1 (.t 2) (.t 11))=some (.u,h2'):=by
   show ob (xstore base h1 1 (s 2) v2) (fun h=>some (V.u,h))=_
   rw [h2,e3,zab_]
  simp only [seqX3,zef_,zee_,zeh_,s1,s2,s3,s4,s5,zab_,zeg_,zqs_]
 have ea:appEls hh (.lst k [opq c])=some [opq c]:=rfl
 by_cases hp:pre=[]
 ·subst hp
  simp only [bv,if_true] at hb
  have hl':1≤lim:=by simpa using hl
  refine ⟨_,((hh++[O.arr false k [opq c]]).set hh.length .dead).set 0 (.box false [.own k [opq c]]),key vnil (.ref hh.length 1) (hh++[O.arr false k [opq c]]) _ ?_ ?_ ?_,?_,?_⟩
  ·simp only [xload,boxAt,hb,zab_,Bool.false_eq_true,if_false,List.getElem?_cons_zero,rdCell]
  ·simp only [zao_,ea,zab_,hw,hcl',and_self,if_true,List.length_cons,List.length_nil,Nat.zero_add,Nat.one_ne_zero,if_false,hl']
  ·have ha:(hh++[O.arr false k [opq c]])[0]?=some (.box false [vnil]):=by rw [List.getElem?_append_left h0]; exact hb
   have hb2:arrN (hh++[O.arr false k [opq c]]) hh.length 1=some (false,k,[opq c]):=by
    unfold arrN arrAt
    rw [zkb_]
    rfl
   have hb3:stCell base 0 0 vnil (.ref hh.length 1) (hh++[O.arr false k [opq c]])=some (.own k [opq c],(hh++[O.arr false k [opq c]]).set hh.length .dead):=by
    show ob (arrN (hh++[O.arr false k [opq c]]) hh.length 1) _=_
    rw [hb2,zab_]
    show (if false=true then _ else if V.closed.closeds [opq c]=true then _ else _)=_
    rw [if_neg (by decide),if_pos hcl']
   simp only [xstore,V.cells,List.length_cons,List.length_nil,Nat.zero_add,if_true,boxAt,ha,zab_,Bool.false_eq_true,if_false,zbi_,List.getElem?_cons_zero,hb3,List.set_cons_zero]
  ·rw [List.getElem?_set_self (by simp)]
   simp [bv]
  ·simp
 ·simp only [bv,if_neg hp] at hb
  have ha:(hh.set 0 (.box false [.spent k (pre.map opq) (pre.map opq++[opq c])]))[0]?=some (.box false [.spent k (pre.map opq) (pre.map opq++[opq c])]):=List.getElem?_set_self h0
  refine ⟨_,(hh.set 0 (.box false [.spent k (pre.map opq) (pre.map opq++[opq c])])).set 0 (.box false [.own k (pre.map opq++[opq c])]),key (.lnk 0 0 k (pre.map opq)) (.gro 0 0 k (pre.map opq++[opq c])) (hh.set 0 (.box false [.spent k (pre.map opq) (pre.map opq++[opq c])])) _ ?_ ?_ ?_,?_,?_⟩
  ·simp only [xload,boxAt,hb,zab_,Bool.false_eq_true,if_false,List.getElem?_cons_zero,rdCell]
  ·have hl':(pre.map opq).length + 1≤lim:=by simpa using hl
   simp only [zao_,ea,zab_,hw,hcl',and_self,if_true,boxAt,hb,List.getElem?_cons_zero,List.length_cons,List.length_nil,Nat.zero_add,hl',Nat.one_ne_zero,if_false,List.set_cons_zero]
  ·simp only [xstore,V.cells,List.length_cons,List.length_nil,Nat.zero_add,if_true,boxAt,ha,zab_,Bool.false_eq_true,if_false,zbi_,List.getElem?_cons_zero,stCell,and_self,List.set_cons_zero]
  ·rw [List.getElem?_set_self (by simpa using h0)]
   simp [bv,hp]
  ·simp
theorem zcec_ (y L:V) (n:List V) (hL:L.toL hh=some n):xops cf base valX0 ⟨args0 [y,.fptr (.agg [L]) 0],hh⟩=some ⟨upd (upd (upd (args0 [y,.fptr (.agg [L]) 0]) 5 L) 6 (vi n.length)) 7 (vi 0),hh⟩:=by
 have s2:xop cf base (upd (args0 [y,.fptr (.agg [L]) 0]) 5 L) hh (.len false (.t 5))=some (vi n.length,hh):=by
  show ob (ob (L.toL hh) fun es=>some (vi es.length)) (fun v=>some (v,hh))=_
  rw [hL,zab_,zab_]
 have s1:xop cf base (args0 [y,.fptr (.agg [L]) 0]) hh (.load 1 false (.t 1))=some (L,hh):=rfl
 have s3:xop cf base (upd (upd (args0 [y,.fptr (.agg [L]) 0]) 5 L) 6 (vi n.length)) hh (.cp (.c (vi 0)))=some (vi 0,hh):=rfl
 simp only [valX0,zef_,zee_,zeh_,s1,s2,s3,zab_,zeg_]
theorem zced_ {a b:Int} (h7:s 7=vi a) (h6:s 6=vi b):xops cf base valX1 ⟨s,hh⟩=some ⟨upd s 8 (vb (decide (a < b))),hh⟩:=by
 have s1:xop cf base s hh (.bin .lss (.t 7) (.t 6))=some (vb (decide (a < b)),hh):=by
  show ob (xbin .lss (s 7) (s 6)) (fun v=>some (v,hh))=_
  rw [h7,h6,zbex_,zab_]
 simp only [valX1,zef_,zee_,zeh_,s1,zab_,zeg_]
theorem zcee_ {cs:List (List Value)} {c:List Value} {j:Nat} (hc:OkC k c) (hz:z.length=k) (hp:plainZ z) (h5:s 5=.lst k (cs.map opq)) (h7:s 7=vi j) (hj:cs[j]?=some c) :
  xops cf base (valX2 k z) ⟨s,hh⟩=some ⟨upd (upd (upd s 9 (.fptr (opq c) 0)) 10 (opq c)) 4 (.ptr hh.length 0),hh++[.box false (c.map V.s)]⟩:=by
 have s1:xop cf base s hh (.iaddr k (.t 5) (.t 7))=some (.fptr (opq c) 0,hh):=by
  show ob (ob (asNat (s 7)) fun i=>match s 5 with
   | .ref l n=>ob (arrN hh l n) fun p=>if i < n∧k=p.2.1 then some (.eptr l n i 0) else none
   | .lst k' es=>if k=k' then ob es[i]? fun e=>some (.fptr e 0) else none
   | .lnk _ _ k' es=>if k=k' then ob es[i]? fun e=>some (.fptr e 0) else none
   | v=>zgn_ hh k v i) (fun v=>some (v,hh))=_
  have:asNat (vi (j:Int))=some j:=by simp [asNat]
  rw [h7,h5,this,zab_]
  simp only [if_true,List.getElem?_map,hj,Option.map_some,zab_]
 have s2:xop cf base (upd s 9 (.fptr (opq c) 0)) hh (.load k true (.t 9))=some (opq c,hh):=by
  show ob (rdRow k true 0 (opq c).cells) (fun v=>some (v,hh))=_
  have ht:(c.map V.s).take k=c.map V.s:=List.take_of_length_le (by simp [hc.1])
  simp only [rdRow,opq,V.cells,if_true,List.length_map,hc.1,Nat.zero_add,Nat.le_refl,List.drop_zero,ht,zab_]
 have s3:xop cf base (upd (upd s 9 (.fptr (opq c) 0)) 10 (opq c)) hh (.alloc z)=some (.ptr hh.length 0,hh++[.box false z]):=rfl
 have s4:xop cf base (upd (upd (upd s 9 (.fptr (opq c) 0)) 10 (opq c)) 4 (.ptr hh.length 0)) (hh++[.box false z]) (.store k (.t 4) (.t 10))=some (.u,hh++[.box false (c.map V.s)]):=by
  show ob (xstore base (hh++[.box false z]) k (.ptr hh.length 0) (opq c)) (fun h=>some (V.u,h))=_
  rw [zbfu_ hc hz hp,zab_]
 simp only [valX2,zef_,zee_,zeh_,s1,s2,s3,s4,zab_,zeg_,zqs_]
theorem wrap_s {n:Int} (h1:-9223372036854775808≤n) (h2:n≤9223372036854775807):IntKind.i64.wrap n=n:=by
 have e:IntKind.i64.wrap n=if n % 18446744073709551616 ≥ 9223372036854775808 then n % 18446744073709551616 - 18446744073709551616 else n % 18446744073709551616:=by
  simp [IntKind.wrap,IntKind.bits,IntKind.signed]
 rw [e]
 split <;> omega
theorem zcef_ {j:Nat} (h7:s 7=vi j) (hj:j < 4611686018427387904):xops cf base valX4 ⟨s,hh⟩=some ⟨upd (upd s 15 (vi ((j + 1:Nat):Int))) 7 (vi ((j + 1:Nat):Int)),hh⟩:=by
 have s1:xop cf base s hh (.bin .add (.t 7) (.c (vi 1)))=some (vi ((j + 1:Nat):Int),hh):=by
  show ob (xbin .add (s 7) (vi 1)) (fun v=>some (v,hh))=_
  rw [h7,zbew_,zab_,show IntKind.i64.wrap ((j:Int) + 1)=((j + 1:Nat):Int) by rw [wrap_s (by omega) (by omega)]; rfl]
 have s2:xop cf base (upd s 15 (vi ((j + 1:Nat):Int))) hh (.cp (.t 15))=some (vi ((j + 1:Nat):Int),hh):=rfl
 simp only [valX4,zef_,zee_,zeh_,s1,s2,zab_,zeg_]
theorem zceg_ {v:V} (h2:s 2=.ptr 0 0) (hb:hh[0]?=some (.box false [v])):xops cf base seqX4 ⟨s,hh⟩=some ⟨upd (upd s 12 (rdCell 0 0 v)) 4 (rdCell 0 0 v),hh⟩:=by
 have s1:xop cf base s hh (.load 1 false (.t 2))=some (rdCell 0 0 v,hh):=by
  show ob (xload hh 1 false (s 2)) (fun v=>some (v,hh))=_
  rw [h2]
  simp only [xload,boxAt,hb,zab_,Bool.false_eq_true,if_false,List.getElem?_cons_zero]
 have s2:xop cf base (upd s 12 (rdCell 0 0 v)) hh (.cp (.t 12))=some (rdCell 0 0 v,hh):=rfl
 simp only [seqX4,zef_,zee_,zeh_,s1,s2,zab_,zeg_]
end
end Go.Proofs.Sl
namespace Go.Proofs.Sl
def zvp_ (o:Oper):Bool:=match o with
 | { dst:=some 13,op:=.call c,guard:=none,.. }=>(match c.callee,c.args.toList with
  | .value (.tmp 11),[.tmp 12]=>true
  | _,_=>false)
 | _=>false
def zvq_ (P:Program) (φ:Nat→Option FuncId) (fn:Func) (k lim:Nat) (z:List V):Bool:=match fn.body with
 | some (.seq (.region _ o0 false) (.seq (.seq (.region _ o1 false) (.block _ (.rangeFunc (.tmp 6) ps (.region _ o2 false) (.block _ (.region _ o3 false))))) (.seq (.region _ o4 false) .ret))) =>
  ps == #[7] && chkXs P φ 13 o0 o0.toList seqX0 && chkXs P φ 13 o1 o1.toList seqX1 && chkXs P φ 13 o2 o2.toList (seqX2 k z) && chkXs P φ 13 o3 o3.toList (seqX3 k lim) && chkXs P φ 13 o4 o4.toList seqX4 &&
   fn.ntmps == 13 && (match fn.results.toList with
    | [.tmp 4]=>true
    | _=>false)
 | _=>false
def zqz_ (P:Program) (φ:Nat→Option FuncId) (fn:Func) (k:Nat) (z:List V):Bool:=match fn.body with
 | some (.seq (.region _ o0 false) (.block b0 (.loop (.seq (.region _ o1 false) (.seq (.cond (.tmp 8) .skip (.exit e0)) (.seq (.block b1 (.seq (.region _ o2 false) (.seq (.region _ o3 false) (.cond (.tmp 14) .ret .skip)))) (.region _ o4 false))))))) =>
  b0 == e0 && chkXs P φ 16 o0 o0.toList valX0 && chkXs P φ 16 o1 o1.toList valX1 && chkXs P φ 16 o2 o2.toList (valX2 k z) && (match o3.toList with
   | [a,b,c,d]=>chkX P φ 16 o3 a ⟨some 11,.cp (.t 0),none⟩ && chkX P φ 16 o3 b ⟨some 12,.load k true (.t 4),none⟩ && zvp_ c && chkX P φ 16 o3 d ⟨some 14,.un .not (.t 13),none⟩
   | _=>false) && chkXs P φ 16 o4 o4.toList valX4 && fn.ntmps == 16 && fn.results.toList.isEmpty
 | _=>false
section
variable {P:Program} {φ:Nat→Option FuncId} {h h':H} {g g':G} {w w':World} {N:Nat} {s:Sl} {a:Act} {ops:Array Oper} {h0:H} {g0:G} {w0:World} {cf:CallF} {base:Nat}
theorem zvr_ {F:Fence} {n:Nat} (hF:∀ f,F.fn f) {i:Nat} {o:Oper} {x:XOp} (ho:ops[i]?=some o) (k:chkX P φ N ops o x=true) (nc:noCall x.op=true) {st st':St} (so:SO φ N h0 g0 w0 st a w) (e:xstep cf base x st=some st') {K:Act→World→Prop} {Q:Exit→Act→World→Prop}
  (hK:∀ a' w',SO φ N h0 g0 w0 st' a' w'→K a' w'):wpOpIn F n P ops Q i K a w:=by
 have hd:∀ a' w' st,SO φ N h0 g0 w0 st a' w'→withD a' []=a':=by
  rintro a' w' st ⟨g,_,_,S⟩
  rw [← S.defers]
  rfl
 have:=zbfm_ (n:=n) hF ho k nc so e [] (K:=K) (Q:=Q) (fun a' w' so'=>by rw [hd _ _ _ so']; exact hK a' w' so')
 rw [hd _ _ _ so] at this
 exact this
structure JS (φ:Nat→Option FuncId) (g0:G) (w0:World) (s2:Sl) (a2:Act) (l D:Nat) (rec:Loop) (k:Nat) (pre:List (List Value)) (hh:H) (g:G) (W:World):Prop where
 R:SR φ hh g W
 X:Ext [] g0 w0 hh g W
 S:Slots φ g hh 13 s2 a2
 box:hh[0]?=some (.box false [bv k pre])
 L:W.heap[l]?=some (.loop rec)
 K:W.heap[D]?=some (.deferred (some []))
 lw:w0.heap.size≤l
section
variable {s2:Sl} {a2:Act} {l D k:Nat} {rec rec':Loop} {pre pre':List (List Value)} {hh hh':H} {W W':World}
theorem JS.step (J:JS φ g0 w0 s2 a2 l D rec k pre hh g W) (R':SR φ hh' g' W') (X':Ext hh g W hh' g' W') (hb:hh'[0]?=some (.box false [bv k pre'])):JS φ g0 w0 s2 a2 l D rec k pre' hh' g' W' :=
 ⟨R',J.X.trans X',J.S.later X'.later,hb,X'.other J.R J.L rfl,X'.other J.R J.K rfl,J.lw⟩
theorem JS.put (J:JS φ g0 w0 s2 a2 l D rec k pre hh g W) (rec':Loop) (hD:D≠l):JS φ g0 w0 s2 a2 l D rec' k pre hh g (W.putObj l (.loop rec')):=by
 have C:Calm w0.heap.size W (W.putObj l (.loop rec')):=Calm.put J.lw J.L rfl _
 exact ⟨J.R.calm C,J.X.calm C,J.S,J.box,World.putObj_heap_same (Array.getElem?_eq_some_iff.1 J.L).1,(World.putObj_heap_other hD).trans J.K,J.lw⟩
end
theorem zceh_ {o2 o3:Array Oper} {i2 i3 b1:Nat} {s2:Sl} {a2:Act} {l D k lim:Nat} {z:List V} {rec:LoopState→Option Code→Loop} {pre:List (List Value)} {hh:H} {W:World} {fn':FuncId} {m:Nat}
  (hrec:rec=fun st pe=>{ state:=st,pending:=pe,fn:=fn',tmps:=a2.tmps,params:=#[7],assign:=.region i2 o2 false,body:=.block b1 (.region i3 o3 false),defers:=D })
  (k2:chkXs P φ 13 o2 o2.toList (seqX2 k z)=true) (k3:chkXs P φ 13 o3 o3.toList (seqX3 k lim)=true) (hz:z.length=k) (hp:plainZ z) (hD:D≠l) (hs2:s2 2=.ptr 0 0)
  (J:JS φ g0 w0 s2 a2 l D (rec .ready none) k pre hh g W) {c:List Value} (hc:OkC k c) (hl:pre.length + 1≤lim) {mv:Value} (hm:Sl.rel φ g hh false (opq c) mv) {R:Ending→World→Prop}
  (hR:∀ hh' g' W',JS φ g0 w0 s2 a2 l D (rec .ready none) k (pre++[c]) hh' g' W'→Later g hh g' hh'→R (.returned (.bool true)) W') :
  (Instr.yield l #[mv]).run P W=.ok (.round l fn' (a2.tmps.setIfInBounds 7 mv) (.region i2 o2 false) (.block b1 (.region i3 o3 false))) W ∧
  RoundIn Fence.wide m P l fn' (a2.tmps.setIfInBounds 7 mv) (.region i2 o2 false) (.block b1 (.region i3 o3 false)) W R:=by
 have hF:∀ f,(Fence.wide.inRound l).fn f:=fun _=>trivial
 constructor
 ·have:=run_yield (P:=P) (args:=#[mv]) J.L (by rw [hrec]; rfl)
  rw [hrec] at this
  simpa using this
 ·refine roundIn_of_wpIn trivial ?_
  have S7:Slots φ g hh 13 (upd s2 7 (opq c)) { tmps:=a2.tmps.setIfInBounds 7 mv,defers:=[] }:=by
   have:=J.S.put (d:=some 7) (fun t e=>by cases e; decide) hm
   have e:a2.put (some 7) mv={ tmps:=a2.tmps.setIfInBounds 7 mv,defers:=[] }:=by
    simp only [Act.put]
    rw [J.S.defers]
   rw [e] at this
   exact this
  have h0:0 < hh.length:=(List.getElem?_eq_some_iff.1 J.box).1
  refine zej_ (cf:=fun _ _ _=>none) (base:=0) hF k2 rfl ⟨g,J.R,Ext.refl _ _ _,S7⟩ (zcea_ hc hz hp rfl) ?_ _
  rintro a3 W3 ⟨g3,R3,X3,S3⟩
  have J3:=J.step R3 X3 (pre':=pre) (by rw [List.getElem?_append_left h0]; exact J.box)
  refine ⟨_,run_beginRound J3.L (by rw [hrec]),?_⟩
  have J4:=J3.put (rec .busy none) hD
  have e4:({ rec .ready none with state:=.busy }:Loop)=rec .busy none:=by rw [hrec]
  rw [e4]
  obtain ⟨s5,hh5,e5,hb5,hl5⟩:=zceb_ (cf:=fun _ _ _=>none) (base:=0) (s:=upd (upd s2 7 (opq c)) 5 (.ptr hh.length 0)) (hh:=hh++[.box false (c.map V.s)]) (q:=hh.length) (lim:=lim) hc hs2 rfl J4.box (by rw [zkb_]; rfl) hl
  refine wpIn_block ?_
  refine zej_ (cf:=fun _ _ _=>none) (base:=0) hF k3 rfl ⟨g3,J4.R,Ext.refl _ _ _,S3⟩ e5 ?_ _
  rintro a6 W6 ⟨g6,R6,X6,S6⟩
  have J6:=J4.step R6 X6 hb5
  refine ⟨_,_,run_endRound none J6.L,?_⟩
  have J7:=J6.put (rec .ready none) hD
  have e7:({ rec .busy none with state:=if (none:Option Code).isNone then .ready else .done,pending:=none }:Loop)=rec .ready none:=by rw [hrec]; rfl
  rw [e7]
  have LL:=X3.later.trans X6.later
  exact hR _ _ _ J7 LL
theorem zcei_ {o:Oper} (ho:zvp_ o=true) {l:Nat} {mv:Value} {nx:Next} {W:World} {a:Act} (h11:a.eval (.tmp 11)=.func (.yield l) #[] #[]) (h12:a.eval (.tmp 12)=mv) (hy:(Instr.yield l #[mv]).run P W=.ok nx W) :
  o.dst=some 13∧o.guard=none∧(execOp a.eval o).run P W=.ok nx W∧∀ c,o.op≠.defer c:=by
 unfold zvp_ at ho
 split at ho
 ·rename_i c _ _ _
  split at ho
  ·rename_i hc ha
   refine ⟨rfl,rfl,?_,fun c h=>by cases h⟩
   have hargs:c.args.map a.eval=#[mv]:=by
    apply Array.ext'
    simp [ha,h12]
   simp only [execOp,resolve,hc,h11,Deferred.ofValue,Sem.run_bind,Sem.run_pure,Result.andThen_ok,invoke,hargs,hy]
   simp [hy]
  ·cases ho
 ·cases ho
theorem zcej_ {fV:Func} {vid:FuncId} (hV:P.funcs[vid]?=some fV) {k lim:Nat} {z:List V} (kV:zqz_ P φ fV k z=true) (hz:z.length=k) (hp:plainZ z)
  {o2 o3:Array Oper} {i2 i3 b1:Nat} {s2:Sl} {a2:Act} {l D:Nat} {rec:LoopState→Option Code→Loop} {fn':FuncId}
  (hrec:rec=fun st pe=>{ state:=st,pending:=pe,fn:=fn',tmps:=a2.tmps,params:=#[7],assign:=.region i2 o2 false,body:=.block b1 (.region i3 o3 false),defers:=D })
  (k2:chkXs P φ 13 o2 o2.toList (seqX2 k z)=true) (k3:chkXs P φ 13 o3 o3.toList (seqX3 k lim)=true) (hD:D≠l) (hs2:s2 2=.ptr 0 0)
  {L:V} {cs:List (List Value)} (hL:L=vnil∧cs=[]∨L=.lst k (cs.map opq)) (hc:∀ c ∈ cs,OkC k c) (hlim:cs.length≤lim) (hbig:lim < 4611686018427387904)
  {hh:H} {g:G} {W:World} (J:JS φ g0 w0 s2 a2 l D (rec .ready none) k [] hh g W) {C:Array Value} (rC:rels φ g hh false [.fptr (.agg [L]) 0] C.toList) (m:Nat) :
  CallsIn Fence.wide m P vid (#[.func (.yield l) #[] #[]]++C) W fun e W'=>(∃ v,e=.returned v)∧∃ hh g,JS φ g0 w0 s2 a2 l D (rec .ready none) k cs hh g W':=by
 have hF:∀ f,Fence.wide.fn f:=fun _=>trivial
 have hFr:Fence.wide.round=none:=rfl
 unfold zqz_ at kV
 split at kV
 rotate_left
 ·cases kV
 rename_i j0 p0 b0 j1 p1 e0 b2 j2 p2 j3 p3 j4 p4 hbody
 simp only [Bool.and_eq_true,beq_iff_eq] at kV
 obtain ⟨⟨⟨⟨⟨⟨⟨hb0,v0⟩,v1⟩,v2⟩,v3⟩,v4⟩,hn⟩,hres⟩:=kV
 subst hb0
 split at v3
 rotate_left
 ·cases v3
 rename_i y0 y1 y2 y3 hy3
 simp only [Bool.and_eq_true] at v3
 obtain ⟨⟨⟨u0,u1⟩,u2⟩,u3⟩:=v3
 have hn3:p3.size=4:=by rw [← Array.length_toList,hy3]; rfl
 have q0:p3[0]?=some y0:=by rw [← Array.getElem?_toList,hy3]; rfl
 have q1:p3[1]?=some y1:=by rw [← Array.getElem?_toList,hy3]; rfl
 have q2:p3[2]?=some y2:=by rw [← Array.getElem?_toList,hy3]; rfl
 have q3:p3[3]?=some y3:=by rw [← Array.getElem?_toList,hy3]; rfl
 let Y:V:=.s (.func (.yield l) #[] #[])
 have hLL:L.toL hh=some (cs.map opq):=by rcases hL with ⟨rfl,rfl⟩ | rfl <;> rfl
 refine callsIn_of_wp hV hbody trivial ?_
 have rA:rels φ g hh false [Y,.fptr (.agg [L]) 0] ([.func (.yield l) #[] #[]]++C.toList):=zaj_.2 ⟨rel_of rfl,rC⟩
 have hlen:=zah_ rC
 have Sv:=zqp_ (n:=16) rA (by simp)
 have eA:([Value.func (.yield l) #[] #[]]++C.toList).toArray=#[.func (.yield l) #[] #[]]++C:=by apply Array.ext'; simp
 rw [eA] at Sv
 rw [hn]
 refine wpIn_seq (zej_ (cf:=fun _ _ _=>none) (base:=0) hF v0 rfl ⟨g,J.R,Ext.refl _ _ _,Sv⟩ (zcec_ _ _ _ hLL) ?_ _)
 rintro a1 W1 ⟨g1,R1,X1,S1⟩
 have J1:=J.step R1 X1 J.box
 refine wpIn_block ?_
 let mu:Act→World→Nat:=fun a _=>cs.length - (match a.tmps.getD 7 undef with
  | .int _ x=>x.toNat
  | _=>0)
 refine wpIn_loop (fun a W=>∃ j hh g sv,j≤cs.length∧JS φ g0 w0 s2 a2 l D (rec .ready none) k (cs.take j) hh g W∧Slots φ g hh 16 sv a∧sv 0=Y∧sv 5=L∧sv 6=vi cs.length∧sv 7=vi j) mu
  ⟨0,hh,g1,_,Nat.zero_le _,J1,S1,rfl,rfl,by simp [upd],rfl⟩ ?_
 rintro a W ⟨j,hh,g,sv,hj,J,S,h0,h5,h6,h7⟩
 have h7t:a.tmps.getD 7 undef=.int .i64 j:=by
  have:=S.rel 7 (by decide)
  rw [h7] at this
  exact rel_s this
 refine wpIn_seq (zej_ (cf:=fun _ _ _=>none) (base:=0) hF v1 rfl ⟨g,J.R,Ext.refl _ _ _,S⟩ (zced_ h7 h6) ?_ _)
 rintro a2' W2 ⟨g2,R2,X2,S2⟩
 have J2:=J.step R2 X2 J.box
 have h8t:a2'.eval (.tmp 8)=.bool (decide ((j:Int) < cs.length)):=rel_s (S2.rel 8 (by decide))
 by_cases hlt:j < cs.length
 ·have hd:decide ((j:Int) < cs.length)=true:=by simp; omega
  rw [hd] at h8t
  refine wpIn_seq (wpIn_cond_true h8t (wpIn_skip ?_))
  obtain ⟨c,hcj⟩:∃ c,cs[j]?=some c:=⟨_,List.getElem?_eq_getElem hlt⟩
  have hok:=hc c (List.mem_of_getElem? hcj)
  have hL':L=.lst k (cs.map opq):=by
   rcases hL with ⟨_,rfl⟩ | h
   ·simp at hlt
   ·exact h
  refine wpIn_seq (wpIn_block (wpIn_seq (zej_ (cf:=fun _ _ _=>none) (base:=0) hF v2 rfl ⟨g2,J2.R,Ext.refl _ _ _,S2⟩ (zcee_ (cs:=cs) (j:=j) hok hz hp (h5.trans hL') h7 hcj) ?_ _)))
  rintro a3 W3 ⟨g3,R3,X3,S3⟩
  have hpos:0 < hh.length:=(List.getElem?_eq_some_iff.1 J.box).1
  have J3:=J2.step R3 X3 (pre':=cs.take j) (by rw [List.getElem?_append_left hpos]; exact J.box)
  refine wpIn_seq (wpIn_region ?_)
  rw [hn3,show List.range 4=[0,1,2,3] from rfl,wpOpsIn_cons]
  refine zvr_ (cf:=fun _ _ _=>none) (base:=0) hF q0 u0 rfl ⟨g3,J3.R,Ext.refl _ _ _,S3⟩ (st':=⟨upd (upd (upd (upd (upd sv 8 (vb true)) 9 (.fptr (opq c) 0)) 10 (opq c)) 4 (.ptr hh.length 0)) 11 Y,hh++[.box false (c.map V.s)]⟩) (by rw [← h0,hd]; rfl) ?_
  rintro a4 W4 ⟨g4,R4,X4,S4⟩
  have J4:=J3.step R4 X4 J3.box
  rw [wpOpsIn_cons]
  have hld:xload (hh++[.box false (c.map V.s)]) k true (.ptr hh.length 0)=some (opq c):=by
   have ht:(c.map V.s).take k=c.map V.s:=List.take_of_length_le (by simp [hok.1])
   unfold xload boxAt
   simp only [zkb_,List.getElem?_cons_zero,zab_,if_true,rdRow,zbfs_,List.length_map,hok.1,Nat.zero_add,Nat.le_refl,List.drop_zero,ht,opq]
  refine zvr_ (cf:=fun _ _ _=>none) (base:=0) hF q1 u1 rfl ⟨g4,J4.R,Ext.refl _ _ _,S4⟩ (st':=⟨upd (upd (upd (upd (upd (upd sv 8 (vb true)) 9 (.fptr (opq c) 0)) 10 (opq c)) 4 (.ptr hh.length 0)) 11 Y) 12 (opq c),hh++[.box false (c.map V.s)]⟩) ?_ ?_
  ·show ob (ob (xload (hh++[.box false (c.map V.s)]) k true (.ptr hh.length 0)) fun v=>some (v,hh++[.box false (c.map V.s)])) (fun p=>some (⟨put _ (some 12) p.1,p.2⟩:St))=_
   rw [hld,zab_,zab_]
   rfl
  rintro a5 W5 ⟨g5,R5,X5,S5⟩
  have J5:=J4.step R5 X5 J4.box
  have h11:a5.eval (.tmp 11)=.func (.yield l) #[] #[]:=rel_s (S5.rel 11 (by decide))
  have h12:=S5.rel 12 (by decide)
  have htk:cs.take j++[c]=cs.take (j + 1):=by rw [List.take_add_one,hcj]; rfl
  rw [wpOpsIn_cons]
  have RW:=fun (R:Ending→World→Prop) (hR:∀ hh' g' W',JS φ g0 w0 s2 a2 l D (rec .ready none) k (cs.take (j + 1)) hh' g' W'→Later g5 (hh++[.box false (c.map V.s)]) g' hh'→R (.returned (.bool true)) W') =>
   zceh_ (P:=P) (m:=m - 1) hrec k2 k3 hz hp hD hs2 J5 hok (by simp; omega) (mv:=a5.eval (.tmp 12)) h12 (R:=R) (by rw [htk]; exact hR)
  obtain ⟨hdst,hgd,hrun,hndf⟩:=zcei_ u2 h11 rfl (RW (fun _ _=>True) (fun _ _ _ _ _=>trivial)).1
  simp only [wpOpIn,q2]
  rw [if_pos (by simp [Region.wanted,hgd])]
  refine ⟨fun _ _=>trivial,?_⟩
  rw [Oper.semAt_eq _ _ _ hndf,hrun,Oper.uponIn_round]
  refine ⟨fun h=>absurd h (by decide),(RW _ ?_).2⟩
  rintro hh6 g6 W6 J6 L6
  show wpOpsIn Fence.wide m P p3 _ [3] (a5.put y2.dst (.bool true)) W6
  rw [hdst,wpOpsIn_cons]
  have S6:=(S5.later L6).put (d:=some 13) (fun t e=>by cases e; decide) (v:=vb true) (mv:=.bool true) (rel_of rfl)
  refine zvr_ (cf:=fun _ _ _=>none) (base:=0) hF q3 u3 rfl (st:=⟨_,hh6⟩) ⟨g6,J6.R,Ext.refl _ _ _,S6⟩ (st':=⟨upd (upd (upd (upd (upd (upd (upd (upd sv 8 (vb true)) 9 (.fptr (opq c) 0)) 10 (opq c)) 4 (.ptr hh.length 0)) 11 Y) 12 (opq c)) 13 (vb true)) 14 (vb false),hh6⟩) rfl ?_
  rintro a7 W7 ⟨g7,R7,X7,S7⟩
  have J7:=J6.step R7 X7 J6.box
  have h14:a7.eval (.tmp 14)=.bool false:=rel_s (S7.rel 14 (by decide))
  show (Code.cond (.tmp 14) .ret .skip).wpIn _ _ _ _ _ _
  refine wpIn_cond_false h14 (wpIn_skip ?_)
  show (Code.region j4 p4 false).wpIn _ _ _ _ _ _
  refine zej_ (cf:=fun _ _ _=>none) (base:=0) hF v4 rfl ⟨g7,J7.R,Ext.refl _ _ _,S7⟩ (zcef_ (j:=j) h7 (by omega)) ?_ _
  rintro a8 W8 ⟨g8,R8,X8,S8⟩
  have J8:=J7.step R8 X8 J7.box
  refine ⟨⟨j + 1,hh6,g8,_,hlt,J8,S8,h0,h5,h6,rfl⟩,?_⟩
  have h7t':a8.tmps.getD 7 undef=.int .i64 ((j + 1:Nat):Int):=rel_s (S8.rel 7 (by decide))
  show cs.length - (match a8.tmps.getD 7 undef with
   | .int _ x=>x.toNat
   | _=>0) < cs.length - (match a.tmps.getD 7 undef with
   | .int _ x=>x.toNat
   | _=>0)
  rw [h7t,h7t']
  show cs.length - ((j + 1:Nat):Int).toNat < cs.length - ((j:Nat):Int).toNat
  rw [Int.toNat_natCast,Int.toNat_natCast]
  omega
 ·have hd:decide ((j:Int) < cs.length)=false:=by simp; omega
  rw [hd] at h8t
  refine wpIn_seq (wpIn_cond_false h8t (wpIn_exit ?_))
  obtain rfl:j=cs.length:=by omega
  rw [List.take_length] at J2
  show Exit.inBlock b0 _ (.exit b0) _ _
  simp only [Exit.inBlock,if_true]
  refine ⟨S2.defers,?_⟩
  have hr0:fV.results=#[]:=by
   apply Array.ext'
   simpa using hres
  refine ⟨.tuple #[],?_,⟨_,rfl⟩,_,_,J2⟩
  simp [results,hr0]
end
end Go.Proofs.Sl
namespace Go.Proofs.Sl
section
variable {P:Program} {φ:Nat→Option FuncId} {g g':G} {w w':World}
theorem zbfv_ {fA fV:Func} {id vid it:Nat} (hA:P.funcs[id]?=some fA) (hV:P.funcs[vid]?=some fV) (hit:φ it=some vid) {k lim:Nat} {z:List V} (kA:zvq_ P φ fA k lim z=true) (kV:zqz_ P φ fV k z=true) (hz:z.length=k) (hp:plainZ z) (hbig:lim < 4611686018427387904) (Tk:TOk P φ)
  {L:V} {cs:List (List Value)} (hL:L=vnil∧cs=[]∨L=.lst k (cs.map opq)) (hc:∀ c ∈ cs,OkC k c) (hlim:cs.length≤lim) (R:SR φ [] g w) {ms:List Value} (r:rels φ g [] false [vnil,.fn it [] [.fptr (.agg [L]) 0]] ms) :
  Calls P id ms.toArray w fun e w'=>∃ mv gf hh,e=.returned mv∧SR φ hh gf w'∧Ext [] g w hh gf w'∧hh[0]?=some (.box false [bv k cs])∧rel φ gf hh false (rdCell 0 0 (bv k cs)) mv:=by
 have hF:∀ f,Fence.wide.fn f:=fun _=>trivial
 unfold zvq_ at kA
 split at kA
 rotate_left
 ·cases kA
 rename_i i0 o0 i1 o1 c1 ps i2 o2 c2 i3 o3 i4 o4 hbody
 simp only [Bool.and_eq_true,beq_iff_eq] at kA
 obtain ⟨⟨⟨⟨⟨⟨⟨rfl,k0⟩,k1⟩,k2⟩,k3⟩,k4⟩,hn⟩,hres⟩:=kA
 split at hres
 rotate_left
 ·cases hres
 rename_i hr4
 have hlen:=zah_ r
 refine (callsIn_wide (n:=0)).1 ?_
 refine callsIn_of_wp_marks hA hbody trivial ?_
 have Sa:=zqp_ (n:=13) r (by simp)
 rw [hn]
 refine wpIn_seq (zej_ (cf:=fun _ _ _=>none) (base:=0) hF k0 rfl ⟨g,R,Ext.refl _ _ _,Sa⟩ (zcdy_ _) ?_ _)
 rintro a1 w1 ⟨g1,R1,X1,S1⟩
 refine wpIn_seq (wpIn_seq (zej_ (cf:=fun _ _ _=>none) (base:=0) hF k1 rfl ⟨g1,R1,X1,S1⟩ zcdz_ ?_ _))
 rintro a2 w2 ⟨g2,R2,X2,S2⟩
 obtain ⟨s2,hs2⟩:∃ s2,s2=upd (upd (upd (args0 [vnil,.fn it [] [.fptr (.agg [L]) 0]]) 2 (.ptr 0 0)) 4 vnil) 6 (upd (upd (args0 [vnil,.fn it [] [.fptr (.agg [L]) 0]]) 2 (.ptr 0 0)) 4 vnil 1):=⟨_,rfl⟩
 replace S2:Slots φ g2 [.box false [vnil]] 13 s2 a2:=by rw [hs2]; exact S2
 replace R2:SR φ [.box false [vnil]] g2 w2:=R2
 replace X2:Ext [] g w [.box false [vnil]] g2 w2:=X2
 have h2:s2 2=.ptr 0 0:=by rw [hs2]; rfl
 have h6:=S2.rel 6 (by decide)
 rw [show s2 6=.fn it [] [.fptr (.agg [L]) 0] by rw [hs2]; rfl] at h6
 simp only [rel] at h6
 obtain ⟨id',A,C,e1,e2,rA,rC⟩:=h6
 rw [hit] at e1
 injection e1 with e1
 subst e1
 rw [zad_] at rA
 have hA0:A=#[]:=Array.ext' (by simpa using rA)
 subst hA0
 have hg:a2.eval (.tmp 6)=.func (.func vid) #[] C:=e2
 refine wpIn_block (wpIn_rangeFunc ?_)
 intro fn' _
 obtain ⟨rec,hrec⟩:∃ rec:LoopState→Option Code→Loop,rec=fun st pe=>{ state:=st,pending:=pe,fn:=fn',tmps:=a2.tmps,params:=#[7],assign:=.region i2 o2 false,body:=.block c2 (.region i3 o3 false),defers:=w2.heap.size }:=⟨_,rfl⟩
 obtain ⟨W1,hW1⟩:∃ W1,(w2.alloc (.deferred (some []))).alloc (.loop (rec .ready none))=W1:=⟨_,rfl⟩
 have hL1:W1.heap[w2.heap.size + 1]?=some (.loop (rec .ready none)):=by
  rw [← hW1]; have:=World.alloc_heap_new (w2.alloc (.deferred (some []))) (.loop (rec .ready none)); rwa [World.size_alloc] at this
 have hK1:W1.heap[w2.heap.size]?=some (.deferred (some [])):=by
  rw [← hW1]; rw [zbm_ (by simp)]; exact World.alloc_heap_new w2 _
 have CC:=(R2.calm (Calm.alloc w.heap.size w2 (.deferred (some [])))).calm (Calm.alloc w.heap.size _ (.loop (rec .ready none)))
 have XX:=(X2.calm (Calm.alloc w.heap.size w2 (.deferred (some [])))).calm (Calm.alloc w.heap.size _ (.loop (rec .ready none)))
 rw [hW1] at CC XX
 have J:JS φ g w s2 a2 (w2.heap.size + 1) w2.heap.size (rec .ready none) k [] [.box false [vnil]] g2 W1:=⟨CC,XX,S2,rfl,hL1,hK1,by have:=X2.size; omega⟩
 refine ⟨w2.heap.size + 1,[{ target:=.collected w2.heap.size,args:=#[] }],W1,{ target:=.fn (.func vid) C,args:=#[.func (.yield (w2.heap.size + 1)) #[] #[]] },W1,vid,
  #[.func (.yield (w2.heap.size + 1)) #[] #[]]++C,W1,?_,?_,fun _ _=>trivial,?_,fun h=>absurd h (by decide),?_⟩
 ·rw [← hW1,hrec]; exact run_enterLoop_outer _ _ _ _ _
 ·simp only [resolve,hg]
  simp [go_sem]
 ·simp only [invoke,Tk.run hit]
 ·refine (zcej_ hV kV hz hp hrec k2 k3 (by omega) h2 hL hc hlim hbig J rC _).mono ?_
  rintro e W2 ⟨⟨v,rfl⟩,hh,g3,J3⟩
  have hpn:(rec .ready none).pending=none:=by rw [hrec]
  have hend:=run_endLoop (P:=P) J3.L (by rw [hrec]; simp)
  rw [hpn] at hend
  refine ⟨none,_,hend,?_⟩
  have J4:=J3.put { rec .ready none with state:=.exhausted,pending:=none } (by omega)
  show Exit.inBlock c1 _ .normal _ _
  simp only [Exit.inBlock]
  have hds:a2.defers=[]:=S2.defers
  rw [hds]
  refine wpIn_seq (zbfp_ (cf:=fun _ _ _=>none) (base:=0) (a:=a2) hF k4 rfl [{ target:=.collected w2.heap.size,args:=#[] }] ⟨g3,J4.R,Ext.refl _ _ _,J4.S⟩ (zceg_ h2 J4.box) ?_ _)
  rintro a5 W5 ⟨g5,R5,X5,S5⟩
  have J5:=J4.step R5 X5 J4.box
  refine wpIn_ret ?_
  refine ⟨by simp,.inl ⟨_,_,rfl,run_takeDeferred J5.K,?_⟩⟩
  have C6:Calm w.heap.size W5 (W5.putObj w2.heap.size (.deferred none)):=Calm.put X2.size J5.K rfl _
  have hr:fA.results=#[.tmp 4]:=by
   apply Array.ext'
   simpa using hr4
  refine ⟨a5.tmps.getD 4 undef,?_,a5.tmps.getD 4 undef,g5,hh,rfl,J5.R.calm C6,J5.X.calm C6,J5.box,S5.rel 4 (by decide)⟩
  simp [results,hr,withD]
variable {h h':H}
theorem zra_ (key:Key):¬ live [] key:=by
 intro h
 cases key with
 | obj l=>rcases h with ⟨z,cs,e⟩ | ⟨z,k,es,e⟩ | ⟨es,e⟩ <;> simp at e
 | cell l o=>obtain ⟨x,n,e,_⟩:=h; simp [cellAt] at e
theorem SR.empty (R:SR φ h g w):SR φ [] g w :=
 ⟨fun l z cs e=>by simp at e,fun l z k es e=>by simp at e,fun l o x n e k=>by simp [cellAt] at e,fun a b ha hb e=>absurd ha (zra_ a),R.mem,fun l es e=>by simp at e⟩
theorem Ext.old {h':H} (X:Ext [] g w h' g' w'):Calm w.heap.size w w' where
 os:=X.os
 tape:=X.tape
 output:=X.output
 size:=X.size
 drawn:=X.drawn
 low:=fun k _ hk=>X.frame k hk fun key hl=>absurd hl (zra_ key)
 cells:=fun k o e _=>by rw [X.frame k (Array.getElem?_eq_some_iff.1 e).1 fun key hl=>absurd hl (zra_ key)]; exact e
theorem zbfw_ {h:H} {z:Bool}:∀ (l:List Value),(∀ x ∈ l,V.cell (.s x)=true)→rels φ g h z (l.map V.s) l
 | [],_=>zad_.2 rfl
 | x :: l,hx=>zaj_.2 ⟨rel_of (by
   have:=hx x (by simp)
   cases x <;> first | rfl | cases this),zbfw_ l fun y hy=>hx y (List.mem_cons_of_mem _ hy)⟩
theorem zbfx_ {h:H} {z:Bool}:∀ {l ms:List Value},rels φ g h z (l.map V.s) ms→ms=l
 | [],ms,r=>zad_.1 r
 | x :: l,ms,r=>by
  obtain ⟨m,s,rfl,r1,r2⟩:=zam_.1 r
  rw [rel_s r1,zbfx_ r2]
theorem zbfy_ {h:H} {z:Bool}:∀ {cs:List (List Value)} {ms:List Value},rels φ g h z (cs.map opq) ms→ms=cs.map fun c=>.agg c.toArray
 | [],ms,r=>zad_.1 r
 | c :: cs,ms,r=>by
  obtain ⟨m,s,rfl,r1,r2⟩:=zam_.1 r
  rw [zbfy_ r2]
  simp only [opq,rel] at r1
  obtain ⟨a,rfl,r1⟩:=r1
  have:=zbfx_ r1
  simp only [List.map_cons,List.cons.injEq,and_true]
  congr 1
  apply Array.ext'
  simpa using this
theorem opq_of {k:Nat}:∀ {es:List V} {ms:List Value},rels φ g h true es ms→wide k es=true→allAgg es=true→∃ cs:List (List Value),ms=(cs.map fun c=>.agg c.toArray)∧(∀ c ∈ cs,OkC k c)∧∀ h' z,rels φ g h' z (cs.map opq) ms
 | [],ms,r,_,_=>⟨[],by simpa using zad_.1 r,by simp,fun h' z=>by rw [zad_.1 r]; exact zad_.2 rfl⟩
 | e :: es,ms,r,hw,ha=>by
  obtain ⟨m,s,rfl,r1,r2⟩:=zam_.1 r
  obtain ⟨w1,w2,w3⟩:=zcd_.1 hw
  have ha':allAgg es=true∧∃ c,e=.agg c:=by cases e <;> first | exact ⟨ha,_,rfl⟩ | cases ha
  obtain ⟨cs,rfl,hc,hr⟩:=opq_of r2 w3 ha'.1
  obtain ⟨c,rfl⟩:=ha'.2
  simp only [rel] at r1
  obtain ⟨a,rfl,r1⟩:=r1
  have hone:=zfe_ r1 w2
  have hcell:∀ x ∈ a.toList,V.cell (.s x)=true:=fun x hx=>by
   have:=hone x hx
   cases x <;> first | rfl | cases this
  refine ⟨a.toList :: cs,by simp,?_,fun h' z=>?_⟩
  ·intro c' hc'
   rcases List.mem_cons.1 hc' with rfl | hc'
   ·exact ⟨by rw [← zah_ r1]; simpa using w1,hcell⟩
   ·exact hc c' hc'
  ·rw [List.map_cons,zaj_]
   refine ⟨?_,hr h' z⟩
   simp only [opq,rel]
   exact ⟨a,rfl,zbfw_ _ hcell⟩
theorem natSeq {fA fV:Func} {id vid it:Nat} (hA:P.funcs[id]?=some fA) (hV:P.funcs[vid]?=some fV) (hit:φ it=some vid) {k lim:Nat} {z:List V} (kA:zvq_ P φ fA k lim z=true) (kV:zqz_ P φ fV k z=true) (hz:z.length=k) (hp:plainZ z) (hbig:lim < 4611686018427387904) (Tk:TOk P φ) :
  NatOk P φ id (.seq it k lim):=by
 intro cf F HG args h v h' e g w ms R r
 simp only [xnat] at e
 unfold xseq at e
 split at e
 ·split at e
  rotate_left
  ·cases e
  rename_i f hf
  subst hf
  injection e with e
  injection e with e1 e2
  subst e1 e2
  have r':rels φ g [] false [vnil,.fn f [] [.fptr (.agg [vnil]) 0]] ms:=zal_ (fun _ _ _ e=>e) false _ _ (zbt_ _ _ rfl r)
  refine (zbfv_ hA hV hit kA kV hz hp hbig Tk (.inl ⟨rfl,rfl⟩) (by simp) (by simp) R.empty r').mono ?_
  rintro ee w' ⟨mv,gf,hh,rfl,R1,X1,_,rm⟩
  exact ⟨mv,g,rfl,R.calm X1.old,(Ext.refl _ _ _).calm X1.old,by have:=rel_s rm; subst this; exact (rel_of rfl:rel φ g h false vnil _)⟩
 ·split at e
  rotate_left
  ·cases e
  rename_i f k' es hcond
  obtain ⟨rfl,rfl,hle,hw,hcl,hag⟩:=hcond
  obtain ⟨m1,s1,rfl,r1,rt⟩:=zam_.1 r
  obtain ⟨m2,s2,rfl,r2,r3⟩:=zam_.1 rt
  rw [zad_] at r3
  subst r3
  simp only [rel] at r2
  obtain ⟨id',A,C,e1,rfl,rA,rC0⟩:=r2
  obtain ⟨mC,sC,eC,rC,r4⟩:=zam_.1 rC0
  rw [zad_] at r4
  subst r4
  simp only [rel] at rC
  obtain ⟨b,q,m,rfl,⟨a,rfl,ra⟩,hM⟩:=rC
  obtain ⟨mL,sL,ea,rL,r5⟩:=zam_.1 ra
  rw [zad_] at r5
  subst r5
  simp only [rel] at rL
  -- the elements as their cells
  obtain ⟨cs,msE,hlenE,hcs,hcE,rE,rL'⟩:∃ (cs:List (List Value)) (msE:List Value),cs.length=es.length∧msE=(cs.map fun c=>.agg c.toArray)∧(∀ c ∈ cs,OkC k' c)∧rels φ g h true es msE∧rel φ g [] true (.lst k' (cs.map opq)) mL:=by
   rcases rL with ⟨b',o,c,ms',rfl,hc,rr,row⟩ | ⟨rfl,a',c,rfl⟩
   ·obtain ⟨cs,hms,hok,hrel⟩:=opq_of rr hw hag
    have hl:cs.length=es.length:=by rw [zah_ rr,hms,List.length_map]
    refine ⟨cs,ms',hl,hms,hok,rr,?_⟩
    simp only [rel]
    exact .inl ⟨b',o,c,ms',by rw [List.length_map,hl],by rw [List.length_map,hl]; exact hc,hrel _ _,row⟩
   ·refine ⟨[],[],rfl,rfl,by simp,zad_.2 rfl,?_⟩
    simp only [rel]
    exact .inr ⟨rfl,a',c,rfl⟩
  have r':rels φ g [] false [vnil,.fn f [] [.fptr (.agg [.lst k' (cs.map opq)]) 0]] [m1,.func (.func id') A C]:=by
   refine zaj_.2 ⟨by have:=rel_s r1; subst this; exact rel_of rfl,zaj_.2 ⟨?_,zad_.2 rfl⟩⟩
   simp only [rel]
   refine ⟨id',A,C,e1,rfl,zal_ (fun _ _ _ e=>e) false _ _ (zbt_ _ _ rfl rA),?_⟩
   rw [eC,zaj_,zad_]
   simp only [rel]
   refine ⟨⟨b,q,.agg a,rfl,⟨a,rfl,?_⟩,hM⟩,trivial⟩
   rw [ea,zaj_,zad_]
   exact ⟨rL',rfl⟩
  refine (zbfv_ hA hV hit kA kV hz hp hbig Tk (.inr rfl) hcE (by omega) R.empty r').mono ?_
  rintro ee w' ⟨mv,gf,hh,rfl,R1,X1,hb,rm⟩
  have hlow:∀ {k0:Key},live h k0→g.b k0 < w.heap.size:=fun hk=>R.lt hk
  by_cases hn:es.length=0
  ·rw [if_pos hn] at e
   injection e with e
   injection e with e3 e4
   subst e3 e4
   have hc0:cs=[]:=List.eq_nil_of_length_eq_zero (by omega)
   subst hc0
   exact ⟨mv,g,rfl,R.calm X1.old,(Ext.refl _ _ _).calm X1.old,by have:=rel_s rm; subst this; exact (rel_of rfl:rel φ g h false vnil _)⟩
  ·rw [if_neg hn] at e
   injection e with e
   injection e with e3 e4
   subst e3 e4
   have hc0:cs≠[]:=fun h=>hn (by rw [← hlenE,h]; rfl)
   have hbv:bv k' cs=.own k' (cs.map opq):=by simp [bv,hc0]
   rw [hbv] at hb rm
   have hcell:cellAt hh 0 0=some (.own k' (cs.map opq)):=by rw [zbd_ hb]; rfl
   simp only [rdCell,rel] at rm
   obtain ⟨_,⟨b2,q2,c2,ms2,hmv,hc2,rr2,row2⟩,x,hx,hx2⟩:=rm
   rw [hcell] at hx
   injection hx with hx
   subst hx
   have hmv2:mv=hdr (gf.b (.cell 0 0)) (cs.map opq).length (gf.c (.cell 0 0)):=by
    rcases hx2 with ⟨k3,es3,h3,_,h4⟩ | ⟨k3,es3,gs3,h3,_⟩
    ·injection h3 with h5 h6
     subst h6
     exact h4 rfl
    ·cases h3
   have hms2:=zbfy_ rr2
   have hlv:live hh (.cell 0 0):=⟨_,_,hcell,rfl⟩
   obtain ⟨cur,E,k0,o1,o2,o3,o4,_,rfl,o5⟩:=R1.own 0 0 _ _ hcell rfl
   have hB:w.heap.size≤gf.b (.cell 0 0):=by
    rcases X1.blks _ hlv with ⟨k1,h1,_⟩ | h1
    ·exact absurd h1 (zra_ _)
    ·exact h1
   rw [hmv] at hmv2
   unfold hdr at hmv2
   injection hmv2 with h6 h7 h8
   injection h6 with h6
   injection h6 with h6 h9 h10
   subst h6 h9 h8
   have hsz:∀ m ∈ ms2,m.cells.size=k':=row2.1
   have hlen2:ms2.length=es.length:=by rw [hms2,List.length_map,hlenE]
   have hfl:cur.toList.take (es.length * k')=flat ms2:=by
    have hfl1:=zat_ hsz
    apply List.ext_getElem?
    intro i
    rw [List.getElem?_take]
    split
    ·rename_i hi
     obtain ⟨u,hu⟩:∃ u,(flat ms2)[i]?=some u:=⟨_,List.getElem?_eq_getElem (by rw [hfl1,hlen2]; exact hi)⟩
     obtain ⟨i',j',m',e1,e2,rfl⟩:=ztt_ hsz hu
     have:=R1.mem _ _ _ (row2.2 i' m' e1 j' u e2)
     rw [zbj_ o1,Nat.zero_add] at this
     rw [hu,Array.getElem?_toList,this]
    ·rename_i hi
     exact (List.getElem?_eq_none (by rw [hfl1,hlen2]; omega)).symm
   refine ⟨mv,g,rfl,R.calm X1.old,(Ext.refl _ _ _).calm X1.old,gf.b (.cell 0 0),gf.c (.cell 0 0),hB,?_⟩
   rw [List.length_map] at hmv hc2
   refine ⟨by rw [hmv,hlenE]; rfl,⟨cur,E,msE,o1,o2,zav_ (Later.refl _ _) _ _ _ rE,by rw [hfl,hcs,hms2]⟩,by rw [← hlenE]; exact hc2,o4,hw,hcl,fun j=>?_,fun k1 hk1=>by have:=hlow hk1; omega⟩
   cases hj:g.M (gf.b (.cell 0 0)) j with
   | none=>rfl
   | some u=>have:=R.M_lt hj; omega
 ·cases e
end
end Go.Proofs.Sl
namespace Go.Proofs.Sl
section
variable {P:Program} {φ:Nat→Option FuncId}
open Go.Shelf Go.Lib
end
end Go.Proofs.Sl
namespace Go.Proofs.Sl
section
variable {P:Program} {φ:Nat→Option FuncId} {h h':H} {g g':G} {w w':World}
open Go.Sort
structure SrtSpec {α:Type} [Inhabited α] (P:Program) (id:Nat) (enc:α→Value) (srt:List α→List α):Prop where
 ans:∀ (blk cap:Nat) (zs:List α) (w:World),Holds enc w blk 0 zs.toArray→blk < w.heap.size→zs.length < 4611686018427387904 →
  Calls P id #[.slice (some ⟨blk,0,none⟩) zs.length cap] w fun e w'=>e=.returned (.tuple #[])∧∃ n os,w'=grow (Go.Sort.putRow enc (Sort.ahead w n) blk 0 (srt zs).toArray) os
 nil:∀ (p:Option Addr) (cap:Nat) (w:World),Calls P id #[.slice p 0 cap] w fun e w'=>e=.returned (.tuple #[])∧w'=w
theorem zbfz_ {α:Type} {enc:α→Value} (he:∀ x,notAgg (enc x)=true) {z:Bool}:∀ (l:List α),rels φ g h z (l.map fun x=>.s (enc x)) (l.map enc)
 | []=>zad_.2 rfl
 | x :: l=>zaj_.2 ⟨rel_of (he x),zbfz_ he l⟩
theorem zbga_ {α:Type} {enc:α→Value} {z:Bool}:∀ {l:List α} {ms:List Value},rels φ g h z (l.map fun x=>.s (enc x)) ms→ms=l.map enc
 | [],ms,r=>zad_.1 r
 | x :: l,ms,r=>by
  obtain ⟨m,s,rfl,r1,r2⟩:=zam_.1 r
  rw [rel_s r1,zbga_ r2]
  rfl
theorem zbgb_ {α:Type} {enc:α→Value} (he:∀ x,V.cell (.s (enc x))=true):∀ (l:List α),wide 1 (l.map fun x=>.s (enc x))=true
 | []=>rfl
 | x :: l=>zcd_.2 ⟨rfl,by simp [zai_,V.cells,he x],zbgb_ he l⟩
theorem zvs_ {α:Type} {enc:α→Value} (hc:∀ x,(enc x).cells=#[enc x]):∀ (l:List α),flat (l.map enc)=l.map enc
 | []=>rfl
 | x :: l=>by
  have:=zvs_ hc l
  unfold flat at this ⊢
  simp only [List.map_cons,List.flatMap_cons,this,hc]
  rfl
theorem zcek_ {α:Type} [Inhabited α] {id:Nat} {enc:α→Value} {srt:List α→List α} (K:SrtSpec P id enc srt) (he:∀ x,notAgg (enc x)=true) (hw:∀ x,V.cell (.s (enc x))=true) (hc:∀ x,(enc x).cells=#[enc x]) (hl:∀ zs,(srt zs).length=zs.length)
  (R:SR φ h g w) {l:Nat} {zs:List α} (ha:h[l]?=some (.arr false 1 (zs.map fun x=>.s (enc x)))) (hlt:zs.length < 4611686018427387904) :
  Calls P id #[hdr (g.b (.obj l)) zs.length (g.c (.obj l))] w fun e w'=>e=.returned (.tuple #[])∧SR φ (h.set l (.arr false 1 ((srt zs).map fun x=>.s (enc x)))) g w'∧Ext h g w (h.set l (.arr false 1 ((srt zs).map fun x=>.s (enc x)))) g w':=by
 obtain ⟨cur,E,msE,hcur,hsz,n1,n2,rE,wd,tk,_,k3⟩:=R.arr l false 1 _ ha
 have hms:=zbga_ rE
 subst hms
 rw [zvs_ hc,List.length_map,Nat.mul_one] at tk
 rw [List.length_map] at n1
 have hcell:∀ j,j < zs.length→cur[j]?=(zs.map enc)[j]?:=fun j hj=>by
  rw [← tk,List.getElem?_take,if_pos hj,Array.getElem?_toList]
 have hH:Holds enc w (g.b (.obj l)) 0 zs.toArray:=by
  intro j hj
  have hj':j < zs.length:=by simpa using hj
  refine ⟨?_,frozen_of_row w _ _ cur E hcur⟩
  rw [Nat.zero_add,zbj_ hcur,hcell j hj',List.getElem?_map,List.getElem?_eq_getElem hj',getElem!_pos zs.toArray j hj]
  simp
 refine (K.ans (g.b (.obj l)) (g.c (.obj l)) zs w hH (zey_ hcur) hlt).mono ?_
 rintro ee w' ⟨rfl,n,os,rfl⟩
 refine ⟨rfl,?_⟩
 have hq:g.b (.obj l) < w.heap.size:=zey_ hcur
 refine R.arrSort ha (by simp [hl]) (zbfz_ he (srt zs)) (zbgb_ hw _) hcur (cur2:=putCells enc 0 (srt zs).toArray cur) (by simp [putCells]) ?_ ?_ ?_ rfl rfl rfl (Nat.le_add_right _ _) ?_
 ·rw [zvs_ hc,List.length_map,Nat.mul_one]
  apply List.ext_getElem?
  intro j
  rw [List.getElem?_take]
  by_cases hj:j < zs.length
  ·have hjc:j < cur.size:=by rw [hsz,Nat.mul_one]; omega
   have hj2:j < (srt zs).length:=by rw [hl]; exact hj
   rw [if_pos hj,Array.getElem?_toList]
   simp only [putCells,Array.getElem?_mapIdx,Array.getElem?_eq_getElem hjc,Option.map_some,Nat.zero_le,true_and,List.size_toArray,Nat.zero_add,hj2,if_true,Nat.sub_zero]
   rw [List.getElem?_map,List.getElem?_eq_getElem hj2,getElem!_pos (srt zs).toArray j (by simpa using hj2)]
   simp
  ·rw [if_neg hj,eq_comm,List.getElem?_eq_none_iff]
   simp [hl]
   omega
 ·unfold Go.Sort.putRow Go.Sort.mapBlock
  rw [heap_grow_old _ _ (by simpa [Sort.ahead] using hq)]
  simp only [Array.getElem?_modify,if_true]
  show Option.map _ (w.heap[g.b (.obj l)]?)=_
  rw [hcur]
  rfl
 ·intro q hq2 hn
  unfold Go.Sort.putRow Go.Sort.mapBlock
  rw [heap_grow_old _ _ (by simpa [Sort.ahead] using hq2)]
  simp only [Array.getElem?_modify]
  rw [if_neg (Ne.symm hn)]
  rfl
 ·simp [grow,Go.Sort.putRow,mapBlock,Sort.ahead]
theorem zbgc_:∀ {l:List V} {zs:List Int},intsV l=some zs→l=zs.map fun x=>.s (.int .i64 x)
 | [],zs,e=>by
  injection e with e
  subst e
  rfl
 | v :: l,zs,e=>by
  unfold intsV at e
  split at e
  ·rename_i h; cases h
  ·rename_i x l' h
   injection h with h1 h2
   subst h1 h2
   obtain ⟨q,e1,e⟩:=zaa_.1 e
   injection e with e
   subst e
   rw [zbgc_ e1]
   rfl
  ·cases e
theorem zbgd_:∀ {l:List V} {zs:List ByteArray},strsV l=some zs→l=zs.map fun x=>.s (.string x)
 | [],zs,e=>by
  injection e with e
  subst e
  rfl
 | v :: l,zs,e=>by
  unfold strsV at e
  split at e
  ·rename_i h; cases h
  ·rename_i x l' h
   injection h with h1 h2
   subst h1 h2
   obtain ⟨q,e1,e⟩:=zaa_.1 e
   injection e with e
   subst e
   rw [zbgd_ e1]
   rfl
  ·cases e
instance:Inhabited ByteArray:=⟨⟨#[]⟩⟩
theorem zbge_ {α:Type} [Inhabited α] {id:Nat} {enc:α→Value} {srt:List α→List α} (K:SrtSpec P id enc srt) (he:∀ x,notAgg (enc x)=true) (hw:∀ x,V.cell (.s (enc x))=true) (hc:∀ x,(enc x).cells=#[enc x]) (hl:∀ zs,(srt zs).length=zs.length) {b:Bool}
  (hx:∀ (h:H) (args:List V) (v:V) (h':H),xsrt b h args=some (v,h')→(args=[vnil]∧v=.tup []∧h'=h)∨∃ l n zs,args=[.ref l n]∧h[l]?=some (.arr false 1 (zs.map fun x=>.s (enc x)))∧zs.length=n∧n < 4611686018427387904∧v=.tup []∧h'=h.set l (.arr false 1 ((srt zs).map fun x=>.s (enc x)))) :
  NatOk P φ id (.srt b):=by
 intro cf F HG args h v h' e g w ms R r
 simp only [xnat] at e
 rcases hx h args v h' e with ⟨rfl,rfl,rfl⟩ | ⟨l,n,zs,rfl,ha,rfl,hlt,rfl,rfl⟩
 ·obtain ⟨m1,s1,rfl,r1,r⟩:=zam_.1 r
  rw [zad_] at r
  subst r
  have:=rel_s r1
  subst this
  refine (K.nil none 0 w).mono ?_
  rintro ee w' ⟨rfl,rfl⟩
  exact ⟨_,g,rfl,R,Ext.refl _ _ _,by simp only [RetOk,rel]; exact ⟨_,rfl,zad_.2 rfl⟩⟩
 ·obtain ⟨m1,s1,rfl,r1,r⟩:=zam_.1 r
  rw [zad_] at r
  subst r
  simp only [rel] at r1
  obtain ⟨_,_,_,r1⟩:=r1
  have hm1:=(r1 _ _ _ ha).2 (by simp)
  subst hm1
  refine (zcek_ K he hw hc hl R ha hlt).mono ?_
  rintro ee w' ⟨rfl,R',X'⟩
  exact ⟨_,g,rfl,R',X',by simp only [RetOk,rel]; exact ⟨_,rfl,zad_.2 rfl⟩⟩
theorem zcel_ {id:Nat} (K:SrtSpec P id (Value.int .i64) zbp_):NatOk P φ id (.srt false) :=
 zbge_ K (fun _=>rfl) (fun _=>rfl) (fun _=>rfl) (fun zs=>List.length_mergeSort _) fun h args v h' e=>by
  unfold xsrt at e
  split at e
  ·injection e with e
   injection e with e1 e2
   exact .inl ⟨rfl,e1.symm,e2.symm⟩
  ·rename_i l n
   obtain ⟨p,e1,e⟩:=zaa_.1 e
   obtain ⟨ha,hn⟩:=zbg_ e1
   split at e
   ·rename_i hc
    simp only [Bool.false_eq_true,if_false] at e
    obtain ⟨q,e2,e⟩:=zaa_.1 e
    injection e with e
    injection e with e3 e4
    have:=zbgc_ e2
    rw [hc.1,hc.2.1,this] at ha
    rw [this,List.length_map] at hn
    exact .inr ⟨l,n,q,rfl,ha,hn,hc.2.2,e3.symm,e4.symm⟩
   ·cases e
  ·cases e
theorem zcem_ {id:Nat} (K:SrtSpec P id Value.string sortStr):NatOk P φ id (.srt true) :=
 zbge_ K (fun _=>rfl) (fun _=>rfl) (fun _=>rfl) (fun zs=>List.length_mergeSort _) fun h args v h' e=>by
  unfold xsrt at e
  split at e
  ·injection e with e
   injection e with e1 e2
   exact .inl ⟨rfl,e1.symm,e2.symm⟩
  ·rename_i l n
   obtain ⟨p,e1,e⟩:=zaa_.1 e
   obtain ⟨ha,hn⟩:=zbg_ e1
   split at e
   ·rename_i hc
    simp only [if_true] at e
    obtain ⟨q,e2,e⟩:=zaa_.1 e
    injection e with e
    injection e with e3 e4
    have:=zbgd_ e2
    rw [hc.1,hc.2.1,this] at ha
    rw [this,List.length_map] at hn
    exact .inr ⟨l,n,q,rfl,ha,hn,hc.2.2,e3.symm,e4.symm⟩
   ·cases e
  ·cases e
end
end Go.Proofs.Sl
namespace Go.Proofs.Sl
open Go.RowKit Go.Sort Go.Shelf
section
variable {P:Program}
theorem zcen_ {ρ:Ren} (L:SlLaysM.n5 P ρ):SrtSpec P (ρ.f 5) (Value.int .i64) zbp_ where
 ans:=fun blk cap zs w hH hb hl=>AnyM.slices_Sort_int L blk 0 cap zs w hH hb hl
 nil:=fun p cap w=>AnyM.slices_Sort_int_none L p cap w
theorem zceo_ (b:ByteArray):encStr b.data.toList=Value.string b:=by
 unfold encStr
 congr 1
theorem zbgf_ (zs:List ByteArray) (j:Nat) (hj:j < zs.length):encStr ((zs.map fun b=>b.data.toList).toArray[j]!)=Value.string (zs.toArray[j]!):=by
 rw [getElem!_pos (zs.map fun b=>b.data.toList).toArray j (by simpa using hj),getElem!_pos zs.toArray j (by simpa using hj)]
 simp [zceo_]
theorem zcep_ (zs:List ByteArray) (off:Nat) (c:Array Value):putCells encStr off (zs.map fun b=>b.data.toList).toArray c=putCells Value.string off zs.toArray c:=by
 unfold putCells
 apply Array.ext_getElem?
 intro k
 simp only [Array.getElem?_mapIdx,List.size_toArray,List.length_map]
 cases c[k]? with
 | none=>rfl
 | some x =>
  simp only [Option.map_some]
  by_cases hk:off≤k∧k < off + zs.length
  ·rw [if_pos hk,if_pos hk,zbgf_ zs (k - off) (by omega)]
  ·rw [if_neg hk,if_neg hk]
theorem zceq_ {ρ:Ren} (L:SlLaysM.n6 P ρ):SrtSpec P (ρ.f 6) Value.string sortStr where
 ans:=fun blk cap zs w hH hb hl=>by
  have hH2:Holds encStr w blk 0 (zs.map fun b=>b.data.toList).toArray:=by
   intro j hj
   have hj':j < zs.length:=by simpa using hj
   have:=hH j (by simpa using hj')
   rw [zbgf_ zs j hj']
   exact this
  have:=AnyM.slices_Sort_string L blk 0 cap (zs.map fun b=>b.data.toList) w hH2 hb (by simpa using hl)
  rw [List.length_map] at this
  refine this.mono ?_
  rintro e w' ⟨rfl,n,os,rfl⟩
  refine ⟨rfl,n,os,?_⟩
  have hs:(zs.map fun b=>b.data.toList).mergeSort (fun x y=>decide (x≤y))=(sortStr zs).map fun b=>b.data.toList:=by
   unfold sortStr
   exact (List.map_mergeSort (r:=fun (x y:ByteArray)=>decide (x.data.toList≤y.data.toList)) (s:=fun (x y:List UInt8)=>decide (x≤y)) (f:=fun b=>b.data.toList) (l:=zs) (fun a _ b _=>rfl)).symm
  rw [hs]
  unfold Go.Sort.putRow
  congr 2
  funext c
  exact zcep_ _ _ _
 nil:=fun p cap w=>AnyM.slices_Sort_string_none L p cap w
end
end Go.Proofs.Sl
