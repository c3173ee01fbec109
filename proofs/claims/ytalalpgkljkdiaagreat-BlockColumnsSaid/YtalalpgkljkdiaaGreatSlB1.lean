/- A part of the proof. -/
import Derived.Test.YtalalpgkljkdiaaGreatSlA
set_option linter.unusedVariables false
set_option linter.unusedSimpArgs false
set_option linter.unnecessarySimpa false
namespace Go.Proofs.Sl
section
variable {P:Program} {φ:Nat→Option FuncId} {h h':H} {g g':G} {w w':World} {N:Nat} {s:Sl} {a:Act}
def RowW (φ:Nat→Option FuncId) (g:G) (h:H) (w:World) (es:List V) (m:Value):Prop :=
 (es=[]∧∃ p c,m=.slice p 0 c)∨∃ b o c k ms,m=.slice (some ⟨b,o,none⟩) es.length c∧es.length≤c∧rels φ g h false es ms∧(∀ u ∈ ms,u.cells.size=k) ∧
  ∀ (i:Nat) (u:Value),ms[i]?=some u→∀ (j:Nat) (x:Value),u.cells[j]?=some x→w.cell? ⟨b,o + i * k + j,none⟩=some x
theorem RowW.frozen (S:SR φ h g w) {b o c k:Nat} {es:List V} {ms:List Value} (hc:es.length≤c) (r:rels φ g h true es ms) (row:RowM g.M b o k ms):RowW φ g h w es (.slice (some ⟨b,o,none⟩) es.length c) :=
 .inr ⟨b,o,c,k,ms,rfl,hc,zal_ (fun _ _ _ e=>e) false _ _ r,row.1,fun i u e j x e'=>S.mem _ _ _ (row.2 i u e j x e')⟩
theorem zbg_ {l n:Nat} {p:Bool × Nat × List V} (e:arrN h l n=some p):h[l]?=some (.arr p.1 p.2.1 p.2.2)∧p.2.2.length=n:=by
 unfold arrN at e
 obtain ⟨q,e1,e⟩:=zaa_.1 e
 split at e
 ·rename_i hn
  injection e with e
  subst e
  unfold arrAt at e1
  split at e1
  ·rename_i z k es hl
   injection e1 with e1
   subst e1
   exact ⟨hl,hn⟩
  ·cases e1
 ·cases e
theorem zcg_ {l:Nat} {p:Bool × List V} (e:boxAt h l=some p):h[l]?=some (.box p.1 p.2):=by
 unfold boxAt at e
 split at e
 ·rename_i z cs hl
  injection e with e
  subst e
  exact hl
 ·cases e
theorem SR.arrRow (S:SR φ h g w) {l k:Nat} {z:Bool} {es:List V} (hl:h[l]?=some (.arr z k es)) :
  ∃ ms,rels φ g h false es ms∧(∀ u ∈ ms,u.cells.size=k)∧es.length≤g.c (.obj l) ∧
   ∀ (i:Nat) (u:Value),ms[i]?=some u→∀ (j:Nat) (x:Value),u.cells[j]?=some x→w.cell? ⟨g.b (.obj l),i * k + j,none⟩=some x:=by
 obtain ⟨cur,E,ms,e,s',n1,n2,r,wd,t,_,_⟩:=S.arr l z k es hl
 have hsz:=zay_ wd r
 have hf:=zat_ hsz
 rw [← zah_ r] at hf
 refine ⟨ms,r,hsz,n1,fun i u eu j x ex=>?_⟩
 have e2:=zdy_ hsz eu ex
 rw [zbj_ e,← Array.getElem?_toList]
 have hj:i * k + j < es.length * k:=by rw [← hf]; exact (List.getElem?_eq_some_iff.1 e2).1
 rw [← t,List.getElem?_take,if_pos hj] at e2
 exact e2
theorem RowW.arr (S:SR φ h g w) {l k c:Nat} {z:Bool} {es:List V} (hl:h[l]?=some (.arr z k es)) (hc:c=g.c (.obj l)):RowW φ g h w es (hdr (g.b (.obj l)) es.length c):=by
 obtain ⟨ms,r,hsz,n1,hcell⟩:=S.arrRow hl
 subst hc
 exact .inr ⟨_,0,_,k,ms,rfl,n1,r,hsz,fun i u eu j x ex=>by rw [Nat.zero_add]; exact hcell i u eu j x ex⟩
theorem zbcw_ {m:Value} (k:m.oneCell'=true):m.cells=#[m]:=by cases m <;> first | rfl | (simp [Value.oneCell'] at k)
theorem zbna_ (S:SR φ h g w) {v:V} {m:Value} {es:List V} (r:rel φ g h false v m) (e:v.toL2 h=some es):RowW φ g h w es m:=by
 unfold V.toL2 at e
 split at e
 ·rename_i l n
  split at e
  ·rename_i z cs hl
   split at e
   ·rename_i hn
    injection e with e
    subst e
    simp only [rel] at r
    obtain ⟨_,rfl,_⟩:=r
    obtain ⟨ms,E,hm,rr,ok,_,_⟩:=S.box l z cs hl
    have hone:=zfe_ rr ok
    refine .inr ⟨g.b (.obj l),0,n,1,ms.toList,by rw [List.length_map,hn],by rw [List.length_map]; omega,zpq_ rr,fun u hu=>by rw [zbcw_ (hone u hu)]; rfl,fun i u eu j x ex=>?_⟩
    rw [zbcw_ (hone u (List.mem_of_getElem? eu))] at ex
    have hj:j=0:=by
     have:=(Array.getElem?_eq_some_iff.1 ex).1
     simpa using this
    subst hj
    simp only [List.getElem?_toArray,List.getElem?_cons_zero,Option.some.injEq] at ex
    subst ex
    rw [Nat.zero_add,Nat.mul_one,Nat.add_zero,zbj_ hm,← Array.getElem?_toList]
    exact eu
   ·cases e
  ·cases e
 ·rename_i l n a b
  split at e
  ·rename_i z k es' hl
   split at e
   ·rename_i hn
    obtain ⟨hn,hbn⟩:=hn
    injection e with e
    subst e
    simp only [rel] at r
    obtain ⟨_,⟨q,c,rfl⟩,_,r⟩:=r
    by_cases ha:a < b
    ·obtain ⟨c',hcc,hv⟩:=(r _ _ _ hl).2 hn ha
     injection hv with hv1 _ hv2
     subst hv2
     obtain ⟨ms,rr,hsz,n1,hcell⟩:=S.arrRow hl
     rw [hv1]
     have hlen:((es'.take b).drop a).length=b - a:=by rw [List.length_drop,List.length_take,hn,Nat.min_eq_left hbn]
     refine .inr ⟨_,a * k,c,k,(ms.take b).drop a,by rw [hlen],by rw [hlen]; exact hcc,zex_ (zdx_ rr b) a,fun u hu=>hsz u (List.mem_of_mem_take (List.mem_of_mem_drop hu)),fun i u eu j x ex=>?_⟩
     rw [List.getElem?_drop,List.getElem?_take] at eu
     rw [← Nat.add_mul]
     split at eu
     ·exact hcell _ u eu j x ex
     ·cases eu
    ·refine .inl ⟨?_,some q,c,by rw [show b - a=0 by omega]⟩
     apply List.eq_nil_of_length_eq_zero
     rw [List.length_drop,List.length_take]
     omega
   ·cases e
  ·cases e
 ·cases e
theorem toL_ok (S:SR φ h g w) {v:V} {m:Value} {es:List V} (r:rel φ g h false v m) (e:v.toL h=some es):RowW φ g h w es m:=by
 unfold V.toL at e
 split at e
 ·injection e with e
  exact .inl ⟨e.symm,none,0,rel_s r⟩
 ·injection e with e
  subst e
  simp only [rel] at r
  rcases r with ⟨b,o,c,ms,rfl,hc,r,row⟩ | ⟨r,a,c,rfl⟩
  ·exact RowW.frozen S hc r row
  ·exact .inl ⟨r,some a,c,rfl⟩
 ·injection e with e
  subst e
  simp only [rel] at r
  obtain ⟨_,⟨b,o,c,ms,rfl,hc,r,row⟩,_⟩:=r
  exact RowW.frozen S hc r row
 ·injection e with e
  subst e
  simp only [rel] at r
  obtain ⟨_,⟨b,o,c,ms,rfl,hc,r,row⟩,_⟩:=r
  exact RowW.frozen S hc r row
 ·rename_i l n
  split at e
  ·rename_i z k es' hl
   split at e
   ·rename_i hn
    injection e with e
    subst e
    simp only [rel] at r
    obtain ⟨_,_,_,r⟩:=r
    rw [(r _ _ _ hl).2 hn,← hn]
    exact RowW.arr S hl rfl
   ·cases e
  ·cases e
 ·exact zbna_ S r e
theorem RowW.len {es:List V} {m:Value} (r:RowW φ g h w es m):∃ p c,m=.slice p es.length c:=by
 rcases r with ⟨rfl,p,c,rfl⟩ | ⟨b,o,c,k,ms,rfl,_⟩
 ·exact ⟨p,c,rfl⟩
 ·exact ⟨_,_,rfl⟩
theorem zuj_ {t:TypeId} {n:Nat} {b:Bool} (hs:sizeIs P t n=true) (ha:aggIs P t b=true) {bk o0 off:Nat} {l:List Value} (hcell:∀ (j:Nat) (u:Value),l[j]?=some u→w.cell? ⟨bk,o0 + j,none⟩=some u)
  {cs:List V} {z:Bool} (r:rels φ g h z cs l) {v:V} (e:rdRow n b off cs=some v):∃ mv,(loadVar t ⟨bk,o0 + off,none⟩).run P w=.ok mv w∧rel φ g h z v mv:=by
 unfold rdRow at e
 have hl:=zah_ r
 split at e
 ·rename_i hb
  subst hb
  split at e
  ·rename_i hn
   injection e with e
   subst e
   refine ⟨.agg ((l.drop off).take n).toArray,?_,by simp only [rel]; exact ⟨_,rfl,zdx_ (zex_ r off) n⟩⟩
   have hlen:((l.drop off).take n).length=n:=by simp; omega
   have:=run_loadCells_list (P:=P) w ⟨bk,o0 + off,none⟩ ((l.drop off).take n) (fun j u eu=>by
    rw [Addr.add_lit]
    rw [List.getElem?_take] at eu
    split at eu
    ·rw [List.getElem?_drop] at eu
     rw [Nat.add_assoc]
     exact hcell _ _ eu
    ·cases eu)
   rw [hlen] at this
   simp [loadVar,zfh_ ha,zbe_ hs,this]
  ·cases e
 ·rename_i hb
  have hb:b=false:=by simpa using hb
  subst hb
  obtain ⟨m,e1,r1⟩:=zdd_ r e
  refine ⟨m,?_,r1⟩
  simp [loadVar,zfh_ ha,hcell _ _ e1]
theorem zuk_ (S:SR φ h g w) {t:TypeId} {n:Nat} {b:Bool} (hs:sizeIs P t n=true) (ha:aggIs P t b=true) {x v:V} {mx:Value} (r:rel φ g h false x mx) (e:xload h n b x=some v) :
  ∃ mv,(Instr.loadAt t mx).run P w=.ok mv w∧rel φ g h false v mv:=by
 unfold xload at e
 split at e
 ·rename_i l o
  obtain ⟨p,e1,e⟩:=zaa_.1 e
  have hb:=zcg_ e1
  simp only [rel] at r
  obtain ⟨-,rfl,_⟩:=r
  obtain ⟨ms,E,hh,rr,hok,_,_⟩:=S.box _ _ _ hb
  have hcell:∀ (j:Nat) (u:Value),ms.toList[j]?=some u→w.cell? ⟨g.b (.obj l),0 + j,none⟩=some u:=fun j u eu=>by
   rw [zbj_ hh,Nat.zero_add,← Array.getElem?_toList]
   exact eu
  cases b with
  | true =>
   simp only [if_true] at e
   obtain ⟨mv,h1,h2⟩:=zuj_ (w:=w) hs ha hcell (zpq_ rr) e
   refine ⟨mv,?_,h2⟩
   rw [Nat.zero_add] at h1
   simp [Instr.loadAt,Instr.sureAddr,h1]
  | false =>
   simp only [Bool.false_eq_true,if_false] at e
   obtain ⟨c,e2,e⟩:=zaa_.1 e
   injection e with e
   subst e
   obtain ⟨m,e3,r3⟩:=zdd_ rr e2
   have hm:=hcell _ _ e3
   rw [Nat.zero_add] at hm
   refine ⟨m,by simp [Instr.loadAt,Instr.sureAddr,loadVar,zfh_ ha,hm],?_⟩
   cases c with
   | own k es =>
    have hca:cellAt h l o=some (.own k es):=by rw [zbd_ hb]; exact e2
    simp only [rdCell]
    have r4:=r3
    simp only [rel] at r4
    simp only [rel]
    refine ⟨trivial,r4.2,_,hca,.inl ⟨k,es,rfl,Nat.le_refl _,fun _=>?_⟩⟩
    obtain ⟨_,_,_,_,_,_,_,_,_,_,_,_,_,hv⟩:=S.ownCells hca
    rw [hv] at hm
    exact (Option.some.inj hm).symm
   | spent k es gs=>exact zbcc_ r3
   | _=>exact r3
 ·rename_i u o
  simp only [rel] at r
  obtain ⟨bk,q,m,rfl,r1,hM⟩:=r
  obtain ⟨mv,h1,h2⟩:=zuj_ (w:=w) (l:=m.cells.toList) hs ha (fun j u eu=>S.mem _ _ _ (hM j u (by rw [← Array.getElem?_toList]; exact eu))) (zgw_ r1) e
  exact ⟨mv,by simp [Instr.loadAt,Instr.sureAddr,h1],zbq_ (fun _ _ _ e=>e) false _ _ h2⟩
 ·rename_i l m i j
  obtain ⟨p,e1,e⟩:=zaa_.1 e
  obtain ⟨el,e2,e⟩:=zaa_.1 e
  obtain ⟨ha1,ha2⟩:=zbg_ e1
  simp only [rel] at r
  obtain ⟨-,-,-,r⟩:=r
  have hp:=(r _ _ _ ha1).2 ha2
  subst hp
  obtain ⟨ms',r',hsz,n1,hcell⟩:=S.arrRow ha1
  obtain ⟨me,e3,r3⟩:=zdd_ r' e2
  obtain ⟨mv,h1,h2⟩:=zuj_ (w:=w) (l:=me.cells.toList) (bk:=g.b (.obj l)) (o0:=i * p.2.1) hs ha (fun j u eu=>hcell i me e3 j u (by
   rw [Array.getElem?_toList] at eu
   exact eu)) (zgw_ r3) e
  exact ⟨mv,by simp [Instr.loadAt,Instr.sureAddr,h1],h2⟩
 ·cases e
theorem zbcx_ {b o k i:Nat} {es:List V} {ms:List Value} (r:rels φ g h true es ms) (row:RowM g.M b o k ms) {e:V} (he:es[i]?=some e):rel φ g h false (.fptr e 0) (.pointer (some ⟨b,o + i * k,none⟩)):=by
 obtain ⟨m,e1,r1⟩:=zdd_ r he
 simp only [rel]
 exact ⟨b,o + i * k,m,rfl,r1,fun j u eu=>row.2 i m e1 j u eu⟩
theorem zbnb_ (S:SR φ h g w) {t e0:TypeId} {k i:Nat} (hu:P.underlying t=some (.slice e0)) (hs:sizeIs P e0 k=true) {x v:V} {mx:Value} {kk:IntKind}
  (e:(match x with
   | .ref l n=>ob (arrN h l n) fun p=>if i < n∧k=p.2.1 then some (.eptr l n i 0) else none
   | .lst k' es=>if k=k' then ob es[i]? fun e=>some (.fptr e 0) else none
   | .lnk _ _ k' es=>if k=k' then ob es[i]? fun e=>some (.fptr e 0) else none
   | v=>zgn_ h k v i)=some v) (r:rel φ g h false x mx) :
  ∃ mv,(Instr.indexAt t mx (.int kk (i:Int))).run P w=.ok mv w∧rel φ g h false v mv:=by
 have key:∀ b o n c,i < n→(Instr.indexAt t (.slice (some ⟨b,o,none⟩) n c) (.int kk (i:Int))).run P w=.ok (.pointer (some ⟨b,o + i * k,none⟩)) w:=by
  intro b o n c hi
  have:(0:Int)≤(i:Int)∧(i:Int) < (n:Int):=by omega
  simp [Instr.indexAt,run_underlying hu,asIntOf,hi,zbe_ hs,Addr.add_lit]
 split at e
 ·rename_i l n
  obtain ⟨p,e1,e⟩:=zaa_.1 e
  split at e
  ·rename_i hi
   injection e with e
   subst e
   obtain ⟨ha1,ha2⟩:=zbg_ e1
   simp only [rel] at r
   obtain ⟨-,-,hl,r⟩:=r
   rw [(r _ _ _ ha1).2 ha2]
   refine ⟨_,key _ _ _ _ hi.1,?_⟩
   simp only [rel]
   refine ⟨trivial,⟨_,rfl⟩,hl,fun q k2 es2 h2=>⟨(r _ _ _ h2).1,fun _=>?_⟩⟩
   rw [ha1] at h2
   injection h2 with h2
   injection h2 with _ h2 _
   rw [hi.2,h2,Nat.zero_add,Nat.add_zero]
  ·cases e
 ·rename_i k' es
  split at e
  ·rename_i hk
   subst hk
   obtain ⟨el,e1,e⟩:=zaa_.1 e
   injection e with e
   subst e
   simp only [rel] at r
   rcases r with ⟨b,o,c,ms,rfl,hc,r,row⟩ | ⟨r,_⟩
   ·exact ⟨_,key _ _ _ _ (List.getElem?_eq_some_iff.1 e1).1,zbcx_ r row e1⟩
   ·rw [r] at e1; cases e1
  ·cases e
 ·rename_i l q k' es
  split at e
  ·rename_i hk
   subst hk
   obtain ⟨el,e1,e⟩:=zaa_.1 e
   injection e with e
   subst e
   simp only [rel] at r
   obtain ⟨_,⟨b,o,c,ms,rfl,hc,r,row⟩,_⟩:=r
   exact ⟨_,key _ _ _ _ (List.getElem?_eq_some_iff.1 e1).1,zbcx_ r row e1⟩
  ·cases e
 ·unfold zgn_ at e
  split at e
  ·rename_i l n
   split at e
   ·rename_i hi
    injection e with e
    subst e
    simp only [rel] at r
    obtain ⟨_,rfl,hb⟩:=r
    refine ⟨_,key _ _ _ _ hi.1,?_⟩
    simp only [rel]
    exact ⟨trivial,by rw [hi.2,Nat.mul_one,Nat.zero_add],hb⟩
   ·cases e
  ·rename_i l n a b
   obtain ⟨p,e1,e⟩:=zaa_.1 e
   split at e
   ·rename_i hi
    injection e with e
    subst e
    obtain ⟨ha1,ha2⟩:=zbg_ e1
    simp only [rel] at r
    obtain ⟨-,-,hl,r⟩:=r
    obtain ⟨c,_,hv⟩:=(r _ _ _ ha1).2 ha2 (by omega)
    rw [hv]
    refine ⟨_,key _ _ _ _ (by omega),?_⟩
    simp only [rel]
    refine ⟨trivial,⟨_,rfl⟩,hl,fun q k2 es2 h2=>⟨(r _ _ _ h2).1,fun _=>?_⟩⟩
    rw [ha1] at h2
    injection h2 with h2
    injection h2 with _ h2 _
    rw [hi.2.2,h2,← Nat.add_mul,Nat.add_zero]
   ·cases e
  ·cases e
theorem zbcy_ {b o k c x y:Nat} {es:List V} {ms:List Value} (r:rels φ g h true es ms) (row:RowM g.M b o k ms) (hxy:x≤y) (hy:y≤es.length) (hc:es.length≤c) (q:Nat) (hq:q=o + x * k∨c=x) :
  rel φ g h false (.lst k ((es.take y).drop x)) (.slice (some ⟨b,q,none⟩) (y - x) (c - x)):=by
 simp only [rel]
 refine .inl ⟨b,q,c - x,(ms.take y).drop x,?_,by simp; omega,zex_ (zdx_ r y) x,?_⟩
 ·simp; omega
 ·refine ⟨fun m hm=>row.1 m (List.mem_of_mem_take (List.mem_of_mem_drop hm)),fun i m e j u eu=>?_⟩
  rw [List.getElem?_drop,List.getElem?_take] at e
  split at e
  ·rename_i hlt
   rcases hq with hq | hq
   ·have:=row.2 _ m e j u eu
    rw [hq,← this,Nat.add_mul]
    congr 1
    omega
   ·omega
  ·cases e
theorem zul_ {t e0:TypeId} {k:Nat} (hu:P.underlying t=some (.slice e0)) (hs:sizeIs P e0 k=true) {es:List V} {b o c x y:Nat} {ms:List Value} {lo hi:Option V} {mlo mhi:Option Value} (r:rels φ g h true es ms) (row:RowM g.M b o k ms) (hc:es.length≤c)
  (e:bounds es.length lo hi=some (x,y)) (rl:optRel φ g h lo mlo) (rh:optRel φ g h hi mhi) :
  ∃ mv,(Instr.sliceAt t (.slice (some ⟨b,o,none⟩) es.length c) mlo mhi none).run P w=.ok mv w∧rel φ g h false (.lst k ((es.take y).drop x)) mv:=by
 obtain ⟨hb,hxy,hy⟩:=zha_ (P:=P) e rl rh hc true w
 by_cases hcx:c=x
 ·subst hcx
  refine ⟨.slice (some ⟨b,o,none⟩) (y - c) (c - c),by simp [Instr.sliceAt,Instr.slice,run_underlying hu,hb,zbe_ hs],zbcy_ r row hxy hy hc o (.inr rfl)⟩
 ·exact ⟨.slice (some ⟨b,o + x * k,none⟩) (y - x) (c - x),by simp [Instr.sliceAt,Instr.slice,run_underlying hu,hb,zbe_ hs,hcx,Addr.add_lit],zbcy_ r row hxy hy hc _ (.inl rfl)⟩
theorem zbcz_ {t e0:TypeId} {k:Nat} (hu:P.underlying t=some (.slice e0)) (hs:sizeIs P e0 k=true) {a:Addr} {c x y:Nat} {lo hi:Option V} {mlo mhi:Option Value}
  (e:bounds (0:Nat) lo hi=some (x,y)) (rl:optRel φ g h lo mlo) (rh:optRel φ g h hi mhi) :
  ∃ mv,(Instr.sliceAt t (.slice (some a) 0 c) mlo mhi none).run P w=.ok mv w∧rel φ g h false (.lst k ((([]:List V).take y).drop x)) mv:=by
 obtain ⟨hb,hxy,hy⟩:=zha_ (P:=P) e rl rh (Nat.zero_le c) true w
 obtain rfl:y=0:=by omega
 obtain rfl:x=0:=by omega
 refine ⟨.slice (some a) 0 c,?_,?_⟩
 ·by_cases hc:c=0
  ·subst hc
   simp [Instr.sliceAt,Instr.slice,run_underlying hu,hb,zbe_ hs]
  ·simp [Instr.sliceAt,Instr.slice,run_underlying hu,hb,zbe_ hs,hc,Addr.add]
 ·simp only [rel]
  exact .inr ⟨by simp,a,c,rfl⟩
theorem zbda_ {k:Nat}:∀ {es:List V} {l:List UInt8} {ms:List Value},zdc_ es=some l→rels φ g h false es ms→(∀ u ∈ ms,u.cells.size=k) →
  ∃ ns:List Int,ms=ns.map (Value.int .u8)∧l=ns.map (fun n=>UInt8.ofNat n.toNat)∧(ms=[]∨k=1)
 | [],l,ms,e,r,_=>by
  simp only [zdc_,Option.some.injEq] at e
  subst e
  rw [zad_] at r
  exact ⟨[],r,rfl,.inl r⟩
 | v :: es,l,ms,e,r,hk=>by
  obtain ⟨m,s,rfl,r1,r2⟩:=zam_.1 r
  unfold zdc_ at e
  split at e
  ·rename_i h0; cases h0
  ·rename_i n rest h0
   injection h0 with h1 h2
   subst h1 h2
   obtain ⟨l',e1,e⟩:=zaa_.1 e
   injection e with e
   subst e
   obtain ⟨ns,h1,h2,_⟩:=zbda_ e1 r2 fun u hu=>hk u (List.mem_cons_of_mem _ hu)
   have hm:=rel_s r1
   refine ⟨n :: ns,by rw [hm,h1]; rfl,by rw [h2]; rfl,.inr ?_⟩
   have:=hk m (by simp)
   rw [hm] at this
   exact this.symm
  ·cases e
theorem zbdb_:∀ (ns:List Int) (s:ByteArray),ns.foldl (fun r n=>r.push (UInt8.ofNat n.toNat)) s=⟨s.data++(ns.map fun n=>UInt8.ofNat n.toNat).toArray⟩
 | [],s=>by simp
 | n :: ns,s=>by
  rw [List.foldl_cons,zbdb_ ns]
  simp [ByteArray.push]
theorem zbnc_ {src dst e0:TypeId} (hs:P.underlying src=some (.slice e0)) (he:P.underlying e0=some (.int .u8)) (hd:P.underlying dst=some .string) {es:List V} {m:Value} {l:List UInt8} (r:RowW φ g h w es m) (e:zdc_ es=some l) :
  (convert src dst m).run P w=.ok (.string ⟨l.toArray⟩) w:=by
 rcases r with ⟨rfl,p,c,rfl⟩ | ⟨b,o,c,k,ms,rfl,_,r,hk,hcell⟩
 ·simp only [zdc_,Option.some.injEq] at e
  subst e
  rw [run_convert_bytes_string w src dst e0 p 0 c hs he hd]
  cases p with
  | none=>simp [Conv.bytesToString]; rfl
  | some a =>
   have hl:(loadCells a 0).run P w=.ok #[] w:=run_loadCells_list w a [] fun j u eu=>by simp at eu
   simp [Conv.bytesToString,hl]
   rfl
 ·rw [run_convert_bytes_string w src dst e0 _ _ _ hs he hd]
  obtain ⟨ns,h1,h2,h3⟩:=zbda_ e r hk
  have hload:(loadCells ⟨b,o,none⟩ es.length).run P w=.ok (ns.map (Value.int .u8)).toArray w:=by
   rw [← h1,zah_ r]
   refine run_loadCells_list w _ ms fun j u eu=>?_
   rw [Addr.add_lit]
   have hk1:k=1:=h3.resolve_left fun h0=>by rw [h0] at eu; simp at eu
   subst hk1
   have hu:=hk u (List.mem_of_getElem? eu)
   have hun:u.cells=#[u]:=by
    rw [h1,List.getElem?_map] at eu
    cases hn:ns[j]? with
    | none=>rw [hn] at eu; cases eu
    | some n=>rw [hn] at eu; injection eu with eu; rw [← eu]; rfl
   have:=hcell j u eu 0 u (by rw [hun]; rfl)
   simpa using this
  rw [run_bytesToString w _ _ _ ns hload,zbdb_,h2]
  simp [ByteArray.empty,ByteArray.emptyWithCapacity]
  rfl
theorem zbdc_ (R:SR φ h g w) (S:Slots φ g h N s a) {o:Oper} {x:XO} (k:chkOp P φ N o.op x=true) {v:V} (e:xread s h x=some v) :
  ∃ mv,(execOp a.eval o).run P w=.ok (.value mv) w∧rel φ g h false v mv:=by
 obtain ⟨dst,op,ty,pos,after,guard⟩:=o
 simp only at k
 unfold chkOp at k
 split at k
 all_goals first | (simp only [xread,reduceCtorEq] at e; done) | skip
 -- load
 ·simp only [Bool.and_eq_true] at k
  simp only [xread] at e
  obtain ⟨mv,h1,h2⟩:=zuk_ (P:=P) R k.1.1 k.1.2 (opd_ok S k.2) e
  exact ⟨mv,by simp only [execOp,Sem.run_bind,h1]; rfl,h2⟩
 -- text
 ·simp only [Bool.and_eq_true] at k
  obtain ⟨⟨k0,k1⟩,k2⟩:=k
  obtain ⟨d,hu,hd⟩:=zap_ k0
  obtain ⟨e0,rfl,hd2⟩:=zcf_ hd
  obtain ⟨d2,hu2,hd3⟩:=zap_ hd2
  have:=zbcj_ hd3
  subst this
  obtain ⟨d4,hu4,hd4⟩:=zap_ k1
  have:=zjs_ hd4
  subst this
  simp only [xread] at e
  obtain ⟨es,e1,e⟩:=zaa_.1 e
  obtain ⟨l,e2,e⟩:=zaa_.1 e
  injection e with e
  subst e
  refine ⟨_,?_,rel_of rfl⟩
  simp only [execOp,Sem.run_bind,zbnc_ (P:=P) hu hu2 hu4 (toL_ok R (opd_ok S k2) e1) e2]
  rfl
 -- a part of a list
 ·rename_i t y lo hi kk x lo' hi'
  simp only [Bool.and_eq_true] at k
  obtain ⟨⟨⟨k0,k1⟩,k2⟩,k3⟩:=k
  obtain ⟨d,hu,hd⟩:=zap_ k0
  obtain ⟨e0,rfl,hd2⟩:=zcf_ hd
  have r:=opd_ok S k1
  simp only [xread] at e
  split at e
  ·rename_i k' es hx
   split at e
   ·rename_i hk
    subst hk
    obtain ⟨⟨p,q⟩,e1,e⟩:=zaa_.1 e
    injection e with e
    subst e
    rw [hx] at r
    simp only [rel] at r
    rcases r with ⟨b,o,c,ms,rm,hc,r,row⟩ | ⟨r,a,c,rm⟩
    ·obtain ⟨mv,h1,h2⟩:=zul_ (P:=P) (w:=w) hu hd2 r row hc e1 (opt_ok S k2) (opt_ok S k3)
     refine ⟨mv,?_,h2⟩
     simp only [execOp,Sem.run_bind,rm,Option.map_none,h1]
     rfl
    ·subst r
     obtain ⟨mv,h1,h2⟩:=zbcz_ (P:=P) (φ:=φ) (g:=g) (h:=h) (w:=w) (a:=a) (c:=c) hu hd2 e1 (opt_ok S k2) (opt_ok S k3)
     refine ⟨mv,?_,h2⟩
     simp only [execOp,Sem.run_bind,rm,Option.map_none,h1]
     rfl
   ·cases e
  ·rename_i l o k' es hx
   split at e
   ·rename_i hk
    subst hk
    obtain ⟨⟨p,q⟩,e1,e⟩:=zaa_.1 e
    injection e with e
    subst e
    rw [hx] at r
    simp only [rel] at r
    obtain ⟨_,⟨b,o,c,ms,rm,hc,r,row⟩,_⟩:=r
    obtain ⟨mv,h1,h2⟩:=zul_ (P:=P) (w:=w) hu hd2 r row hc e1 (opt_ok S k2) (opt_ok S k3)
    refine ⟨mv,?_,h2⟩
    simp only [execOp,Sem.run_bind,rm,Option.map_none,h1]
    rfl
   ·cases e
  ·rename_i hx
   obtain ⟨⟨p,q⟩,e1,e⟩:=zaa_.1 e
   injection e with e
   subst e
   rw [hx] at r
   have hbd:=zha_ (P:=P) e1 (opt_ok S k2) (opt_ok S k3) (Nat.le_refl _) true w
   have hp:p=0:=by omega
   have hq:q=0:=by omega
   subst hp hq
   refine ⟨_,?_,rel_of rfl⟩
   simp [execOp,rel_s r,Instr.sliceAt,Instr.slice,run_underlying hu,hbd.1,zbe_ hd2]
  ·rename_i l n hx
   obtain ⟨p,e2,e⟩:=zaa_.1 e
   obtain ⟨ha1,ha2⟩:=zbg_ e2
   split at e
   ·rename_i hk
    obtain ⟨⟨x1,y1⟩,e1,e⟩:=zaa_.1 e
    injection e with e
    subst e
    rw [hx] at r
    simp only [rel] at r
    obtain ⟨-,-,hl,r⟩:=r
    have hv:=(r _ _ _ ha1).2 ha2
    obtain ⟨_,_,_,n1,_⟩:=R.arrRow ha1
    obtain ⟨hb,hxy,hyn⟩:=zha_ (P:=P) e1 (opt_ok S k2) (opt_ok S k3) (show n≤g.c (.obj l) by omega) true w
    by_cases hcj:g.c (.obj l)=x1
    ·refine ⟨.slice (some ⟨g.b (.obj l),0,none⟩) (y1 - x1) (g.c (.obj l) - x1),?_,?_⟩
     ·simp only [execOp,hv,hdr,Option.map_none]
      rw [hcj] at hb
      simp [Instr.sliceAt,Instr.slice,run_underlying hu,hb,zbe_ hd2,hcj]
     ·simp only [rel]
      refine ⟨trivial,⟨_,_,rfl⟩,hl,fun q k2 es2 h2=>⟨(r _ _ _ h2).1,fun _ hlt=>?_⟩⟩
      omega
    ·refine ⟨.slice (some ⟨g.b (.obj l),0 + x1 * kk,none⟩) (y1 - x1) (g.c (.obj l) - x1),?_,?_⟩
     ·simp only [execOp,hv,hdr,Option.map_none]
      simp [Instr.sliceAt,Instr.slice,run_underlying hu,hb,zbe_ hd2,hcj,Addr.add_lit]
     ·simp only [rel]
      refine ⟨trivial,⟨_,_,rfl⟩,hl,fun q k2 es2 h2=>⟨(r _ _ _ h2).1,fun _ hlt=>⟨g.c (.obj l) - x1,Nat.sub_le_sub_right (by omega) _,?_⟩⟩⟩
      rw [ha1] at h2
      injection h2 with h2
      injection h2 with _ h2 _
      simp only [Nat.zero_add,hk,h2]
   ·cases e
  ·cases e
 -- the address of an element
 ·rename_i t y i kk x i'
  simp only [Bool.and_eq_true] at k
  obtain ⟨⟨k0,k1⟩,k2⟩:=k
  obtain ⟨d,hu,hd⟩:=zap_ k0
  obtain ⟨e0,rfl,hd2⟩:=zcf_ hd
  simp only [xread] at e
  obtain ⟨n,e1,e⟩:=zaa_.1 e
  obtain ⟨ki,hi⟩:=zfi_ (opd_ok S k2) e1
  obtain ⟨mv,h1,h2⟩:=zbnb_ (P:=P) R hu hd2 (kk:=ki) e (opd_ok S k1)
  refine ⟨mv,?_,h2⟩
  simp only [execOp,Sem.run_bind,hi,h1]
  rfl
 -- the address of an array's element
 ·rename_i t y i n kk x i'
  simp only [Bool.and_eq_true] at k
  obtain ⟨⟨k0,k1⟩,k2⟩:=k
  obtain ⟨d,hu,hd⟩:=zap_ k0
  obtain ⟨n',e0,rfl,hd2⟩:=zqb_ hd
  simp only [Bool.and_eq_true,beq_iff_eq] at hd2
  obtain ⟨rfl,hs⟩:=hd2
  simp only [xread] at e
  obtain ⟨j,e1,e⟩:=zaa_.1 e
  obtain ⟨ki,hi⟩:=zfi_ (opd_ok S k2) e1
  have r:=opd_ok S k1
  split at e
  ·rename_i hj
   split at e
   ·rename_i l o hx
    injection e with e
    subst e
    rw [hx] at r
    simp only [rel] at r
    refine ⟨.pointer (some ⟨g.b (.obj l),o + j * kk,none⟩),?_,by simp only [rel]; exact ⟨trivial,trivial,r.2.2⟩⟩
    simp [execOp,r.2.1,hi,Instr.indexAt,run_underlying hu,asIntOf,Instr.sureAddr,hj,zbe_ hs,Addr.add_lit]
   ·rename_i u o hx
    injection e with e
    subst e
    rw [hx] at r
    simp only [rel] at r
    obtain ⟨b,q,m,r1,r2,r3⟩:=r
    refine ⟨.pointer (some ⟨b,q + o + j * kk,none⟩),?_,by simp only [rel]; exact ⟨b,q,m,by rw [Nat.add_assoc],r2,r3⟩⟩
    simp [execOp,r1,hi,Instr.indexAt,run_underlying hu,asIntOf,Instr.sureAddr,hj,zbe_ hs,Addr.add_lit]
   ·cases e
  ·cases e
 -- a length
 ·rename_i c str x
  simp only [Bool.and_eq_true,zea_,beq_iff_eq] at k
  obtain ⟨k,k2⟩:=k
  split at k
  ·rename_i b hc
   simp only [Bool.and_eq_true,beq_iff_eq] at k
   obtain ⟨rfl,k⟩:=k
   split at k2
   ·rename_i t ht
    obtain ⟨d,hu,hd⟩:=zap_ k2
    have r:=zcb_ S k
    simp only [evs] at r
    obtain ⟨m,l1,hl,r1,r⟩:=zam_.1 r
    rw [zad_] at r
    subst r
    have hargs:(c.args.map a.eval)=#[m]:=by
     apply Array.ext'
     rw [Array.toList_map,hl]
    cases str
    ·have hd:dSlice (fun _=>true) d=true:=hd
     obtain ⟨e0,rfl,_⟩:=zcf_ hd
     simp only [xread] at e
     obtain ⟨es,e1,e⟩:=zaa_.1 e
     injection e with e
     subst e
     obtain ⟨p,cp,rfl⟩:=(toL_ok R r1 e1).len
     refine ⟨_,?_,rel_of rfl⟩
     simp [execOp,resolve,hc,hargs,invoke,builtin,Builtin.len_,ht,run_underlying hu,goInt]
    ·have hd:dStr d=true:=hd
     have:=zjs_ hd
     subst this
     simp only [xread] at e
     split at e
     ·rename_i bs hx
      injection e with e
      subst e
      rw [hx] at r1
      have:=rel_s r1
      subst this
      refine ⟨_,?_,rel_of rfl⟩
      simp [execOp,resolve,hc,hargs,invoke,builtin,Builtin.len_,ht,run_underlying hu,goInt]
     ·cases e
   ·cases k2
  ·cases k
 -- out of a map
 ·rename_i t m k0 ok kk ok' z m' k'
  simp only [Bool.and_eq_true,beq_iff_eq] at k
  obtain ⟨⟨⟨q1,rfl⟩,q3⟩,q4⟩:=k
  obtain ⟨d,hu,hd⟩:=zap_ q1
  obtain ⟨kt,et,rfl,hd2⟩:=zub_ hd
  rw [Bool.and_eq_true] at hd2
  obtain ⟨dk,hkd,hkk⟩:=zap_ hd2.1
  obtain ⟨i,zv,hi,_,hz,rz⟩:=zqd_ (φ:=φ) (g:=g) (h:=h) hd2.2
  simp only [xread] at e
  obtain ⟨mv,h1,h2⟩:=zbmz_ (P:=P) R hu hkd hkk (opd_ok S q3) (opd_ok S q4) (by simp [zeroValue,zec_ hi,hz]) (zbq_ (fun _ _ _ e=>e) false _ _ rz) e
  exact ⟨mv,by simp only [execOp,Sem.run_bind,h1]; rfl,h2⟩
 ·cases k
end
end Go.Proofs.Sl
namespace Go.Proofs.Sl
section
variable {P:Program} {φ:Nat→Option FuncId} {h h':H} {g g':G} {w w':World} {N:Nat} {s:Sl} {a:Act}
theorem zbdd_ {b o:Nat} {m:Value} (e:w.cell? ⟨b,o,none⟩=some m):w.setCell ⟨b,o,none⟩ m=w:=by
 unfold World.cell? at e
 split at e
 ·rename_i c t f hb
  simp only [Option.isSome_none,Bool.false_eq_true,if_false] at e
  have:(w.setCell ⟨b,o,none⟩ m).heap=w.heap:=by
   apply Array.ext_getElem?
   intro i
   by_cases hi:i=b
   ·subst hi
    rw [zgt_ hb,hb]
    congr 2
    apply Array.ext_getElem?
    intro j
    by_cases hj:j=o
    ·subst hj
     rw [Array.getElem?_setIfInBounds_self_of_lt (Array.getElem?_eq_some_iff.1 e).1,e]
    ·rw [Array.getElem?_setIfInBounds_ne (Ne.symm hj)]
   ·rw [zbr_ hi]
  cases w
  simp only [World.setCell] at this ⊢
  rw [this]
 ·cases e
theorem zqe_ {l:Nat} {x:O} (e:h[l]?=some x):h.set l x=h:=by
 apply List.ext_getElem?
 intro i
 rw [zfc_]
 split
 ·rename_i hi
  subst hi
  rw [if_pos (zau_ e),e]
 ·rfl
theorem Ext.obj {l:Nat} (X:Ext h g w h' g' w') (e:IsBox h l):g'.b (.obj l)=g.b (.obj l):=(X.later.box l e).2
theorem SR.frozenArr (S:SR φ h g w) {l k:Nat} {es:List V} (hl:h[l]?=some (.arr true k es)) {m:Value} (r:rel φ g h false (.ref l es.length) m):rel φ g h true (.lst k es) m:=by
 simp only [rel] at r ⊢
 obtain ⟨_,_,_,r⟩:=r
 rw [(r _ _ _ hl).2 rfl]
 obtain ⟨cur,E,ms,e,s,n1,n2,rr,wd,t,k2,_⟩:=S.arr l true k es hl
 obtain ⟨hc,hM⟩:=k2 rfl
 have hsz:=zay_ wd rr
 have hf:=zat_ hsz
 rw [← zah_ rr] at hf
 refine .inl ⟨_,0,_,ms,rfl,n1,zbt_ es ms hc rr,RowM.of_flat hsz fun j u eu=>?_⟩
 have hj:j < es.length * k:=by rw [← hf]; exact (List.getElem?_eq_some_iff.1 eu).1
 rw [Nat.zero_add,hM,if_pos hj,← Array.getElem?_toList]
 rw [← t,List.getElem?_take,if_pos hj] at eu
 exact eu
theorem zbnd_ {l l':Nat} {x y:O} (hn:l≠l'):(h.set l' y).set l x=(h.set l x).set l' y:=by
 rw [List.set_comm _ _ (Ne.symm hn)]
theorem zbne_ {base l o:Nat} {cs:List V} {old new c:V} {m:Value} {hh hh':H} (hl:l < hh.length) (hbx:∃ z cs0,hh[l]?=some (.box z cs0)) (S:SR φ (hh.set l (.box false cs)) g w) (ho:cs[o]?=some old) (r:rel φ g (hh.set l (.box false cs)) false new m)
  (e:stCell base l o old new hh=some (c,hh')) :
  m.oneCell'=true∧hh'.length=hh.length∧(∃ z cs0,hh'[l]?=some (.box z cs0))∧∃ g',SR φ (hh'.set l (.box false (cs.set o c))) g' (w.setCell ⟨g.b (.obj l),o,none⟩ m)∧Ext (hh.set l (.box false cs)) g w (hh'.set l (.box false (cs.set o c))) g' (w.setCell ⟨g.b (.obj l),o,none⟩ m):=by
 have hb:(hh.set l (.box false cs))[l]?=some (.box false cs):=zae_ hl
 have hca:cellAt (hh.set l (.box false cs)) l o=some old:=by rw [zbd_ hb]; exact ho
 have hset:∀ x,(hh.set l (.box false cs)).set l x=hh.set l x:=fun x=>by rw [List.set_set]
 -- an ordinary value
 have plain:∀ v:V,old.tl=none→v.tl=none→v.cell=true→rel φ g (hh.set l (.box false cs)) false v m →
   m.oneCell'=true∧hh.length=hh.length∧(∃ z cs0,hh[l]?=some (.box z cs0))∧∃ g',SR φ (hh.set l (.box false (cs.set o v))) g' (w.setCell ⟨g.b (.obj l),o,none⟩ m)∧Ext (hh.set l (.box false cs)) g w (hh.set l (.box false (cs.set o v))) g' (w.setCell ⟨g.b (.obj l),o,none⟩ m):=by
  intro v h1 h2 h3 h4
  have:=S.put hb ho h1 h2 h3 h4
  rw [hset] at this
  exact ⟨zpv_ h4 h3,rfl,hbx,g,this⟩
 unfold stCell at e
 split at e
 ·rename_i k es0 gs
  split at e
  ·rename_i l' o' k' es
   split at e
   ·rename_i hc
    obtain ⟨rfl,rfl,rfl,hlen⟩:=hc
    injection e with e
    injection e with e1 e2
    subst e1 e2
    have r1:=r
    simp only [rel] at r
    obtain ⟨_,_,x,hx,r⟩:=r
    rw [hca] at hx
    injection hx with hx
    subst hx
    have hm:m=hdr (g.b (.cell l o)) gs.length (g.c (.cell l o)):=by
     rcases r with ⟨_,_,h1,_⟩ | ⟨k',es',gs',h1,h2,h3⟩
     ·cases h1
     ·injection h1 with h1 h4 h5
      subst h1 h4 h5
      rw [h3 hlen.symm,hlen]
    subst hm
    have:=S.grown hb ho
    rw [hset] at this
    exact ⟨rfl,rfl,hbx,g,this⟩
   ·cases e
  ·cases e
 ·rename_i k es
  split at e
  ·rename_i l' o' k' es'
   split at e
   ·rename_i hc
    obtain ⟨rfl,rfl,rfl,hlen⟩:=hc
    injection e with e
    injection e with e1 e2
    subst e1 e2
    simp only [rel] at r
    obtain ⟨_,_,x,hx,r⟩:=r
    rw [hca] at hx
    injection hx with hx
    subst hx
    have hm:m=hdr (g.b (.cell l o)) es.length (g.c (.cell l o)):=by
     rcases r with ⟨k',es2,h1,h2,h3⟩ | ⟨_,_,_,h1,_⟩
     ·injection h1 with h1 h4
      subst h1 h4
      rw [h3 hlen.symm,hlen]
     ·cases h1
    subst hm
    obtain ⟨_,_,_,_,_,_,_,_,_,_,_,_,_,hv⟩:=S.ownCells hca
    have hset2:cs.set o (.own k es)=cs:=by
     apply List.ext_getElem?
     intro i
     rw [List.getElem?_set]
     split
     ·rename_i hi
      subst hi
      rw [if_pos (List.getElem?_eq_some_iff.1 ho).1,ho]
     ·rfl
    rw [zbdd_ hv,hset2]
    exact ⟨rfl,rfl,hbx,g,S,Ext.refl _ _ _⟩
   ·cases e
  ·cases e
 ·rename_i hns hno
  have h1:old.tl=none:=by
   cases old <;> first | rfl | exact absurd rfl (hns _ _ _) | exact absurd rfl (hno _ _)
  split at e <;> first | (cases e; done) | skip
  ·rename_i l' o' k es
   injection e with e
   injection e with e1 e2
   subst e1 e2
   refine plain _ h1 rfl rfl ?_
   simp only [rel] at r ⊢
   exact .inl r.2.1
  ·rename_i l' n
   obtain ⟨p,e1,e⟩:=zaa_.1 e
   obtain ⟨ha1,ha2⟩:=zbg_ e1
   have hll:l≠l':=by
    rintro rfl
    obtain ⟨z,cs0,hbx⟩:=hbx
    rw [hbx] at ha1
    cases ha1
   have ha3:(hh.set l (.box false cs))[l']?=some (.arr p.1 p.2.1 p.2.2):=by rw [zak_ hll]; exact ha1
   split at e
   ·rename_i hp
    injection e with e
    injection e with e1 e2
    subst e1 e2
    rw [hp] at ha3
    refine plain _ h1 rfl rfl ?_
    rw [← ha2] at r
    exact zbq_ (fun _ _ _ e=>e) false _ _ (S.frozenArr ha3 r)
   ·rename_i hp
    have hp:p.1=false:=by simpa using hp
    rw [hp] at ha3
    split at e
    ·rename_i hcl
     injection e with e
     injection e with e1 e2
     subst e1 e2
     obtain ⟨g',S',X'⟩:=S.moveIn hb ho h1 ha3 hcl
     have hm:m=hdr (g.b (.obj l')) p.2.2.length (g.c (.obj l')):=by
      simp only [rel] at r
      obtain ⟨_,_,_,r⟩:=r
      rw [(r _ _ _ ha3).2 ha2,ha2]
     subst hm
     have hh2:((hh.set l (.box false cs)).set l' .dead).set l (.box false (cs.set o (.own p.2.1 p.2.2)))=(hh.set l' .dead).set l (.box false (cs.set o (.own p.2.1 p.2.2))):=by
      rw [← zbnd_ hll,List.set_set]
     rw [hh2] at S' X'
     refine ⟨rfl,by simp,?_,g',S',X'⟩
     obtain ⟨z,cs0,hbx⟩:=hbx
     exact ⟨z,cs0,by rw [zak_ (Ne.symm hll)]; exact hbx⟩
    ·cases e
  ·rename_i n1 n2 n3 n4 n5 n6 nb nw n7 n8 n9 n10
   split at e
   ·injection e with e
    injection e with e1 e2
    subst e1 e2
    have hcell:new.cell=true∧new.tl=none:=by
     cases new with
     | s x=>cases x <;> first | exact ⟨rfl,rfl⟩ | exact absurd rfl (n7 _) | exact absurd rfl (n8 _)
     | agg=>exact absurd rfl (n5 _)
     | tup=>exact absurd rfl (n6 _)
     | lnk=>exact absurd rfl (n9 _ _ _ _)
     | gro=>exact absurd rfl (n1 _ _ _ _)
     | own=>exact absurd rfl (n2 _ _)
     | spent=>exact absurd rfl (n3 _ _ _)
     | ref=>exact absurd rfl (n10 _ _)
     | eptr=>exact absurd rfl (n4 _ _ _ _)
     | bref=>exact absurd rfl (nb _ _)
     | win=>exact absurd rfl (nw _ _ _ _)
     | _=>exact ⟨rfl,rfl⟩
    exact plain _ h1 hcell.2 hcell.1 r
   ·cases e
theorem zum_ {base l b0 off0:Nat}:∀ (ns:List V) (o:Nat) (hh hh':H) (cs cs':List V) (g:G) (w:World) (ms:List Value) (i:Nat),l < hh.length→(∃ z cs0,hh[l]?=some (.box z cs0))→SR φ (hh.set l (.box false cs)) g w →
  g.b (.obj l)=b0→o=off0 + i→rels φ g (hh.set l (.box false cs)) false ns ms→zbi_ base l o ns hh cs=some (cs',hh') →
  ∃ g' w',(storeCells ⟨b0,off0,none⟩ ms i).run P w=.ok () w'∧SR φ (hh'.set l (.box false cs')) g' w'∧Ext (hh.set l (.box false cs)) g w (hh'.set l (.box false cs')) g' w'
 | [],o,hh,hh',cs,cs',g,w,ms,i,hl,hbx,S,hb0,ho,r,e=>by
  rw [zad_] at r
  subst r
  simp only [zbi_,Option.some.injEq,Prod.mk.injEq] at e
  obtain ⟨rfl,rfl⟩:=e
  exact ⟨g,w,by simp [storeCells],S,Ext.refl _ _ _⟩
 | n :: ns,o,hh,hh',cs,cs',g,w,ms,i,hl,hbx,S,hb0,ho,r,e=>by
  obtain ⟨m,ms',rfl,r1,r2⟩:=zam_.1 r
  simp only [zbi_] at e
  obtain ⟨old,e1,e⟩:=zaa_.1 e
  obtain ⟨⟨c,h2⟩,e2,e⟩:=zaa_.1 e
  obtain ⟨hone,hlen,hbx',g1,S1,X1⟩:=zbne_ hl hbx S e1 r1 e2
  have hb:(hh.set l (.box false cs))[l]?=some (.box false cs):=zae_ hl
  obtain ⟨⟨mv,hmv,_⟩,hfr⟩:=S.there hb e1
  subst hb0
  have ho':o + 1=off0 + (i + 1):=by omega
  have hl2:l < h2.length:=by rw [hlen]; exact hl
  obtain ⟨g2,w2,e3,S2,X2⟩:=zum_ ns (o + 1) h2 hh' (cs.set o c) cs' g1 _ ms' (i + 1) hl2 hbx' S1 (X1.obj ⟨_,_,hb⟩) ho' (zav_ X1.later _ _ _ r2) e
  refine ⟨g2,w2,?_,S2,X1.trans X2⟩
  simp only [storeCells,Sem.run_bind,Addr.add_lit]
  rw [run_store P w _ m .plain hone,← ho,hmv]
  simp only [hfr,Bool.false_eq_true,if_false,Result.andThen_ok]
  exact e3
end
end Go.Proofs.Sl
namespace Go.Proofs.Sl
section
variable {P:Program} {φ:Nat→Option FuncId} {h h':H} {g g':G} {w w':World} {N:Nat} {s:Sl} {a:Act}
structure Src (P:Program) (w:World) (size:Nat) (x:Value) (n:Nat) (news:List Value):Prop where
 len:∀ w,(Builtin.lenOf x).run P w=.ok n w
 cells:(Builtin.firstCells size n x).run P w=.ok news.toArray w
 cells':(Builtin.firstCells size n x).run P w.drew=.ok news.toArray w.drew
theorem RowW.cellsList {b o k:Nat} {ms:List Value} (hk:∀ u ∈ ms,u.cells.size=k) (hcell:∀ (i:Nat) (u:Value),ms[i]?=some u→∀ (j:Nat) (x:Value),u.cells[j]?=some x→w.cell? ⟨b,o + i * k + j,none⟩=some x) :
  ∀ (j:Nat) (u:Value),(flat ms)[j]?=some u→w.cell? ((⟨b,o,none⟩:Addr).add j)=some u:=by
 intro j u eu
 obtain ⟨i,j',m,e1,e2,rfl⟩:=ztt_ hk eu
 rw [Addr.add_lit,← Nat.add_assoc]
 exact hcell i m e1 j' u e2
theorem Src.row {k:Nat} {es:List V} {m:Value} (hw:wide k es=true) (r:RowW φ g h w es m):∃ ms,rels φ g h false es ms∧Src P w k m es.length (flat ms):=by
 rcases r with ⟨rfl,p,c,rfl⟩ | ⟨b,o,c,k',ms,rfl,hc,r,hk,hcell⟩
 ·cases p with
  | none=>exact ⟨[],zad_.2 rfl,fun w=>by simp [Builtin.lenOf],by simp [Builtin.firstCells,flat],by simp [Builtin.firstCells,flat]⟩
  | some a=>exact ⟨[],zad_.2 rfl,fun w=>by simp [Builtin.lenOf],run_firstCells_some w k 0 a 0 c [] (by simp) (fun j u eu=>by simp at eu),run_firstCells_some w.drew k 0 a 0 c [] (by simp) (fun j u eu=>by simp at eu)⟩
 ·have hk2:=zay_ hw r
  have hf:=zat_ hk2
  rw [← zah_ r] at hf
  have hcl:=RowW.cellsList hk hcell
  exact ⟨ms,r,fun w=>by simp [Builtin.lenOf],run_firstCells_some w k es.length ⟨b,o,none⟩ es.length c (flat ms) hf hcl,run_firstCells_some w.drew k es.length ⟨b,o,none⟩ es.length c (flat ms) hf hcl⟩
theorem zbnf_ (s:ByteArray):rels φ g h false (zdu_ s) (s.data.toList.map fun b=>Value.int .u8 b.toNat):=by
 unfold zdu_
 refine zdw_ (by simp) fun i v m e1 e2=>?_
 rw [List.getElem?_map] at e1 e2
 cases hb:s.data.toList[i]? with
 | none=>rw [hb] at e1; cases e1
 | some b =>
  rw [hb] at e1 e2
  injection e1 with e1
  injection e2 with e2
  subst e1 e2
  exact rel_of rfl
theorem zbng_ (l:List Value) (hl:∀ u ∈ l,u.cells=#[u]):flat l=l:=by
 induction l with
 | nil=>rfl
 | cons x l ih =>
  simp only [flat,List.flatMap_cons,hl x (by simp)]
  have:=ih fun u hu=>hl u (List.mem_cons_of_mem _ hu)
  rw [flat] at this
  rw [this]
  rfl
theorem Src.str (s:ByteArray) (k:Nat):Src P w k (.string s) (zdu_ s).length (flat (s.data.toList.map fun b=>Value.int .u8 b.toNat)):=by
 have hn:(zdu_ s).length=s.size:=by
  simp only [zdu_,List.length_map,Array.length_toList]
  rfl
 have hfl:flat (s.data.toList.map fun b=>Value.int .u8 b.toNat)=s.data.toList.map fun b=>Value.int .u8 b.toNat:=zbng_ _ fun u hu=>by
  obtain ⟨b,_,rfl⟩:=List.mem_map.1 hu
  rfl
 have hx:(s.extract 0 s.size).data.map (fun b=>Value.int .u8 b.toNat)=(s.data.toList.map fun b=>Value.int .u8 b.toNat).toArray:=by
  rw [ByteArray.extract_zero_size]
  apply Array.ext'
  rw [Array.toList_map]
 rw [hfl,hn]
 exact ⟨fun w=>by simp [Builtin.lenOf],by simp only [Builtin.firstCells,Sem.run_pure,hx],by simp only [Builtin.firstCells,Sem.run_pure,hx]⟩
structure AppT (P:Program) (t u e:TypeId) (it:TypeInfo) (zv:Value) (k:Nat):Prop where
 ht:P.underlying t=some (.slice e)
 hu:P.underlying u=some .string∨∃ e',P.underlying u=some (.slice e')
 hi:P.info? e=some it
 hz:it.zero=some zv
 hk:it.size=k
 zs:zv.cells.size=k
theorem zbnh_ {t u e ty:TypeId} {i:TypeInfo} {z:Value} {k:Nat} (T:AppT P t u e i z k) {x:Value} {news:List Value} (S:Src P w k x 0 news) :
  (Builtin.append_ #[t,u] ty #[.slice none 0 0,x]).run P w=.ok (.slice none 0 0) w:=by
 have hs:=S.cells
 have hk:=T.hk
 subst hk
 rcases T.hu with hd | ⟨e',hd⟩ <;> simp [Builtin.append_,run_underlying T.ht,run_underlying hd,sizeOf,typeInfo,T.hi,S.len,hs]
theorem zbni_ {t u e ty:TypeId} {i:TypeInfo} {z:Value} {k n:Nat} (T:AppT P t u e i z k) {x:Value} {news:List Value} (S:Src P w k x n news) (h0:0 < n) (h63:(n:Int)≤9223372036854775807) (h48:n * i.bytes≤281474976710656) :
  (Builtin.append_ #[t,u] ty #[.slice none 0 0,x]).run P w=.ok (.slice (some ⟨w.heap.size,0,none⟩) n (grownCap w n 0 e)) (w.drew.alloc (.cells (news.toArray++Builtin.zeroCells z.cells (grownCap w n 0 e - n)) e)):=by
 have hs:=S.cells'
 have hk:=T.hk
 subst hk
 have hn:n≠0:=by omega
 have h63':¬ (9223372036854775807 < (n:Int)):=by omega
 have h48':¬ (281474976710656 < Builtin.nextslicecap n 0 * i.bytes):=by rw [nextslicecap_zero h0]; omega
 rcases T.hu with hd | ⟨e',hd⟩ <;> simp [Builtin.append_,run_underlying T.ht,run_underlying hd,sizeOf,typeInfo,zeroValue,T.hi,T.hz,S.len,hn,h63',h48',Question.forced,run_firstCells_none,hs,newRow,grownCap]
theorem zbde_ {t u e ty:TypeId} {i:TypeInfo} {z:Value} {k n:Nat} (T:AppT P t u e i z k) {x:Value} {news:List Value} (S:Src P w k x n news)
  (b:Addr) (sLen sCap:Nat) (olds:List Value) (hlo:olds.length=sLen * k) (holds:∀ j v,olds[j]?=some v→w.cell? (b.add j)=some v)
  (hg:sCap < sLen + n) (h63:((sLen + n:Nat):Int)≤9223372036854775807) (hfit:Builtin.nextslicecap (sLen + n) sCap * i.bytes≤281474976710656) :
  (Builtin.append_ #[t,u] ty #[.slice (some b) sLen sCap,x]).run P w =
   .ok (.slice (some ⟨w.heap.size,0,none⟩) (sLen + n) (grownCap w (sLen + n) sCap e))
    (w.drew.alloc (.cells (olds.toArray++news.toArray++Builtin.zeroCells z.cells (grownCap w (sLen + n) sCap e - (sLen + n))) e)):=by
 have hs:=S.cells'
 have hk:=T.hk
 subst hk
 have hn:¬ (sLen + n≤sCap):=by omega
 have h63':¬ (9223372036854775807 < ((sLen:Int) + (n:Int))):=by omega
 have h48':¬ (281474976710656 < Builtin.nextslicecap (sLen + n) sCap * i.bytes):=by omega
 have hfo:=run_firstCells_some (P:=P) w.drew i.size sLen b sLen sCap olds hlo (by simpa using holds)
 rcases T.hu with hd | ⟨e',hd⟩
 ·simp [Builtin.append_,run_underlying T.ht,run_underlying hd,sizeOf,typeInfo,zeroValue,T.hi,T.hz,S.len,hn,h63',h48',Question.forced,hs,hfo,newRow,grownCap]
  congr 2
  apply Array.ext'
  simp [List.append_assoc]
 ·simp [Builtin.append_,run_underlying T.ht,run_underlying hd,sizeOf,typeInfo,zeroValue,T.hi,T.hz,S.len,hn,h63',h48',Question.forced,hs,hfo,newRow,grownCap]
  congr 2
  apply Array.ext'
  simp [List.append_assoc]
theorem zun_ {t u e ty:TypeId} {i:TypeInfo} {z:Value} {k n:Nat} (T:AppT P t u e i z k) {x:Value} {news:List Value} (S:Src P w k x n news)
  (b sLen sCap:Nat) {cur:Array Value} {E:TypeId} (hc:w.heap[b]?=some (.cells cur E (0,0))) (h1:∀ u ∈ news,u.oneCell'=true) (hroom:sLen + n≤sCap) (hfit:sLen * k + news.length≤cur.size) :
  (Builtin.append_ #[t,u] ty #[.slice (some ⟨b,0,none⟩) sLen sCap,x]).run P w =
   .ok (.slice (some ⟨b,0,none⟩) (sLen + n) sCap) (w.setRow b (cur.toList.take (sLen * k)++news++cur.toList.drop (sLen * k + news.length)).toArray):=by
 have hs:=S.cells
 have hk:=T.hk
 subst hk
 have hst:=run_storeCells_at P b (sLen * i.size) E news 0 cur w hc (by simpa using hfit) h1
 simp only [Nat.add_zero] at hst
 rcases T.hu with hd | ⟨e',hd⟩ <;> simp [Builtin.append_,run_underlying T.ht,run_underlying hd,sizeOf,typeInfo,T.hi,S.len,hroom,hs,Addr.add_lit,hst]
theorem zbnj_ {z:Array Value} {k n:Nat} (hz:z.size=k):(Builtin.zeroCells z n).toList.length=n * k:=by
 rw [Array.length_toList,size_zeroCells,hz]
theorem zbnk_ (R:SR φ h g w) {y:V} {my:Value} {ys:List V} {k:Nat} (r:rel φ g h false y my) (e:appEls h y=some ys) (hw:wide k ys=true):∃ ms,rels φ g h false ys ms∧Src P w k my ys.length (flat ms):=by
 unfold appEls at e
 split at e
 ·rename_i b
  injection e with e
  subst e
  rw [rel_s r]
  exact ⟨_,zbnf_ b,Src.str b k⟩
 ·have rr:=toL_ok R r e
  exact Src.row hw rr
theorem zbnl_ (R:SR φ h g w) {t u e ty:TypeId} {i:TypeInfo} {z:Value} {k lim:Nat} (T:AppT P t u e i z k) (hlim:lim≤maxLen) (hby:lim * i.bytes≤140737488355328)
  {x y v:V} {mx my:Value} (rx:rel φ g h false x mx) (ry:rel φ g h false y my) (ex:zao_ h k lim x y=some (v,h')) :
  ∃ mv g' w',(Builtin.append_ #[t,u] ty #[mx,my]).run P w=.ok mv w'∧SR φ h' g' w'∧Ext h g w h' g' w'∧rel φ g' h' false v mv:=by
 have h63:∀ n,n≤lim→(n:Int)≤9223372036854775807:=fun n hn=>by simp only [maxLen] at hlim; omega
 have hbytes:∀ n,n≤lim→n * i.bytes≤140737488355328:=fun n hn=>Nat.le_trans (Nat.mul_le_mul_right _ hn) hby
 have hmax:∀ n,n≤lim→n≤maxLen:=fun n hn=>Nat.le_trans hn hlim
 unfold zao_ at ex
 obtain ⟨ys,ey,ex⟩:=zaa_.1 ex
 split at ex
 ·rename_i hc
  obtain ⟨hwd,hcl⟩:=hc
  obtain ⟨nms,ry',S⟩:=zbnk_ (P:=P) R ry ey hwd
  have hsz:=zay_ hwd ry'
  have hfl:=zat_ hsz
  rw [← zah_ ry'] at hfl
  have hone:=zbcf_ hwd ry'
  split at ex
  -- nothing yet
  ·rw [rel_s rx]
   split at ex
   ·rename_i h0
    injection ex with ex
    injection ex with e1 e2
    subst e1 e2
    rw [h0] at S
    exact ⟨_,g,w,zbnh_ T S,R,Ext.refl _ _ _,rel_of rfl⟩
   ·rename_i h0
    split at ex
    ·rename_i hl
     injection ex with ex
     injection ex with e1 e2
     subst e1 e2
     have hpos:0 < ys.length:=by omega
     have hr:=zbni_ (ty:=ty) T S hpos (h63 _ hl) (Nat.le_trans (hbytes _ hl) (by decide))
     have hge:=grownCap_ge w ys.length 0 e
     have hle:=grownCap_le_maxLen w ys.length 0 e (hmax _ hl)
     have hp:=R.drew.push (.arr false k ys) ((flat nms).toArray++Builtin.zeroCells z.cells (grownCap w ys.length 0 e - ys.length)) e (grownCap w ys.length 0 e) (fun _ _ h=>by cases h) (fun z0 k0 es0 h=>by
      injection h with h1 h2 h3
      subst h1 h2 h3
      refine ⟨rfl,nms,?_,hge,hle,ry',hwd,?_⟩
      ·rw [Array.size_append,List.size_toArray,hfl,size_zeroCells,T.zs,← Nat.add_mul]
       congr 1
       omega
      ·rw [Array.toList_append,List.take_append_of_le_length (by rw [hfl]; exact Nat.le_refl _),← hfl,List.take_length])
     refine ⟨_,_,_,hr,hp.1,(Ext.drew h g w).trans hp.2,?_⟩
     simp only [rel]
     refine ⟨trivial,⟨_,_,rfl⟩,by simp,fun q k0 es0 ee=>?_⟩
     rw [List.getElem?_concat_length] at ee
     injection ee with ee
     injection ee with _ _ ee
     subst ee
     exact ⟨Nat.le_refl _,fun _=>by simp only [hdr,G.setB,if_true]; rfl⟩
    ·cases ex
  -- an array of ours
  ·rename_i l n _
   obtain ⟨p,e1,ex⟩:=zaa_.1 ex
   obtain ⟨ha,hn⟩:=zbg_ e1
   split at ex
   ·rename_i hp
    obtain ⟨hz,rfl,hl⟩:=hp
    injection ex with ex
    injection ex with e2 e3
    subst e2 e3
    rw [hz] at ha
    simp only [rel] at rx
    obtain ⟨-,-,hlt,rx⟩:=rx
    rw [(rx _ _ _ ha).2 hn]
    obtain ⟨cur,E,ms,hcur,hs,n1,n2,rr,wd,tk,_,_⟩:=R.arr _ _ _ _ ha
    have hmsz:=zay_ wd rr
    have hmf:=zat_ hmsz
    rw [← zah_ rr] at hmf
    by_cases hroom:n + ys.length≤g.c (.obj l)
    ·have hr:=zun_ (ty:=ty) T S (g.b (.obj l)) n (g.c (.obj l)) hcur hone hroom (by rw [hfl,hs,← Nat.add_mul]; exact Nat.mul_le_mul_right _ hroom)
     have hs2:=R.appIn ha ry' hwd hcur (by rw [hn]; exact hroom)
     rw [hn] at hs2
     refine ⟨_,g,_,hr,hs2.1,hs2.2,?_⟩
     simp only [rel]
     refine ⟨trivial,⟨_,_,rfl⟩,by simpa using hlt,fun q k0 es0 ee=>?_⟩
     rw [zae_ hlt] at ee
     injection ee with ee
     injection ee with _ _ ee
     subst ee
     rw [List.length_append,hn]
     exact ⟨Nat.le_refl _,fun _=>rfl⟩
    ·have hpos:0 < ys.length:=by omega
     have holds:∀ j v,(flat ms)[j]?=some v→w.cell? ((⟨g.b (.obj l),0,none⟩:Addr).add j)=some v:=fun j u eu=>by
      have hj:j < p.2.2.length * p.2.1:=by rw [← hmf]; exact (List.getElem?_eq_some_iff.1 eu).1
      rw [Addr.add_lit,zbj_ hcur,Nat.zero_add,← Array.getElem?_toList]
      rw [← tk,List.getElem?_take,if_pos hj] at eu
      exact eu
     have hr:=zbde_ (ty:=ty) T S ⟨g.b (.obj l),0,none⟩ n (g.c (.obj l)) (flat ms) (by rw [hmf,hn]) holds (by omega) (h63 _ hl) (growslice_fits (by omega) (hbytes _ hl))
     have hge:=grownCap_ge w (n + ys.length) (g.c (.obj l)) e
     have hle:=grownCap_le_maxLen w (n + ys.length) (g.c (.obj l)) e (hmax _ hl)
     have hzl:=zbnj_ (n:=grownCap w (n + ys.length) (g.c (.obj l)) e - (n + ys.length)) T.zs
     have hs2:=R.appGrow ha rr wd ry' hwd (Builtin.zeroCells z.cells (grownCap w (n + ys.length) (g.c (.obj l)) e - (n + ys.length))).toList (grownCap w (n + ys.length) (g.c (.obj l)) e) e
      (by rw [hzl,hn,← Nat.add_mul]; congr 1; omega) (by rw [hn]; exact hge) hle hpos
     have hcells:((flat ms).toArray++(flat nms).toArray++Builtin.zeroCells z.cells (grownCap w (n + ys.length) (g.c (.obj l)) e - (n + ys.length))) =
       (flat ms++flat nms++(Builtin.zeroCells z.cells (grownCap w (n + ys.length) (g.c (.obj l)) e - (n + ys.length))).toList).toArray:=by
      apply Array.ext'
      simp
     rw [hcells] at hr
     refine ⟨_,_,_,hr,hs2.1,hs2.2,?_⟩
     simp only [rel]
     refine ⟨trivial,⟨_,_,rfl⟩,by simpa using hlt,fun q k0 es0 ee=>?_⟩
     rw [zae_ hlt] at ee
     injection ee with ee
     injection ee with _ _ ee
     subst ee
     rw [List.length_append,hn]
     exact ⟨Nat.le_refl _,fun _=>by simp [hdr,G.setB]⟩
   ·cases ex
  -- the list of a cell
  ·rename_i l o k' es _
   obtain ⟨p,e1,ex1⟩:=zaa_.1 ex
   obtain ⟨c,e2,ex2⟩:=zaa_.1 ex1
   clear ex ex1
   have hb:=zcg_ e1
   have hca:cellAt h l o=some c:=by rw [zbd_ hb]; exact e2
   split at ex2
   ·rename_i k'' es'
    split at ex2
    ·rename_i hp
     obtain ⟨hz,hlen,rfl,rfl,hl⟩:=hp
     simp only [rel] at rx
     obtain ⟨_,_,x,hx,rx⟩:=rx
     rw [hca] at hx
     injection hx with hx
     subst hx
     have hmx:mx=hdr (g.b (.cell l o)) es'.length (g.c (.cell l o)):=by
      rcases rx with ⟨k1,es1,h1,h2,h3⟩ | ⟨_,_,_,h1,_⟩
      ·injection h1 with h1 h4
       subst h1 h4
       rw [h3 hlen.symm,hlen]
      ·cases h1
     subst hmx
     obtain ⟨cur,E,ms,hcur,hs,n1,n2,rr,hmsz,hmf,hrow,hin,hnone,hv⟩:=R.ownCells hca
     have hfit:∀ m,es'.length + m≤g.c (.cell l o)→es'.length * k + m * k≤cur.size:=fun m hm=>by
      rw [hs,← Nat.add_mul]
      exact Nat.mul_le_mul_right _ hm
     split at ex2
     ·rename_i h0
      injection ex2 with ex2
      injection ex2 with e3 e4
      subst e3 e4
      have hf0:flat nms=[]:=List.eq_nil_of_length_eq_zero (by rw [hfl,h0,Nat.zero_mul])
      have hr:=zun_ (ty:=ty) T S (g.b (.cell l o)) es'.length (g.c (.cell l o)) hcur hone (by omega) (by rw [hfl]; exact hfit _ (by omega))
      have hw:w.setRow (g.b (.cell l o)) (cur.toList.take (es'.length * k)++flat nms++cur.toList.drop (es'.length * k + (flat nms).length)).toArray=w:=by
       rw [hf0,List.append_nil,List.length_nil,Nat.add_zero,List.take_append_drop,Array.toArray_toList]
       exact setRow_self w _ cur E (0,0) hcur
      rw [hw,h0] at hr
      refine ⟨_,g,w,hr,R,Ext.refl _ _ _,?_⟩
      simp only [rel]
      exact ⟨trivial,⟨_,0,_,ms,rfl,n1,rr,hrow⟩,_,hca,.inl ⟨_,_,rfl,Nat.le_refl _,fun _=>rfl⟩⟩
     ·rename_i h0
      have hpos:0 < ys.length:=by omega
      injection ex2 with ex2
      injection ex2 with e3 e4
      subst e3 e4
      rw [hz] at hb
      have ryt:=zbt_ ys nms hcl ry'
      by_cases hroom:es'.length + ys.length≤g.c (.cell l o)
      ·have hr:=zun_ (ty:=ty) T S (g.b (.cell l o)) es'.length (g.c (.cell l o)) hcur hone hroom (by rw [hfl]; exact hfit _ hroom)
       have hsize:es'.length * k + ys.length * k≤cur.size:=hfit _ hroom
       obtain ⟨g',S',X',r'⟩:=R.ownGrown hb e2 rr hmsz ryt hwd hpos (g.b (.cell l o)) (g.c (.cell l o)) _ _ E (setRow_heap w (g.b (.cell l o)) cur (cur.toList.take (es'.length * k)++flat nms++cur.toList.drop (es'.length * k + (flat nms).length)).toArray E (0,0) hcur)
        (by
         have hlt:cur.toList.length=cur.size:=Array.length_toList
         rw [List.size_toArray,List.length_append,List.length_append,List.length_take,List.length_drop,hlt,hfl,← hs]
         omega) hroom n2 (by
         intro j u eu
         rw [List.getElem?_toArray]
         have htk:cur.toList.take (es'.length * k)=flat ms:=by
          apply List.ext_getElem?
          intro q
          rw [List.getElem?_take]
          split
          ·rename_i hq
           rw [Array.getElem?_toList]
           cases hfm:(flat ms)[q]? with
           | none =>
            rw [List.getElem?_eq_none_iff] at hfm
            omega
           | some u=>exact hin q u hfm
          ·rename_i hq
           rw [eq_comm,List.getElem?_eq_none_iff]
           omega
         rw [htk,List.getElem?_append_left (by
          have:=(List.getElem?_eq_some_iff.1 eu).1
          exact this)]
         exact eu) rfl rfl rfl (Nat.le_refl _) (by simp) (fun q _ hq=>setRow_other w _ q _ hq) (.inl rfl) (fun _ j hj u eu=>by
         have h1:=R.mem _ _ _ eu
         rw [zbj_ hcur] at h1
         cases hfm:(flat ms)[j]? with
         | none =>
          rw [List.getElem?_eq_none_iff] at hfm
          omega
         | some u' =>
          have:=hin j u' hfm
          rw [this] at h1
          exact h1)
       exact ⟨_,g',_,hr,S',X',r'⟩
      ·have holds:∀ j v,(flat ms)[j]?=some v→w.cell? ((⟨g.b (.cell l o),0,none⟩:Addr).add j)=some v:=fun j u eu=>by
        rw [Addr.add_lit,zbj_ hcur,Nat.zero_add]
        exact hin j u eu
       have hr:=zbde_ (ty:=ty) T S ⟨g.b (.cell l o),0,none⟩ es'.length (g.c (.cell l o)) (flat ms) hmf holds (by omega) (h63 _ hl) (growslice_fits (by omega) (hbytes _ hl))
       have hge:=grownCap_ge w (es'.length + ys.length) (g.c (.cell l o)) e
       have hle:=grownCap_le_maxLen w (es'.length + ys.length) (g.c (.cell l o)) e (hmax _ hl)
       obtain ⟨g',S',X',r'⟩:=R.ownGrown hb e2 rr hmsz ryt hwd hpos w.heap.size (grownCap w (es'.length + ys.length) (g.c (.cell l o)) e) _ _ e
        (heap_alloc_new w.drew (.cells ((flat ms).toArray++(flat nms).toArray++Builtin.zeroCells z.cells (grownCap w (es'.length + ys.length) (g.c (.cell l o)) e - (es'.length + ys.length))) e))
        (by
         rw [Array.size_append,Array.size_append,List.size_toArray,List.size_toArray,hmf,hfl,size_zeroCells,T.zs,← Nat.add_mul,← Nat.add_mul]
         congr 1
         omega) hge hle (by
         intro j u eu
         rw [← Array.getElem?_toList,Array.toList_append,Array.toList_append,List.getElem?_append_left (by
          have:=(List.getElem?_eq_some_iff.1 eu).1
          simpa using this)]
         exact eu) rfl rfl rfl (Nat.le_succ _) (by rw [World.alloc,Array.size_push]; exact Nat.le_succ _) (fun q hq _=>zbm_ (w:=w.drew) hq) (.inr rfl) (fun hb0=>by
          have:=R.lt (a:=.cell l o) ⟨_,_,hca,rfl⟩
          omega)
       exact ⟨_,g',_,hr,S',X',r'⟩
    ·cases ex2
   ·cases ex2
  ·cases ex
 ·cases ex
end
end Go.Proofs.Sl
namespace Go.Proofs.Sl
section
variable {P:Program} {φ:Nat→Option FuncId} {h h':H} {g g':G} {w w':World} {N:Nat} {s:Sl} {a:Act}
theorem frz_ok (R:SR φ h g w) {v v':V} {m:Value} (r:rel φ g h false v m) (e:frz h v=some (v',h')):∃ g',SR φ h' g' w∧Ext h g w h' g' w∧rel φ g' h' false v' m:=by
 unfold frz at e
 split at e
 ·rename_i l n
  obtain ⟨p,e1,e⟩:=zaa_.1 e
  obtain ⟨ha,hn⟩:=zbg_ e1
  split at e
  ·rename_i hc
   injection e with e
   injection e with e2 e3
   subst e2 e3
   obtain ⟨g',S',X',k⟩:=R.freeze ha hc
   rw [← hn] at r
   exact ⟨g',S',X',zbq_ (fun _ _ _ e=>e) false _ _ (k m r)⟩
  ·cases e
 ·obtain ⟨u,e1,e⟩:=zaa_.1 e
  injection e with e
  injection e with e2 e3
  subst e2 e3
  exact ⟨g,R,Ext.refl _ _ _,zqa_ r e1⟩
theorem zuo_ (R:SR φ h g w) {rr:Bool} {v v':V} {m:Value} (r:rel φ g h false v m) (e:keep rr h v=some (v',h')):∃ g',SR φ h' g' w∧Ext h g w h' g' w∧rel φ g' h' false v' m:=by
 unfold keep at e
 split at e
 ·exact frz_ok R r e
 ·obtain ⟨u,e1,e⟩:=zaa_.1 e
  injection e with e
  injection e with e2 e3
  subst e2 e3
  exact ⟨g,R,Ext.refl _ _ _,zqa_ r e1⟩
theorem zhb_ {rr:Bool}:∀ {l l':List V} {ms:List Value} {h h':H} {g:G},SR φ h g w→rels φ g h false l ms→keeps rr h l=some (l',h')→∃ g',SR φ h' g' w∧Ext h g w h' g' w∧rels φ g' h' false l' ms
 | [],l',ms,h,h',g,R,r,e=>by
  simp only [keeps,Option.some.injEq,Prod.mk.injEq] at e
  obtain ⟨rfl,rfl⟩:=e
  exact ⟨g,R,Ext.refl _ _ _,r⟩
 | v :: l,l',ms,h,h',g,R,r,e=>by
  obtain ⟨m,ms',rfl,r1,r2⟩:=zam_.1 r
  simp only [keeps] at e
  obtain ⟨⟨v',h1⟩,e1,e⟩:=zaa_.1 e
  obtain ⟨⟨l2,h2⟩,e2,e⟩:=zaa_.1 e
  injection e with e
  injection e with e3 e4
  subst e3 e4
  obtain ⟨g1,R1,X1,r3⟩:=zuo_ R r1 e1
  obtain ⟨g2,R2,X2,r4⟩:=zhb_ R1 (zav_ X1.later _ _ _ r2) e2
  exact ⟨g2,R2,X1.trans X2,zaj_.2 ⟨zcq_ X2.later _ _ _ r3,r4⟩⟩
theorem zup_ {o:O} {b c:Nat} {g:G} (hb:∃ z cs,o=.box z cs):rel φ (g.setB (.obj h.length) b c) (h++[o]) false (.ptr h.length 0) (.pointer (some ⟨b,0,none⟩)):=by
 simp only [rel]
 obtain ⟨z,cs,rfl⟩:=hb
 exact ⟨trivial,by simp [G.setB],z,cs,by rw [List.getElem?_concat_length]⟩
theorem zbnm_ (R:SR φ h g w) {t:TypeId} {z:List V} (k:zeroIs P t z=true) :
  ∃ g' w',(Instr.alloc t true (.tuple #[])).run P w=.ok (.pointer (some ⟨w.heap.size,0,none⟩)) w'∧SR φ (h++[.box false z]) g' w'∧Ext h g w (h++[.box false z]) g' w'∧rel φ g' (h++[.box false z]) false (.ptr h.length 0) (.pointer (some ⟨w.heap.size,0,none⟩)):=by
 unfold zeroIs at k
 split at k
 ·rename_i i hi
  split at k
  ·rename_i zv hz
   rw [Bool.and_eq_true] at k
   obtain ⟨r,c1,c2,c3⟩:=eqZ_ok (φ:=φ) (g:=g) (h:=h) k.2
   have hp:=R.push (.box false z) zv.cells t 0 (fun z0 cs0 e=>by
    injection e with e1 e2
    subst e1 e2
    exact ⟨rfl,zal_ (fun _ _ _ e=>e) false _ _ r,c1,c3⟩) (fun _ _ _ e=>by cases e)
   refine ⟨_,_,?_,hp.1,hp.2,zup_ ⟨_,_,rfl⟩⟩
   simp [Instr.alloc,zeroValue,zec_ hi,hz,newVar,newRow]
  ·cases k
 ·cases k
theorem zbdf_:∀ {l:List V},noOwn l=true→noTl l
 | [],_=>fun i x e=>by simp at e
 | v :: l,k=>fun i x e=>by
  have h2:v.tl=none∧noOwn l=true:=by
   cases v <;> first | exact ⟨rfl,k⟩ | (cases k; done)
  cases i with
  | zero=>simp only [List.getElem?_cons_zero,Option.some.injEq] at e; subst e; exact h2.1
  | succ i=>exact zbdf_ h2.2 i x (by simpa using e)
theorem box_ok (R:SR φ h g w) {cs:List V} {m:Value} (r:rels φ g h false cs m.cells.toList) (hc:zai_ cs=true) (hn:noTl cs) (t:TypeId) :
  ∃ g' w',(Instr.box t m).run P w=.ok (.pointer (some ⟨w.heap.size,0,none⟩)) w'∧SR φ (h++[.box false cs]) g' w'∧Ext h g w (h++[.box false cs]) g' w'∧rel φ g' (h++[.box false cs]) false (.ptr h.length 0) (.pointer (some ⟨w.heap.size,0,none⟩)):=by
 have hp:=R.push (.box false cs) m.cells t 0 (fun z0 cs0 e=>by
  injection e with e1 e2
  subst e1 e2
  exact ⟨rfl,r,hc,hn⟩) (fun _ _ _ e=>by cases e)
 refine ⟨_,_,?_,hp.1,hp.2,zup_ ⟨_,_,rfl⟩⟩
 simp [Instr.box,newVar,newRow]
theorem zbdg_:∀ {cs:List V},zgo_ cs=true→∀ {ms:List Value},rels φ g h false cs ms→rels φ g h false (ms.map V.s) ms∧zai_ (ms.map V.s)=true
 | [],_,ms,r=>by
  rw [zad_] at r
  subst r
  exact ⟨zad_.2 rfl,rfl⟩
 | v :: cs,k,ms,r=>by
  obtain ⟨m,s,rfl,r1,r2⟩:=zam_.1 r
  have hv:(v.cell=true∨∃ l n,v=.ref l n)∧zgo_ cs=true:=by
   cases v <;> first | exact ⟨.inr ⟨_,_,rfl⟩,k⟩ | (simp only [zgo_,Bool.and_eq_true] at k; exact ⟨.inl k.1,k.2⟩)
  obtain ⟨h1,h2⟩:=zbdg_ hv.2 r2
  have hm:m.oneCell'=true:=by
   rcases hv.1 with hc | ⟨l,n,rfl⟩
   ·exact zpv_ r1 hc
   ·simp only [rel] at r1
    obtain ⟨_,⟨a,c,rfl⟩,_⟩:=r1
    rfl
  have hs:notAgg m=true∧V.cell (.s m)=true:=by cases m <;> first | exact ⟨rfl,rfl⟩ | (simp [Value.oneCell'] at hm)
  refine ⟨zaj_.2 ⟨?_,h1⟩,?_⟩
  ·simp [rel,hs.1]
  ·simp only [List.map_cons,zai_,Bool.and_eq_true]
   exact ⟨hs.2,h2⟩
def zhc_ (v:V):Prop:=∃ x,v=.s x
theorem zbnn_ {base l o:Nat} {a b n:V} {hh:H} (ha:zhc_ a) (hb:zhc_ b):stCell base l o a n hh=stCell base l o b n hh:=by
 obtain ⟨x,rfl⟩:=ha
 obtain ⟨y,rfl⟩:=hb
 rfl
theorem zbdh_ {base l:Nat}:∀ (ns:List V) (o:Nat) (hh:H) (cs cs2 cs':List V) (h2:H),(∀ i x,o≤i→cs[i]?=some x→zhc_ x)→(∀ i x,o≤i→cs2[i]?=some x→zhc_ x)→cs.length=cs2.length→cs.take o=cs2.take o→cs.length=o + ns.length →
  zbi_ base l o ns hh cs=some (cs',h2)→zbi_ base l o ns hh cs2=some (cs',h2)
 | [],o,hh,cs,cs2,cs',h2,p1,p2,hl,ht,hn,e=>by
  simp only [List.length_nil,Nat.add_zero] at hn
  rw [List.take_of_length_le (by omega),List.take_of_length_le (by omega)] at ht
  subst ht
  exact e
 | n :: ns,o,hh,cs,cs2,cs',h2,p1,p2,hl,ht,hn,e=>by
  simp only [List.length_cons] at hn
  simp only [zbi_] at e ⊢
  obtain ⟨old,e1,e⟩:=zaa_.1 e
  obtain ⟨⟨c,h1⟩,e2,e⟩:=zaa_.1 e
  have e3:cs2[o]?=some cs2[o]:=List.getElem?_eq_getElem (by omega)
  rw [e3,zab_,← zbnn_ (p1 o _ (Nat.le_refl _) e1) (p2 o _ (Nat.le_refl _) e3),e2,zab_]
  refine zbdh_ ns (o + 1) h1 (cs.set o c) (cs2.set o c) cs' h2 (fun i x hi ex=>?_) (fun i x hi ex=>?_) (by simp [hl]) ?_ (by simp; omega) e
  ·rw [List.getElem?_set_ne (by omega)] at ex
   exact p1 i x (by omega) ex
  ·rw [List.getElem?_set_ne (by omega)] at ex
   exact p2 i x (by omega) ex
  ·rw [List.take_succ_eq_append_getElem (by simp; omega),List.take_succ_eq_append_getElem (by simp; omega),List.getElem_set_self,List.getElem_set_self,List.take_set_of_le (Nat.le_refl _),List.take_set_of_le (Nat.le_refl _),ht]
theorem zbdi_ {b:Nat} {cs:Array Value} {E:TypeId} (e:w.heap[b]?=some (.cells cs E (0,0))):∀ (ms:List Value) (i:Nat),(∀ j v,ms[j]?=some v→cs[i + j]?=some v∧v.oneCell'=true)→(storeCells ⟨b,0,none⟩ ms i).run P w=.ok () w
 | [],i,k=>by simp [storeCells]
 | m :: ms,i,k=>by
  obtain ⟨k1,k2⟩:=k 0 m rfl
  simp only [storeCells,Sem.run_bind,Addr.add_lit]
  have hc:w.cell? ⟨b,i,none⟩=some m:=by rw [zbj_ e]; exact k1
  have hf:w.frozen? ⟨b,i,none⟩=false:=frozen_of_row w _ _ _ _ e
  rw [Nat.zero_add,run_store P w _ m .plain k2,hc]
  simp only [hf,Bool.false_eq_true,if_false,Result.andThen_ok]
  rw [zbdd_ hc]
  exact zbdi_ e ms (i + 1) fun j v ej=>by
   have:=k (j + 1) v (by simpa using ej)
   rw [show i + 1 + j=i + (j + 1) by omega]
   exact this
theorem zbno_ (R:SR φ h g w) {base:Nat} {cs:List V} {m:Value} (r:rels φ g h false cs m.cells.toList) {v:V} {h':H} (e:xboxR base h cs=some (v,h')) (t:TypeId) :
  v=.ptr h.length 0∧∃ g' w',(Instr.box t m).run P w=.ok (.pointer (some ⟨w.heap.size,0,none⟩)) w'∧SR φ h' g' w'∧Ext h g w h' g' w'∧rel φ g' h' false (.ptr h.length 0) (.pointer (some ⟨w.heap.size,0,none⟩)):=by
 unfold xboxR at e
 split at e
 ·rename_i hk
  obtain ⟨⟨cs',h2⟩,e1,e⟩:=zaa_.1 e
  injection e with e
  injection e with e2 e3
  subst e2 e3
  refine ⟨rfl,?_⟩
  obtain ⟨rr,ok⟩:=zbdg_ hk r
  have hraw:∀ i x,(m.cells.toList.map V.s)[i]?=some x→zhc_ x:=fun i x ex=>by
   rw [List.getElem?_map] at ex
   cases hq:m.cells.toList[i]? with
   | none=>rw [hq] at ex; cases ex
   | some q=>rw [hq] at ex; injection ex with ex; exact ⟨q,ex.symm⟩
  have hlen:cs.length=m.cells.toList.length:=zah_ r
  have hp:=R.push (.box false (m.cells.toList.map V.s)) m.cells t 0 (fun z0 cs0 e=>by
   injection e with e1 e2
   subst e1 e2
   exact ⟨rfl,rr,ok,fun i x ex=>by obtain ⟨q,rfl⟩:=hraw i x ex; rfl⟩) (fun _ _ _ e=>by cases e)
  have hnil:∀ i x,(cs.map fun _=>vnil)[i]?=some x→zhc_ x:=fun i x ex=>by
   rw [List.getElem?_map] at ex
   cases hq:cs[i]? with
   | none=>rw [hq] at ex; cases ex
   | some q=>rw [hq] at ex; injection ex with ex; exact ⟨_,ex.symm⟩
  have e4:=zbdh_ cs 0 _ (cs.map fun _=>vnil) (m.cells.toList.map V.s) cs' h2 (fun i x _ ex=>hnil i x ex) (fun i x _ ex=>hraw i x ex) (by simp [hlen]) rfl (by simp) e1
  have hset:(h++[O.box false (cs.map fun _=>vnil)]).set h.length (.box false (m.cells.toList.map V.s))=h++[.box false (m.cells.toList.map V.s)]:=by simp
  obtain ⟨g2,w2,hrun,S2,X2⟩:=zum_ (P:=P) (φ:=φ) (base:=base) (l:=h.length) (b0:=w.heap.size) (off0:=0) cs 0 (h++[.box false (cs.map fun _=>vnil)]) h2 (m.cells.toList.map V.s) cs' (g.setB (.obj h.length) w.heap.size 0) (w.alloc (.cells m.cells t)) m.cells.toList 0
   (by simp) ⟨_,_,List.getElem?_concat_length⟩ (by rw [hset]; exact hp.1) (by simp [G.setB]) rfl (by rw [hset]; exact zav_ hp.2.later _ _ _ r) e4
  have hid:=zbdi_ (P:=P) (w:=w.alloc (.cells m.cells t)) (heap_alloc_new w _) m.cells.toList 0 (fun j v ej=>⟨by rw [Nat.zero_add,← Array.getElem?_toList]; exact ej,zfe_ rr ok v (List.mem_of_getElem? ej)⟩)
  rw [hid] at hrun
  injection hrun with _ hw
  subst hw
  rw [hset] at X2
  refine ⟨g2,_,by simp [Instr.box,newVar,newRow],S2,hp.2.trans X2,?_⟩
  exact zcq_ X2.later _ _ _ (zup_ ⟨_,_,rfl⟩)
 ·cases e
theorem zbdj_ (off:Nat):∀ (vs:List Value) (j:Nat) (cells:Array Value),off + j + vs.length≤cells.size →
  ((vs.toArray.zipIdx j).foldl (fun cs (c,j)=>cs.setIfInBounds (off + j) c) cells)=(cells.toList.take (off + j)++vs++cells.toList.drop (off + j + vs.length)).toArray
 | [],j,cells,_=>by
  rw [show ([]:List Value).toArray.zipIdx j=#[] from by simp]
  simp
 | v :: vs,j,cells,hs=>by
  have hs':off + j + (vs.length + 1)≤cells.size:=by simpa using hs
  have ih:=zbdj_ off vs (j + 1) (cells.setIfInBounds (off + j) v) (by simp; omega)
  simp only [← Array.foldl_toList,Array.toList_zipIdx,List.zipIdx_cons,List.foldl_cons] at ih ⊢
  rw [ih]
  apply Array.ext'
  simp only [Array.toList_setIfInBounds,List.length_cons]
  have hlt:off + j < cells.toList.length:=by rw [Array.length_toList]; omega
  rw [← Nat.add_assoc,List.take_succ_eq_append_getElem (by rw [List.length_set]; exact hlt),List.getElem_set_self,List.take_set_of_le (Nat.le_refl _),List.drop_set_of_lt (by omega),show off + j + 1 + vs.length=off + j + (vs.length + 1) by omega]
  simp
theorem zbdk_ {t:TypeId} {k:Nat} (hs:sizeIs P t k=true) (hz:zjt_ P t=true):∃ i zv,P.info? t=some i∧i.size=k∧i.zero=some zv∧zv.cells.size=k:=by
 unfold zjt_ at hz
 unfold sizeIs at hs
 split at hz
 ·rename_i i hi
  rw [hi] at hs
  split at hz
  ·rename_i zv hzv
   simp only [beq_iff_eq] at hs hz
   exact ⟨i,zv,hi,hs,hzv,by rw [hz,hs]⟩
  ·cases hz
 ·cases hz
theorem zbnp_ {k:Nat} {zv:Value} (hk:zv.cells.size=k) (c:Nat):((Array.range (c * k)).map (zv.cells[· % zv.cells.size]!)).toList=flat (List.replicate c zv):=by
 have hsz:∀ m ∈ List.replicate c zv,m.cells.size=k:=fun m hm=>by rw [(List.mem_replicate.1 hm).2]; exact hk
 apply List.ext_getElem?
 intro q
 have hl:=zat_ hsz
 rw [List.length_replicate] at hl
 simp only [hk]
 by_cases hq:q < c * k
 ·have hk0:0 < k:=by
   rcases Nat.eq_zero_or_pos k with h | h
   ·rw [h,Nat.mul_zero] at hq; omega
   ·exact h
  have h1:q / k < c:=by rw [Nat.div_lt_iff_lt_mul hk0]; exact hq
  have h2:q % k < zv.cells.size:=by rw [hk]; exact Nat.mod_lt _ hk0
  have h3:(List.replicate c zv)[q / k]?=some zv:=by rw [List.getElem?_replicate,if_pos h1]
  have h4:=zdy_ hsz h3 (Array.getElem?_eq_getElem h2)
  have h5:q / k * k + q % k=q:=by rw [Nat.mul_comm]; exact Nat.div_add_mod q k
  rw [h5] at h4
  rw [h4,Array.getElem?_toList,Array.getElem?_map,Array.getElem?_range,if_pos hq,Option.map_some]
  rw [getElem!_pos zv.cells (q % k) h2]
 ·rw [List.getElem?_eq_none (by simp; omega),List.getElem?_eq_none (by omega)]
inductive Fills (zv:Value):Nat→List (Nat × Value)→List Value→Prop
 | nil {i:Nat}:Fills zv i [] []
 | put {i:Nat} {v:Value} {r:List (Nat × Value)} {ms:List Value} (k:Fills zv (i + 1) r ms):Fills zv i ((i,v) :: r) (v :: ms)
 | gap {i:Nat} {r:List (Nat × Value)} {ms:List Value} (k:Fills zv (i + 1) r ms):Fills zv i r (zv :: ms)
theorem zbnq_ {zv:Value} {k:Nat} (hz:zv.cells.size=k) {i:Nat} {ps:List (Nat × Value)} {ms:List Value} (f:Fills zv i ps ms):(∀ m ∈ ms,m.cells.size=k)→∀ (pre post:List Value),pre.length=i * k →
  Instr.fill (fun i=>some (i * k,k)) (pre++flat (List.replicate ms.length zv)++post).toArray ps=some (pre++flat ms++post).toArray:=by
 induction f with
 | nil=>intro _ pre post _; simp [Instr.fill,flat]
 | @put i v r ms f ih =>
  intro hk pre post hp
  have h1:=hk v (by simp)
  have e1:(i + 1) * k=i * k + k:=Nat.succ_mul i k
  have hrep:flat (List.replicate (v :: ms).length zv)=zv.cells.toList++flat (List.replicate ms.length zv):=by
   rw [List.length_cons,List.replicate_succ]
   simp [flat]
  have hlen:(flat (List.replicate ms.length zv)).length=ms.length * k:=by
   have:=zat_ (k:=k) (ms:=List.replicate ms.length zv) fun m hm=>by rw [(List.mem_replicate.1 hm).2]; exact hz
   rwa [List.length_replicate] at this
  simp only [Instr.fill]
  rw [if_neg (by
   simp only [Bool.or_eq_true,decide_eq_true_eq,not_or,ne_eq,Decidable.not_not]
   refine ⟨h1,?_⟩
   simp only [hrep,List.size_toArray,List.length_append,Array.length_toList,hz,hp,h1]
   omega)]
  have hf:=zbdj_ (i * k) v.cells.toList 0 (pre++flat (List.replicate (v :: ms).length zv)++post).toArray (by
   simp only [hrep,List.size_toArray,List.length_append,Array.length_toList,hz,hp,h1]
   omega)
  simp only [Nat.add_zero,Array.toArray_toList] at hf
  rw [hf]
  have hcur:pre++flat (List.replicate (v :: ms).length zv)++post=pre++(zv.cells.toList++(flat (List.replicate ms.length zv)++post)):=by
   rw [hrep]
   simp [List.append_assoc]
  have ht:(pre++flat (List.replicate (v :: ms).length zv)++post).take (i * k)=pre:=by
   rw [hcur,← hp,List.take_left]
  have hd:(pre++flat (List.replicate (v :: ms).length zv)++post).drop (i * k + v.cells.toList.length)=flat (List.replicate ms.length zv)++post:=by
   rw [hcur,← hp,List.drop_length_add_append]
   rw [List.drop_left' (by rw [Array.length_toList,Array.length_toList,hz,h1])]
  have h2:=ih (fun m hm=>hk m (List.mem_cons_of_mem _ hm)) (pre++v.cells.toList) post (by rw [List.length_append,hp,Array.length_toList,h1,e1])
  rw [ht,hd]
  have e2:pre++v.cells.toList++(flat (List.replicate ms.length zv)++post)=pre++v.cells.toList++flat (List.replicate ms.length zv)++post:=by simp [List.append_assoc]
  rw [e2,h2]
  simp [flat,List.append_assoc]
 | @gap i r ms f ih =>
  intro hk pre post hp
  have e1:(i + 1) * k=i * k + k:=Nat.succ_mul i k
  have h2:=ih (fun m hm=>hk m (List.mem_cons_of_mem _ hm)) (pre++zv.cells.toList) post (by rw [List.length_append,hp,Array.length_toList,hz,e1])
  have hrep:pre++flat (List.replicate (zv :: ms).length zv)++post=pre++zv.cells.toList++flat (List.replicate ms.length zv)++post:=by
   rw [List.length_cons,List.replicate_succ]
   simp [flat,List.append_assoc]
  rw [hrep,h2]
  simp [flat,List.append_assoc]
theorem zbdl_ (S:Slots φ g h N s a) {e:TypeId} {k:Nat} {i0:TypeInfo} {zv:Value} (hi:P.info? e=some i0) (hzv:i0.zero=some zv):∀ {xs:List Opd} {ps:List (Nat × Operand)} {i:Nat},zeb_ (elemZ P e k) φ N i ps xs=true →
  ∃ ms,rels φ g h false (evs s xs) ms∧Fills zv i (ps.map fun p=>(p.1,a.eval p.2)) ms:=by
 have zero:∀ {x:Opd},zud_ (elemZ P e k) x=true→rel φ g h false (x.ev s) zv:=by
  intro x hx
  cases x with
  | t n=>cases hx
  | c v =>
   obtain ⟨i1,zv1,h1,_,h2,r⟩:=zqd_ (φ:=φ) (g:=g) (h:=h) (show elemZ P e k v=true from hx)
   rw [hi] at h1
   injection h1 with h1
   subst h1
   rw [hzv] at h2
   injection h2 with h2
   subst h2
   exact zbq_ (fun _ _ _ e=>e) false _ _ r
 intro xs
 induction xs with
 | nil =>
  intro ps i k0
  cases ps with
  | nil=>exact ⟨[],zad_.2 rfl,.nil⟩
  | cons p ps=>simp [zeb_] at k0
 | cons x xs ih =>
  intro ps i k0
  cases ps with
  | nil =>
   simp only [zeb_,Bool.and_eq_true] at k0
   obtain ⟨ms,h1,h2⟩:=ih k0.2
   exact ⟨zv :: ms,zaj_.2 ⟨zero k0.1,h1⟩,.gap h2⟩
  | cons p ps =>
   obtain ⟨j,o⟩:=p
   simp only [zeb_] at k0
   split at k0
   ·rename_i hij
    subst hij
    rw [Bool.and_eq_true] at k0
    obtain ⟨ms,h1,h2⟩:=ih k0.2
    exact ⟨_ :: ms,zaj_.2 ⟨opd_ok S k0.1,h1⟩,.put h2⟩
   ·rw [Bool.and_eq_true] at k0
    obtain ⟨ms,h1,h2⟩:=ih k0.2
    exact ⟨zv :: ms,zaj_.2 ⟨zero k0.1,h1⟩,.gap h2⟩
theorem zbdm_ {t e:TypeId} {k len:Nat} (hu:P.underlying t=some (.slice e)) (hs:sizeIs P e k=true) {i:TypeInfo} {zv:Value} (hi:P.info? e=some i) (hzv:i.zero=some zv) (hzs:zv.cells.size=k) {ps:Array (Nat × Value)} {ms:List Value} (hp:Fills zv 0 ps.toList ms) (hl:len=ms.length) (hk:∀ m ∈ ms,m.cells.size=k) (hb:len * k≤2 ^ 24) (w:World) :
  (Instr.buildSlice t len ps).run P w=.ok (.slice (some ⟨w.heap.size,0,none⟩) len len) (w.alloc (.cells (flat ms).toArray e)):=by
 subst hl
 have hb':¬ (16777216 < ms.length * k):=by omega
 have hf:=zbnq_ hzs hp hk [] [] (by simp)
 simp only [List.nil_append,List.append_nil] at hf
 by_cases h0:ms.length * k=0
 ·have hnil:flat (List.replicate ms.length zv)=[]:=by
   have:=zat_ (k:=k) (ms:=List.replicate ms.length zv) fun m hm=>by rw [(List.mem_replicate.1 hm).2]; exact hzs
   rw [List.length_replicate,h0] at this
   exact List.eq_nil_of_length_eq_zero this
  have he:((Array.range (ms.length * k)).map ((#[]:Array Value)[· % (#[]:Array Value).size]!))=(flat (List.replicate ms.length zv)).toArray:=by
   rw [hnil,h0]
   simp
  simp only [Instr.buildSlice,Sem.run_bind,run_underlying hu,Result.andThen_ok,zbe_ hs,Nat.reducePow,gt_iff_lt,hb',if_false,if_pos h0,Sem.run_pure]
  simp only [he,hf,Sem.run_bind,Result.andThen_ok,newRow,Sem.run_pure,run_newObj,World.alloc]
 ·have he:((Array.range (ms.length * k)).map (zv.cells[· % zv.cells.size]!))=(flat (List.replicate ms.length zv)).toArray:=by
   have hfr:=zbnp_ hzs ms.length
   apply Array.ext'
   rw [← hfr]
  simp only [Instr.buildSlice,Sem.run_bind,run_underlying hu,Result.andThen_ok,zbe_ hs,Nat.reducePow,gt_iff_lt,hb',if_false,h0,zeroValue,zec_ hi,hzv,Sem.run_pure]
  simp only [he,hf,Sem.run_bind,Result.andThen_ok,newRow,Sem.run_pure,run_newObj,World.alloc]
end
end Go.Proofs.Sl
namespace Go.Proofs.Sl
section
variable {P:Program} {φ:Nat→Option FuncId} {h h':H} {g g':G} {w w':World} {N:Nat} {s:Sl} {a:Act}
theorem SR.arrChange (S:SR φ h g w) {l k:Nat} {es es2:List V} {ms2:List Value} (ha:h[l]?=some (.arr false k es)) (hlen:es2.length=es.length) (r2:rels φ g h false es2 ms2) (hwd:wide k es2=true) {cur cur2:Array Value} {E:TypeId}
  (hcur:w.heap[g.b (.obj l)]?=some (.cells cur E (0,0))) (hsz:cur2.size=cur.size) (ht:cur2.toList.take (es.length * k)=flat ms2) :
  SR φ (h.set l (.arr false k es2)) g (w.setRow (g.b (.obj l)) cur2)∧Ext h g w (h.set l (.arr false k es2)) g (w.setRow (g.b (.obj l)) cur2):=by
 have hlt:=zau_ ha
 have hlive:live h (.obj l):=.inr (.inl ⟨_,_,_,ha⟩)
 obtain ⟨cur',E',ms,e,s,n1,n2,r,wd,t,_,k3⟩:=S.arr l false k es ha
 rw [hcur] at e
 injection e with e
 injection e with e1 e2
 subst e1 e2
 have hg:g.setB (.obj l) (g.b (.obj l)) (g.c (.obj l))=g:=by
  cases g
  simp only [G.setB,G.mk.injEq,and_true]
  constructor <;> (funext x; split <;> simp_all)
 have L:Later g h g (h.set l (.arr false k es2)):=by
  have:=Later.arrSet (g:=g) (es2:=es2) (z2:=false) ha (b:=g.b (.obj l)) (c:=g.c (.obj l)) (by omega) fun _=>⟨rfl,rfl⟩
  rwa [hg] at this
 have hne:∀ a,live h a→a≠.obj l→g.b a≠g.b (.obj l):=fun a ha hn e=>hn (S.inj a _ ha hlive e)
 have hlv:=ztv_ (z2:=false) (es2:=es2) ha
 refine ⟨S.mk' L (·=.obj l) ?_ ?_ ?_ ?_ ?_ ?_ ?_ (fun q d ht em=>by (injection ht with ht; subst ht; rw [zae_ hlt] at em; cases em)),⟨L,rfl,rfl,rfl,by simp,fun q hq hn=>zdz_ (fun e=>hn _ hlive e.symm),fun a hv=>.inl ⟨a,(hlv a).1 hv,rfl⟩,fun q z k' d ed=>.inl ?_,Nat.le_refl _,fun _ _ _ _ e=>.inl e⟩⟩
 ·intro q hn hv
  have hq:l≠q:=fun e=>hn (by rw [e])
  exact ⟨zak_ hq,rfl,rfl,zdz_ (hne _ ((hlv _).1 hv) hn),fun _=>rfl⟩
 ·intro q p hn hv
  have v1:=(hlv _).1 hv
  have hb:=zbv_ v1
  have hq:l≠q:=by
   rintro rfl
   obtain ⟨z,d,hb⟩:=hb
   rw [ha] at hb
   cases hb
  exact ⟨zcr_ hq,rfl,rfl,zdz_ (hne _ v1 (by simp)),zpx_ (hne (.obj q) (.inl hb) (by simp; omega)),fun _=>rfl⟩
 ·intro q z d ht ee
  injection ht with ht
  subst ht
  rw [zae_ hlt] at ee
  cases ee
 ·intro q z k' d ht' ee
  injection ht' with ht'
  subst ht'
  rw [zae_ hlt] at ee
  injection ee with ee
  injection ee with e1 e2 e3
  subst e1 e2 e3
  exact ⟨_,E,ms2,setRow_heap w _ cur _ E _ hcur,by rw [hsz]; exact s,by rw [hlen]; exact n1,n2,zav_ L _ _ _ r2,hwd,by rw [hlen]; exact ht,fun h=>by (cases h),fun _=>k3 rfl⟩
 ·intro q p x n ht
  cases ht
 ·intro a b va vb eab
  exact S.inj a b ((hlv a).1 va) ((hlv b).1 vb) eab
 ·intro b p u eu
  rw [zpx_ fun eb=>?_]
  ·exact S.mem b p u eu
  ·subst eb
   rw [k3 rfl] at eu
   cases eu
 ·by_cases e':l=q
  ·subst e'
   rw [zae_ hlt] at ed
   injection ed with ed
   injection ed with e1 e2 e3
   subst e1 e2 e3
   exact ⟨_,_,ha,rfl⟩
  ·rw [zak_ e'] at ed
   exact ⟨z,d,ed,rfl⟩
theorem zqf_:∀ (cs:List V) (j:Nat) (c:List V),j + cs.length≤c.length→putRow j cs c=c.take j++cs++c.drop (j + cs.length)
 | [],j,c,_=>by simp [putRow]
 | n :: ns,j,c,hl=>by
  have hl':j + (ns.length + 1)≤c.length:=by simpa using hl
  simp only [putRow]
  rw [zqf_ ns (j + 1) _ (by rw [List.length_set]; omega)]
  rw [List.take_succ_eq_append_getElem (by rw [List.length_set]; omega),List.getElem_set_self,List.take_set_of_le (Nat.le_refl _),List.drop_set_of_lt (by omega),List.length_cons,show j + 1 + ns.length=j + (ns.length + 1) by omega]
  simp
theorem zqg_ {a b:List V}:zai_ (a++b)=true↔zai_ a=true∧zai_ b=true:=by
 induction a with
 | nil=>simp [zai_]
 | cons v a ih=>simp only [List.cons_append,zai_,Bool.and_eq_true,ih,and_assoc]
theorem zbnr_ {a:List V} (k:zai_ a=true) (n:Nat):zai_ (a.take n)=true:=by
 have:=k
 rw [← List.take_append_drop n a] at this
 exact (zqg_.1 this).1
theorem zbns_ {a:List V} (k:zai_ a=true) (n:Nat):zai_ (a.drop n)=true:=by
 have:=k
 rw [← List.take_append_drop n a] at this
 exact (zqg_.1 this).2
theorem zbnt_ {e:V} {m:Value} {cs:List V} {nms:List Value} {j:Nat} (r:rel φ g h false e m) (rc:rels φ g h false cs nms) (hj:j + cs.length≤e.cells.length) (hok:zai_ cs=true) (heo:zai_ e.cells=true) :
  ∃ m2,rel φ g h false (putEl j cs e) m2∧(putEl j cs e).cells.length=e.cells.length∧zai_ (putEl j cs e).cells=true∧m2.cells.toList=m.cells.toList.take j++nms++m.cells.toList.drop (j + nms.length):=by
 have hl:=zah_ rc
 by_cases hagg:∃ c,e=.agg c
 ·obtain ⟨c,rfl⟩:=hagg
  simp only [V.cells] at hj heo
  simp only [rel] at r
  obtain ⟨arr,rfl,r⟩:=r
  refine ⟨.agg (arr.toList.take j++nms++arr.toList.drop (j + nms.length)).toArray,?_,?_,?_,by simp [Value.cells]⟩
  ·simp only [putEl,rel]
   refine ⟨_,rfl,?_⟩
   rw [zqf_ cs j c hj,← hl]
   exact zbz_ (zbz_ (zdx_ r j) rc) (zex_ r _)
  ·simp only [putEl,V.cells]
   rw [zqf_ cs j c hj]
   simp only [List.length_append,List.length_take,List.length_drop]
   omega
  ·simp only [putEl,V.cells]
   rw [zqf_ cs j c hj]
   exact zqg_.2 ⟨zqg_.2 ⟨zbnr_ heo j,hok⟩,zbns_ heo _⟩
 ·have hec:e.cells=[e]:=by cases e <;> first | rfl | exact absurd ⟨_,rfl⟩ hagg
  have hmc:m.cells=#[m]:=zpu_ (zpt_ r fun c hc=>hagg ⟨c,hc⟩)
  have hpe:putEl j cs e=cs.headD e:=by cases e <;> first | rfl | exact absurd ⟨_,rfl⟩ hagg
  rw [hpe]
  rw [hec] at hj heo ⊢
  cases cs with
  | nil =>
   rw [zad_] at rc
   subst rc
   exact ⟨m,r,by simp [hec],by simpa [hec] using heo,by simp⟩
  | cons c cs =>
   have h0:cs=[]:=List.eq_nil_of_length_eq_zero (by simp at hj; omega)
   have hj0:j=0:=by simp at hj; omega
   subst h0 hj0
   obtain ⟨m',s',rfl,r1,r2⟩:=zam_.1 rc
   rw [zad_] at r2
   subst r2
   have hcell:c.cell=true:=by simpa [zai_] using hok
   have hcc:c.cells=[c]:=by cases c <;> first | rfl | (simp [V.cell] at hcell)
   have hmc':m'.cells=#[m']:=zpu_ (zpt_ r1 fun q hq=>by subst hq; simp [V.cell] at hcell)
   refine ⟨m',r1,by simp [hcc],by simpa [hcc] using hok,by simp [hmc',hmc]⟩
theorem zbnu_ {k:Nat} {l:List V} (hw:wide k l=true) {i:Nat} {v:V} (h1:v.cells.length=k) (h2:zai_ v.cells=true):wide k (l.set i v)=true:=by
 induction l generalizing i with
 | nil=>exact hw
 | cons x l ih =>
  rw [zcd_] at hw
  cases i with
  | zero=>exact zcd_.2 ⟨h1,h2,hw.2.2⟩
  | succ i=>exact zcd_.2 ⟨hw.1,hw.2.1,ih hw.2.2⟩
theorem zbnv_ {k:Nat} {ms:List Value} (hs:∀ m ∈ ms,m.cells.size=k) {i:Nat} {m m2:Value} (e:ms[i]?=some m) (h2:m2.cells.size=k):flat (ms.set i m2)=(flat ms).take (i * k)++m2.cells.toList++(flat ms).drop ((i + 1) * k):=by
 induction ms generalizing i with
 | nil=>simp at e
 | cons x ms ih =>
  have hx:=hs x (by simp)
  have hxl:x.cells.toList.length=k:=by rw [Array.length_toList]; exact hx
  cases i with
  | zero =>
   simp only [List.set_cons_zero,flat,List.flatMap_cons,Nat.zero_mul,List.take_zero,List.nil_append,Nat.zero_add,Nat.one_mul]
   rw [List.drop_left' hxl]
  | succ i =>
   simp only [List.set_cons_succ,flat,List.flatMap_cons]
   have:=ih (fun y hy=>hs y (by simp [hy])) (i:=i) (by simpa using e)
   rw [flat,flat] at this
   have t1:∀ (q:Nat) (F:List Value),(x.cells.toList++F).take ((q + 1) * k)=x.cells.toList++F.take (q * k):=fun q F=>by
    rw [show (q + 1) * k=x.cells.toList.length + q * k by rw [hxl,Nat.succ_mul]; omega,List.take_length_add_append]
   have t2:∀ (q:Nat) (F:List Value),(x.cells.toList++F).drop ((q + 1) * k)=F.drop (q * k):=fun q F=>by
    rw [show (q + 1) * k=x.cells.toList.length + q * k by rw [hxl,Nat.succ_mul]; omega,List.drop_length_add_append]
   rw [this,t1,t2]
   simp [List.append_assoc]
theorem zbnw_ {C nms:List Value} {A j k L:Nat} (h1:A + k≤L) (h2:L≤C.length) (h3:j + nms.length≤k) :
  (C.take (A + j)++nms++C.drop (A + j + nms.length)).take L=(C.take L).take A++((((C.take L).drop A).take k).take j++nms++(((C.take L).drop A).take k).drop (j + nms.length))++(C.take L).drop (A + k):=by
 have p1:(C.take L).take A=C.take A:=by rw [List.take_take,Nat.min_eq_left (by omega)]
 have p2:(((C.take L).drop A).take k)=(C.drop A).take k:=by rw [List.drop_take,List.take_take,Nat.min_eq_left (by omega)]
 have p3:((C.drop A).take k).take j=(C.drop A).take j:=by rw [List.take_take,Nat.min_eq_left (by omega)]
 have p4:C.take (A + j)=C.take A++(C.drop A).take j:=List.take_add
 have p5:((C.drop A).take k).drop (j + nms.length)=(C.drop (A + j + nms.length)).take (k - (j + nms.length)):=by
  rw [List.drop_take,List.drop_drop,Nat.add_assoc]
 have hl:(C.take (A + j)++nms).length=A + j + nms.length:=by
  rw [List.length_append,List.length_take,Nat.min_eq_left (by omega)]
 rw [p1,p2,p3,p5,List.take_append,hl,List.take_of_length_le (by omega),p4]
 have p6:(C.take L).drop (A + k)=(C.drop (A + k)).take (L - (A + k)):=List.drop_take
 have p7:(C.drop (A + j + nms.length)).take (L - (A + j + nms.length))=(C.drop (A + j + nms.length)).take (k - (j + nms.length))++(C.drop (A + k)).take (L - (A + k)):=by
  have e1:L - (A + j + nms.length)=(k - (j + nms.length)) + (L - (A + k)):=by omega
  rw [e1,List.take_add,List.drop_drop]
  congr 3
  omega
 rw [p6,p7]
 simp [List.append_assoc]
theorem zbnx_ (R:SR φ h g w) {l k i j:Nat} {es:List V} {e:V} {cs:List V} {nms:List Value} (ha:h[l]?=some (.arr false k es)) (he:es[i]?=some e) (rc:rels φ g h false cs nms) (hj:j + cs.length≤e.cells.length) (hok:zai_ cs=true) :
  ∃ g' w',(storeCells ⟨g.b (.obj l),i * k + j,none⟩ nms).run P w=.ok () w'∧SR φ (h.set l (.arr false k (es.set i (putEl j cs e)))) g' w'∧Ext h g w (h.set l (.arr false k (es.set i (putEl j cs e)))) g' w':=by
 obtain ⟨cur,E,ms,hcur,hs,n1,n2,r,wd,t,_,_⟩:=R.arr l false k es ha
 have hsz:=zay_ wd r
 obtain ⟨m,em,rm⟩:=zdd_ r he
 obtain ⟨hek,heo⟩:=zjr_ wd he
 obtain ⟨m2,r2,l2,o2,c2⟩:=zbnt_ rm rc hj hok heo
 have hmk:m.cells.size=k:=by rw [zfd_ rm]; exact hek
 have hlc:=zah_ rc
 have hm2:m2.cells.size=k:=by rw [zfd_ r2,l2]; exact hek
 have hfl:=zat_ hsz
 rw [← zah_ r] at hfl
 have hi:i < es.length:=(List.getElem?_eq_some_iff.1 he).1
 have hik:(i + 1) * k≤es.length * k:=Nat.mul_le_mul_right _ hi
 have hsm:(i + 1) * k=i * k + k:=Nat.succ_mul i k
 have hck:es.length * k≤cur.size:=by rw [hs]; exact Nat.mul_le_mul_right _ n1
 have hcl:cur.toList.length=cur.size:=Array.length_toList
 have hst:=run_storeCells_at P (g.b (.obj l)) (i * k + j) E nms 0 cur w hcur (by omega) (zfe_ rc hok)
 simp only [Nat.add_zero] at hst
 have hc:=R.arrChange ha (es2:=es.set i (putEl j cs e)) (ms2:=ms.set i m2) (by simp) (zgr_ r r2 i) (zbnu_ wd (l2.trans hek) o2) hcur
  (cur2:=(cur.toList.take (i * k + j)++nms++cur.toList.drop (i * k + j + nms.length)).toArray) (by
   rw [List.size_toArray]
   simp only [List.length_append,List.length_take,List.length_drop,hcl]
   omega) (by
   rw [zbnv_ hsz em hm2,c2]
   have hmcells:m.cells.toList=((flat ms).drop (i * k)).take k:=by
    apply List.ext_getElem?
    intro q
    rw [List.getElem?_take]
    split
    ·rename_i hq
     rw [List.getElem?_drop]
     have hq2:q < m.cells.size:=by omega
     rw [Array.getElem?_toList,Array.getElem?_eq_getElem hq2]
     exact (zdy_ hsz em (Array.getElem?_eq_getElem hq2)).symm
    ·rename_i hq
     rw [List.getElem?_eq_none_iff,Array.length_toList]
     omega
   rw [hmcells,← t]
   rw [hsm]
   exact zbnw_ (C:=cur.toList) (nms:=nms) (A:=i * k) (j:=j) (k:=k) (L:=es.length * k) (by omega) (by omega) (by omega))
 exact ⟨g,_,hst,hc.1,hc.2⟩
end
end Go.Proofs.Sl
namespace Go.Proofs.Sl
section
variable {P:Program} {φ:Nat→Option FuncId} {h h':H} {g g':G} {w w':World} {N:Nat} {s:Sl} {a:Act}
def Done (P:Program) (φ:Nat→Option FuncId) (a:Act) (o:Oper) (h:H) (g:G) (w:World) (v:V) (h':H):Prop :=
 ∃ nx g' w',(execOp a.eval o).run P w=.ok nx w'∧SR φ h' g' w'∧Ext h g w h' g' w'∧((∃ mv,nx=.value mv∧rel φ g' h' false v mv)∨(nx=.skip∧v=.u))
theorem zbdn_ {v v':V} (e:frz0 v=some v'):v'.tl=none:=by
 cases v <;> simp only [frz0,Option.some.injEq,reduceCtorEq] at e <;> subst e <;> rfl
theorem frz_tl {v v':V} (e:frz h v=some (v',h')):v'.tl=none:=by
 unfold frz at e
 split at e
 ·obtain ⟨p,e1,e⟩:=zaa_.1 e
  split at e
  ·injection e with e
   injection e with e2 e3
   subst e2
   rfl
  ·cases e
 ·obtain ⟨u,e1,e⟩:=zaa_.1 e
  injection e with e
  injection e with e2 e3
  subst e2
  exact zbdn_ e1
theorem zbny_ {r:Bool} {v v':V} (e:keep r h v=some (v',h')):v'.tl=none:=by
 unfold keep at e
 split at e
 ·exact frz_tl e
 ·obtain ⟨u,e1,e⟩:=zaa_.1 e
  injection e with e
  injection e with e2 e3
  subst e2
  exact zbdn_ e1
theorem zuq_:∀ {l l':List V},keep0s l=some l'→l'.length=l.length
 | [],l',e=>by simp only [keep0s,Option.some.injEq] at e; subst e; rfl
 | v :: l,l',e=>by
  simp only [keep0s] at e
  obtain ⟨v',e1,e⟩:=zaa_.1 e
  obtain ⟨l2,e2,e⟩:=zaa_.1 e
  injection e with e
  subst e
  simp [zuq_ e2]
theorem zbdo_ {r:Bool}:∀ {l l':List V} {h h':H},keeps r h l=some (l',h')→l'.length=l.length
 | [],l',h,h',e=>by simp only [keeps,Option.some.injEq,Prod.mk.injEq] at e; obtain ⟨rfl,_⟩:=e; rfl
 | v :: l,l',h,h',e=>by
  simp only [keeps] at e
  obtain ⟨⟨v',h1⟩,e1,e⟩:=zaa_.1 e
  obtain ⟨⟨l2,h2⟩,e2,e⟩:=zaa_.1 e
  injection e with e
  injection e with e3 e4
  subst e3
  simp [zbdo_ e2]
theorem zur_ (s:Sl):∀ (l:List Opd),(evs s l).length=l.length
 | []=>rfl
 | x :: l=>by simp [evs,zur_ s l]
theorem zbdp_ (R:SR φ h g w) {base n:Nat} {t:TypeId} (hs:sizeIs P t n=true) {x v:V} {mx mv:Value} (rx:rel φ g h false x mx) (rv:rel φ g h false v mv) (e:xstore base h n x v=some h') :
  ∃ g' w',(Instr.storeAt t mx mv).run P w=.ok () w'∧SR φ h' g' w'∧Ext h g w h' g' w':=by
 unfold xstore at e
 split at e
 ·rename_i hn
  have hsz:mv.cells.size=n:=by rw [zfd_ rv,hn]
  have hrc:=zgw_ rv
  have hrun:∀ ad w',(storeCells ad mv.cells.toList).run P w=.ok () w'→(Instr.storeAt t (.pointer (some ad)) mv).run P w=.ok () w':=fun ad w' hh=>by
   simp [Instr.storeAt,Instr.sureAddr,storeVar,zbe_ hs,hsz,hh]
  split at e
  ·rename_i l o
   obtain ⟨p,e1,e⟩:=zaa_.1 e
   have hb:=zcg_ e1
   split at e
   ·cases e
   ·rename_i hp
    have hp:p.1=false:=by simpa using hp
    obtain ⟨q,e2,e⟩:=zaa_.1 e
    injection e with e
    subst e
    rw [hp] at hb
    have hset:=zqe_ hb
    simp only [rel] at rx
    obtain ⟨-,rfl,_⟩:=rx
    obtain ⟨g',w',h1,h2,h3⟩:=zum_ (P:=P) (φ:=φ) (off0:=o) (b0:=g.b (.obj l)) v.cells o h q.2 p.2 q.1 g w mv.cells.toList 0 (zau_ hb) ⟨_,_,hb⟩ (by rw [hset]; exact R) rfl rfl (by rw [hset]; exact hrc) e2
    rw [hset] at h3
    exact ⟨g',w',hrun _ _ h1,h2,h3⟩
  ·rename_i l m i j
   obtain ⟨p,e1,e⟩:=zaa_.1 e
   obtain ⟨ha,hm⟩:=zbg_ e1
   split at e
   ·cases e
   ·rename_i hp
    have hp:p.1=false:=by simpa using hp
    obtain ⟨el,e2,e⟩:=zaa_.1 e
    obtain ⟨cs,e3,e⟩:=zaa_.1 e
    split at e
    ·rename_i hc
     injection e with e
     subst e
     simp only [rel] at rx
     obtain ⟨-,-,-,rx⟩:=rx
     rw [(rx _ _ _ ha).2 hm]
     rw [hp] at ha
     have hl:=zuq_ e3
     have hj:j + cs.length≤el.cells.length:=by omega
     obtain ⟨g',w',h1,h2,h3⟩:=zbnx_ (P:=P) R ha e2 (zgz_ hrc e3) hj hc.2.2
     exact ⟨g',w',hrun _ _ h1,h2,h3⟩
    ·cases e
  ·cases e
 ·cases e
theorem zbnz_ (R:SR φ h g w) {base:Nat} {t:TypeId} (hs:sizeIs P t 1=true) {x v:V} {mx mv:Value} (rx:rel φ g h false x mx) (rv:rel φ g h false v mv) (e:zdb_ base h x v=some h') :
  ∃ g' w',(Instr.storeAt t mx mv).run P w=.ok () w'∧SR φ h' g' w'∧Ext h g w h' g' w':=by
 unfold zdb_ at e
 split at e
 ·rename_i l o l' n
  obtain ⟨p,e1,e⟩:=zaa_.1 e
  obtain ⟨p2,e2,e⟩:=zaa_.1 e
  obtain ⟨old,e3,e⟩:=zaa_.1 e
  split at e
  ·rename_i hc
   injection e with e
   subst e
   have hb:=zcg_ e1
   rw [hc.1] at hb
   obtain ⟨ha,hm⟩:=zbg_ e2
   have htl:old.tl=none:=by
    have:=hc.2.1
    cases old <;> first | rfl | (simp [V.heldB] at this; done)
   obtain ⟨S',X'⟩:=R.put hb e3 htl (c:=.ref l' n) rfl rfl rv
   obtain ⟨⟨mv',hmv,_⟩,hfr⟩:=R.there hb e3
   have hone:=zpv_ rv rfl
   simp only [rel] at rx rv
   obtain ⟨-,rfl,_⟩:=rx
   obtain ⟨_,_,_,rv⟩:=rv
   have hmv2:=(rv _ _ _ ha).2 hm
   subst hmv2
   refine ⟨g,_,?_,S',X'⟩
   have hsz:(hdr (g.b (.obj l')) n (g.c (.obj l'))).cells=#[hdr (g.b (.obj l')) n (g.c (.obj l'))]:=rfl
   simp only [Instr.storeAt,Instr.sureAddr,storeVar,zbe_ hs,hsz,Sem.run_bind,Result.andThen_ok]
   simp [storeCells,Sem.run_bind,Addr.add_lit,run_store P w _ _ .plain hone,hmv,hfr]
  ·cases e
 ·exact zbdp_ R hs rx rv e
theorem zboa_ (R:SR φ h g w) {t e0:TypeId} {n:Nat} (hu:P.underlying t=some (.array n e0)) (hs:sizeIs P e0 1=true) {l:Nat} {z:Bool} {cs:List V} (hb:h[l]?=some (.box z cs)) (hn:cs.length=n) (hc:V.closed.closeds cs=true) :
  ∃ g' mv,(Instr.sliceAt t (.pointer (some ⟨g.b (.obj l),0,none⟩)) none none none).run P w=.ok mv w∧SR φ (h.set l (.box true cs)) g' w∧Ext h g w (h.set l (.box true cs)) g' w∧rel φ g' (h.set l (.box true cs)) false (.lst 1 cs) mv:=by
 obtain ⟨g',S',X',hgb,ms,r,hM,hone⟩:=R.freezeBox hb (by rw [zjq_ hc]; exact hc)
 rw [zjq_ hc] at r
 have hms:∀ m ∈ ms,m.cells=#[m]:=fun m hm=>by
  have:=hone m hm
  cases m <;> first | rfl | (simp [Value.oneCell'] at this)
 refine ⟨g',.slice (some ⟨g.b (.obj l),0,none⟩) n n,?_,S',X',?_⟩
 ·simp only [Instr.sliceAt,Sem.run_bind,run_underlying hu,Result.andThen_ok,Instr.sureAddr,Sem.run_pure,Instr.sliceBounds,zbe_ hs]
  simp [Addr.add_zero']
 ·simp only [rel]
  refine .inl ⟨g.b (.obj l),0,n,ms,by rw [hn],by omega,r,?_,fun i m em j u eu=>?_⟩
  ·intro m hm
   rw [hms m hm]
   rfl
  ·rw [hms m (List.mem_of_getElem? em)] at eu
   have hj:j=0:=by
    have:=(Array.getElem?_eq_some_iff.1 eu).1
    simpa using this
   subst hj
   simp only [List.getElem?_toArray,List.getElem?_cons_zero,Option.some.injEq] at eu
   subst eu
   rw [Nat.zero_add,Nat.mul_one,Nat.add_zero]
   exact hM i m em
theorem bs_ok (R:SR φ h g w) (S:Slots φ g h N s a) {o:Oper} {m:Bool} {k0:Nat} {ps:List Opd} (k:chkOp P φ N o.op (.bslice m k0 ps)=true) {v:V} (e:xpure s (.bslice false k0 ps)=some v):Done P φ a o h g w v h:=by
 obtain ⟨dst,op,ty,pos,after,guard⟩:=o
 simp only at k
 cases op <;> simp only [chkOp,Bool.false_eq_true] at k
 rename_i t len parts
 simp only [Bool.and_eq_true,beq_iff_eq,decide_eq_true_eq] at k
 obtain ⟨⟨k1,k2⟩,k3⟩:=k
 obtain ⟨d,hu,hd⟩:=zap_ k1
 obtain ⟨e0,rfl,hd2⟩:=zcf_ hd
 simp only [Bool.and_eq_true] at hd2
 obtain ⟨⟨hd2,hd3⟩,k4⟩:=hd2
 obtain ⟨i0,zv0,hi0,_,hzv0,hzs0⟩:=zbdk_ hd2 hd3
 simp only [xpure] at e
 obtain ⟨l,e1,e⟩:=zaa_.1 e
 split at e
 ·rename_i hc
  injection e with e
  subst e
  obtain ⟨ms,r1,r2⟩:=zbdl_ S hi0 hzv0 k4
  have r:=zgz_ r1 e1
  have hl:=zah_ r
  have hlen:l.length=len:=by rw [zuq_ e1,zur_,k2]
  have hsz:=zay_ hc.2 r
  have hf:=zat_ hsz
  have hrun:=zbdm_ (P:=P) hu hd2 hi0 hzv0 hzs0 (ps:=parts.map fun (i,x)=>(i,a.eval x)) (ms:=ms) (len:=len) (by simpa using r2) (by omega) hsz k3.1 w
  have hfx:=R.fix (flat ms).toArray e0 (fun j=>(flat ms)[j]?) (fun j u eu=>by rw [List.getElem?_toArray]; exact eu)
  refine ⟨_,_,_,?_,hfx.1,hfx.2,.inl ⟨.slice (some ⟨w.heap.size,0,none⟩) len len,rfl,?_⟩⟩
  ·simp only [execOp,Sem.run_bind,hrun]
   rfl
  ·simp only [rel]
   refine .inl ⟨w.heap.size,0,len,_,by rw [hlen],by omega,zbt_ _ _ hc.1 (zav_ hfx.2.later _ _ _ r),RowM.of_flat hsz fun j u eu=>?_⟩
   rw [Nat.zero_add]
   simp only [G.setM,if_true]
   exact eu
 ·cases e
theorem zbdq_ {n:Nat} (h:n≤9223372036854775807):IntKind.i64.wrap (n:Int)=n:=by
 simp only [IntKind.wrap,IntKind.bits,IntKind.signed]
 simp
 omega
theorem zbob_ {k:Nat} {zv:Value} (hk:zv.cells.size=k) (c:Nat):((Array.range (c * k)).map fun j=>(if c * k=0 then (#[]:Array Value) else zv.cells)[j % (if c * k=0 then (#[]:Array Value) else zv.cells).size]!).toList=flat (List.replicate c zv):=by
 have hsz:∀ m ∈ List.replicate c zv,m.cells.size=k:=fun m hm=>by rw [(List.mem_replicate.1 hm).2]; exact hk
 by_cases h0:c * k=0
 ·have hl:=zat_ hsz
  rw [List.length_replicate,h0] at hl
  rw [List.eq_nil_of_length_eq_zero hl]
  simp [h0]
 ·simp only [if_neg h0]
  apply List.ext_getElem?
  intro q
  have hl:=zat_ hsz
  rw [List.length_replicate] at hl
  by_cases hq:q < c * k
  ·have hk0:0 < k:=Nat.pos_of_ne_zero fun e=>h0 (by rw [e,Nat.mul_zero])
   have h1:q / k < c:=by rw [Nat.div_lt_iff_lt_mul hk0]; exact hq
   have h2:q % k < zv.cells.size:=by rw [hk]; exact Nat.mod_lt _ hk0
   have h3:(List.replicate c zv)[q / k]?=some zv:=by rw [List.getElem?_replicate,if_pos h1]
   have h4:=zdy_ hsz h3 (Array.getElem?_eq_getElem h2)
   have h5:q / k * k + q % k=q:=by rw [Nat.mul_comm]; exact Nat.div_add_mod q k
   rw [h5] at h4
   rw [h4,Array.getElem?_toList,Array.getElem?_map,Array.getElem?_range,if_pos hq,Option.map_some,hk]
   rw [getElem!_pos zv.cells (q % k) h2]
  ·rw [List.getElem?_eq_none (by simp; omega),List.getElem?_eq_none (by omega)]
theorem zus_ {z:Bool} {v:V} {m:Value} (r:rel φ g h z v m):∀ n:Nat,rels φ g h z (List.replicate n v) (List.replicate n m)
 | 0=>zad_.2 rfl
 | n + 1=>by
  rw [List.replicate_succ,List.replicate_succ]
  exact zaj_.2 ⟨r,zus_ r n⟩
theorem zut_ {k:Nat} {v:V} (hw:wide k [v]=true):∀ n:Nat,wide k (List.replicate n v)=true
 | 0=>rfl
 | n + 1=>by
  rw [List.replicate_succ]
  have:=zcd_.1 hw
  exact zcd_.2 ⟨this.1,this.2.1,zut_ hw n⟩
theorem zboc_ (R:SR φ h g w) {t e0:TypeId} {k lim n:Nat} {z:V} (hu:P.underlying t=some (.slice e0)) (hz:elemZ P e0 k z=true) (hb:zju_ P e0 (fun b=>decide (lim * b≤2 ^ 47))=true) (hm:lim≤maxLen) (hn:n≤lim) {m:Nat} (hmn:m≤n) (hw:wide k [z]=true) {k1 k2:IntKind} :
  ∃ g' w' mv,(Instr.makeSlice t (.int k1 m) (.int k2 n)).run P w=.ok mv w'∧SR φ (h++[.arr false k (List.replicate m z)]) g' w'∧Ext h g w (h++[.arr false k (List.replicate m z)]) g' w'∧rel φ g' (h++[.arr false k (List.replicate m z)]) false (.ref h.length m) mv:=by
 obtain ⟨i,zv,hi,hs,hzv,r⟩:=zqd_ (φ:=φ) (g:=g) (h:=h) hz
 have hbi:lim * i.bytes≤140737488355328:=by
  unfold zju_ at hb
  rw [hi] at hb
  simpa using hb
 have hzs:zv.cells.size=k:=by rw [zfd_ r]; exact (zcd_.1 hw).1
 have hf:=zbob_ hzs n
 have hfl:=zat_ (k:=k) (ms:=List.replicate n zv) fun m hm=>by rw [(List.mem_replicate.1 hm).2]; exact hzs
 rw [List.length_replicate] at hfl
 have hwr:IntKind.i64.wrap (n:Int)=n:=zbdq_ (by have:maxLen=9223372036854775807:=rfl; omega)
 have hnb:n * i.bytes≤140737488355328:=Nat.le_trans (Nat.mul_le_mul_right _ hn) hbi
 have hnb':¬ ((i.bytes:Int) * (n:Int) > 2 ^ 48):=by
  have:(i.bytes:Int) * (n:Int)=((n * i.bytes:Nat):Int):=by rw [Int.natCast_mul,Int.mul_comm]
  omega
 have hp:=R.push (.arr false k (List.replicate m z)) (flat (List.replicate n zv)).toArray e0 n (fun _ _ h=>by cases h) (fun z1 k1 es1 h=>by
  injection h with h1 h2 h3
  subst h1 h2 h3
  refine ⟨rfl,List.replicate m zv,by rw [List.size_toArray,hfl],by simpa using hmn,by omega,zus_ (zbq_ (fun _ _ _ e=>e) false _ _ r) m,zut_ hw m,?_⟩
  have hsp:List.replicate n zv=List.replicate m zv++List.replicate (n - m) zv:=by rw [List.replicate_append_replicate]; congr 1; omega
  have hlm:=zat_ (k:=k) (ms:=List.replicate m zv) fun u hu=>by rw [(List.mem_replicate.1 hu).2]; exact hzs
  rw [List.length_replicate] at hlm
  simp only [List.length_replicate]
  rw [hsp,zgx_,← hlm,List.take_left])
 have hwm:IntKind.i64.wrap (m:Int)=m:=zbdq_ (by have:maxLen=9223372036854775807:=rfl; omega)
 have hmm:¬ ((m:Int) < 0):=by omega
 have hmn':¬ ((n:Int) < (m:Int)):=by omega
 refine ⟨_,_,.slice (some ⟨w.heap.size,0,none⟩) m n,?_,hp.1,hp.2,?_⟩
 ·have harr:((Array.range (n * k)).map fun j=>(if n * k=0 then (#[]:Array Value) else zv.cells)[j % (if n * k=0 then (#[]:Array Value) else zv.cells).size]!)=(flat (List.replicate n zv)).toArray:=by
   apply Array.ext'
   rw [hf]
  have hge:¬ ((n:Int) < 0):=by omega
  have hle:¬ (281474976710656 < (i.bytes:Int) * (n:Int)):=by
   have e2:(2:Int) ^ 48=281474976710656:=by decide
   rw [e2] at hnb'
   exact hnb'
  by_cases h0:n * k=0
  ·have hnil:flat (List.replicate n zv)=[]:=List.eq_nil_of_length_eq_zero (by rw [hfl,h0])
   simp [hge,hle,hwm,hmm,hmn',hnil,Instr.makeSlice,run_underlying hu,asInt,asIntOf,typeInfo,hi,hwr,hnb',sizeOf,hs,h0,newRow]
   congr 2
   apply Array.eq_empty_of_size_eq_zero
   simp
  ·simp only [if_neg h0] at harr
   simp [hge,hle,hwm,hmm,hmn',Instr.makeSlice,run_underlying hu,asInt,asIntOf,typeInfo,hi,hwr,hnb',sizeOf,hs,h0,newRow,zeroValue,hzv,harr]
 ·simp only [rel]
  refine ⟨trivial,⟨_,_,rfl⟩,by simp,fun q k2 es2 ee=>?_⟩
  rw [List.getElem?_concat_length] at ee
  injection ee with ee
  injection ee with _ _ ee
  subst ee
  exact ⟨by simp,fun _=>by simp [hdr,G.setB]⟩
theorem zbod_ {k:Nat} {zv:Value} (hk:zv.cells.size=k) (c:Nat):(Builtin.zeroCells zv.cells c).toList=flat (List.replicate c zv):=by
 have hsz:∀ m ∈ List.replicate c zv,m.cells.size=k:=fun m hm=>by rw [(List.mem_replicate.1 hm).2]; exact hk
 apply List.ext_getElem?
 intro q
 have hl:=zat_ hsz
 rw [List.length_replicate] at hl
 simp only [Builtin.zeroCells,hk]
 by_cases hq:q < c * k
 ·have hk0:0 < k:=by
   rcases Nat.eq_zero_or_pos k with h | h
   ·rw [h,Nat.mul_zero] at hq; omega
   ·exact h
  have h1:q / k < c:=by rw [Nat.div_lt_iff_lt_mul hk0]; exact hq
  have h2:q % k < zv.cells.size:=by rw [hk]; exact Nat.mod_lt _ hk0
  have h3:(List.replicate c zv)[q / k]?=some zv:=by rw [List.getElem?_replicate,if_pos h1]
  have h4:=zdy_ hsz h3 (Array.getElem?_eq_getElem h2)
  have h5:q / k * k + q % k=q:=by rw [Nat.mul_comm]; exact Nat.div_add_mod q k
  rw [h5] at h4
  rw [h4,Array.getElem?_toList,Array.getElem?_map,Array.getElem?_range,if_pos hq,Option.map_some]
  rw [getElem!_pos zv.cells (q % k) h2]
 ·rw [List.getElem?_eq_none (by simp; omega),List.getElem?_eq_none (by omega)]
theorem zboe_ (R:SR φ h g w) {t e0:TypeId} {k:Nat} {z:V} (hu:P.underlying t=some (.slice e0)) (hz:elemZ P e0 k z=true) {x v:V} {m:Value} (rx:rel φ g h false x m) (e:xclear h k z x=some (v,h')) {ts:Array TypeId} (ht:ts[0]?=some t) {ty:TypeId} :
  ∃ w',(Builtin.clear_ ts ty #[m]).run P w=.ok (.tuple #[]) w'∧SR φ h' g w'∧Ext h g w h' g w'∧v=.u:=by
 unfold xclear at e
 split at e
 ·rename_i l n a b
  obtain ⟨p,e1,e⟩:=zaa_.1 e
  obtain ⟨ha1,ha2⟩:=zbg_ e1
  split at e
  ·rename_i hc
   obtain ⟨hp,hk,hw,hcl,han,hbn⟩:=hc
   injection e with e
   injection e with e2 e3
   subst e2 e3
   clear e1
   have hbn:=hbn.symm
   subst hbn
   rw [hp] at ha1
   simp only [rel] at rx
   obtain ⟨-,⟨q,c,rm⟩,hl,rx⟩:=rx
   by_cases han2:a < n
   ·obtain ⟨c',_,hv⟩:=(rx _ _ _ ha1).2 ha2 han2
    rw [hv]
    obtain ⟨i,zv,hi,hs,hzv,rz⟩:=zqd_ (φ:=φ) (g:=g) (h:=h) hz
    obtain ⟨cur,E,ms,hcur,hsz,n1,n2,r,wd,tk,_,_⟩:=R.arr l false p.2.1 p.2.2 ha1
    have hms:=zay_ wd r
    have hwz:=zcd_.1 hw
    have hzs:zv.cells.size=k:=by rw [zfd_ rz]; exact hwz.1
    have hrep:rels φ g h false (List.replicate (n - a) z) (List.replicate (n - a) zv):=zus_ (zbq_ (fun _ _ _ e=>e) false _ _ rz) _
    have hwr:=zut_ hw (n - a)
    have hfr:=zat_ (zay_ hwr hrep)
    rw [List.length_replicate] at hfr
    have hfm:=zat_ hms
    rw [← zah_ r,ha2] at hfm
    have hcl2:cur.toList.length=cur.size:=Array.length_toList
    rw [ha2,← hk] at tk
    rw [← hk] at hsz wd ha1 hfm hms
    have hck:n * k≤cur.size:=by rw [hsz]; exact Nat.mul_le_mul_right _ (by omega)
    have hnk:a * k + (n - a) * k=n * k:=by rw [← Nat.add_mul]; congr 1; omega
    have hst:=run_storeCells_at P (g.b (.obj l)) (a * k) E (flat (List.replicate (n - a) zv)) 0 cur w hcur (by omega) (zbcf_ hwr hrep)
    simp only [Nat.add_zero] at hst
    have hch:=R.arrChange ha1 (es2:=p.2.2.take a++List.replicate (n - a) z) (ms2:=ms.take a++List.replicate (n - a) zv) (by simp; omega) (zbz_ (zdx_ r a) hrep) (zpw_.2 ⟨zbmm_ wd a,hwr⟩) hcur
     (cur2:=(cur.toList.take (a * k)++flat (List.replicate (n - a) zv)++cur.toList.drop (a * k + (flat (List.replicate (n - a) zv)).length)).toArray) (by
      rw [List.size_toArray]
      simp only [List.length_append,List.length_take,List.length_drop,hcl2]
      omega) (by
      have hlen:(cur.toList.take (a * k)++flat (List.replicate (n - a) zv)).length=n * k:=by
       rw [List.length_append,List.length_take]
       omega
      show List.take _ (cur.toList.take (a * k)++flat (List.replicate (n - a) zv)++cur.toList.drop (a * k + (flat (List.replicate (n - a) zv)).length))=_
      rw [ha2,← hlen,List.take_left,zgx_]
      congr 1
      have h1:cur.toList.take (a * k)=(flat ms).take (a * k):=by rw [← tk,List.take_take,Nat.min_eq_left (by omega)]
      rw [h1]
      have h2:flat ms=flat (ms.take a)++flat (ms.drop a):=by rw [← zgx_,List.take_append_drop]
      have h3:(flat (ms.take a)).length=a * k:=by
       rw [zat_ fun m hm=>hms m (List.mem_of_mem_take hm),List.length_take,← zah_ r,ha2,Nat.min_eq_left (by omega)]
      rw [h2,← h3,List.take_left])
    refine ⟨_,?_,hch.1,hch.2,rfl⟩
    have hn0:¬ (n - a=0):=by omega
    simp only [Builtin.clear_,ht,List.getElem?_toArray,List.getElem?_cons_zero,Sem.run_bind,run_underlying hu,Result.andThen_ok]
    have hzr:(zeroValue e0).run P w=.ok zv w:=by simp [zeroValue,zec_ hi,hzv]
    rw [← hk]
    simp only [hzr,Result.andThen_ok,zbod_ hzs,hst,Sem.run_pure]
   ·have hna:n - a=0:=by omega
    refine ⟨w,?_,?_,?_,rfl⟩
    ·rw [rm,hna]
     simp only [Builtin.clear_,ht,List.getElem?_toArray,List.getElem?_cons_zero,Sem.run_bind,run_underlying hu,Result.andThen_ok]
     rfl
    all_goals
     rw [hna,show a=p.2.2.length by omega,List.take_length,List.replicate_zero,List.append_nil]
     rw [← hk] at ha1
     rw [hk,← hk,zqe_ ha1]
    ·exact R
    ·exact Ext.refl _ _ _
  ·cases e
 ·injection e with e
  injection e with e2 e3
  subst e2 e3
  refine ⟨w,?_,R,Ext.refl _ _ _,rfl⟩
  rw [rel_s rx]
  simp only [Builtin.clear_,ht,List.getElem?_toArray,List.getElem?_cons_zero,Sem.run_bind,run_underlying hu,Result.andThen_ok]
  rfl
 ·cases e
theorem zbof_ (R:SR φ h g w) {t e0:TypeId} {k:Nat} (hu:P.underlying t=some (.slice e0)) (hs:sizeIs P e0 k=true) {x v:V} {m:Value} (rx:rel φ g h false x m) {lo hi:Option V} {mlo mhi:Option Value} (rl:optRel φ g h lo mlo) (rh:optRel φ g h hi mhi) (e:xslFrz h k x lo hi=some (v,h')) :
  ∃ mv g',(Instr.sliceAt t m mlo mhi none).run P w=.ok mv w∧SR φ h' g' w∧Ext h g w h' g' w∧rel φ g' h' false v mv:=by
 unfold xslFrz at e
 split at e
 ·obtain ⟨⟨p,q⟩,e1,e⟩:=zaa_.1 e
  injection e with e
  injection e with e2 e3
  subst e2 e3
  have hbd:=zha_ (P:=P) e1 rl rh (Nat.le_refl _) true w
  have hp:p=0:=by omega
  have hq:q=0:=by omega
  subst hp hq
  refine ⟨_,g,?_,R,Ext.refl _ _ _,rel_of rfl⟩
  simp [rel_s rx,Instr.sliceAt,Instr.slice,run_underlying hu,hbd.1,zbe_ hs]
 ·obtain ⟨⟨u,h1⟩,e1,e⟩:=zaa_.1 e
  obtain ⟨g',R',X',r⟩:=frz_ok R rx e1
  have orl:∀ {o:Option V} {mo:Option Value},optRel φ g h o mo→optRel φ g' h1 o mo:=by
   intro o mo r
   cases o <;> cases mo <;> first | trivial | exact r.elim | exact zcq_ X'.later _ _ _ r
  simp only at e
  split at e
  ·rename_i k' es
   split at e
   ·rename_i hk
    subst hk
    obtain ⟨⟨p,q⟩,e2,e⟩:=zaa_.1 e
    injection e with e
    injection e with e3 e4
    subst e3 e4
    simp only [rel] at r
    rcases r with ⟨b,o,c,ms,rm,hc,r,row⟩ | ⟨r,a,c,rm⟩
    ·subst rm
     obtain ⟨mv,h1,h2⟩:=zul_ (P:=P) (w:=w) hu hs r row hc e2 (orl rl) (orl rh)
     exact ⟨mv,g',h1,R',X',h2⟩
    ·subst r rm
     obtain ⟨mv,h1,h2⟩:=zbcz_ (P:=P) (φ:=φ) (g:=g') (h:=h1) (w:=w) (a:=a) (c:=c) hu hs e2 (orl rl) (orl rh)
     exact ⟨mv,g',h1,R',X',h2⟩
   ·cases e
  ·cases e
theorem eff_ok (R:SR φ h g w) (S:Slots φ g h N s a) {cf:CallF} {base:Nat} {o:Oper} {x:XO} (k:chkOp P φ N o.op x=true) (hc1:∀ m f xs,x≠.call m f xs) (hc2:∀ m f xs,x≠.callv m f xs) (hc3:∀ m tb y xs,x≠.calli m tb y xs) (hc4:∀ f xs,x≠.callK f xs) {v:V} (e:xeff cf base s h x=some (v,h')) :
  Done P φ a o h g w v h':=by
 obtain ⟨dst,op,ty,pos,after,guard⟩:=o
 simp only at k
 unfold chkOp at k
 split at k
 all_goals first | (simp only [xeff,reduceCtorEq] at e; done) | skip
 -- a new variable
 ·simp only [xeff,Option.some.injEq,Prod.mk.injEq] at e
  obtain ⟨rfl,rfl⟩:=e
  obtain ⟨g',w',h1,h2,h3,h4⟩:=zbnm_ (P:=P) R k
  exact ⟨_,g',w',by simp only [execOp,Sem.run_bind,h1]; rfl,h2,h3,.inl ⟨_,rfl,h4⟩⟩
 -- with a value
 ·rename_i t y rr x
  have r:=opd_ok S k
  simp only [xeff] at e
  split at e
  ·rename_i cs hx
   split at e
   ·rename_i hc
    injection e with e
    injection e with e1 e2
    subst e1 e2
    rw [hx] at r
    simp only [rel] at r
    obtain ⟨ar,hm,r⟩:=r
    obtain ⟨g',w',h1,h2,h3,h4⟩:=box_ok (P:=P) (m:=.agg ar) R r hc.1 (zbdf_ hc.2) t
    refine ⟨_,g',w',?_,h2,h3,.inl ⟨_,rfl,h4⟩⟩
    simp only [execOp,Sem.run_bind,hm,h1]
    rfl
   ·rw [hx] at r
    simp only [rel] at r
    obtain ⟨ar,hm,r⟩:=r
    obtain ⟨rfl,g',w',h1,h2,h3,h4⟩:=zbno_ (P:=P) (m:=.agg ar) R r e t
    refine ⟨_,g',w',?_,h2,h3,.inl ⟨_,rfl,h4⟩⟩
    simp only [execOp,Sem.run_bind,hm,h1]
    rfl
  ·rename_i hna
   obtain ⟨⟨u,h1⟩,e1,e⟩:=zaa_.1 e
   split at e
   ·rename_i hcell
    injection e with e
    injection e with e2 e3
    subst e2 e3
    obtain ⟨g1,R1,X1,r1⟩:=zuo_ R r e1
    have hmc:(a.eval y).cells=#[a.eval y]:=zpu_ (zpt_ r1 fun q hq=>by subst hq; simp [V.cell] at hcell)
    obtain ⟨g',w',h1,h2,h3,h4⟩:=box_ok (P:=P) (m:=a.eval y) (cs:=[u]) R1 (by rw [hmc]; exact zaj_.2 ⟨r1,zad_.2 rfl⟩) (by simpa [zai_] using hcell) (fun i x ex=>by
     cases i with
     | zero=>simp only [List.getElem?_cons_zero,Option.some.injEq] at ex; subst ex; exact zbny_ e1
     | succ i=>simp at ex) t
    refine ⟨_,g',w',?_,h2,X1.trans h3,.inl ⟨_,rfl,h4⟩⟩
    simp only [execOp,Sem.run_bind,h1]
    rfl
   ·cases e
 -- a struct
 ·rename_i t ps rr z parts
  cases rr
  ·simp [xeff] at e
  ·simp only [xeff] at e
   obtain ⟨⟨l,h1⟩,e1,e⟩:=zaa_.1 e
   obtain ⟨cs,e2,e⟩:=zaa_.1 e
   injection e with e
   injection e with e3 e4
   subst e3 e4
   have rp:rels φ g h false (zbo_ s parts) (ps.toList.map fun p=>a.eval p.2):=by
    have k':=k
    unfold zff_ at k'
    rw [Bool.and_eq_true] at k'
    have k2:=k'.2
    split at k2
    ·split at k2
     ·exact zfg_ S k2
     ·cases k2
    ·split at k2
     ·exact zfg_ S k2
     ·cases k2
    ·cases k2
   obtain ⟨g',R',X',r'⟩:=zhb_ R rp e1
   obtain ⟨cells,h1,h2⟩:=ztz_ (a:=a) k r' e2
   refine ⟨_,g',w,?_,R',X',.inl ⟨.agg cells,rfl,by simp only [rel]; exact ⟨_,rfl,h2⟩⟩⟩
   simp only [execOp,Sem.run_bind,h1]
   rfl
 -- a list
 ·rename_i t len parts m k0 ps
  cases m
  ·simp [xeff] at e
  ·simp only [Bool.and_eq_true,beq_iff_eq,decide_eq_true_eq] at k
   obtain ⟨⟨k1,k2⟩,k3⟩:=k
   obtain ⟨d,hu,hd⟩:=zap_ k1
   obtain ⟨e0,rfl,hd2⟩:=zcf_ hd
   simp only [Bool.and_eq_true] at hd2
   obtain ⟨⟨hd2,hd3⟩,k4⟩:=hd2
   obtain ⟨i0,zv0,hi0,_,hzv0,hzs0⟩:=zbdk_ hd2 hd3
   simp only [xeff] at e
   obtain ⟨⟨l,h1⟩,e1,e⟩:=zaa_.1 e
   split at e
   ·rename_i hwd
    injection e with e
    injection e with e3 e4
    subst e3 e4
    obtain ⟨ms,r1,r2⟩:=zbdl_ S hi0 hzv0 k4
    obtain ⟨g',R',X',r⟩:=zhb_ R r1 e1
    have hl:=zah_ r
    have hlen:l.length=len:=by rw [zbdo_ e1,zur_,k2]
    have hsz:=zay_ hwd r
    have hf:=zat_ hsz
    have hmax:len≤maxLen:=Nat.le_trans k3.2 (by decide)
    have hrun:=zbdm_ (P:=P) hu hd2 hi0 hzv0 hzs0 (ps:=parts.map fun (i,x)=>(i,a.eval x)) (ms:=ms) (len:=len) (by simpa using r2) (by omega) hsz k3.1 w
    have hp:=R'.push (.arr false k0 l) (flat ms).toArray e0 len (fun _ _ h=>by cases h) (fun z1 k1 es1 h=>by
     injection h with h1 h2 h3
     subst h1 h2 h3
     refine ⟨rfl,_,?_,by omega,hmax,r,hwd,?_⟩
     ·rw [List.size_toArray,hf,← hl,hlen]
     ·rw [hl,← hf,List.take_length])
    refine ⟨_,_,_,?_,hp.1,X'.trans hp.2,.inl ⟨.slice (some ⟨w.heap.size,0,none⟩) len len,rfl,?_⟩⟩
    ·simp only [execOp,Sem.run_bind,hrun]
     rfl
    ·simp only [rel]
     refine ⟨trivial,⟨_,_,by rw [hlen]⟩,by simp,fun q k2 es2 ee=>?_⟩
     rw [List.getElem?_concat_length] at ee
     injection ee with ee
     injection ee with _ _ ee
     subst ee
     exact ⟨Nat.le_refl _,fun _=>by simp [hdr,G.setB,hlen]⟩
   ·cases e
 -- cells that nobody writes to any more
 ·rename_i t y n g0 x
  simp only [Bool.and_eq_true] at k
  simp only [xeff] at e
  obtain ⟨u,e1,e⟩:=zaa_.1 e
  obtain ⟨mv,h1,h2⟩:=zuk_ (P:=P) R k.1.1 k.1.2 (opd_ok S k.2) e1
  split at e
  ·rename_i cs
   obtain ⟨⟨l,h3⟩,e2,e⟩:=zaa_.1 e
   injection e with e
   injection e with e3 e4
   subst e3 e4
   simp only [rel] at h2
   obtain ⟨ar,rfl,h2⟩:=h2
   obtain ⟨g',R',X',r'⟩:=zhb_ R h2 e2
   exact ⟨_,g',w,by simp only [execOp,Sem.run_bind,h1]; rfl,R',X',.inl ⟨.agg ar,rfl,by simp only [rel]; exact ⟨_,rfl,r'⟩⟩⟩
  ·obtain ⟨⟨l,h3⟩,e2,e⟩:=zaa_.1 e
   injection e with e
   injection e with e3 e4
   subst e3 e4
   obtain ⟨g',R',X',r'⟩:=zuo_ R h2 e2
   exact ⟨_,g',w,by simp only [execOp,Sem.run_bind,h1]; rfl,R',X',.inl ⟨mv,rfl,r'⟩⟩
 -- a store
 ·rename_i t y u n x v'
  simp only [Bool.and_eq_true] at k
  simp only [xeff] at e
  obtain ⟨h1,e1,e⟩:=zaa_.1 e
  injection e with e
  injection e with e2 e3
  subst e2 e3
  obtain ⟨g',w',h2,h3,h4⟩:=zbdp_ (P:=P) R k.1.1 (opd_ok S k.1.2) (opd_ok S k.2) e1
  exact ⟨_,g',w',by simp only [execOp,Sem.run_bind,h2]; rfl,h3,h4,.inr ⟨rfl,rfl⟩⟩
 -- a store of a list as it is
 ·rename_i t y u x v'
  simp only [Bool.and_eq_true] at k
  simp only [xeff] at e
  obtain ⟨h1,e1,e⟩:=zaa_.1 e
  injection e with e
  injection e with e2 e3
  subst e2 e3
  obtain ⟨g',w',h2,h3,h4⟩:=zbnz_ (P:=P) R k.1.1 (opd_ok S k.1.2) (opd_ok S k.2) e1
  exact ⟨_,g',w',by simp only [execOp,Sem.run_bind,h2]; rfl,h3,h4,.inr ⟨rfl,rfl⟩⟩
 -- a function
 ·rename_i id A B rr f A' B'
  cases rr
  ·simp [xeff] at e
  ·simp only [Bool.and_eq_true,beq_iff_eq] at k
   simp only [xeff] at e
   obtain ⟨⟨l,h1⟩,e1,e⟩:=zaa_.1 e
   obtain ⟨⟨l2,h2⟩,e2,e⟩:=zaa_.1 e
   injection e with e
   injection e with e3 e4
   subst e3 e4
   obtain ⟨g1,R1,X1,r1⟩:=zhb_ R (zcb_ S k.1.2) e1
   obtain ⟨g2,R2,X2,r2⟩:=zhb_ R1 (zav_ X1.later _ _ _ (zcb_ S k.2)) e2
   refine ⟨_,g2,w,by simp [execOp,Instr.makeFunc],R2,X1.trans X2,.inl ⟨.func (.func id) (A.map a.eval) (B.map a.eval),rfl,?_⟩⟩
   simp only [rel]
   refine ⟨id,_,_,k.1.1,rfl,?_,?_⟩
   ·rw [Array.toList_map]; exact zav_ X2.later _ _ _ r1
   ·rw [Array.toList_map]; exact r2
 -- a part of a list
 ·rename_i t y lo hi k0 x lo' hi'
  simp only [Bool.and_eq_true] at k
  obtain ⟨⟨⟨k1,k2⟩,k3⟩,k4⟩:=k
  obtain ⟨d,hu,hd⟩:=zap_ k1
  obtain ⟨e0,rfl,hd2⟩:=zcf_ hd
  simp only [xeff] at e
  obtain ⟨mv,g',h1,h2,h3,h4⟩:=zbof_ (P:=P) R hu hd2 (opd_ok S k2) (opt_ok S k3) (opt_ok S k4) e
  exact ⟨_,g',w,by simp only [execOp,Sem.run_bind,Option.map_none,h1]; rfl,h2,h3,.inl ⟨mv,rfl,h4⟩⟩
 -- an array as a list
 ·rename_i t y n x
  simp only [Bool.and_eq_true] at k
  obtain ⟨d,hu,hd⟩:=zap_ k.1
  obtain ⟨n',e0,rfl,hd2⟩:=zqb_ hd
  simp only [Bool.and_eq_true,beq_iff_eq] at hd2
  obtain ⟨rfl,hs⟩:=hd2
  have r:=opd_ok S k.2
  simp only [xeff] at e
  split at e
  ·rename_i l hx
   obtain ⟨p,e1,e⟩:=zaa_.1 e
   split at e
   ·rename_i hc
    injection e with e
    injection e with e2 e3
    subst e2 e3
    rw [hx] at r
    simp only [rel] at r
    obtain ⟨g',mv,h1,h2,h3,h4⟩:=zboa_ (P:=P) R hu hs (zcg_ e1) hc.1 hc.2
    refine ⟨_,g',w,?_,h2,h3,.inl ⟨mv,rfl,h4⟩⟩
    simp only [execOp,Sem.run_bind,r.2.1,Option.map_none,h1]
    rfl
   ·cases e
  ·cases e
 -- append
 ·rename_i c k0 lim x y
  simp only [Bool.and_eq_true,zea_,beq_iff_eq] at k
  obtain ⟨k,k2⟩:=k
  split at k
  ·rename_i b hc
   simp only [Bool.and_eq_true,beq_iff_eq] at k
   obtain ⟨rfl,k⟩:=k
   split at k2
   ·rename_i t u ht hu
    simp only [Bool.and_eq_true] at k2
    obtain ⟨k2,k3⟩:=k2
    obtain ⟨d,hut,hd⟩:=zap_ k2
    obtain ⟨e0,rfl,hd2⟩:=zcf_ hd
    simp only [Bool.and_eq_true] at hd2
    obtain ⟨⟨hs,hz⟩,hb⟩:=hd2
    obtain ⟨d2,huu,hd3⟩:=zap_ k3
    have hu':P.underlying u=some .string∨∃ e',P.underlying u=some (.slice e'):=by
     simp only [Bool.or_eq_true] at hd3
     rcases hd3 with hd3 | hd3
     ·rw [zjs_ hd3] at huu; exact .inl huu
     ·obtain ⟨e',rfl,_⟩:=zcf_ hd3; exact .inr ⟨e',huu⟩
    have r:=zcb_ S k
    simp only [evs] at r
    obtain ⟨m1,l1,hl,r1,r⟩:=zam_.1 r
    obtain ⟨m2,l2,rfl,r2,r⟩:=zam_.1 r
    rw [zad_] at r
    subst r
    have hargs:(c.args.map a.eval)=#[m1,m2]:=by
     apply Array.ext'
     rw [Array.toList_map,hl]
    unfold sizeIs at hs
    unfold zjt_ at hz
    unfold zju_ at hb
    split at hs
    ·rename_i i hi
     rw [hi] at hz hb
     simp only at hz hb
     split at hz
     ·rename_i zv hzv
      simp only [beq_iff_eq,Bool.and_eq_true,bne_iff_ne,ne_eq,decide_eq_true_eq] at hs hz hb
      have T:AppT P t u e0 i zv k0:=⟨hut,hu',hi,hzv,hs,by rw [hz,hs]⟩
      simp only [xeff] at e
      have hby:lim * i.bytes≤140737488355328:=by
       have h1:=hb.1.2
       rw [Nat.mul_assoc] at h1
       have:(2:Nat) ^ 48=281474976710656:=by decide
       omega
      obtain ⟨mv,g',w',h1,h2,h3,h4⟩:=zbnl_ (P:=P) (ty:=ty) R T (by have:=hb.2; omega) hby r1 r2 e
      refine ⟨_,g',w',?_,h2,h3,.inl ⟨mv,rfl,h4⟩⟩
      have hat:(Builtin.append_ c.argTypes ty #[m1,m2]).run P w=(Builtin.append_ #[t,u] ty #[m1,m2]).run P w:=by
       simp only [Builtin.append_,ht,hu,List.getElem?_toArray,List.getElem?_cons_zero,List.getElem?_cons_succ]
      simp only [execOp,resolve,hc,hargs,Sem.run_bind,Sem.run_pure,Result.andThen_ok,invoke,builtin,hat,h1]
     ·cases hz
    ·cases hs
   ·cases k2
  ·cases k
 -- clear
 ·rename_i c k0 z x
  simp only [Bool.and_eq_true,zea_,beq_iff_eq] at k
  obtain ⟨k,k2⟩:=k
  split at k
  ·rename_i b hc
   simp only [Bool.and_eq_true,beq_iff_eq] at k
   obtain ⟨rfl,k⟩:=k
   split at k2
   ·rename_i t ht
    obtain ⟨d,hu,hd⟩:=zap_ k2
    obtain ⟨e0,rfl,hd2⟩:=zcf_ hd
    have r:=zcb_ S k
    simp only [evs] at r
    obtain ⟨m,l1,hl,r1,r⟩:=zam_.1 r
    rw [zad_] at r
    subst r
    have hargs:(c.args.map a.eval)=#[m]:=by
     apply Array.ext'
     rw [Array.toList_map,hl]
    simp only [xeff] at e
    obtain ⟨w',h1,h2,h3,rfl⟩:=zboe_ (P:=P) R hu hd2 r1 e ht (ty:=ty)
    refine ⟨_,g,w',?_,h2,h3,.inl ⟨.tuple #[],rfl,rel_of rfl⟩⟩
    simp only [execOp,resolve,hc,hargs,Sem.run_bind,Sem.run_pure,Result.andThen_ok,invoke,builtin,h1]
   ·cases k2
  ·cases k
 ·exact absurd rfl (hc1 _ _ _)
 ·exact absurd rfl (hc4 _ _)
 ·exact absurd rfl (hc2 _ _ _)
 -- make
 ·rename_i t y u k0 z lim x v'
  simp only [Bool.and_eq_true,decide_eq_true_eq] at k
  obtain ⟨⟨⟨q1,q2⟩,q3⟩,q4⟩:=k
  obtain ⟨d,hu,hd⟩:=zap_ q1
  obtain ⟨e0,rfl,hd2⟩:=zcf_ hd
  rw [Bool.and_eq_true] at hd2
  simp only [xeff] at e
  obtain ⟨n,e1,e⟩:=zaa_.1 e
  obtain ⟨c,e2,e⟩:=zaa_.1 e
  split at e
  ·rename_i hc
   obtain ⟨hmn,hn,hw,_⟩:=hc
   injection e with e
   injection e with e3 e4
   subst e3 e4
   obtain ⟨j1,m1⟩:=zfi_ (opd_ok S q3) e1
   obtain ⟨j2,m2⟩:=zfi_ (opd_ok S q4) e2
   obtain ⟨g',w',mv,h1,h2,h3,h4⟩:=zboc_ (P:=P) R hu hd2.1 hd2.2 q2 hn hmn hw (k1:=j1) (k2:=j2)
   refine ⟨_,g',w',?_,h2,h3,.inl ⟨mv,rfl,h4⟩⟩
   simp only [execOp,m1,m2,Sem.run_bind,h1]
   rfl
  ·cases e
 -- a map
 ·simp only [xeff,Option.some.injEq,Prod.mk.injEq] at e
  obtain ⟨rfl,rfl⟩:=e
  have hp:=R.pushMp
  refine ⟨_,_,_,?_,hp.1,hp.2,.inl ⟨.map (some w.heap.size),rfl,?_⟩⟩
  ·simp [execOp,Instr.makeMap,newObj,Sem.run]
  ·simp only [rel]
   exact ⟨trivial,by simp [G.setB],[],by simp⟩
 ·rename_i t m k0 v0 kk m' k' v'
  simp only [Bool.and_eq_true] at k
  obtain ⟨⟨⟨q1,q2⟩,q3⟩,q4⟩:=k
  obtain ⟨d,hu,hd⟩:=zap_ q1
  obtain ⟨kt,et,rfl,hd2⟩:=zub_ hd
  obtain ⟨dk,hkd,hkk⟩:=zap_ hd2
  simp only [xeff] at e
  obtain ⟨h1,e1,e⟩:=zaa_.1 e
  injection e with e
  injection e with e2 e3
  subst e2 e3
  obtain ⟨g',w',h2,h3,h4⟩:=zbcv_ (P:=P) R hu hkd hkk (opd_ok S q2) (opd_ok S q3) (opd_ok S q4) e1
  exact ⟨_,g',w',by simp only [execOp,Sem.run_bind,h2]; rfl,h3,h4,.inr ⟨rfl,rfl⟩⟩
 ·rename_i t m k0 v0 kk m' k' v'
  simp only [Bool.and_eq_true] at k
  obtain ⟨⟨⟨q1,q2⟩,q3⟩,q4⟩:=k
  obtain ⟨d,hu,hd⟩:=zap_ q1
  obtain ⟨kt,et,rfl,hd2⟩:=zub_ hd
  obtain ⟨dk,hkd,hkk⟩:=zap_ hd2
  simp only [xeff] at e
  obtain ⟨h1,e1,e⟩:=zaa_.1 e
  injection e with e
  injection e with e2 e3
  subst e2 e3
  obtain ⟨g',w',h2,h3,h4⟩:=zbcv_ (P:=P) R hu hkd hkk (opd_ok S q2) (opd_ok S q3) (opd_ok S q4) e1
  exact ⟨_,g',w',by simp only [execOp,Sem.run_bind,h2]; rfl,h3,h4,.inr ⟨rfl,rfl⟩⟩
 ·exact absurd rfl (hc3 _ _ _ _)
 ·simp [xeff,Opd.ev] at e
 ·cases k
end
end Go.Proofs.Sl
namespace Go.Proofs.Sl
section
variable {P:Program} {φ:Nat→Option FuncId} {h h':H} {g g':G} {w w':World} {N:Nat} {s:Sl} {a:Act}
def RetOk (φ:Nat→Option FuncId) (n:Nat) (h:H) (g:G) (w:World) (v:V) (mv:Value):Prop:=match v with
 | .own k es=>∃ b c,n≤b∧Fresh φ h g w k es mv b c
 | v=>rel φ g h false v mv
def noB:List V→Prop
 | .gro _ _ _ _ :: _=>False
 | _=>True
def zbog_ (φ:Nat→Option FuncId) (g:G) (h:H) (f:Nat) (args:List V) (ms:List Value):Prop :=
 (noB args∧rels φ g h false args ms)∨∃ b n k es l,args=.gro b n k es :: l∧φ (f + 1000000)=φ f∧rels φ g h false l ms
def FOk (P:Program) (φ:Nat→Option FuncId) (cf:CallF):Prop:=∀ f id args h v h',φ f=some id→cf f args h=some (v,h')→∀ g w ms,SR φ h g w→zbog_ φ g h f args ms →
 Calls P id ms.toArray w fun e w'=>∃ mv g',e=.returned mv∧SR φ h' g' w'∧Ext h g w h' g' w'∧RetOk φ w.heap.size h' g' w' v mv
def TOk (P : Program) (φ : Nat → Option FuncId) : Prop := ∀ f id, φ f = some id → ∃ fn : Func, P.funcs[id]? = some fn ∧ (fn.name == "runtime.NumGoroutine") = false ∧ fn.body.isNone = false
theorem TOk.run (T:TOk P φ) {f:Nat} {id:FuncId} (e:φ f=some id) (args:Array Value) (w:World):(callFunc id args).run P w=.ok (.enter id args) w:=by
 obtain ⟨fn,h1,h2,h3⟩:=T f id e
 simp only [callFunc,Sem.run_bind,run_program,Result.andThen_ok,h1,h2,h3,Bool.false_eq_true,if_false,Sem.run_pure]
theorem zbdr_ {h0:H} {g0:G} {w0:World} (R:SR φ h g w) (X:Ext h0 g0 w0 h g w) {v:V} {mv:Value} {n:Nat} (hn:w0.heap.size≤n) (r:RetOk φ n h g w v mv):∃ g',SR φ h g' w∧Ext h0 g0 w0 h g' w∧rel φ g' h false (res0 v) mv:=by
 by_cases hv:∃ k es,v=.own k es
 ·obtain ⟨k,es,rfl⟩:=hv
  obtain ⟨b,c,hb,F⟩:=r
  obtain ⟨g',S',L',hgb,hgM,r'⟩:=R.protect F
  exact ⟨g',S',X.later' L' (fun key hk=>.inl ⟨hk,by rw [hgb]⟩) (fun l z k es e=>.inl ⟨e,by rw [hgb]⟩) (fun x j u hx e=>by rw [← hgM x j (by omega)]; exact e),zbq_ (fun _ _ _ e=>e) false _ _ r'⟩
 ·have h1:res0 v=v:=by cases v <;> first | rfl | exact absurd ⟨_,_,rfl⟩ hv
  have h2:rel φ g h false v mv:=by cases v <;> first | exact r | exact absurd ⟨_,_,rfl⟩ hv
  rw [h1]
  exact ⟨g,R,X,h2⟩
theorem zboh_ {h0:H} {g0:G} {w0:World} (R:SR φ h g w) (X:Ext h0 g0 w0 h g w) {v v2:V} {mv:Value} {n:Nat} (hn:w0.heap.size≤n) (r:RetOk φ n h g w v mv) (e:resM h v=some (v2,h')):∃ g',SR φ h' g' w∧Ext h0 g0 w0 h' g' w∧rel φ g' h' false v2 mv:=by
 unfold resM at e
 split at e
 ·rename_i k es
  injection e with e
  injection e with e1 e2
  subst e1 e2
  obtain ⟨b,c,hb,F⟩:=r
  obtain ⟨S',L',r'⟩:=R.adopt F
  have hgo:∀ key,key≠.obj h.length→(g.setB (.obj h.length) b c).b key=g.b key:=fun key hk=>by simp [G.setB,hk]
  refine ⟨_,S',X.later' L' (fun key hk=>?_) (fun l z k1 es1 e=>?_) (fun _ _ _ _ e=>e),r'⟩
  ·rcases zgs_ hk with h1 | h1 | ⟨q,z,cs,x,n,_,h2,_⟩
   ·refine .inl ⟨h1,hgo key ?_⟩
    rintro rfl
    exact absurd (zfa_ h1) (Nat.lt_irrefl _)
   ·subst h1
    right
    simp only [G.setB,if_true]
    omega
   ·cases h2
  ·rcases zca_ e with ⟨h1,h2⟩ | ⟨h1,h2⟩
   ·exact .inl ⟨h2,hgo _ (by simp; omega)⟩
   ·subst h1
    right
    simp only [G.setB,if_true]
    omega
 ·injection e with e
  injection e with e1 e2
  subst e1 e2
  exact ⟨g,R,X,r⟩
 ·injection e with e
  injection e with e1 e2
  subst e1 e2
  exact ⟨g,R,X,r⟩
 ·injection e with e
  injection e with e1 e2
  subst e1 e2
  exact ⟨g,R,X,r⟩
 ·cases e
def SO (φ:Nat→Option FuncId) (N:Nat) (h0:H) (g0:G) (w0:World) (st:St) (a:Act) (w:World):Prop:=∃ g,SR φ st.h g w∧Ext h0 g0 w0 st.h g w∧Slots φ g st.h N st.s a
theorem zbds_ {v v':V} {m:Value} (r:rel φ g h false v m) (e:arg0 v=some v'):rel φ g h false v' m:=by
 unfold arg0 at e
 split at e <;> first | (cases e; done) | skip
 ·injection e with e
  subst e
  simp only [rel] at r ⊢
  exact .inl r.2.1
 ·injection e with e
  subst e
  exact r
theorem zuu_:∀ {l l':List V} {ms:List Value},rels φ g h false l ms→arg0s l=some l'→rels φ g h false l' ms
 | [],l',ms,r,e=>by
  simp only [arg0s,Option.some.injEq] at e
  subst e
  exact r
 | v :: l,l',ms,r,e=>by
  simp only [arg0s] at e
  obtain ⟨v',e1,e⟩:=zaa_.1 e
  obtain ⟨l2,e2,e⟩:=zaa_.1 e
  injection e with e
  subst e
  obtain ⟨m,s,rfl,r1,r2⟩:=zam_.1 r
  exact zaj_.2 ⟨zbds_ r1 e1,zuu_ r2 e2⟩
theorem zboi_ {name:String} {tb:List (Nat × Nat)} (k:zbcl_ P φ name tb=true) {t f:Nat} (e:tb.lookup t=some f):∃ id,φ f=some id∧∀ (x:Value) (w:World),(method (P.types.size + Made.depth) t x name).run P w=.ok (id,x) w:=by
 have hm:(t,f) ∈ tb:=by
  clear k
  induction tb with
  | nil=>cases e
  | cons p r ih =>
   obtain ⟨a,b⟩:=p
   rw [List.lookup_cons] at e
   split at e
   ·rename_i h
    injection e with e
    subst e
    have:t=a:=by simpa using h
    subst this
    simp
   ·exact List.mem_cons_of_mem _ (ih e)
 have k:=List.all_eq_true.1 k _ hm
 rw [Bool.and_eq_true] at k
 obtain ⟨k1,k2⟩:=k
 obtain ⟨d,hu,hd⟩:=zap_ k1
 split at k2
 ·rename_i i hi
  split at k2
  ·rename_i m hmf
   rw [Bool.and_eq_true] at k2
   obtain ⟨k2,k3⟩:=k2
   split at k3
   ·rename_i id hf
    simp only [beq_iff_eq] at k3
    refine ⟨id,k3,fun x w=>?_⟩
    obtain ⟨n,hn⟩:∃ n,P.types.size + Made.depth=n + 1:=by
     have:Made.depth=Made.depth:=rfl
     exact ⟨P.types.size + Made.depth - 1,by unfold Made.depth; omega⟩
    have hp:m.path.toList=[]:=by simpa using k2
    rw [hn,method]
    simp only [Sem.run_bind,zec_ hi,Result.andThen_ok,hmf,hp,follow,Sem.run_pure,hf,receiverAt,run_underlying hu]
    cases d <;> first | rfl | (simp [dNoPtr] at hd)
   ·cases k3
  ·cases k2
 ·cases k2
variable {h0:H} {g0:G} {w0:World}
theorem zboj_:∀ {l l':List V},arg0s l=some l'→noB l'
 | [],l',e=>by
  injection e with e
  subst e
  trivial
 | v :: r,l',e=>by
  simp only [arg0s] at e
  obtain ⟨u,e1,e⟩:=zaa_.1 e
  obtain ⟨q,_,e⟩:=zaa_.1 e
  injection e with e
  subst e
  cases v <;> simp only [arg0,Option.some.injEq,reduceCtorEq] at e1 <;> subst e1 <;> trivial
theorem zbok_ (T:TOk P φ) {cf:CallF} (F:FOk P φ cf) (R:SR φ h g w) (X:Ext h0 g0 w0 h g w) {m:Bool} {f:Nat} {id:FuncId} {args:List V} {v:V} {ms:List Value} (hf:φ f=some id) (r:rels φ g h false args ms) (e:xcall cf h m f args=some (v,h')) :
  Calls P id ms.toArray w fun e w'=>∃ mv g',e=.returned mv∧SR φ h' g' w'∧Ext h0 g0 w0 h' g' w'∧(Later g h g' h')∧rel φ g' h' false v mv:=by
 unfold xcall at e
 obtain ⟨args',e1,e⟩:=zaa_.1 e
 obtain ⟨⟨u,h1⟩,e2,e⟩:=zaa_.1 e
 refine Calls.mono (F f id args' h u h1 hf e2 g w ms R (.inl ⟨zboj_ e1,zuu_ r e1⟩)) ?_
 rintro ee w' ⟨mv,g',rfl,R',X',r'⟩
 have go:∀ g2,SR φ h' g2 w'∧Ext h g w h' g2 w'∧rel φ g2 h' false v mv→∃ mv' g',Ending.returned mv=.returned mv'∧SR φ h' g' w'∧Ext h0 g0 w0 h' g' w'∧Later g h g' h'∧rel φ g' h' false v mv':=by
  rintro g2 ⟨k1,k2,k3⟩
  exact ⟨mv,g2,rfl,k1,X.trans k2,k2.later,k3⟩
 split at e
 ·obtain ⟨g2,k1,k2,k3⟩:=zboh_ R' X' (Nat.le_refl _) r' e
  exact go g2 ⟨k1,k2,k3⟩
 ·injection e with e
  injection e with e3 e4
  subst e3 e4
  obtain ⟨g2,k1,k2,k3⟩:=zbdr_ R' X' (Nat.le_refl _) r'
  exact go g2 ⟨k1,k2,k3⟩
theorem xop_ok (T:TOk P φ) {cf:CallF} (F:FOk P φ cf) {base:Nat} (R:SR φ h g w) (X:Ext h0 g0 w0 h g w) (S:Slots φ g h N s a) {o:Oper} {x:XO} (k:chkOp P φ N o.op x=true) (hd:∀ t,o.dst=some t→t < N) {v:V}
  (e:xop cf base s h x=some (v,h')) {K:Act→World→Prop} {Q:Exit→Act→World→Prop} (hK:∀ a' w',SO φ N h0 g0 w0 ⟨put s o.dst v,h'⟩ a' w'→(∃ mv g',a'=a.put o.dst mv∧SR φ h' g' w'∧Ext h0 g0 w0 h' g' w'∧Later g h g' h'∧rel φ g' h' false v mv)→K a' w'):o.wp P a w K Q:=by
 have pure:∀ mv,(∀ w,(execOp a.eval o).run P w=.ok (.value mv) w)∧rel φ g h false v mv→h'=h→o.wp P a w K Q:=by
  rintro mv ⟨h1,h2⟩ rfl
  unfold Oper.wp
  rw [h1 w,Oper.upon_value]
  exact hK _ _ ⟨g,R,X,S.put hd h2⟩ ⟨mv,g,rfl,R,X,Later.refl _ _,h2⟩
 have done:Done P φ a o h g w v h'→o.wp P a w K Q:=by
  rintro ⟨nx,g',w',h1,h2,h3,h4⟩
  unfold Oper.wp
  rw [h1]
  rcases h4 with ⟨mv,rfl,h4⟩ | ⟨rfl,rfl⟩
  ·rw [Oper.upon_value]
   exact hK _ _ ⟨g',h2,X.trans h3,(S.later h3.later).put hd h4⟩ ⟨mv,g',rfl,h2,X.trans h3,h3.later,h4⟩
  ·rw [Oper.upon_skip]
   have hu:rel φ g' h' false V.u undef:=rel_of rfl
   exact hK _ _ ⟨g',h2,X.trans h3,(S.later h3.later).put hd hu⟩ ⟨undef,g',rfl,h2,X.trans h3,h3.later,hu⟩
 have call:∀ m f id args ms,φ f=some id→rels φ g h false args ms→xcall cf h m f args=some (v,h')→(execOp a.eval o).run P w=.ok (.enter id ms.toArray) w→o.wp P a w K Q:=by
  intro m f id args ms hf r e h1
  unfold Oper.wp
  rw [h1,Oper.upon_enter]
  refine Calls.mono (zbok_ T F R X hf r e) ?_
  rintro ee w' ⟨mv,g',rfl,h2,h3,h4,h5⟩
  exact hK _ _ ⟨g',h2,h3,(S.later h4).put hd h5⟩ ⟨mv,g',rfl,h2,h3,h4,h5⟩
 unfold xop at e
 split at e
 ·obtain ⟨u,e1,e⟩:=zaa_.1 e
  injection e with e
  injection e with e2 e3
  subst e2 e3
  by_cases hb:∃ k0 ps,x=.bslice false k0 ps
  ·obtain ⟨k0,ps,rfl⟩:=hb
   exact done (bs_ok R S k e1)
  ·have hb2:∀ m k0 ps,x≠.bslice m k0 ps:=by
    rintro m k0 ps rfl
    cases m
    ·exact hb ⟨_,_,rfl⟩
    ·simp [xpure] at e1
   obtain ⟨mv,h1⟩:=zbcq_ S k hb2 e1
   exact pure mv h1 rfl
 ·obtain ⟨u,e1,e⟩:=zaa_.1 e
  injection e with e
  injection e with e2 e3
  subst e2 e3
  obtain ⟨mv,h1,h2⟩:=zbdc_ R S k e1
  unfold Oper.wp
  rw [h1,Oper.upon_value]
  exact hK _ _ ⟨g,R,X,S.put hd h2⟩ ⟨mv,g,rfl,R,X,Later.refl _ _,h2⟩
 ·by_cases hc1:∃ m f xs,x=.call m f xs
  ·obtain ⟨m,f,xs,rfl⟩:=hc1
   simp only [xeff] at e
   obtain ⟨dst,op,ty,pos,after,guard⟩:=o
   cases op <;> simp only [chkOp,Bool.false_eq_true] at k
   rename_i c
   rw [Bool.and_eq_true] at k
   obtain ⟨k1,k2⟩:=k
   split at k1
   ·rename_i id hcal
    simp only [beq_iff_eq] at k1
    refine call m f id (evs s xs) _ k1 (zcb_ S k2) e ?_
    have hargs:c.args.map a.eval=(c.args.toList.map a.eval).toArray:=by
     apply Array.ext'
     simp
    simp only [execOp,resolve,hcal,Act.eval,Deferred.ofValue,Sem.run_bind,Sem.run_pure,Result.andThen_ok,invoke,Array.empty_append,Array.append_empty,T.run k1,hargs]
   ·cases k1
  ·by_cases hc2:∃ m f xs,x=.callv m f xs
   ·obtain ⟨m,f,xs,rfl⟩:=hc2
    simp only [xeff] at e
    obtain ⟨dst,op,ty,pos,after,guard⟩:=o
    cases op <;> simp only [chkOp,Bool.false_eq_true] at k
    rename_i c
    rw [Bool.and_eq_true] at k
    obtain ⟨k1,k2⟩:=k
    split at k1
    ·rename_i y hcal
     have rf:=opd_ok S k1
     split at e
     ·rename_i f' A B hx
      rw [hx] at rf
      simp only [rel] at rf
      obtain ⟨id,MA,MB,hid,hy,rA,rB⟩:=rf
      refine call m f' id (A++evs s xs++B) (MA.toList++c.args.toList.map a.eval++MB.toList) hid (zbz_ (zbz_ rA (zcb_ S k2)) rB) e ?_
      have hargs:(MA++c.args.map a.eval)++MB=(MA.toList++c.args.toList.map a.eval++MB.toList).toArray:=by
       apply Array.ext'
       simp
      simp only [execOp,resolve,hcal,hy,Deferred.ofValue,Sem.run_bind,Sem.run_pure,Result.andThen_ok,invoke,T.run hid,hargs]
     ·cases e
    ·cases k1
   ·by_cases hc3:∃ m tb y xs,x=.calli m tb y xs
    ·obtain ⟨m,tb,y,xs,rfl⟩:=hc3
     simp only [xeff] at e
     obtain ⟨dst,op,ty,pos,after,guard⟩:=o
     cases op <;> simp only [chkOp,Bool.false_eq_true] at k
     rename_i c
     rw [Bool.and_eq_true] at k
     obtain ⟨k1,k2⟩:=k
     split at k1
     ·rename_i y' name hcal
      rw [Bool.and_eq_true] at k1
      have rf:=opd_ok S k1.1
      split at e
      ·rename_i t v0 hx
       obtain ⟨f,e1,e⟩:=zaa_.1 e
       rw [hx] at rf
       simp only [rel] at rf
       obtain ⟨x0,hy,r0⟩:=rf
       obtain ⟨id,hid,hrun⟩:=zboi_ k1.2 e1
       refine call m f id (v0 :: evs s xs) (x0 :: c.args.toList.map a.eval) hid (zaj_.2 ⟨r0,zcb_ S k2⟩) e ?_
       have hargs:#[x0]++c.args.map a.eval=(x0 :: c.args.toList.map a.eval).toArray:=by
        apply Array.ext'
        simp
       have hex:(#[Value.iface t x0]++c.args.map a.eval).extract 1 (#[Value.iface t x0]++c.args.map a.eval).size=c.args.map a.eval:=by
        apply Array.ext'
        simp [List.take_of_length_le]
       have hg:(#[Value.iface t x0]++c.args.map a.eval)[0]?=some (Value.iface t x0):=by simp [Array.getElem?_append]
       simp only [execOp,resolve,hcal,hy,Sem.run_bind,Sem.run_pure,Result.andThen_ok,invoke,hg,hex,callMethod,run_program,hrun,T.run hid,hargs]
      ·cases e
     ·cases k1
    ·by_cases hc4:∃ f xs,x=.callK f xs
     ·obtain ⟨f,xs,rfl⟩:=hc4
      simp only [xeff] at e
      obtain ⟨args',e1,e⟩:=zaa_.1 e
      obtain ⟨⟨u,h1⟩,e2,e⟩:=zaa_.1 e
      injection e with e
      injection e with e3 e4
      subst e3 e4
      obtain ⟨dst,op,ty,pos,after,guard⟩:=o
      cases op <;> simp only [chkOp,Bool.false_eq_true] at k
      rename_i c
      rw [Bool.and_eq_true] at k
      obtain ⟨k1,k2⟩:=k
      split at k1
      ·rename_i id hcal
       rw [Bool.and_eq_true,beq_iff_eq,beq_iff_eq] at k1
       obtain ⟨k1,kk⟩:=k1
       have hargs:c.args.map a.eval=(c.args.toList.map a.eval).toArray:=by
        apply Array.ext'
        simp
       unfold Oper.wp
       rw [show (execOp a.eval { dst:=dst,op:=Op.call c,type:=ty,pos:=pos,after:=after,guard:=guard }).run P w=.ok (.enter id (c.args.toList.map a.eval).toArray) w by
        simp only [execOp,resolve,hcal,Act.eval,Deferred.ofValue,Sem.run_bind,Sem.run_pure,Result.andThen_ok,invoke,Array.empty_append,Array.append_empty,T.run k1,hargs],Oper.upon_enter]
       refine Calls.mono (F f id _ h u h1 k1 e2 g w _ R (.inr ⟨_,_,_,_,_,rfl,kk.trans k1.symm,zuu_ (zcb_ S k2) e1⟩)) ?_
       rintro ee w' ⟨mv,g',rfl,R',X',r'⟩
       obtain ⟨g2,q1,q2,q3⟩:=zbdr_ R' X' (Nat.le_refl _) r'
       exact hK _ _ ⟨g2,q1,X.trans q2,(S.later q2.later).put hd q3⟩ ⟨mv,g2,rfl,q1,X.trans q2,q2.later,q3⟩
      ·cases k1
     ·exact done (eff_ok R S k (fun m f xs e=>hc1 ⟨m,f,xs,e⟩) (fun m f xs e=>hc2 ⟨m,f,xs,e⟩) (fun m tb y xs e=>hc3 ⟨m,tb,y,xs,e⟩) (fun f xs e=>hc4 ⟨f,xs,e⟩) e)
end
end Go.Proofs.Sl
namespace Go.Proofs.Sl
def HGr (base:Nat) (h h':H):Prop:=h.length≤h'.length∧∀ q o',q < base→h'[q]?=some o'→∃ o,h[q]?=some o∧o'.top≤max o.top (q + 1)
section
variable {h h' h'':H} {base:Nat}
theorem HGr.refl (base:Nat) (h:H):HGr base h h:=⟨Nat.le_refl _,fun q o' _ e=>⟨o',e,Nat.le_max_left _ _⟩⟩
theorem HGr.trans (a:HGr base h h') (b:HGr base h' h''):HGr base h h'':=⟨Nat.le_trans a.1 b.1,fun q o' hq e=>by
 obtain ⟨o1,e1,t1⟩:=b.2 q o' hq e
 obtain ⟨o2,e2,t2⟩:=a.2 q o1 hq e1
 exact ⟨o2,e2,by omega⟩⟩
theorem HGr.push (hb:base≤h.length) (o:O):HGr base h (h++[o]):=⟨by simp,fun q o' hq e=>by
 rw [List.getElem?_append_left (by omega)] at e
 exact ⟨o',e,Nat.le_max_left _ _⟩⟩
theorem HGr.set {l:Nat} {o o2:O} (e:h[l]?=some o) (ht:l < base→o2.top≤max o.top (l + 1)):HGr base h (h.set l o2):=⟨by simp,fun q o' hq e'=>by
 rw [zfc_] at e'
 split at e'
 ·rename_i hl
  subst hl
  rw [if_pos (zau_ e)] at e'
  injection e' with e'
  subst e'
  exact ⟨o,e,ht hq⟩
 ·exact ⟨o',e',Nat.le_max_left _ _⟩⟩
mutual
theorem zqh_:∀ (v:V),v.closed=true→v.top=0
 | .s _,_=>rfl
 | .agg cs,k=>by simpa [V.top] using zfj_ cs (by simpa [V.closed] using k)
 | .tup cs,k=>by simpa [V.top] using zfj_ cs (by simpa [V.closed] using k)
 | .lst ..,_=>rfl
 | .lnk ..,k=>by simp [V.closed] at k
 | .gro ..,k=>by simp [V.closed] at k
 | .own ..,k=>by simp [V.closed] at k
 | .spent ..,k=>by simp [V.closed] at k
 | .ref ..,k=>by simp [V.closed] at k
 | .bref ..,k=>by simp [V.closed] at k
 | .win ..,k=>by simp [V.closed] at k
 | .ptr ..,k=>by simp [V.closed] at k
 | .eptr ..,k=>by simp [V.closed] at k
 | .fptr ..,_=>rfl
 | .fn f a b,k=>by
  simp only [V.closed,Bool.and_eq_true] at k
  simp [V.top,zfj_ a k.1,zfj_ b k.2]
 | .mref ..,k=>by simp [V.closed] at k
 | .ifc t v,k=>by
  simp only [V.closed] at k
  simp [V.top,zqh_ v k]
theorem zfj_:∀ (l:List V),V.closed.closeds l=true→V.top.tops l=0
 | [],_=>rfl
 | v :: l,k=>by
  simp only [V.closed.closeds,Bool.and_eq_true] at k
  simp [V.top.tops,zqh_ v k.1,zfj_ l k.2]
end
theorem zjw_ (o:Nat) (c:V):∀ (cs:List V),V.top.tops (cs.set o c)≤max (V.top.tops cs) c.top:=by
 intro cs
 induction cs generalizing o with
 | nil=>simp [V.top.tops]
 | cons x cs ih =>
  cases o with
  | zero=>simp only [List.set_cons_zero,V.top.tops]; omega
  | succ o =>
   have:=ih o
   simp only [List.set_cons_succ,V.top.tops]
   omega
theorem zbol_ (a b:List V):V.top.tops (a++b)=max (V.top.tops a) (V.top.tops b):=by
 induction a with
 | nil=>simp [V.top.tops]
 | cons x a ih=>simp only [List.cons_append,V.top.tops,ih]; omega
theorem frz_HG {v v':V} (e:frz h v=some (v',h')):HGr base h h':=by
 unfold frz at e
 split at e
 ·obtain ⟨p,e1,e⟩:=zaa_.1 e
  obtain ⟨ha,hn⟩:=zbg_ e1
  split at e
  ·injection e with e
   injection e with e2 e3
   subst e2 e3
   exact HGr.set ha fun _=>Nat.le_max_left _ _
  ·cases e
 ·obtain ⟨u,e1,e⟩:=zaa_.1 e
  injection e with e
  injection e with e2 e3
  subst e3
  exact HGr.refl _ _
theorem zqi_ {r:Bool} {v v':V} (e:keep r h v=some (v',h')):HGr base h h':=by
 unfold keep at e
 split at e
 ·exact frz_HG e
 ·obtain ⟨u,e1,e⟩:=zaa_.1 e
  injection e with e
  injection e with e2 e3
  subst e3
  exact HGr.refl _ _
theorem zbom_ {k:Nat} {x v:V} {lo hi:Option V} (e:xslFrz h k x lo hi=some (v,h')):HGr base h h':=by
 unfold xslFrz at e
 split at e
 ·obtain ⟨p,e1,e⟩:=zaa_.1 e
  injection e with e
  injection e with e2 e3
  subst e3
  exact HGr.refl _ _
 ·obtain ⟨⟨u,h1⟩,e1,e⟩:=zaa_.1 e
  have k1:=frz_HG (base:=base) e1
  simp only at e
  split at e
  ·split at e
   ·obtain ⟨p,e2,e⟩:=zaa_.1 e
    injection e with e
    injection e with e2 e3
    subst e3
    exact k1
   ·cases e
  ·cases e
theorem zbdt_ (a b:List V):V.top.tops (a++b)=max (V.top.tops a) (V.top.tops b):=by
 induction a with
 | nil=>simp [V.top.tops]
 | cons x a ih=>simp only [List.cons_append,V.top.tops,ih]; omega
theorem zbon_ {k:Nat} {z x v:V} (e:xclear h k z x=some (v,h')):HGr base h h':=by
 unfold xclear at e
 split at e
 ·rename_i l n a b
  obtain ⟨p,e1,e⟩:=zaa_.1 e
  obtain ⟨ha,hn⟩:=zbg_ e1
  split at e
  ·rename_i hc
   injection e with e
   injection e with e2 e3
   subst e3
   refine HGr.set ha fun _=>?_
   simp only [O.top,zbdt_]
   have h1:∀ q,V.top.tops (List.replicate q z)=0:=by
    intro q
    induction q with
    | zero=>rfl
    | succ q ih=>simp only [List.replicate_succ,V.top.tops,ih,zqh_ z hc.2.2.2.1,Nat.max_self]
   have h2:V.top.tops p.2.2=max (V.top.tops (p.2.2.take a)) (V.top.tops (p.2.2.drop a)):=by rw [← zbdt_,List.take_append_drop]
   rw [h1]
   omega
  ·cases e
 ·injection e with e
  injection e with e2 e3
  subst e3
  exact HGr.refl _ _
 ·cases e
theorem zfk_ {r:Bool}:∀ {l l':List V} {h h':H},keeps r h l=some (l',h')→HGr base h h'
 | [],l',h,h',e=>by
  simp only [keeps,Option.some.injEq,Prod.mk.injEq] at e
  obtain ⟨_,rfl⟩:=e
  exact HGr.refl _ _
 | v :: l,l',h,h',e=>by
  simp only [keeps] at e
  obtain ⟨⟨v',h1⟩,e1,e⟩:=zaa_.1 e
  obtain ⟨⟨l2,h2⟩,e2,e⟩:=zaa_.1 e
  injection e with e
  injection e with e3 e4
  subst e4
  exact (zqi_ e1).trans (zfk_ e2)
theorem zboo_ {base l o:Nat} {old new c:V} (hbx:∃ z cs0,h[l]?=some (.box z cs0)) (e:stCell base l o old new h=some (c,h')):HGr base h h'∧(l < base→c.top≤l + 1)∧h'[l]?=h[l]?:=by
 unfold stCell at e
 split at e
 ·split at e
  ·split at e
   ·injection e with e
    injection e with e1 e2
    subst e1 e2
    exact ⟨HGr.refl _ _,fun _=>Nat.zero_le _,rfl⟩
   ·cases e
  ·cases e
 ·split at e
  ·split at e
   ·injection e with e
    injection e with e1 e2
    subst e1 e2
    exact ⟨HGr.refl _ _,fun _=>Nat.zero_le _,rfl⟩
   ·cases e
  ·cases e
 ·split at e <;> first | (cases e; done) | skip
  ·injection e with e
   injection e with e1 e2
   subst e1 e2
   exact ⟨HGr.refl _ _,fun _=>Nat.zero_le _,rfl⟩
  ·rename_i l' n
   obtain ⟨p,e1,e⟩:=zaa_.1 e
   obtain ⟨ha,hn⟩:=zbg_ e1
   split at e
   ·injection e with e
    injection e with e1 e2
    subst e1 e2
    exact ⟨HGr.refl _ _,fun _=>Nat.zero_le _,rfl⟩
   ·split at e
    ·injection e with e
     injection e with e1 e2
     subst e1 e2
     refine ⟨HGr.set ha fun _=>Nat.zero_le _,fun _=>Nat.zero_le _,zak_ ?_⟩
     rintro rfl
     obtain ⟨z,cs0,hbx⟩:=hbx
     rw [hbx] at ha
     cases ha
    ·cases e
  ·split at e
   ·rename_i hc
    injection e with e
    injection e with e1 e2
    subst e1 e2
    refine ⟨HGr.refl _ _,fun hl=>?_,rfl⟩
    rcases hc with hc | hc
    ·omega
    ·exact hc
   ·cases e
theorem zuv_ {base l:Nat}:∀ (ns:List V) (o:Nat) (h h':H) (cs cs':List V),(∃ z cs0,h[l]?=some (.box z cs0))→zbi_ base l o ns h cs=some (cs',h') →
  HGr base h h'∧h'[l]?=h[l]?∧(l < base→V.top.tops cs'≤max (V.top.tops cs) (l + 1))
 | [],o,h,h',cs,cs',hbx,e=>by
  simp only [zbi_,Option.some.injEq,Prod.mk.injEq] at e
  obtain ⟨rfl,rfl⟩:=e
  exact ⟨HGr.refl _ _,rfl,fun _=>Nat.le_max_left _ _⟩
 | n :: ns,o,h,h',cs,cs',hbx,e=>by
  simp only [zbi_] at e
  obtain ⟨old,e1,e⟩:=zaa_.1 e
  obtain ⟨⟨c,h2⟩,e2,e⟩:=zaa_.1 e
  obtain ⟨k1,k2,k3⟩:=zboo_ hbx e2
  obtain ⟨k4,k5,k6⟩:=zuv_ ns (o + 1) h2 h' (cs.set o c) cs' (by rw [k3]; exact hbx) e
  refine ⟨k1.trans k4,k5.trans k3,fun hl=>?_⟩
  have:=k6 hl
  have:=zjw_ o c cs
  have:=k2 hl
  omega
theorem zbdu_ {n:Nat} {x v:V} (e:xstore base h n x v=some h'):HGr base h h':=by
 unfold xstore at e
 split at e
 ·split at e
  ·rename_i l o
   obtain ⟨p,e1,e⟩:=zaa_.1 e
   have hb:=zcg_ e1
   split at e
   ·cases e
   ·obtain ⟨q,e2,e⟩:=zaa_.1 e
    injection e with e
    subst e
    obtain ⟨k1,k2,k3⟩:=zuv_ _ _ _ _ _ _ ⟨_,_,hb⟩ e2
    rw [hb] at k2
    refine k1.trans (HGr.set k2 fun hl=>?_)
    simp only [O.top]
    exact k3 hl
  ·rename_i l m i j
   obtain ⟨p,e1,e⟩:=zaa_.1 e
   obtain ⟨ha,hm⟩:=zbg_ e1
   split at e
   ·cases e
   ·obtain ⟨el,e2,e⟩:=zaa_.1 e
    obtain ⟨cs,e3,e⟩:=zaa_.1 e
    split at e
    ·rename_i hc
     injection e with e
     subst e
     refine HGr.set ha fun hl=>?_
     simp only [O.top]
     have h1:=zjw_ i (putEl j cs el) p.2.2
     have h2:(putEl j cs el).top≤V.top.tops p.2.2:=by
      have hel:el.top≤V.top.tops p.2.2:=by
       have:∀ (l:List V) (i:Nat) (x:V),l[i]?=some x→x.top≤V.top.tops l:=by
        intro l
        induction l with
        | nil=>intro i x e; simp at e
        | cons y l ih =>
         intro i x e
         cases i with
         | zero=>simp only [List.getElem?_cons_zero,Option.some.injEq] at e; subst e; simp only [V.top.tops]; omega
         | succ i =>
          have:=ih i x (by simpa using e)
          simp only [V.top.tops]
          omega
       exact this _ _ _ e2
      have hcs:=zfj_ cs hc.2.1
      have hpr:∀ (cs:List V) (j:Nat) (c:List V),V.top.tops (putRow j cs c)≤max (V.top.tops c) (V.top.tops cs):=by
       intro cs
       induction cs with
       | nil=>intro j c; simp only [putRow]; omega
       | cons n ns ih =>
        intro j c
        have h1:=ih (j + 1) (c.set j n)
        have h2:=zjw_ j n c
        simp only [putRow,V.top.tops]
        omega
      have hh:∀ v:V,(cs.headD v).top≤max v.top (V.top.tops cs):=by
       intro v
       cases cs with
       | nil=>simp [V.top.tops]
       | cons x cs=>simp only [List.headD_cons,V.top.tops]; omega
      by_cases hagg:∃ c,el=.agg c
      ·obtain ⟨c,rfl⟩:=hagg
       have h4:=hpr cs j c
       simp only [putEl,V.top] at hel ⊢
       omega
      ·have hpe:putEl j cs el=cs.headD el:=by cases el <;> first | rfl | exact absurd ⟨_,rfl⟩ hagg
       rw [hpe]
       refine Nat.le_trans (hh _) ?_
       omega
     omega
    ·cases e
  ·cases e
 ·cases e
theorem zbop_ {x v:V} (e:zdb_ base h x v=some h'):HGr base h h':=by
 unfold zdb_ at e
 split at e
 ·rename_i l o l' n
  obtain ⟨p,e1,e⟩:=zaa_.1 e
  obtain ⟨p2,e2,e⟩:=zaa_.1 e
  obtain ⟨old,e3,e⟩:=zaa_.1 e
  have hb:=zcg_ e1
  split at e
  ·rename_i hc
   injection e with e
   subst e
   refine HGr.set hb fun hl=>?_
   have:=zjw_ o (V.ref l' n) p.2
   have h2:V.top (.ref l' n)=l' + 1:=rfl
   simp only [O.top]
   omega
  ·cases e
 ·exact zbdu_ e
theorem zboq_ {l:Nat} {es:List (Value × V)} (e:mapAt h l=some es):h[l]?=some (.mp es):=by
 unfold mapAt at e
 split at e
 ·rename_i es' h'
  injection e with e
  subst e
  exact h'
 ·cases e
theorem zbor_ {kk:CK} {m k v:V} (e:xmput h kk m k v=some h'):HGr base h h':=by
 unfold xmput at e
 split at e
 ·obtain ⟨es,e1,e⟩:=zaa_.1 e
  obtain ⟨kv,e2,e⟩:=zaa_.1 e
  split at e
  ·obtain ⟨es2,e3,e⟩:=zaa_.1 e
   injection e with e
   subst e
   exact HGr.set (zboq_ e1) fun _=>Nat.zero_le _
  ·cases e
 ·cases e
theorem zbos_ (hb:base≤h.length) {k lim:Nat} {x y v:V} (e:zao_ h k lim x y=some (v,h')):HGr base h h':=by
 unfold zao_ at e
 obtain ⟨ys,ey,e⟩:=zaa_.1 e
 split at e
 ·rename_i hc
  have hys:=zfj_ ys hc.2
  split at e
  ·split at e
   ·injection e with e
    injection e with e1 e2
    subst e2
    exact HGr.refl _ _
   ·split at e
    ·injection e with e
     injection e with e1 e2
     subst e2
     exact HGr.push hb _
    ·cases e
  ·obtain ⟨p,e1,e2⟩:=zaa_.1 e
   obtain ⟨ha,hn⟩:=zbg_ e1
   split at e2
   ·injection e2 with e2
    injection e2 with e3 e4
    subst e4
    refine HGr.set ha fun _=>?_
    simp only [O.top,zbol_,hys]
    omega
   ·cases e2
  ·obtain ⟨p,e1,e2⟩:=zaa_.1 e
   obtain ⟨c,e3,e4⟩:=zaa_.1 e2
   split at e4
   ·split at e4
    ·split at e4
     ·injection e4 with e4
      injection e4 with e5 e6
      subst e6
      exact HGr.refl _ _
     ·injection e4 with e4
      injection e4 with e5 e6
      subst e6
      refine HGr.set (zcg_ e1) fun _=>?_
      simp only [O.top]
      refine Nat.le_trans (zjw_ _ _ _) ?_
      simp only [V.top]
      omega
    ·cases e4
   ·cases e4
  ·cases e
 ·cases e
def okB (base:Nat):List V→Prop
 | .gro b _ _ _ :: _=>base≤b
 | _=>True
def CfHG (cf:CallF):Prop:=∀ f args h v h',cf f args h=some (v,h')→∀ base,base≤h.length→okB base args→HGr base h h'
theorem zbot_ (base:Nat):∀ {l l':List V},arg0s l=some l'→okB base l'
 | [],l',e=>by
  injection e with e
  subst e
  trivial
 | v :: r,l',e=>by
  simp only [arg0s] at e
  obtain ⟨u,e1,e⟩:=zaa_.1 e
  obtain ⟨q,_,e⟩:=zaa_.1 e
  injection e with e
  subst e
  cases v <;> simp only [arg0,Option.some.injEq,reduceCtorEq] at e1 <;> subst e1 <;> trivial
theorem zuw_ {cf:CallF} (F:CfHG cf) (hb:base≤h.length) {m:Bool} {f:Nat} {args:List V} {v:V} (e:xcall cf h m f args=some (v,h')):HGr base h h':=by
 unfold xcall at e
 obtain ⟨args',e1,e⟩:=zaa_.1 e
 obtain ⟨⟨u,h1⟩,e2,e⟩:=zaa_.1 e
 have k1:=F f args' h u h1 e2 base hb (zbot_ base e1)
 split at e
 ·unfold resM at e
  split at e
  ·injection e with e
   injection e with e3 e4
   subst e4
   exact k1.trans (HGr.push (Nat.le_trans hb k1.1) _)
  ·injection e with e
   injection e with e3 e4
   subst e4
   exact k1
  ·injection e with e
   injection e with e3 e4
   subst e4
   exact k1
  ·injection e with e
   injection e with e3 e4
   subst e4
   exact k1
  ·cases e
 ·injection e with e
  injection e with e3 e4
  subst e4
  exact k1
theorem xop_HG {cf:CallF} (F:CfHG cf) (hb:base≤h.length) {s:Sl} {o:XO} {v:V} (e:xop cf base s h o=some (v,h')):HGr base h h':=by
 unfold xop at e
 split at e
 ·obtain ⟨u,e1,e⟩:=zaa_.1 e
  injection e with e
  injection e with e2 e3
  subst e3
  exact HGr.refl _ _
 ·obtain ⟨u,e1,e⟩:=zaa_.1 e
  injection e with e
  injection e with e2 e3
  subst e3
  exact HGr.refl _ _
 ·unfold xeff at e
  split at e
  ·injection e with e
   injection e with e2 e3
   subst e3
   exact HGr.push hb _
  ·split at e
   ·split at e
    ·injection e with e
     injection e with e2 e3
     subst e3
     exact HGr.push hb _
    ·unfold xboxR at e
     split at e
     ·obtain ⟨q,e1,e⟩:=zaa_.1 e
      injection e with e
      injection e with e2 e3
      subst e3
      obtain ⟨k1,k2,k3⟩:=zuv_ (base:=base) _ _ _ _ _ _ ⟨_,_,List.getElem?_concat_length⟩ e1
      rw [List.getElem?_concat_length] at k2
      exact ((HGr.push hb _).trans k1).trans (HGr.set k2 fun hl=>by omega)
     ·cases e
   ·obtain ⟨⟨u,h1⟩,e1,e⟩:=zaa_.1 e
    split at e
    ·injection e with e
     injection e with e2 e3
     subst e3
     exact (zqi_ e1).trans (HGr.push (Nat.le_trans hb (zqi_ (base:=base) e1).1) _)
    ·cases e
  ·obtain ⟨⟨u,h1⟩,e1,e⟩:=zaa_.1 e
   obtain ⟨cs,e2,e⟩:=zaa_.1 e
   injection e with e
   injection e with e2 e3
   subst e3
   exact zfk_ e1
  ·obtain ⟨⟨u,h1⟩,e1,e⟩:=zaa_.1 e
   split at e
   ·injection e with e
    injection e with e2 e3
    subst e3
    exact (zfk_ e1).trans (HGr.push (Nat.le_trans hb (zfk_ (base:=base) e1).1) _)
   ·cases e
  ·obtain ⟨⟨u,h1⟩,e1,e⟩:=zaa_.1 e
   obtain ⟨⟨u2,h2⟩,e2,e⟩:=zaa_.1 e
   injection e with e
   injection e with e3 e4
   subst e4
   exact (zfk_ e1).trans (zfk_ e2)
  ·obtain ⟨h1,e1,e⟩:=zaa_.1 e
   injection e with e
   injection e with e3 e4
   subst e4
   exact zbdu_ e1
  ·obtain ⟨h1,e1,e⟩:=zaa_.1 e
   injection e with e
   injection e with e3 e4
   subst e4
   exact zbop_ e1
  ·obtain ⟨n1,e1,e⟩:=zaa_.1 e
   obtain ⟨n2,e2,e⟩:=zaa_.1 e
   split at e
   ·injection e with e
    injection e with e3 e4
    subst e4
    exact HGr.push hb _
   ·cases e
  ·split at e
   ·obtain ⟨p,e1,e⟩:=zaa_.1 e
    split at e
    ·injection e with e
     injection e with e3 e4
     subst e4
     exact HGr.set (zcg_ e1) fun _=>Nat.le_max_left _ _
    ·cases e
   ·cases e
  ·exact zbos_ hb e
  ·exact zbom_ e
  ·exact zbon_ e
  ·exact zuw_ F hb e
  ·split at e
   ·exact zuw_ F hb e
   ·cases e
  ·split at e
   ·obtain ⟨f,e1,e⟩:=zaa_.1 e
    exact zuw_ F hb e
   ·cases e
  ·obtain ⟨a,e1,e⟩:=zaa_.1 e
   obtain ⟨⟨u,h1⟩,e2,e⟩:=zaa_.1 e
   injection e with e
   injection e with e3 e4
   subst e4
   exact F _ _ _ _ _ e2 base hb (Nat.le_refl _)
  ·obtain ⟨u,e1,e⟩:=zaa_.1 e
   split at e
   ·obtain ⟨⟨l,h1⟩,e2,e⟩:=zaa_.1 e
    injection e with e
    injection e with e3 e4
    subst e4
    exact zfk_ e2
   ·obtain ⟨⟨l,h1⟩,e2,e⟩:=zaa_.1 e
    injection e with e
    injection e with e3 e4
    subst e4
    exact zqi_ e2
  ·injection e with e
   injection e with e2 e3
   subst e3
   exact HGr.push hb _
  ·obtain ⟨h1,e1,e⟩:=zaa_.1 e
   injection e with e
   injection e with e3 e4
   subst e4
   exact zbor_ e1
  ·cases e
theorem zbou_ {cf:CallF} (F:CfHG cf) {o:XOp} {st st':St} (hb:base≤st.h.length) (e:xstep cf base o st=some st'):HGr base st.h st'.h:=by
 unfold xstep at e
 obtain ⟨wt,e1,e⟩:=zaa_.1 e
 split at e
 ·obtain ⟨p,e2,e⟩:=zaa_.1 e
  injection e with e
  subst e
  exact xop_HG F hb (v:=p.1) (h':=p.2) e2
 ·injection e with e
  subst e
  exact HGr.refl _ _
theorem zbdv_ {cf:CallF} (F:CfHG cf):∀ (ops:List XOp) {st st':St},base≤st.h.length→xops cf base ops st=some st'→HGr base st.h st'.h
 | [],st,st',hb,e=>by
  simp only [xops,Option.some.injEq] at e
  subst e
  exact HGr.refl _ _
 | o :: r,st,st',hb,e=>by
  simp only [xops] at e
  obtain ⟨s1,e1,e⟩:=zaa_.1 e
  have k1:=zbou_ F hb e1
  exact k1.trans (zbdv_ F r (Nat.le_trans hb k1.1) e)
theorem zqj_ {cf:CallF}:∀ (ops:List XOp) {st:St} {tr:List St},xtrace cf base ops st=some tr→∃ st',lastSt tr=some st'∧xops cf base ops st=some st'∧tr.length=ops.length + 1∧tr[0]?=some st
 | [],st,tr,e=>by
  simp only [xtrace,Option.some.injEq] at e
  subst e
  exact ⟨st,rfl,rfl,rfl,rfl⟩
 | o :: r,st,tr,e=>by
  simp only [xtrace] at e
  obtain ⟨s1,e1,e⟩:=zaa_.1 e
  obtain ⟨l,e2,e⟩:=zaa_.1 e
  injection e with e
  subst e
  obtain ⟨st',h1,h2,h3,h4⟩:=zqj_ r e2
  refine ⟨st',?_,?_,by simp [h3],rfl⟩
  ·cases l with
   | nil=>simp at h3
   | cons y l=>exact h1
  ·simp only [xops,e1,zab_,h2]
theorem zbov_ {cf:CallF} {ops:List XOp} {d:Option (List (Nat × Option Nat))} {st st':St} (e:zdn_ cf base ops d st=some st'):xops cf base ops st=some st':=by
 unfold zdn_ at e
 split at e
 ·exact e
 ·obtain ⟨tr,e1,e⟩:=zaa_.1 e
  split at e
  ·obtain ⟨s1,h1,h2,_⟩:=zqj_ ops e1
   rw [h1] at e
   injection e with e
   subst e
   exact h2
  ·cases e
theorem zbdw_ (b:Body) (hb:∀ st r,base≤st.h.length→b st=some r→HGr base st.h r.2.h):∀ (n:Nat) {st:St} {r:Ex × St},base≤st.h.length→loopN n b st=some r→HGr base st.h r.2.h
 | 0,st,r,_,e=>by cases e
 | n + 1,st,r,h0,e=>by
  simp only [loopN] at e
  obtain ⟨r1,e1,e⟩:=zaa_.1 e
  have k1:=hb st r1 h0 e1
  unfold thenC at e
  split at e
  ·exact k1.trans (zbdw_ b hb n (Nat.le_trans h0 k1.1) e)
  ·injection e with e
   subst e
   exact k1
theorem zdo_ {cf:CallF} (F:CfHG cf) (n:Nat):∀ (c:XC) {st:St} {r:Ex × St},base≤st.h.length→xcode cf (loopN n) base c st=some r→HGr base st.h r.2.h
 | .skip,st,r,_,e=>by
  simp only [xcode,Option.some.injEq] at e
  subst e
  exact HGr.refl _ _
 | .region ops d,st,r,hb,e=>by
  simp only [xcode] at e
  obtain ⟨s1,e1,e⟩:=zaa_.1 e
  injection e with e
  subst e
  exact zbdv_ F ops hb (zbov_ e1)
 | .seq a b,st,r,hb,e=>by
  simp only [xcode] at e
  obtain ⟨r1,e1,e⟩:=zaa_.1 e
  have k1:=zdo_ F n a hb e1
  unfold thenC at e
  split at e
  ·exact k1.trans (zdo_ F n b (Nat.le_trans hb k1.1) e)
  ·injection e with e
   subst e
   exact k1
 | .cond c a b,st,r,hb,e=>by
  simp only [xcode] at e
  split at e
  ·split at e
   ·exact zdo_ F n a hb e
   ·exact zdo_ F n b hb e
  ·cases e
 | .block i b,st,r,hb,e=>by
  simp only [xcode] at e
  obtain ⟨r1,e1,e⟩:=zaa_.1 e
  have k1:=zdo_ F n b hb e1
  injection e with e
  subst e
  unfold outOf
  split
  ·split <;> exact k1
  ·exact k1
 | .loop b,st,r,hb,e=>by
  simp only [xcode] at e
  exact zbdw_ _ (fun st r h0 e=>zdo_ F n b h0 e) n hb e
 | .exit i,st,r,_,e=>by
  simp only [xcode,Option.some.injEq] at e
  subst e
  exact HGr.refl _ _
 | .ret,st,r,_,e=>by
  simp only [xcode,Option.some.injEq] at e
  subst e
  exact HGr.refl _ _
theorem zbow_ {es:List V} (hc:V.closed.closeds es=true):∀ (is:List Nat),V.top.tops (pickEs es is)=0:=by
 have hg:∀ i,(es.getD i .u).top=0:=fun i=>by
  rw [List.getD_eq_getElem?_getD]
  cases h:es[i]? with
  | none=>rfl
  | some v=>exact zqh_ v (ztu_ hc h)
 intro is
 induction is with
 | nil=>rfl
 | cons i is ih =>
  have ih':V.top.tops (List.map (fun i=>es.getD i .u) is)=0:=ih
  simp only [pickEs,List.map_cons,V.top.tops,hg,ih',Nat.max_self]
theorem zbox_ {cf:CallF} {k:NK} {args:List V} {v:V} (e:xnat cf args h k=some (v,h')):HGr base h h':=by
 cases k with
 | sort k =>
  simp only [xnat] at e
  unfold xsort at e
  split at e
  ·injection e with e
   injection e with e1 e2
   subst e2
   exact HGr.refl _ _
  ·rename_i l n f a b
   have e':xsort cf k h [.ref l n,.fn f a b]=some (v,h'):=by simpa only [xsort] using e
   obtain ⟨es,q,h1,h2,h3,h4,h5,h6,h0,h7,h8⟩:=zew_.1 e'
   injection h8 with h8 h9
   subst h9
   exact HGr.set h1 fun _=>by simp only [O.top,zbow_ h4]; omega
  ·cases e
 | seq it k lim =>
  simp only [xnat] at e
  unfold xseq at e
  split at e
  ·split at e
   ·injection e with e
    injection e with e1 e2
    subst e2
    exact HGr.refl _ _
   ·cases e
  ·split at e
   ·split at e
    all_goals
     injection e with e
     injection e with e1 e2
     subst e2
     exact HGr.refl _ _
   ·cases e
  ·cases e
 | none=>simp [xnat] at e
 | keep=>simp [xnat] at e
 | srt str =>
  simp only [xnat] at e
  unfold xsrt at e
  split at e
  ·injection e with e
   injection e with e1 e2
   subst e2
   exact HGr.refl _ _
  ·obtain ⟨p,e1,e⟩:=zaa_.1 e
   have ha:=(zbg_ e1).1
   have hs:∀ (f:ByteArray→V) (l:List ByteArray),(∀ x,(f x).top=0)→V.top.tops (l.map f)=0:=by
    intro f l hf
    induction l with
    | nil=>rfl
    | cons x l ih=>simp [V.top.tops,hf,ih]
   have hi:∀ (f:Int→V) (l:List Int),(∀ x,(f x).top=0)→V.top.tops (l.map f)=0:=by
    intro f l hf
    induction l with
    | nil=>rfl
    | cons x l ih=>simp [V.top.tops,hf,ih]
   split at e
   ·split at e
    ·obtain ⟨q,_,e⟩:=zaa_.1 e
     injection e with e
     injection e with e2 e3
     subst e3
     exact HGr.set ha fun _=>by simp only [O.top]; rw [hs _ _ fun _=>rfl]; omega
    ·obtain ⟨q,_,e⟩:=zaa_.1 e
     injection e with e
     injection e with e2 e3
     subst e3
     exact HGr.set ha fun _=>by simp only [O.top]; rw [hi _ _ fun _=>rfl]; omega
   ·cases e
  ·cases e
 | rd sem =>
  simp only [xnat] at e
  obtain ⟨q,_,e⟩:=zaa_.1 e
  injection e with e
  injection e with e1 e2
  subst e2
  exact HGr.refl _ _
 | grow k lim =>
  simp only [xnat] at e
  unfold xgrow at e
  split at e
  ·split at e
   ·injection e with e
    injection e with e1 e2
    subst e2
    exact HGr.refl _ _
   ·split at e
    ·injection e with e
     injection e with e1 e2
     subst e2
     exact HGr.refl _ _
    ·cases e
  ·cases e
theorem zboy_ {cf:CallF} (F:CfHG cf) (n:Nat) {X:XF} {args:List V} {v:V} (e:xfun0 cf (loopN n) X args h=some (v,h')) (hb:base≤h.length):HGr base h h':=by
 unfold xfun0 at e
 split at e
 ·obtain ⟨r,e1,e⟩:=zaa_.1 e
  have k1:=zdo_ (base:=h.length) (st:=⟨args0 args,h⟩) F n X.body (Nat.le_refl _) e1
  have go:∀ tail:List O,HGr base h (r.2.h.take h.length++tail):=by
   intro tail
   refine ⟨by have:=k1.1; simp only at this; simp; omega,fun q o' hq e=>?_⟩
   rw [List.getElem?_append_left (by have:=k1.1; simp only at this; simp; omega),List.getElem?_take,if_pos (by omega)] at e
   exact k1.2 q o' (by omega) e
  unfold xback at e
  split at e
  ·cases e
  ·obtain ⟨p,e2,e⟩:=zaa_.1 e
   injection e with e
   injection e with e3 e4
   subst e4
   exact go _
 ·cases e
theorem HGr.less {b:Nat} (hb:base≤b) (k:HGr b h h'):HGr base h h':=⟨k.1,fun q o' hq e=>k.2 q o' (by omega) e⟩
theorem zboz_ {cf:CallF} (F:CfHG cf) (n:Nat) {X:XF} {args:List V} {v:V} (e:xfunK cf (loopN n) X args h=some (v,h')) (hk:okB base args):HGr base h h':=by
 unfold xfunK at e
 split at e
 ·split at e
  ·rename_i hl
   obtain ⟨r,e1,e⟩:=zaa_.1 e
   have h1:=zdo_ F n _ hl.2 e1
   unfold xbackK at e
   split at e
   ·cases e
   ·obtain ⟨vs,_,e⟩:=zaa_.1 e
    injection e with e
    injection e with e2 e3
    subst e3
    exact HGr.less hk h1
  ·cases e
 ·cases e
theorem zbpa_ {cf:CallF} (F:CfHG cf) (n:Nat) {X:XF} {args:List V} {v:V} (e:xfun cf (loopN n) X args h=some (v,h')) (hb:base≤h.length) (hk:okB base args):HGr base h h':=by
 unfold xfun at e
 split at e
 case _=>exact zboy_ F n e hb
 case _=>exact zboz_ F n e hk
 case _=>exact zbox_ e
theorem zqk_ (XP:Nat→Option XF):∀ n,CfHG (runN XP n)
 | 0=>fun f args h v h' e=>by cases e
 | n + 1=>fun f args h v h' e base hb hk=>by
  simp only [runN] at e
  obtain ⟨X,e1,e⟩:=zaa_.1 e
  exact zbpa_ (zqk_ XP n) n e hb hk
end
end Go.Proofs.Sl
