/- A part of the proof. -/
import Derived.Test.YtalalpgkljkdiaaGreatSlL1
set_option linter.unusedVariables false
set_option linter.unusedSimpArgs false
set_option linter.unnecessarySimpa false
namespace Go.Proofs.Sl
theorem zbku_ {s:ST} {t:TR} {k:Nat} {S E:List Int} {a:SP}:∀ (r:List CL) (i:Nat),a ∈ trL s t k S E i r→∃ j c,r[j]?=some c∧a=trS s t k S E (i + j) c
 | [],i,h=>by simp [trL] at h
 | c :: r,i,h=>by
  rw [trL,List.mem_cons] at h
  rcases h with rfl | h
  ·exact ⟨0,c,rfl,rfl⟩
  ·obtain ⟨j,c',h1,h2⟩:=zbku_ r (i + 1) h
   exact ⟨j + 1,c',by simpa using h1,by rw [h2]; congr 1; omega⟩
theorem zbkv_ {s:ST} (hs:s.Ok) {a:SP} (h:a ∈ s.spans):∃ k t j c,k < 3∧s.ts[k]?=some t∧t.cs[j]?=some c∧a=trS s t k t.S t.E j c:=by
 unfold ST.spans at h
 obtain ⟨l,hl,ha⟩:=List.mem_flatten.1 h
 obtain ⟨q,hq,rfl⟩:=List.mem_map.1 hl
 obtain ⟨k,t,h1,h2,h3,rfl⟩:=zbks_ hs hq
 obtain ⟨j,c,h4,h5⟩:=zbku_ _ _ ha
 exact ⟨k,t,j,c,h1,h2,h4,by rw [h5,Nat.zero_add]⟩
theorem trS_tr (s:ST) (t:TR) (k:Nat) (S E:List Int) (i:Nat) (c:CL):(trS s t k S E i c).tr=t.id k∧(trS s t k S E i c).id=(i:Int) + 1∧(trS s t k S E i c).rev=0∧(trS s t k S E i c).clk=1 + ((c.ck % 4:Nat):Int):=⟨rfl,rfl,rfl,rfl⟩
theorem id_inj {s:ST} {k j:Nat} {t u:TR} (hk:k < 3) (hj:j < 3) (h1:s.ts[k]?=some t) (h2:s.ts[j]?=some u) (e:t.id k=u.id j):k=j∧t=u:=by
 unfold TR.id at e
 have:k=j:=by omega
 subst this
 rw [h1] at h2
 exact ⟨rfl,Option.some.inj h2⟩
def ST.final (s:ST):List SP:=s.spans.map fun a=>revd (finB a 0 s.ts) a
def finM (ts:List TR) (L:List SP) (k:Nat):List V:=((L.take k).map (fun a=>revd (finB a 0 ts) a)++L.drop k).map SP.v
theorem zbkw_ (ts:List TR) (L:List SP) (k:Nat):(finM ts L k).length=L.length:=by
 unfold finM
 simp only [List.length_map,List.length_append,List.length_take,List.length_drop]
 omega
theorem zdis_ {ts:List TR} {L:List SP} {k:Nat} {a:SP} (h:L[k]?=some a):(finM ts L k).set k (revd false a).v=finM ts L k∧(finM ts L k).set k (revd (finB a 0 ts) a).v=finM ts L (k + 1):=by
 have hk:=(List.getElem?_eq_some_iff.1 h).1
 have e:∀ x:V,(finM ts L k).set k x=((L.take k).map (fun a=>revd (finB a 0 ts) a)).map SP.v++x :: (L.drop (k + 1)).map SP.v:=fun x=>by
  unfold finM
  have hl:(((L.take k).map (fun a=>revd (finB a 0 ts) a)).map SP.v).length=k:=by simp; omega
  rw [zas_ h,List.map_append,List.map_cons,List.set_append_right _ _ (by omega),hl,Nat.sub_self,List.set_cons_zero]
 refine ⟨?_,?_⟩
 ·rw [e]
  unfold finM
  rw [zas_ h,List.map_append,List.map_cons]
  rfl
 ·rw [e]
  unfold finM
  rw [zjl_ h,List.map_append,List.map_append,List.map_append]
  simp
set_option maxHeartbeats 8000000 in
theorem zdit_ {s:ST} (hs:s.Ok) (h:H):run XP zwz_ [s.v] h=some (ow s.final,h):=by
 have hSp:=fun h=>zdin_ hs h
 have hsl:=zbbd_ hs
 have hok:=fun a ha=>zbkv_ hs (a:=a) ha
 have hT:=zdm_ (v:=TR.v) (k:=3) hs.n
 have hID:∀ (k:Nat) (t:TR),s.ts[k]?=some t→∀ h,run XP zen_ [s.v,vi k] h=some (vi (t.id k),h):=fun k t hk h=>zbaz_ hs hk h
 have sT:(lv 3 (slc TR.v s.ts s.tn)).plain=true:=zaq_ _ _
 have sY:(lv 5 (slc SY.v s.ys s.yn)).plain=true:=zaq_ _ _
 have hlst:s.ts≠[]→lv 3 (slc TR.v s.ts s.tn)=.lst 3 (s.ts.map TR.v):=fun hne=>by
  cases hn:s.tn with
  | true=>exact absurd (hs.n hn) hne
  | false=>rfl
 rw [run_eq,zcif_]
 simp only [ST.v] at hID hSp ⊢
 generalize lv 3 (slc TR.v s.ts s.tn)=T at *
 generalize lv 5 (slc SY.v s.ys s.yn)=Y at *
 unfold ST.final
 generalize s.spans=L at *
 by_cases hL:L=[]
 ·subst hL
  have e1:ow ([]:List SP)=vnil:=rfl
  rw [e1] at hSp
  simp -implicitDefEqProofs [zit_,sT,sY,hSp,e1]
  rw [zbb_]
  simp -implicitDefEqProofs [zsq_]
 ·have e1:ow L=.own 14 (L.map SP.v):=by rw [ow,if_neg hL]
  rw [e1] at hSp
  have hm0:finM s.ts L 0=L.map SP.v:=rfl
  simp -implicitDefEqProofs [zit_,sT,sY,hSp]
  refine zaf_ L (fun k st h'=>h'=h++[.box false [T,.s (.int .i8 s.o0),.s (.int .i8 s.o1),.s (.int .i8 s.o2),.s (.int .i8 s.o3),Y,v8 s.wr],.arr false 14 (finM s.ts L k)]∧Sees st [(1,.ptr h.length 0),(3,.ref (h.length + 1) L.length),(4,vi k)]) ?_ ?_ _ _ ?_
  rotate_left
  ·rintro B hB st h' ⟨rfl,⟨g1,g3,g4,-⟩⟩
   have hfl:=zbkw_ s.ts L L.length
   have hF:finM s.ts L L.length=(L.map fun a=>revd (finB a 0 s.ts) a).map SP.v:=by
    unfold finM
    rw [List.take_length,List.drop_length,List.append_nil]
   have hcl:=zba_ (L.map fun a=>revd (finB a 0 s.ts) a)
   rw [← hF] at hcl
   have hne:L.map (fun a=>revd (finB a 0 s.ts) a)≠[]:=by simpa using hL
   rw [ow,if_neg hne,← hF]
   simp -implicitDefEqProofs [hB,zsq_,g1,g3,g4,hfl,hcl]
  ·exact ⟨by simp [hm0],by simp⟩
  ·rintro B f hB hf k a st h' ha hk ⟨rfl,⟨g1,g3,g4,-⟩⟩ K
   have hlt:(k:Int) < L.length:=by omega
   have hw:IntKind.i64.wrap ((k:Int) + 1)=(k:Int) + 1:=w64 (by omega)
   have hfl:=zbkw_ s.ts L k
   obtain ⟨q1,q2⟩:=zdis_ (ts:=s.ts) ha
   obtain ⟨k0,t0,j,c,p1,p2,p3,p4⟩:=hok a (List.mem_of_getElem? ha)
   obtain ⟨r1,r2,r3,-⟩:=trS_tr s t0 k0 t0.S t0.E j c
   rw [← p4] at r1 r2 r3
   have hin:=fun (f:Ex × St→Option (V × H)) (w:Option (V × H)) hend s0=>zdir_ (base:=h.length) (f:=f) (w:=w) hs (H0:=h) (M:=finM s.ts L k) (i:=k) (n:=L.length) (by omega) hfl (by omega) (a:=a) hT hlst sT sY hID (fun k' t' ht' e=>by
    have:=hs.l
    have hk':=(List.getElem?_eq_some_iff.1 ht').1
    obtain ⟨rfl,rfl⟩:=id_inj (s:=s) (by omega) p1 ht' p2 (e.trans r1)
    have:=(hs.ts t' (List.mem_of_getElem? ht')).l
    have hj:=(List.getElem?_eq_some_iff.1 p3).1
    exact ⟨j,c,r2,by omega,p3⟩) hend s0
   rw [q1,q2] at hin
   generalize finM s.ts L (k + 1)=M2 at *
   generalize finM s.ts L k=M1 at *
   simp -implicitDefEqProofs [hB,zsq_,g1,g3,g4,hfl,hlt]
   refine hin _ _ (fun st2 ⟨u1,u3,u4,_⟩=>?_) _ ?_
   ·simp -implicitDefEqProofs [u1,u3,u4]
    refine K _ _ ⟨rfl,?_⟩
    simp [u1,u3,hw]
   ·simp [g1,g3,g4]
end Go.Proofs.Sl
namespace Go.Proofs.Sl
def ST.ex (s:ST) (y:SY):EX:=⟨1 + ((y.fr % 4:Nat):Int),1 + ((y.to % 4:Nat):Int),1000 + ((y.at' % 64:Nat):Int) + s.off (y.fr % 4),1000 + ((y.at' % 64:Nat):Int) + ((y.dl % 16:Nat):Int) + s.off (y.to % 4),if y.sk % 4 < y.dl % 16 then ((y.dl % 16:Nat):Int) - ((y.sk % 4:Nat):Int) else 0⟩
def ST.exs (s:ST):List EX:=s.ys.map s.ex
def owE (L:List EX):V:=if L=[] then vnil else .own 5 (L.map EX.v)
theorem zbbe_:∀ l:List EX,wide 5 (l.map EX.v)=true
 | []=>rfl
 | x :: l=>by rw [List.map_cons,wide,zbbe_ l]; rfl
set_option maxHeartbeats 8000000 in
theorem zdiu_ {s:ST} (hs:s.Ok) (h:H):run XP zxa_ [s.v] h=some (owE s.exs,h):=by
 have hyl:=hs.yl
 have hY:=zdm_ (v:=SY.v) (k:=5) hs.y
 have hO:∀ c:Nat,c < 4→∀ h,run XP zhy_ [s.v,vi (1 + c)] h=some (vi (s.off c),h):=fun c hc h=>zbkg_ hs hc h
 have sT:(lv 3 (slc TR.v s.ts s.tn)).plain=true:=zaq_ _ _
 have sY:(lv 5 (slc SY.v s.ys s.yn)).plain=true:=zaq_ _ _
 have hlst:s.ys≠[]→lv 5 (slc SY.v s.ys s.yn)=.lst 5 (s.ys.map SY.v):=fun hne=>by
  cases hn:s.yn with
  | true=>exact absurd (hs.y hn) hne
  | false=>rfl
 rw [run_eq,zcig_]
 simp only [ST.v] at hO ⊢
 generalize lv 3 (slc TR.v s.ts s.tn)=T at *
 generalize lv 5 (slc SY.v s.ys s.yn)=Y at *
 simp -implicitDefEqProofs [zmz_,sT,sY]
 refine zaf_ s.ys (fun k st h'=>Sees st [(1,.ptr h.length 0),(4,vi k)]∧h'.take (h.length + 1)=h++[.box false [T,.s (.int .i8 s.o0),.s (.int .i8 s.o1),.s (.int .i8 s.o2),.s (.int .i8 s.o3),Y,v8 s.wr]]∧h.length + 1≤h'.length∧OutV (st 3) h' (h.length + 1) 5 (((s.ys.take k).map s.ex).map EX.v)) ?_ ?_ _ _ ?_
 rotate_left
 ·rintro B hB st h' ⟨⟨g1,g4,-⟩,htk,hle,ho⟩
  rw [List.take_of_length_le (Nat.le_refl _)] at ho
  have hget:h'[h.length]?=some (.box false [T,.s (.int .i8 s.o0),.s (.int .i8 s.o1),.s (.int .i8 s.o2),.s (.int .i8 s.o3),Y,v8 s.wr]):=by
   have:=congrArg (fun l=>l[h.length]?) htk
   simpa [List.getElem?_take] using this
  have htk2:h'.take h.length=h:=by
   have:=congrArg (fun l=>l.take h.length) htk
   simpa [List.take_take] using this
  simp -implicitDefEqProofs [hB,zyt_,g1,g4,sT,sY,hget,hY]
  have ho2:OutV (st 3) h' h.length 5 ((s.ys.map s.ex).map EX.v):=by
   rcases ho with o | ⟨q,o1,o2,o3⟩
   ·exact .inl o
   ·exact .inr ⟨q,o1,by omega,o3⟩
  rw [ho2.ret (zpd_ _),zab_,htk2,ST.exs,owE]
  simp
 ·exact ⟨by simp,by rw [List.take_of_length_le (by simp)],by simp,.inl ⟨rfl,by simp⟩⟩
 ·rintro B f hB hf k y st h' hy hk ⟨⟨g1,g4,-⟩,htk,hle,ho⟩ K
  have hlt:(k:Int) < s.ys.length:=by omega
  have hyok:=(hs.ys y (List.mem_of_getElem? hy)).a
  simp only [List.mem_cons,List.not_mem_nil,or_false,forall_eq_or_imp,forall_eq] at hyok
  obtain ⟨b1,b2,b3,b4,b5⟩:=hyok
  have hne:s.ys≠[]:=by rintro e; rw [e] at hk; simp at hk
  obtain rfl:=hlst hne
  have hget0:h'[h.length]?=some (.box false [T,.s (.int .i8 s.o0),.s (.int .i8 s.o1),.s (.int .i8 s.o2),.s (.int .i8 s.o3),.lst 5 (s.ys.map SY.v),v8 s.wr]):=by
   have:=congrArg (fun l=>l[h.length]?) htk
   simpa [List.getElem?_take] using this
  have hget:∀ tt,(h'++tt)[h.length]?=some (.box false [T,.s (.int .i8 s.o0),.s (.int .i8 s.o1),.s (.int .i8 s.o2),.s (.int .i8 s.o3),.lst 5 (s.ys.map SY.v),v8 s.wr]):=fun tt=>by
   rw [List.getElem?_append_left (by omega)]
   exact hget0
  have hq:(s.ys.map SY.v)[k]?=some y.v:=by rw [List.getElem?_map,hy]; rfl
  have hw:IntKind.i64.wrap ((k:Int) + 1)=(k:Int) + 1:=w64 (by omega)
  have hO1:=hO (y.fr % 4) (by omega)
  have hO2:=hO (y.to % 4) (by omega)
  obtain ⟨o1,o2⟩:=s.off_le (y.fr % 4)
  obtain ⟨o3,o4⟩:=s.off_le (y.to % 4)
  have e1:(y.fr:Int).tmod 4=((y.fr % 4:Nat):Int):=tmodN _ 4
  have e2:(y.to:Int).tmod 4=((y.to % 4:Nat):Int):=tmodN _ 4
  have e3:(y.at':Int).tmod 64=((y.at' % 64:Nat):Int):=tmodN _ 64
  have e4:(y.dl:Int).tmod 16=((y.dl % 16:Nat):Int):=tmodN _ 16
  have e5:(y.sk:Int).tmod 4=((y.sk % 4:Nat):Int):=tmodN _ 4
  have m1:y.fr % 4 < 4:=by omega
  have m2:y.to % 4 < 4:=by omega
  have m3:y.at' % 64 < 64:=by omega
  have m4:y.dl % 16 < 16:=by omega
  have m5:y.sk % 4 < 4:=by omega
  have tk:(s.ys.take (k + 1)).map s.ex=(s.ys.take k).map s.ex++[s.ex y]:=by rw [zjl_ hy,List.map_append]; rfl
  obtain ⟨x',h'',hap,ho',htk',hle'⟩:=(ho.app [.box false (SY.v y).cells,.box false (s.ex y).v.cells]).grow (e:=(s.ex y).v) (lim:=3518437208883) (by simp; omega) (zbbe_ [_]) (zpd_ [_]) (by simp; omega)
  have htk3:h''.take (h.length + 1)=h'.take (h.length + 1):=by rw [htk',List.take_append_of_le_length hle]
  have ho2:OutV x' h'' (h.length + 1) 5 (((s.ys.take (k + 1)).map s.ex).map EX.v):=by rw [tk,List.map_append]; exact ho'
  have hlen:(s.ys.map SY.v).length=s.ys.length:=by simp
  generalize s.ys.map SY.v=M at *
  unfold SY.v at hq hap
  unfold ST.ex EX.v at hap
  simp only [zqu_] at hap
  generalize s.off (y.fr % 4)=f1 at *
  generalize s.off (y.to % 4)=f2 at *
  generalize y.fr % 4=n1 at *
  generalize y.to % 4=n2 at *
  generalize y.at' % 64=n3 at *
  generalize y.dl % 16=n4 at *
  generalize y.sk % 4=n5 at *
  have w1:IntKind.i64.wrap (n1:Int)=n1:=w64 (by omega)
  have w2:IntKind.i64.wrap (n2:Int)=n2:=w64 (by omega)
  have w3:IntKind.i64.wrap (n3:Int)=n3:=w64 (by omega)
  have w4:IntKind.i64.wrap (n4:Int)=n4:=w64 (by omega)
  have w5:IntKind.i64.wrap (n5:Int)=n5:=w64 (by omega)
  have w6:IntKind.i64.wrap (1 + (n1:Int))=1 + n1:=w64 (by omega)
  have w7:IntKind.i64.wrap (1 + (n2:Int))=1 + n2:=w64 (by omega)
  have w8:IntKind.i64.wrap (1000 + (n3:Int))=1000 + n3:=w64 (by omega)
  have w9:IntKind.i64.wrap (1000 + (n3:Int) + f1)=1000 + n3 + f1:=w64 (by omega)
  have wa:IntKind.i64.wrap (1000 + (n3:Int) + n4)=1000 + n3 + n4:=w64 (by omega)
  have wb:IntKind.i64.wrap (1000 + (n3:Int) + n4 + f2)=1000 + n3 + n4 + f2:=w64 (by omega)
  have wc:IntKind.i64.wrap ((n4:Int) - n5)=n4 - n5:=w64 (by omega)
  simp -implicitDefEqProofs [hB,zyt_,g1,g4,sT,hget,hget0,hlen,hlt,hq,hO1,hO2,e1,e2,e3,e4,e5,w1,w2,w3,w4,w5,w6,w7,w8,w9,wa,wb,wc,hap,zaw_,optEq]
  refine K _ _ ⟨?_,by rw [htk3,htk],hle',?_⟩
  ·simp [g1,hw]
  ·simpa using ho2
end Go.Proofs.Sl
namespace Go.Proofs.Sl
def SP.early (a:SP):SP:={ a with rev:=0,en:=a.st,er:=false }
def mine1 (c:Int) (a:SP):List SP:=if a.clk=c then (if 0 < a.rev then [a.early,a] else [a]) else []
def mineS (c:Int) (L:List SP):List SP:=L.flatMap (mine1 c)
theorem zdiv_ {c:Int} {L:List SP} {k:Nat} {a:SP} (h:L[k]?=some a):mineS c (L.take (k + 1))=mineS c (L.take k)++mine1 c a:=by
 unfold mineS
 rw [zjl_ h,List.flatMap_append]
 simp
theorem zdiw_ (c:Int) (a:SP):(mine1 c a).length≤2:=by
 unfold mine1
 repeat' split
 all_goals simp
theorem zpm_ (c:Int):∀ L:List SP,(mineS c L).length≤2 * L.length
 | []=>by simp [mineS]
 | a :: r=>by
  have h1:=zdiw_ c a
  have h2:=zpm_ c r
  unfold mineS at *
  rw [List.flatMap_cons,List.length_append,List.length_cons]
  omega
set_option maxHeartbeats 8000000 in
theorem zdix_ {β:Type} {f:Ex × St→Option β} {w:Option β} {base:Nat} {h:H} {x1 x2 x5 x7:V} {F:List SP} {c:Int} (hl:F.length≤1000)
  (hend:∀ st t,Sees st [(1,x1),(2,x2),(5,x5),(6,nl F),(7,x7),(8,vi c)]→OutV (st 9) (h++t) h.length 14 ((mineS c F).map SP.v)→f (.exit 2,⟨st,h++t⟩)=w)
  (s0:Sl) (g:Sees s0 [(1,x1),(2,x2),(5,x5),(6,nl F),(7,x7),(8,vi c),(9,vnil),(10,vi 0)]):ob (loopW (xcode (run XP) loopW base zij_) ⟨s0,h⟩) f=w:=by
 have hF:=fun h=>((nl_LV F).rd h).toL
 refine zaf_ F (fun k st h'=>Sees st [(1,x1),(2,x2),(5,x5),(6,nl F),(7,x7),(8,vi c),(10,vi k)]∧h'.take h.length=h∧h.length≤h'.length∧OutV (st 9) h' h.length 14 ((mineS c (F.take k)).map SP.v)) ?_ ?_ _ _ ?_
 rotate_left
 ·rintro B hB st h' ⟨⟨g1,g2,g5,g6,g7,g8,g10,-⟩,htk,hle,ho⟩
  obtain ⟨t,rfl⟩:=zdff_ htk
  rw [List.take_of_length_le (Nat.le_refl _)] at ho
  simp -implicitDefEqProofs [hB,zij_,g6,g10,hF]
  refine hend _ t ?_ ?_
  ·simp [g1,g2,g5,g6,g7,g8]
  ·simpa using ho
 ·obtain ⟨g1,g2,g5,g6,g7,g8,g9,g10,-⟩:=g
  exact ⟨by simp [g1,g2,g5,g6,g7,g8,g10],by simp,by simp,.inl ⟨rfl,g9⟩⟩
 ·rintro B f' hB hf k a st h' ha hk ⟨⟨g1,g2,g5,g6,g7,g8,g10,-⟩,htk,hle,ho⟩ K
  have hlt:(k:Int) < F.length:=by omega
  have hw:IntKind.i64.wrap ((k:Int) + 1)=(k:Int) + 1:=w64 (by omega)
  have hat:=fun h=>nl_at ha h
  have hup:=zdiv_ (c:=c) ha
  have hml:=zpm_ c (F.take k)
  rw [List.length_take] at hml
  have sA:(lv 4 (slc AT.v a.ats a.an)).plain=true:=zaq_ _ _
  have sL:(lv 2 (slc RF.v a.lks a.ln)).plain=true:=zaq_ _ _
  generalize hx9:st 9=x9 at *
  by_cases hc:a.clk=c
  ·have hc2:(a.clk != c)=false:=by simpa using hc
   by_cases hr:0 < a.rev
   ·have e1:mine1 c a=[a.early,a]:=by rw [mine1,if_pos hc,if_pos hr]
    rw [e1] at hup
    obtain ⟨x',h1,hap,ho1,htk1,hle1⟩:=(ho.app [.box false a.early.v.cells]).grow (e:=a.early.v) (lim:=837723144972) (by simp; omega) (zgf_ _) (zba_ [_]) (by simp only [List.length_map]; omega)
    obtain ⟨x'',h2,hap2,ho2,htk2,hle2⟩:=ho1.grow (e:=a.v) (lim:=837723144972) hle1 (zgf_ _) (zba_ [_]) (by simp only [List.length_map,List.length_append,List.length_cons,List.length_nil]; omega)
    have htk3:h2.take h.length=h:=by rw [htk2,htk1,List.take_append_of_le_length hle,htk]
    have ho3:OutV x'' h2 h.length 14 ((mineS c (F.take (k + 1))).map SP.v):=by
     rw [hup,List.map_append]
     simpa using ho2
    unfold SP.early at hap
    unfold SP.v at hat hap hap2
    simp only [zqu_] at hap
    generalize lv 4 (slc AT.v a.ats a.an)=A at *
    generalize lv 2 (slc RF.v a.lks a.ln)=Lk at *
    simp -implicitDefEqProofs [hB,zij_,g1,g2,g5,g6,g7,g8,g10,hx9,hF,hlt,hat,sA,sL,hc2,hr,hap,hap2]
    refine K _ _ ⟨?_,htk3,hle2,ho3⟩
    simp [g1,g2,g5,g6,g7,g8,hw]
   ·have e1:mine1 c a=[a]:=by rw [mine1,if_pos hc,if_neg hr]
    rw [e1] at hup
    obtain ⟨x'',h2,hap2,ho2,htk2,hle2⟩:=ho.grow (e:=a.v) (lim:=837723144972) hle (zgf_ _) (zba_ [_]) (by simp only [List.length_map]; omega)
    have htk3:h2.take h.length=h:=by rw [htk2,htk]
    have ho3:OutV x'' h2 h.length 14 ((mineS c (F.take (k + 1))).map SP.v):=by
     rw [hup,List.map_append]
     simpa using ho2
    unfold SP.v at hat hap2
    generalize lv 4 (slc AT.v a.ats a.an)=A at *
    generalize lv 2 (slc RF.v a.lks a.ln)=Lk at *
    simp -implicitDefEqProofs [hB,zij_,g1,g2,g5,g6,g7,g8,g10,hx9,hF,hlt,hat,sA,sL,hc2,hr,hap2]
    refine K _ _ ⟨?_,htk3,hle2,ho3⟩
    simp [g1,g2,g5,g6,g7,g8,hw]
  ·have hc2:(a.clk != c)=true:=by simpa using hc
   have e1:mine1 c a=[]:=by rw [mine1,if_neg hc]
   rw [e1,List.append_nil] at hup
   unfold SP.v at hat
   generalize lv 4 (slc AT.v a.ats a.an)=A at *
   generalize lv 2 (slc RF.v a.lks a.ln)=Lk at *
   simp -implicitDefEqProofs [hB,zij_,g1,g2,g5,g6,g7,g8,g10,hx9,hF,hlt,hat,sA,sL,hc2]
   refine K _ _ ⟨?_,htk,hle,?_⟩
   ·simp [g1,g2,g5,g6,g7,g8,hw]
   ·rw [hup]
    simpa [hx9] using ho
end Go.Proofs.Sl
namespace Go.Proofs.Sl
theorem zbkx_ (k:Nat) (o:Option (List V)):(lv k o).cell=true:=by cases o <;> rfl
theorem zbbf_:∀ l:List FR,wide 4 (l.map FR.v)=true
 | []=>rfl
 | x :: l=>by
  rw [List.map_cons,wide,zbbf_ l]
  unfold FR.v
  show ((true && (true && (true && ((lv 14 _).cell && ((lv 5 _).cell && true))))) && true)=true
  rw [zbkx_,zbkx_]
  rfl
theorem zdiy_ (k:Nat) (o:Option (List V)):(lv k o).closed=true:=by cases o <;> rfl
theorem zdiz_ (a:FR):a.v.closed=true:=by
 unfold FR.v
 simp only [V.closed,V.closed.closeds,zdiy_]
 rfl
theorem ztm_:∀ l:List FR,V.closed.closeds (l.map FR.v)=true
 | []=>rfl
 | x :: l=>by rw [List.map_cons,V.closed.closeds,ztm_ l,zdiz_]; rfl
def chunk (w:Nat) (c:Int) (M:List SP) (a q:Nat):List FR :=
 if a < M.length then ⟨c,q,(M.take (min M.length (a + 1 + w))).drop a,[],false,true⟩ :: chunk w c M (a + 1 + w) (q + 1) else []
termination_by M.length - a
theorem zbky_ (w:Nat) (c:Int) (M:List SP) (a q:Nat):((chunk w c M a q).map FR.sps).flatten=M.drop a:=by
 rw [chunk]
 split
 ·rename_i h
  rw [List.map_cons,List.flatten_cons,zbky_ w c M (a + 1 + w) (q + 1)]
  show (M.take (min M.length (a + 1 + w))).drop a++_=_
  rw [Nat.min_comm,← List.take_eq_take_min]
  have:=List.take_append_drop (1 + w) (M.drop a)
  rw [List.drop_drop] at this
  rw [List.drop_take,show a + 1 + w - a=1 + w by omega,show a + 1 + w=a + (1 + w) by omega]
  exact this
 ·rename_i h
  rw [List.drop_of_length_le (by omega)]
  rfl
termination_by M.length - a
theorem zbbg_ (w:Nat) (c:Int) (M:List SP) (a q:Nat):(chunk w c M a q).length≤M.length - a:=by
 rw [chunk]
 split
 ·rename_i h
  have:=zbbg_ w c M (a + 1 + w) (q + 1)
  rw [List.length_cons]
  omega
 ·simp
termination_by M.length - a
theorem OutV.grow2 {x:V} {h:H} {b k lim:Nat} {es:List V} (o:OutV x h b k es) {e:V} (hb:b≤h.length) (hw:wide k [e]=true) (hc:V.closed.closeds [e]=true) (hl:es.length + 1≤lim) {q':Nat} {o':O} (hq':h[q']?=some o') (hne:∀ es,o'≠.arr false k es) :
  ∃ x' h',zao_ h k lim x (.lst k [e])=some (x',h')∧OutV x' h' b k (es++[e])∧h'.take b=h.take b∧b≤h'.length∧h'[q']?=some o':=by
 have ea:appEls h (.lst k [e])=some [e]:=rfl
 have hql:=(List.getElem?_eq_some_iff.1 hq').1
 rcases o with ⟨rfl,rfl⟩ | ⟨q,h0,h1,rfl,h3⟩
 ·have hl':1≤lim:=by simpa using hl
  refine ⟨.ref h.length 1,h++[.arr false k [e]],?_,.inr ⟨h.length,by simp,hb,rfl,by simp⟩,by rw [List.take_append_of_le_length hb],by simp; omega,by rw [List.getElem?_append_left hql]; exact hq'⟩
  simp only [zao_,ea,zab_,hw,hc,and_self,if_true,List.length_cons,List.length_nil,Nat.zero_add,Nat.one_ne_zero,if_false,hl']
 ·have hq:=(List.getElem?_eq_some_iff.1 h3).1
  have hqq:q≠q':=by
   rintro rfl
   rw [hq'] at h3
   exact hne es (Option.some.inj h3)
  refine ⟨.ref q (es.length + 1),h.set q (.arr false k (es++[e])),?_,.inr ⟨q,by simp,h1,by simp,by rw [List.getElem?_set_self hq]⟩,?_,by simpa using hb,by rw [List.getElem?_set_ne hqq]; exact hq'⟩
  ·have:arrN h q es.length=some (false,k,es):=by simp [arrN,arrAt,h3,zab_]
   simp only [zao_,ea,zab_,hw,hc,and_self,if_true,this,List.length_cons,List.length_nil,Nat.zero_add,true_and,hl]
  ·rw [List.take_set,List.set_eq_of_length_le (by simp; omega)]
set_option maxHeartbeats 8000000 in
theorem zdja_ {β:Type} {f:Ex × St→Option β} {w:Option β} {base:Nat} {h:H} {x2 x5 x6 x7:V} {b0 q9 sz:Nat} {c:Int} {M:List SP} {pre:List FR} {z:Bool} (hsz:sz < 256)
  (hq:h[q9]?=some (.arr z 14 (M.map SP.v))) (hb:b0≤q9) (ho:OutV x5 h b0 4 (pre.map FR.v)) (hl:M.length≤1000) (hpl:pre.length≤100000)
  (hend:∀ st h',Sees st [(1,v8 sz),(2,x2),(6,x6),(7,x7),(8,vi c),(12,vi (chunk (sz % 4) c M 0 0).length)]→h'.take b0=h.take b0→b0≤h'.length→OutV (st 5) h' b0 4 ((pre++chunk (sz % 4) c M 0 0).map FR.v)→f (.exit 4,⟨st,h'⟩)=w)
  (s0:Sl) (g:Sees s0 [(1,v8 sz),(2,x2),(5,x5),(6,x6),(7,x7),(8,vi c),(9,.ref q9 M.length),(12,vi 0),(13,vi 0)]):ob (loopW (xcode (run XP) loopW base zik_) ⟨s0,h⟩) f=w:=by
 have hqh:=(List.getElem?_eq_some_iff.1 hq).1
 refine zei_ (σ:=Nat) (fun a=>M.length + 10 - a) (fun a st h'=>a≤M.length + 4∧∃ (z:Bool) (p1:List FR) (q:Nat),Sees st [(1,v8 sz),(2,x2),(6,x6),(7,x7),(8,vi c),(9,.ref q9 M.length),(12,vi (q:Int)),(13,vi (a:Int))]∧h'[q9]?=some (.arr z 14 (M.map SP.v))∧h'.take b0=h.take b0∧OutV (st 5) h' b0 4 ((pre++p1).map FR.v)∧p1.length=q∧q≤a∧p1++chunk (sz % 4) c M a q=chunk (sz % 4) c M 0 0) ?_ 0 _ _ ?_
 rotate_left
 ·obtain ⟨g1,g2,g5,g6,g7,g8,g9,g12,g13,-⟩:=g
  exact ⟨by omega,z,[],0,by simp [g1,g2,g6,g7,g8,g9,g12,g13],hq,rfl,by simpa [g5] using ho,rfl,by omega,rfl⟩
 ·rintro B f' hB hf a st h' ⟨ha,z,p1,q,⟨g1,g2,g6,g7,g8,g9,g12,g13,-⟩,hq,htk,ho,hpq,hqa,hx⟩ K
  have hqh:=(List.getElem?_eq_some_iff.1 hq).1
  have hb0:b0≤h'.length:=by omega
  have hlen:(M.map SP.v).length=M.length:=by simp
  by_cases hc:a < M.length
  ·have hc2:(a:Int) < M.length:=by omega
   rw [chunk,if_pos hc] at hx
   generalize hx5:st 5=y5 at *
   have e1:(sz:Int).tmod 4=((sz % 4:Nat):Int):=tmodN _ 4
   have m1:sz % 4 < 4:=by omega
   have hmin:(if (a:Int) + 1 + ((sz % 4:Nat):Int) < M.length then (a:Int) + 1 + ((sz % 4:Nat):Int) else M.length)=((min M.length (a + 1 + sz % 4):Nat):Int):=by split <;> omega
   have hm2:a≤min M.length (a + 1 + sz % 4):=by omega
   have hm3:min M.length (a + 1 + sz % 4)≤M.length:=by omega
   have hcl:=zba_ M
   have hne:∀ n es,y5=.ref n es→n≠q9:=by
    rintro n es rfl rfl
    rcases ho with ⟨o1,o2⟩ | ⟨q',o1,o2,o3,o4⟩
    ·cases o2
    ·injection o3 with o3 _
     subst o3
     rw [hq] at o4
     cases o4
   have ho1:OutV y5 (h'.set q9 (.arr true 14 (M.map SP.v))) b0 4 ((pre++p1).map FR.v):=by
    rcases ho with ho | ⟨q',o1,o2,o3,o4⟩
    ·exact .inl ho
    ·exact .inr ⟨q',o1,o2,o3,by rw [List.getElem?_set_ne (hne _ _ o3).symm]; exact o4⟩
   have hFv:(⟨c,q,(M.take (min M.length (a + 1 + sz % 4))).drop a,[],false,true⟩:FR).v=.agg [vi c,vi q,.lst 14 (((M.map SP.v).take (min M.length (a + 1 + sz % 4))).drop a),vnil]:=by
    rw [← List.map_take,← List.map_drop]
    rfl
   obtain ⟨x',h2,hap,ho2,htk2,hle2,hq2⟩:=(ho1.app [.box false [vi c,vi q,.lst 14 (((M.map SP.v).take (min M.length (a + 1 + sz % 4))).drop a),vnil]]).grow2 (e:=(⟨c,q,(M.take (min M.length (a + 1 + sz % 4))).drop a,[],false,true⟩:FR).v) (lim:=2199023255552) (by simp; omega) (zbbf_ [_]) (ztm_ [_]) (by simp only [List.length_map,List.length_append]; omega) (q':=q9) (o':=.arr true 14 (M.map SP.v)) (by rw [List.getElem?_append_left (by simpa using hqh),List.getElem?_set_self hqh]) (by simp)
   have hset:(h'.set q9 (.arr true 14 (M.map SP.v))++[O.box false [vi c,vi q,.lst 14 (((M.map SP.v).take (min M.length (a + 1 + sz % 4))).drop a),vnil]]).take b0=h'.take b0:=by
    rw [List.take_append_of_le_length (by simp; omega),List.take_set,List.set_eq_of_length_le (by simp; omega)]
   rw [hFv] at hap
   generalize hmm:min M.length (a + 1 + sz % 4)=mm at *
   generalize sz % 4=m4 at *
   have w1:IntKind.i64.wrap (m4:Int)=m4:=w64 (by omega)
   have w2:IntKind.i64.wrap ((a:Int) + 1)=(a:Int) + 1:=w64 (by omega)
   have w3:IntKind.i64.wrap ((a:Int) + 1 + m4)=(a:Int) + 1 + m4:=w64 (by omega)
   have w4:IntKind.i64.wrap ((q:Int) + 1)=(q:Int) + 1:=w64 (by omega)
   simp -implicitDefEqProofs [hB,zik_,g1,g2,g6,g7,g8,g9,g12,g13,hx5,hq,hlen,hc,hc2,e1,w1,w2,w3,w4,hmin,hm2,hm3,hcl,hap]
   refine K (a + 1 + m4) _ _ (by omega) ⟨by omega,true,p1++[_],q + 1,?_,hq2,by rw [htk2,hset,htk],?_,by simp [hpq],by omega,by rw [List.append_assoc]; exact hx⟩
   ·simp [g1,g2,g6,g7,g8,g9,w4]
   ·rw [← List.append_assoc,List.map_append]
    simpa using ho2
  ·have hc2:¬ (a:Int) < M.length:=by omega
   rw [chunk,if_neg hc,List.append_nil] at hx
   subst hx
   simp -implicitDefEqProofs [hB,hf,zik_,g1,g9,g13,hq,hlen,hc,hc2]
   refine hend _ _ ?_ htk hb0 ho
   simp [g1,g2,g6,g7,g8,g12,hpq]
end Go.Proofs.Sl
namespace Go.Proofs.Sl
def rng (r:RN):List Int:=(List.range (r.2 + 1 - r.1).toNat).map fun i:Nat=>r.1 + (i:Int)
def rowsR (rs:List RN):List Int:=(rs.map rng).flatten
theorem zdjb_ (r:RN) (h1:0≤r.1) (h2:IsRow r.2):(rng r).length≤1048576:=by
 have:=h2.2
 simp only [rng,List.length_map,List.length_range]
 omega
theorem zbbh_:∀ (rs:List RN),(∀ r ∈ rs,0≤r.1∧IsRow r.2)→(rowsR rs).length≤rs.length * 1048576
 | [],_=>by simp [rowsR]
 | r :: rs,h=>by
  have h1:=zbbh_ rs fun x hx=>h x (List.mem_cons_of_mem _ hx)
  have h2:=zdjb_ r (h r (by simp)).1 (h r (by simp)).2
  simp only [rowsR,List.map_cons,List.flatten_cons,List.length_append,List.length_cons] at h1 ⊢
  omega
theorem zdjc_ {h:H} {b l base:Nat} {r:RN} {acc:List Int} {L8 L9 L10:V} {β:Type} {f:Ex × St→Option β} {bb:Option β} {B:Body} (hB:B=xcode (run XP) loopW base zsg_)
  (h0:0≤r.1) (h2:IsRow r.2) (hal:acc.length≤2000000000000)
  (hK:∀ s' h',Sees s' [(8,L8),(9,L9),(10,L10)]→OutV (s' 3) h' b 1 ((acc++rng r).map fun x=>vi x)→h'.take b=h.take b→b≤h'.length→f (.exit 2,⟨s',h'⟩)=bb) :
  ∀ s,Sees s [(8,L8),(9,L9),(10,L10),(5,.ptr l 0),(6,vi r.1)]→b≤h.length→h[l]?=some (.box false [vi r.1,vi r.2])→OutV (s 3) h b 1 (acc.map fun x=>vi x)→ob (loopW B ⟨s,h⟩) f=bb:=by
 subst hB
 intro s hs hbl hlb ho
 have hr2:=h2.2
 refine zqw_ (r.2 + 1 - r.1).toNat (fun k s h'=>Sees s [(8,L8),(9,L9),(10,L10),(5,.ptr l 0),(6,vi (r.1 + (k:Int)))]∧b≤h'.length∧h'[l]?=some (.box false [vi r.1,vi r.2])∧h'.take b=h.take b ∧
   OutV (s 3) h' b 1 ((acc++(List.range k).map fun i:Nat=>r.1 + (i:Int)).map fun x=>vi x)) ?_ ?_ _ _ ⟨by simpa using hs,hbl,hlb,rfl,by simpa using ho⟩
 ·rintro B f' hB hf k s h' hk ⟨⟨g8,g9,g10,g5,g6,-⟩,q1,q2,q3,q4⟩ K
  have hle:r.1 + (k:Int)≤r.2:=by omega
  have hw:IntKind.i64.wrap (r.1 + ((k:Int) + 1))=r.1 + ((k:Int) + 1):=zac_ (by omega) (by omega)
  obtain ⟨x',h'',hap,ho',htk,hbl',hl'⟩:=q4.grow2 (lim:=17592186044416) (e:=vi (r.1 + (k:Int))) q1 rfl rfl (by simp only [List.length_map,List.length_append,List.length_range]; omega) q2 (by simp)
  simp -implicitDefEqProofs [hB,zsg_,g8,g9,g10,g5,g6,q2,hle,hap]
  refine K _ _ ⟨?_,hbl',hl',htk.trans q3,?_⟩
  ·simp [g8,g9,g10,g5,hw,Int.add_assoc]
  ·have e:((acc++(List.range (k + 1)).map fun i:Nat=>r.1 + (i:Int)).map fun x=>vi x)=((acc++(List.range k).map fun i:Nat=>r.1 + (i:Int)).map fun x=>vi x)++[vi (r.1 + (k:Int))]:=by
    rw [List.range_succ]
    simp
   rw [e]
   exact ho'
 ·rintro B hB s h' ⟨⟨g8,g9,g10,g5,g6,-⟩,q1,q2,q3,q4⟩
  have hle:¬ r.1 + ((r.2 + 1 - r.1).toNat:Int)≤r.2:=by omega
  generalize hN:((r.2 + 1 - r.1).toNat:Int)=N at *
  simp -implicitDefEqProofs [hB,zsg_,g8,g9,g10,g5,g6,q2,hle]
  exact hK _ _ (by simp [g8,g9,g10]) q4 q3 q1
theorem zdjd_ (h:H) {rs:List RN} (hr:∀ r ∈ rs,0≤r.1∧IsRow r.2) (hl:rs.length≤1000000):run XP zxt_ [.agg [rsV rs]] h=some (oL ((rowsR rs).map fun x=>vi x),h):=by
 have hv:∀ t,Rd (h++t) 2 (rsV rs) (rs.map rv):=fun t=>by
  unfold rsV
  split
  ·rename_i e
   subst e
   exact .nil
  ·exact .lst _
 have hp:(rsV rs).plain=true:=by unfold rsV; split <;> rfl
 have hc:∀ l o,rdCell l o (rsV rs)=rsV rs:=fun l o=>by unfold rsV; split <;> rfl
 have hlen:=zbbh_ rs hr
 have hst:arg0 (rsV rs)=some (rsV rs):=by simpa using (hv []).arg0
 rw [run_eq,zcjv_]
 generalize rsV rs=W at *
 simp -implicitDefEqProofs [zln_,(hv _).toL,hp,hc,hst]
 refine zaf_ rs (fun k s h'=>Sees s [(8,W),(9,vi rs.length),(10,vi k)]∧h'.take h.length=h∧h.length≤h'.length∧OutV (s 3) h' h.length 1 ((rowsR (rs.take k)).map fun x=>vi x)) ?_ ?_ _ _ ?_
 rotate_left
 ·rintro B hB s h' ⟨⟨g8,g9,g10,-⟩,q1,q2,q3⟩
  rw [List.take_length] at q3
  have hret:=q3.ret (cl_vi (fun x=>x) (rowsR rs))
  simp -implicitDefEqProofs [hB,zyf_,g8,g9,g10,hret,q1,oL]
 ·refine ⟨by simp,by simp,by simp,.inl ⟨by simp [rowsR],by simp⟩⟩
 ·rintro B f hB hf k e s h' he hk ⟨⟨g8,g9,g10,-⟩,q1,q2,q3⟩ K
  have hlt:(k:Int) < rs.length:=by omega
  have hw:IntKind.i64.wrap ((k:Int) + 1)=(k:Int) + 1:=zac_ (by omega) (by omega)
  obtain ⟨hr1,hr2⟩:=hr e (List.mem_of_getElem? he)
  obtain ⟨t,rfl⟩:∃ t,h'=h++t:=⟨h'.drop h.length,by
   have:=List.take_append_drop h.length h'
   rw [q1] at this
   exact this.symm⟩
  have hRd:=hv t
  obtain ⟨p,hp1,hp2⟩:=hRd.at (i:=k) (e:=rv e) (by simp [he])
  have hal:=zbbh_ (rs.take k) fun r hx=>hr r (List.mem_of_mem_take hx)
  rw [List.length_take] at hal
  simp only [rv] at hp2
  simp -implicitDefEqProofs [hB,zyf_,g8,g9,g10,hlt,hp1,hp2]
  refine zdjc_ (l:=(h++t).length) (b:=h.length) (r:=e) (acc:=rowsR (rs.take k)) (L8:=W) (L9:=vi rs.length) (L10:=vi k) rfl hr1 hr2 (by omega) ?_ _ (by simp [g8,g9,g10]) (by simp) (by simp) ?_
  ·rintro s' h' ⟨g8,g9,g10,-⟩ ho htk hbl
   simp -implicitDefEqProofs [g8,g9,g10]
   refine K _ _ ⟨by simp [g8,g9,g10,hw],?_,hbl,?_⟩
   ·rw [htk,List.take_left]
   ·have e2:rowsR (rs.take (k + 1))=rowsR (rs.take k)++rng e:=by
     rw [List.take_add_one,he]
     simp [rowsR]
    rw [e2]
    simpa using ho
  ·simpa using q3.app _
end Go.Proofs.Sl
namespace Go.Proofs.Sl
def selR (p:Nat→Bool) (n:Nat):List Int:=((List.range n).filter p).map fun i:Nat=>(i:Int)
theorem zdje_ (p:Nat→Bool) (n:Nat):selR p (n + 1)=selR p n++if p n=true then [(n:Int)] else []:=by
 simp only [selR,List.range_succ,List.filter_append,List.map_append]
 cases h:p n <;> simp [h]
theorem zbkz_ (p:Nat→Bool) (n:Nat):(selR p n).length≤n:=by
 rw [selR,List.length_map]
 exact Nat.le_trans (List.length_filter_le _ _) (by simp)
theorem zdjf_ {p:Nat→Bool} {n:Nat} (hn:n≤100000):∀ x ∈ selR p n,IsRow x:=by
 intro x hx
 simp only [selR,List.mem_map,List.mem_filter,List.mem_range] at hx
 obtain ⟨i,⟨hi,-⟩,rfl⟩:=hx
 exact ⟨by omega,by omega⟩
theorem zbla_ (R:List RN):res0 (rsV R)=rsV R:=by unfold rsV; split <;> rfl
theorem zdjg_ (R:List RN):(rsV R).plain=true:=by unfold rsV; split <;> rfl
theorem zblb_ (R:List RN) (l o:Nat):rdCell l o (rsV R)=rsV R:=by unfold rsV; split <;> rfl
theorem zblc_ (R:List RN) (base l o:Nat) (h:H):stCell base l o vnil (rsV R) h=some (rsV R,h):=by unfold rsV; split <;> simp [stCell]
theorem zbld_ (R:List RN):zan_ (rsV R)=rsV R:=by unfold rsV; split <;> rfl
theorem zble_ (R:List RN) (n:Nat):(rsV R).top≤n:=by unfold rsV; split <;> simp
theorem zgl_ (es:List SP):arg0 (bkV es)=some (bkV es):=by simp [bkV,zgi_]
theorem zdjh_ {h:H} {es:List SP} (hl:es.length≤100000) {f:Nat} {b:List V} (hb0:arg0s b=some b) {p:Nat→Bool} (hp:∀ k t,k < es.length→run XP f (vi k :: b) (h++t)=some (vb (p k),h++t)) :
  run XP zxx_ [bkV es,.fn f [] b] h=some (.agg [rsV (ofR (selR p es.length))],h):=by
 have hL:=fun h=>zban_ h es
 have hba:=zgl_ es
 rw [run_eq,zcjx_]
 simp -implicitDefEqProofs [zmj_,hL,hb0,hba]
 refine zaf_ es (fun k s h'=>∃ t,Sees s [(1,.fn f [] b),(4,.ptr h.length 0),(10,vi es.length),(11,vi k)]∧h'=h++.box false [vnil] :: t∧OutV (s 5) h' (h.length + 1) 1 ((selR p k).map fun x=>vi x)) ?_ ?_ _ _ ?_
 rotate_left
 ·rintro B hB s h' ⟨t,⟨g1,g4,g10,g11,-⟩,rfl,ho⟩
  have hsl:=zbkz_ p es.length
  have hO:=run_Of (h:=h++.box false [vnil] :: t) (v:=s 5) (ns:=selR p es.length) (fun t'=>(ho.app t').rd) (fun e=>by
   rcases ho with ⟨-,h1⟩ | ⟨q,h1,-⟩
   ·exact h1
   ·rw [e] at h1
    exact absurd rfl h1) (zdjf_ hl) (by omega)
  have ha:=ho.rd.arg0
  have hr:=zbla_ (ofR (selR p es.length))
  have hc:=zblb_ (ofR (selR p es.length))
  have hst:=zblc_ (ofR (selR p es.length))
  have hpl:=zdjg_ (ofR (selR p es.length))
  have hc2:=zbld_ (ofR (selR p es.length))
  have htp:=zble_ (ofR (selR p es.length))
  generalize rsV (ofR (selR p es.length))=W at *
  simp -implicitDefEqProofs [hB,zsn_,g1,g4,g10,g11,ha,hO,hr,hc,hc2,htp,hst]
 ·exact ⟨[],by simp,by simp,.inl ⟨by simp [selR],by simp⟩⟩
 ·rintro B f' hB hf k e s h' he hk ⟨t,⟨g1,g4,g10,g11,-⟩,rfl,ho⟩ K
  have hlt:(k:Int) < es.length:=by omega
  have hw:IntKind.i64.wrap ((k:Int) + 1)=(k:Int) + 1:=zac_ (by omega) (by omega)
  have hpk:=hp k (.box false [vnil] :: t) hk
  have hsl:=zbkz_ p k
  have hs:=zdje_ p k
  obtain ⟨x',h'',hap,ho',htk,hbl⟩:=ho.grow (lim:=17592186044416) (e:=vi (k:Int)) (by simp) rfl rfl (by simp only [List.length_map]; omega)
  cases hb:p k with
  | false =>
   rw [hb,if_neg (by simp),List.append_nil] at hs
   simp -implicitDefEqProofs [hB,zsn_,g1,g4,g10,g11,hlt,hb0,hpk,hb]
   refine K _ _ ⟨t,?_,rfl,by rw [hs]; simpa using ho⟩
   simp [g1,g4,g10,hw]
  | true =>
   rw [hb,if_pos rfl] at hs
   simp -implicitDefEqProofs [hB,zsn_,g1,g4,g10,g11,hlt,hb0,hpk,hb,hap]
   obtain ⟨t',rfl⟩:∃ t',h''=h++.box false [vnil] :: t':=⟨h''.drop (h.length + 1),by
    have:=List.take_append_drop (h.length + 1) h''
    rw [htk] at this
    have e2:(h++O.box false [vnil] :: t).take (h.length + 1)=h++[O.box false [vnil]]:=by
     rw [show h++O.box false [vnil] :: t=(h++[O.box false [vnil]])++t by simp]
     exact List.take_left' (by simp)
    rw [e2,List.append_assoc] at this
    exact this.symm⟩
   refine K _ _ ⟨t',?_,rfl,?_⟩
   ·simp [g1,g4,g10,hw]
   ·rw [hs,List.map_append]
    simpa using ho'
theorem zdji_ {h:H} {l:Nat} {z:Bool} {D:List SP} (hl:h[l]?=some (.box z [bkV D])) {k:Nat} (hk:k < D.length) (hn:D.length≤100000):run XP zsb_ [vi k,.ptr l 0] h=some (vb (pW D k),h):=by
 have hw:IntKind.i64.wrap ((k:Int) + 1)=(k:Int) + 1:=zac_ (by omega) (by omega)
 have hL:=((nl_LV D).rd h).toL
 have hpl:=zgi_ D
 have h0k:(0:Int)≤(k:Int) + 1:=by omega
 obtain ⟨a,ha⟩:∃ a,D[k]?=some a:=⟨_,List.getElem?_eq_getElem hk⟩
 have i1:=nl_at ha h
 have d1:D.getD k SP.z=a:=by simp [ha]
 rw [run_eq,zckb_]
 unfold bkV at hl
 by_cases hk1:k + 1=D.length
 ·have hb:((k:Int) + 1 == (D.length:Int))=true:=by rw [← hk1]; simp
  have hp:pW D k=true:=by simp [pW,hk1]
  simp -implicitDefEqProofs [ziq_,hl,hpl,hw,hL,hb,hp,zaw_,optEq]
 ·have hb:((k:Int) + 1 == (D.length:Int))=false:=by simp; omega
  obtain ⟨b,hb2⟩:∃ b,D[k + 1]?=some b:=⟨_,List.getElem?_eq_getElem (by omega)⟩
  have i2:=nl_at hb2 h
  have d2:D.getD (k + 1) SP.z=b:=by simp [hb2]
  have r1:=fun h=>zbib_ h a
  have r2:=fun h=>zbib_ h b
  have hp:pW D k=!(a.tr == b.tr && a.id == b.id):=by
   simp only [pW,d1,d2]
   rw [BEq.comm (a:=b.tr),BEq.comm (a:=b.id)]
   simp [hk1]
  simp only [SP.v,RF.v] at r1 r2 i1 i2
  rw [hp]
  simp -implicitDefEqProofs [ziq_,hl,hpl,hw,hL,hb,zaw_,optEq,i1,i2,r1,r2,h0k]
theorem zdjj_ (h:H) {D:List SP} (hn:D.length≤100000):run XP zxs_ [bkV D] h=some (.agg [rsV (ofR (selR (pW D) D.length))],h):=by
 have hW:=zdjh_ (h:=h++[.box false [bkV D],.box false [vnil]]) (es:=D) hn (f:=zsb_) (b:=[.ptr h.length 0]) rfl (p:=pW D) (fun k t hk=>zdji_ (z:=false) (by simp) hk hn)
 have hr:=zbla_ (ofR (selR (pW D) D.length))
 have hc:=zblb_ (ofR (selR (pW D) D.length))
 have hst:=zblc_ (ofR (selR (pW D) D.length))
 have hp:=zgi_ D
 have hc2:=zbld_ (ofR (selR (pW D) D.length))
 have ht:=zble_ (ofR (selR (pW D) D.length))
 generalize rsV (ofR (selR (pW D) D.length))=W at *
 unfold bkV at *
 rw [run_eq,zcju_]
 simp -implicitDefEqProofs [zlm_,hW,hr,hc,hc2,ht,hst,hp]
end Go.Proofs.Sl
namespace Go.Proofs.Sl
end Go.Proofs.Sl
namespace Go.Proofs.Sl
section
variable {h:H} {v:V} {vs:List Int}
end
end Go.Proofs.Sl
namespace Go.Proofs.Sl
section
variable {h:H} {v:V} {vs:List Int}
end
end Go.Proofs.Sl
namespace Go.Proofs.Sl
theorem zdjk_ (o:Option (List V)) (vs:List Int):colV o vs=.fptr (.agg [lv 1 o,tx (bestP vs 4).1,vi (bestP vs 4).2]) 0:=rfl
theorem zblf_ (h:H) {o:Option (List V)} (vs:List Int):run XP zrd_ [colV o vs] h=some (tx (bestP vs 4).1,h):=by
 rw [run_eq,zcfq_]
 simp -implicitDefEqProofs [znr_,zdjk_,zbx_]
end Go.Proofs.Sl
namespace Go.Proofs.Sl
section
variable {h t:H} {bs:List UInt8}
theorem wr_set (x y:O):(h++x :: t).set h.length y=h++y :: t:=by
 rw [List.set_append_right _ _ (Nat.le_refl _),Nat.sub_self]
 rfl
theorem zdjl_ {n:Int} (hn:Rng n) (hs:bs.length≤100000000000000):run XP zbn_ [.ptr h.length 0,vi n] (h++.box false [wc bs] :: t)=some (.tup [],h++.box false [wc (bs++fNum n)] :: t):=by
 have:=zes_ (h:=h++.box false [wc bs] :: t) (l:=h.length) (bs:=bs) (by simp) hn hs
 simpa only [wr_set] using this
theorem zbbi_ {s:ByteArray} (hs:bs.length + s.size≤90000000000000):run XP zek_ [.ptr h.length 0,vs s] (h++.box false [wc bs] :: t)=some (.tup [],h++.box false [wc (bs++fText s)] :: t):=by
 have:=W_text (h:=h++.box false [wc bs] :: t) (l:=h.length) (bs:=bs) (s:=s) (by simp) hs
 simpa only [wr_set] using this
theorem zdjm_:run XP zhi_ [.ptr h.length 0] (h++.box false [wc bs] :: t)=some (tx bs,h++.box false [wc bs] :: t):=zbhf_ (by simp)
end
def colS (xs:List Int):ByteArray:=if chkE xs=0 then ⟨(bestP xs 4).1.toArray⟩ else ⟨#[]⟩
def colF (xs:List Int):List UInt8:=fText (colS xs)
theorem best0:bestP [] 4=([129,1,128],1):=by
 simp [bestP,fCol,fKind,fPlain,fDelta,fRuns,zpi_,difs,grp,grpNs,fNums,fNum,blen,dig,flipB,zoneP,mn,mx,widthP,bw,dataP,sizeP,dataK,fText,bts,ByteArray.size]
theorem chkE0:chkE []=0:=rfl
theorem colS0:colS []=⟨#[129,1,128]⟩:=by rw [colS,if_pos chkE0,best0]
theorem colF0:colF []=[129,3,129,1,128]:=by
 rw [colF,colS0]
 simp [fText,fNum,blen,dig,flipB,bts,ByteArray.size]
theorem zbbj_ {h t:H} {bs:List UInt8} (hb:bs.length≤100000):run XP zdg_ [.ptr h.length 0,vnil] (h++.box false [wc bs] :: t)=some (.tup [],h++.box false [wc (bs++colF [])] :: t):=by
 obtain ⟨o,_,hN⟩:=zbkf_ (h:=h++.box false [wc bs] :: t) (v:=vnil) (vs:=[]) .nil (by simp)
 rw [if_pos chkE0] at hN
 have hE:=fun h=>zblf_ h (o:=o) []
 have hx:tx (bestP [] 4).1=vs (colS []):=by rw [colS0,best0]; rfl
 rw [hx] at hE
 have hs:bs.length + (colS []).size≤90000000000000:=by rw [colS0]; show bs.length + 3≤_; omega
 have hT:=zbbi_ (h:=h) (t:=t) (bs:=bs) (s:=colS []) hs
 rw [run_eq,zchv_]
 simp only [colV] at hN hE
 simp -implicitDefEqProofs [zmr_,hN,hE,hT,colF]
 exact List.take_of_length_le (by simp)
theorem ztn_ (h:H):run XP zcv_ [vnil] h=some (tx (colF []),h):=by
 obtain ⟨o,_,hN⟩:=zbkf_ (h:=h) (v:=vnil) (vs:=[]) .nil (by simp)
 rw [if_pos chkE0] at hN
 have hE:=fun h=>zblf_ h (o:=o) []
 have hx:tx (bestP [] 4).1=vs (colS []):=by rw [colS0,best0]; rfl
 rw [hx] at hE
 have hT:=fun h=>zbhr_ h (s:=colS []) (by rw [colS0]; show 3≤_; omega)
 have hp:=zbx_ (fText (colS []))
 rw [run_eq,zcjy_]
 simp only [colV] at hN hE
 simp -implicitDefEqProofs [zmk_,hN,hE,hT,colF,hp]
def d0:ByteArray:=⟨#[0,0]⟩
theorem zdjn_ (h:H):run XP zxh_ [vnil] h=some (vi 0,h):=by
 rw [run_eq,zcio_]
 simp -implicitDefEqProofs [znt_]
 rw [zbb_]
 simp -implicitDefEqProofs [zbgs_]
theorem zdjo_ (h:H):run XP zxi_ [vnil] h=some (vi 2,h):=by
 rw [run_eq,zcip_]
 simp -implicitDefEqProofs [znu_]
 rw [zbb_]
 simp -implicitDefEqProofs [zbgt_]
theorem zbbk_ (h:H):run XP zkh_ [vnil] h=some (.tup [vs d0,vi 0],h):=by
 have h1:=zdjn_
 have h2:=zdjo_
 rw [run_eq,zcid_]
 simp -implicitDefEqProofs [zmu_,h1,h2]
 rw [zbb_]
 simp -implicitDefEqProofs [zbgq_]
 rfl
theorem zblg_ (h:H):run XP zrv_ [vnil,vnil] h=some (.tup [vnil,vi 0],h):=by
 rw [run_eq,zcim_]
 simp -implicitDefEqProofs [zns_]
 rw [zbb_]
 simp -implicitDefEqProofs [zbgr_]
theorem dB0:dB []=(vnil,0):=by
 have hd:dic []=[]:=List.eq_nil_of_length_eq_zero (Nat.le_zero.1 (ztk_ []))
 simp [dB,hd,sL]
theorem zbbl_ (h:H):run XP zdi_ [vnil] h=some (.tup [vnil,vi 0],h):=by
 have:=zbau_ h [] (by simp)
 rw [dB0] at this
 exact this
theorem zblh_ {h t:H} {bs:List UInt8} (hb:bs.length≤90000):run XP zrr_ [.ptr h.length 0,vnil] (h++.box false [wc bs] :: t)=some (.tup [],h++.box false [wc (bs++fText d0++colF [])] :: t):=by
 have h1:=zbbl_
 have h2:=zbbk_
 have h3:=zblg_
 have hT:=zbbi_ (h:=h) (t:=t) (bs:=bs) (s:=d0) (by show bs.length + 2≤_; omega)
 have hl:(fText d0).length≤10:=by
  simp [fText,fNum,blen,dig,flipB,bts,ByteArray.size,d0]
 have hN:=zbbj_ (h:=h) (t:=t) (bs:=bs++fText d0) (by simp only [List.length_append]; omega)
 rw [run_eq,zchx_]
 simp -implicitDefEqProofs [zms_,h1,h2,h3,hT,hN]
 exact List.take_of_length_le (by simp)
theorem zbli_ (h:H):run XP zkx_ [vnil] h=some (.tup [tx (fText d0),vnil],h):=by
 have h1:=zbbl_
 have h2:=zbbk_
 have h3:=zblg_
 have hT:=fun h=>zbhr_ h (s:=d0) (by show 2≤_; omega)
 have hp:=zbx_ (fText d0)
 rw [run_eq,zcjz_]
 simp -implicitDefEqProofs [zml_,h1,h2,h3,hT,hp]
end Go.Proofs.Sl
namespace Go.Proofs.Sl
def repF (f:List UInt8):Nat→List UInt8
 | 0=>[]
 | k + 1=>repF f k++f
theorem zgm_ (f:List UInt8):∀ k,(repF f k).length=k * f.length
 | 0=>by simp [repF]
 | k + 1=>by rw [repF,List.length_append,zgm_ f k,Nat.succ_mul]
def nF:List UInt8:=colF []
def sF:List UInt8:=fText d0++colF []
theorem nF_len:nF.length=5:=by rw [nF,colF0]; rfl
theorem sF_len:sF.length=9:=by
 rw [sF,colF0]
 simp [fText,fNum,blen,dig,flipB,bts,ByteArray.size,d0]
def e9:List UInt8:=fNum 0++repF nF 9
def e12:List UInt8:=e9++repF sF 3
def blk0:List UInt8:=e12++nF++sF++nF++fText d0++nF++nF++nF++nF
theorem e9_len:e9.length≤100:=by
 have:(fNum 0).length≤10:=by simp [fNum,blen,dig,flipB]
 rw [e9,List.length_append,zgm_,nF_len]
 omega
theorem zblj_:e12.length≤200:=by
 have:=e9_len
 rw [e12,List.length_append,zgm_,sF_len]
 omega
theorem d0_len:(fText d0).length≤10:=by simp [fText,fNum,blen,dig,flipB,bts,ByteArray.size,d0]
theorem zdjp_ (h:H):run XP zww_ [] h=some (.lst 1 (inN.map vs),h):=by
 rw [run_eq,zchu_]
 simp -implicitDefEqProofs [zmn_,inN]
theorem zdjq_ (h:H):run XP zwx_ [] h=some (.lst 1 (txN.map vs),h):=by
 rw [run_eq,zchw_]
 simp -implicitDefEqProofs [zmo_,txN]
theorem zdjr_ (h:H):run XP zwy_ [.fptr (.agg [vnil]) 0] h=some (vnil,h):=by
 rw [run_eq,zchy_]
 simp -implicitDefEqProofs [zmc_]
 rw [zbb_]
 simp -implicitDefEqProofs [zbgm_]
theorem m0_SI (h:H) (f:Nat):run XP zhx_ [vnil,.fn f [] []] h=some (vnil,h):=zdl_ h (es:=[]) (g:=fun _=>0) (fun _=>.nil) (fun e he=>by simp at he) (by simp)
theorem m0_AT (h:H) (f:Nat):run XP zrs_ [vnil,.fn f [] []] h=some (vnil,h):=zdfh_ h (es:=[]) (g:=fun _=>⟨#[]⟩) (fun _=>.nil) (fun e he=>by simp at he) (by simp)
theorem m0_RI (h:H) (f:Nat):run XP zki_ [vnil,.fn f [] []] h=some (vnil,h):=zdfi_ h (es:=[]) (g:=fun _=>0) (fun _=>.nil) (fun e he=>by simp at he) (by simp)
theorem m0_AI (h:H) (f:Nat) (c:List V):run XP zrt_ [vnil,.fn f [] c] h=some (vnil,h):=by
 rw [run_eq,zcib_]
 simp -implicitDefEqProofs [zmt_]
 rw [zbb_]
 simp -implicitDefEqProofs [zbgp_]
theorem bInts0 (h:H) {j:Nat} {n:ByteArray} (hj:inN[j]?=some n):run XP zem_ [.fptr (.agg [vnil]) 0,vs n] h=some (.tup [vnil,vi 0],h):=zbat_ h (es:=[]) (by simp) hj
theorem bStrs0 (h:H) {j:Nat} {n:ByteArray} (hj:txN[j]?=some n):run XP zdh_ [.fptr (.agg [vnil]) 0,vs n] h=some (.tup [vnil,vi 0],h):=zph_ h (es:=[]) (by simp) hj
theorem bLen0 (h:H):run XP zhw_ [.fptr (.agg [vnil]) 0] h=some (vi 0,h):=zban_ h []
theorem enc_l0 {h:H} {β:Type} {f:Ex × St→Option β} {b:Option β} {B:Body} (hB:B=xcode (run XP) loopW h.length zse_) (hK:∀ s' t,Sees s' [(0,.fptr (.agg [vnil]) 0),(3,.ptr h.length 0)]→f (.exit 0,⟨s',h++.box false [wc ((fNum 0)++repF nF 9)] :: t⟩)=b) :
  ∀ s t,Sees s [(0,.fptr (.agg [vnil]) 0),(3,.ptr h.length 0),(31,.lst 1 (inN.map vs)),(32,vi 9),(33,vi 0)]→ob (loopW B ⟨s,h++.box false [wc (fNum 0)] :: t⟩) f=b:=by
 subst hB
 intro s t hs
 refine zaf_ inN (fun k s h'=>∃ t,Sees s [(0,.fptr (.agg [vnil]) 0),(3,.ptr h.length 0),(31,.lst 1 (inN.map vs)),(32,vi 9),(33,vi k)]∧h'=h++.box false [wc ((fNum 0)++repF nF k)] :: t) ?_ ?_ _ _ ⟨t,hs,by simp [repF]⟩
 ·rintro B f' hB hf k e s h' he hk ⟨t,⟨g0,g3,gl,gn,gk,-⟩,rfl⟩ K
  have hk9:k < 9:=hk
  have hlt:(k:Int) < 9:=by omega
  have hw:IntKind.i64.wrap ((k:Int) + 1)=(k:Int) + 1:=zac_ (by omega) (by omega)
  have hv:=fun h:H=>(Rd.lst (inN.map vs):Rd h 1 (.lst 1 (inN.map vs)) (inN.map vs))
  obtain ⟨p,hp,hp2⟩:=(hv (h++.box false [wc ((fNum 0)++repF nF k)] :: t)).at1 (i:=k) (e:=vs e) (by simp [he]) rfl
  have hc:=fun h=>bInts0 h he
  have hlen:((fNum 0)++repF nF k).length≤90000:=by
   have h1:=zgm_ nF k
   have h2:=nF_len
   have h3:(fNum 0).length≤10:=by simp [fNum,blen,dig,flipB]
   have h4:=e9_len
   rw [List.length_append,h1,h2]
   omega
  have hN:=zbbj_ (h:=h) (bs:=(fNum 0)++repF nF k) (t:=t) (by omega)
  simp -implicitDefEqProofs [hB,zse_,g0,g3,gl,gn,gk,hlt,hp,hp2,hc,hN]
  refine K _ _ ⟨t,?_,?_⟩
  ·simp [g0,g3,gl,gn,hw]
  ·simp [repF,nF,List.append_assoc]
 ·rintro B hB s h' ⟨t,⟨g0,g3,gl,gn,gk,-⟩,rfl⟩
  have hlt:((inN.length:Nat):Int)=9:=rfl
  rw [hlt] at gk
  simp -implicitDefEqProofs [hB,zse_,g0,g3,gl,gn,gk]
  exact hK _ _ ⟨g0,g3,trivial⟩
theorem enc_l1 {h:H} {β:Type} {f:Ex × St→Option β} {b:Option β} {B:Body} (hB:B=xcode (run XP) loopW h.length zsf_) (hK:∀ s' t,Sees s' [(0,.fptr (.agg [vnil]) 0),(3,.ptr h.length 0)]→f (.exit 2,⟨s',h++.box false [wc (e9++repF sF 3)] :: t⟩)=b) :
  ∀ s t,Sees s [(0,.fptr (.agg [vnil]) 0),(3,.ptr h.length 0),(47,.lst 1 (txN.map vs)),(48,vi 3),(49,vi 0)]→ob (loopW B ⟨s,h++.box false [wc e9] :: t⟩) f=b:=by
 subst hB
 intro s t hs
 refine zaf_ txN (fun k s h'=>∃ t,Sees s [(0,.fptr (.agg [vnil]) 0),(3,.ptr h.length 0),(47,.lst 1 (txN.map vs)),(48,vi 3),(49,vi k)]∧h'=h++.box false [wc (e9++repF sF k)] :: t) ?_ ?_ _ _ ⟨t,hs,by simp [repF]⟩
 ·rintro B f' hB hf k e s h' he hk ⟨t,⟨g0,g3,gl,gn,gk,-⟩,rfl⟩ K
  have hk9:k < 3:=hk
  have hlt:(k:Int) < 3:=by omega
  have hw:IntKind.i64.wrap ((k:Int) + 1)=(k:Int) + 1:=zac_ (by omega) (by omega)
  have hv:=fun h:H=>(Rd.lst (txN.map vs):Rd h 1 (.lst 1 (txN.map vs)) (txN.map vs))
  obtain ⟨p,hp,hp2⟩:=(hv (h++.box false [wc (e9++repF sF k)] :: t)).at1 (i:=k) (e:=vs e) (by simp [he]) rfl
  have hc:=fun h=>bStrs0 h he
  have hlen:(e9++repF sF k).length≤90000:=by
   have h1:=zgm_ sF k
   have h2:=sF_len
   have h3:(fNum 0).length≤10:=by simp [fNum,blen,dig,flipB]
   have h4:=e9_len
   rw [List.length_append,h1,h2]
   omega
  have hN:=zblh_ (h:=h) (bs:=e9++repF sF k) (t:=t) (by omega)
  simp -implicitDefEqProofs [hB,zsf_,g0,g3,gl,gn,gk,hlt,hp,hp2,hc,hN]
  refine K _ _ ⟨t,?_,?_⟩
  ·simp [g0,g3,gl,gn,hw]
  ·simp [repF,sF,List.append_assoc]
 ·rintro B hB s h' ⟨t,⟨g0,g3,gl,gn,gk,-⟩,rfl⟩
  have hlt:((txN.length:Nat):Int)=3:=rfl
  rw [hlt] at gk
  simp -implicitDefEqProofs [hB,zsf_,g0,g3,gl,gn,gk]
  exact hK _ _ ⟨g0,g3,trivial⟩
end Go.Proofs.Sl
namespace Go.Proofs.Sl
theorem zdjs_ (h:H):run XP zwu_ [.fptr (.agg [vnil]) 0] h=some (tx blk0,h):=by
 have h1:=bLen0
 have h2:=zdjp_
 have h3:=zdjq_
 have h4:=zdjr_
 have h5:=m0_SI
 have h6:=m0_AT
 have h7:=m0_RI
 have h8:=m0_AI
 have h9:=zbbl_
 have h10:=zbbk_
 have hW:=fun (bs:List UInt8) (t:H) (hb:bs.length≤100000)=>zbbj_ (h:=h) (bs:=bs) (t:=t) hb
 have hS:=fun (bs:List UInt8) (t:H) (hb:bs.length≤90000)=>zblh_ (h:=h) (bs:=bs) (t:=t) hb
 have hT:=fun (bs:List UInt8) (t:H) (hb:bs.length + 2≤90000000000000)=>zbbi_ (h:=h) (bs:=bs) (s:=d0) (t:=t) hb
 have hB:=fun (bs:List UInt8) (t:H)=>zdjm_ (h:=h) (bs:=bs) (t:=t)
 have w0:=zdjl_ (h:=h) (bs:=[]) (t:=[]) (n:=0) ⟨by omega,by omega⟩ (by simp)
 have l12:=zblj_
 have ln:=nF_len
 have ls:=sF_len
 have ld:=d0_len
 have hwc:wc []=vnil:=rfl
 rw [hwc,List.nil_append] at w0
 have li:inN.length=9:=rfl
 have lt:txN.length=3:=rfl
 rw [run_eq,zcho_]
 simp -implicitDefEqProofs [zlk_,h1,w0,h2]
 refine enc_l0 rfl ?_ _ [] (by simp [li])
 rintro s t ⟨g0,g3,-⟩
 simp -implicitDefEqProofs [g0,g3,h3]
 refine enc_l1 rfl ?_ _ t (by simp [g0,g3,lt])
 clear s g0 g3
 rintro s t ⟨g0,g3,-⟩
 rw [show e9++repF sF 3=e12 from rfl]
 have a1:=fun t=>hW e12 t (by omega)
 have a2:=fun t=>hS (e12++nF) t (by rw [List.length_append]; omega)
 have a3:=fun t=>hW (e12++nF++sF) t (by simp only [List.length_append]; omega)
 have a4:=fun t=>hT (e12++nF++sF++nF) t (by simp only [List.length_append]; omega)
 have a5:=fun t=>hW (e12++nF++sF++nF++fText d0) t (by simp only [List.length_append]; omega)
 have a6:=fun t=>hW (e12++nF++sF++nF++fText d0++nF) t (by simp only [List.length_append]; omega)
 have a7:=fun t=>hW (e12++nF++sF++nF++fText d0++nF++nF) t (by simp only [List.length_append]; omega)
 have a8:=fun t=>hW (e12++nF++sF++nF++fText d0++nF++nF++nF) t (by simp only [List.length_append]; omega)
 rw [show colF []=nF from rfl] at a1 a2 a3 a5 a6 a7 a8
 simp only [List.append_assoc (e12++nF) (fText d0) nF,show fText d0++nF=sF from rfl] at a2
 have b0:=fun t:H=>hB blk0 t
 rw [show blk0=e12++nF++sF++nF++fText d0++nF++nF++nF++nF from rfl] at b0 ⊢
 generalize e12++nF++sF++nF++fText d0++nF++nF++nF++nF=q8 at *
 generalize e12++nF++sF++nF++fText d0++nF++nF++nF=q7 at *
 generalize e12++nF++sF++nF++fText d0++nF++nF=q6 at *
 generalize e12++nF++sF++nF++fText d0++nF=q5 at *
 generalize e12++nF++sF++nF++fText d0=q4 at *
 generalize e12++nF++sF++nF=q3 at *
 generalize e12++nF++sF=q2 at *
 generalize e12++nF=q1 at *
 have hp:=zbx_ q8
 simp -implicitDefEqProofs [g0,g3,h4,h5,h6,h8,a1,a2,a3]
 rw [zbb_]
 simp -implicitDefEqProofs [zbgk_,g0,g3,h9,h10,h8,a4,a5]
 rw [zbb_]
 simp -implicitDefEqProofs [zbgl_,g0,g3,h5,h7,a6,a7,a8,b0,hp]
end Go.Proofs.Sl
namespace Go.Proofs.Sl
def atF:List UInt8:=nF++fText d0++nF++nF++fText d0++nF
theorem zdjt_ (h:H):run XP zxy_ [vnil] h=some (tx atF,h):=by
 have h1:=zbli_
 have h2:=ztn_
 rw [show colF []=nF from rfl] at h2
 have ln:=nF_len
 have ld:=d0_len
 have p1:=add_tx (a:=nF) (b:=fText d0) (by omega)
 have p2:=add_tx (a:=nF++fText d0) (b:=nF) (by simp only [List.length_append]; omega)
 have p3:=add_tx (a:=nF++fText d0++nF) (b:=nF) (by simp only [List.length_append]; omega)
 have p4:=add_tx (a:=nF++fText d0++nF++nF) (b:=fText d0) (by simp only [List.length_append]; omega)
 have p5:=add_tx (a:=nF++fText d0++nF++nF++fText d0) (b:=nF) (by simp only [List.length_append]; omega)
 rw [show nF++fText d0++nF++nF++fText d0++nF=atF from rfl] at p5
 generalize nF++fText d0++nF++nF++fText d0=q4 at *
 generalize nF++fText d0++nF++nF=q3 at *
 generalize nF++fText d0++nF=q2 at *
 generalize nF++fText d0=q1 at *
 have hp:=zbx_ atF
 have t0:=zbx_ (fText d0)
 have t1:=zbx_ nF
 rw [run_eq,zcka_]
 simp -implicitDefEqProofs [zmm_]
 rw [zbb_]
 simp -implicitDefEqProofs [zbgn_,h1]
 rw [zbb_]
 simp -implicitDefEqProofs [zbgo_,h2,p1,p2,p3,p4,p5,hp]
theorem l0ints (h:H) {j:Nat} {n:ByteArray} (hj:inN[j]?=some n):run XP zkw_ [vnil,vs n] h=some (vnil,h):=zbjn_ h (es:=[]) (fun _=>.nil) (by simp) hj
theorem zdju_ (h:H) {j:Nat} {n:ByteArray} (hj:txN[j]?=some n):run XP zia_ [vnil,vs n] h=some (vnil,h):=zbjm_ h (es:=[]) (fun _=>.nil) (by simp) hj
theorem frm_l0 {h:H} {base:Nat} {β:Type} {f:Ex × St→Option β} {b:Option β} {B:Body} (hB:B=xcode (run XP) loopW base zsc_) (hK:∀ s',Sees s' [(0,vnil),(5,.lst 1 (txN.map vs)),(3,tx e9)]→f (.exit 0,⟨s',h⟩)=b) :
  ∀ s,Sees s [(0,vnil),(4,.lst 1 (inN.map vs)),(5,.lst 1 (txN.map vs)),(3,tx (fNum 0)),(6,vi 0)]→ob (loopW B ⟨s,h⟩) f=b:=by
 subst hB
 intro s hs
 refine zaf_ inN (fun k s h'=>Sees s [(0,vnil),(4,.lst 1 (inN.map vs)),(5,.lst 1 (txN.map vs)),(3,tx (fNum 0++repF nF k)),(6,vi k)]∧h'=h) ?_ ?_ _ _ ⟨by simpa [repF] using hs,rfl⟩
 ·rintro B f' hB hf k e s h' he hk ⟨⟨g0,g4,g5,g3,g6,-⟩,rfl⟩ K
  have hk9:k < 9:=hk
  have hlt:(k:Int) < 9:=by omega
  have hL:((inN.map vs).length:Int)=9:=rfl
  have hw:IntKind.i64.wrap ((k:Int) + 1)=(k:Int) + 1:=zac_ (by omega) (by omega)
  have hv:Rd h' 1 (.lst 1 (inN.map vs)) (inN.map vs):=.lst _
  have htL:=hv.toL
  obtain ⟨p,hp,hp2⟩:=hv.at1 (i:=k) (e:=vs e) (by simp [he]) rfl
  have hc:=fun h=>l0ints h he
  have h2:=ztn_
  rw [show colF []=nF from rfl] at h2
  have ln:=nF_len
  have hadd:=add_tx (a:=fNum 0++repF nF k) (b:=nF) (by
   have h1:=zgm_ nF k
   have h3:(fNum 0).length≤10:=by simp [fNum,blen,dig,flipB]
   rw [List.length_append,h1,ln]
   omega)
  have li:inN.length=9:=rfl
  simp -implicitDefEqProofs [hB,zsc_,g0,g3,g4,g5,g6,hlt,hp,hp2,hc,h2,hadd,li]
  refine K _ _ ⟨?_,rfl⟩
  simp [g0,g4,g5,hw,repF,List.append_assoc]
 ·rintro B hB s h' ⟨⟨g0,g4,g5,g3,g6,-⟩,rfl⟩
  have li:inN.length=9:=rfl
  rw [li] at g3 g6
  simp -implicitDefEqProofs [hB,zsc_,g0,g3,g4,g5,g6,li]
  exact hK _ (by simp [g0,g5,g3,e9])
theorem frm_l1 {h:H} {base:Nat} {β:Type} {f:Ex × St→Option β} {b:Option β} {B:Body} (hB:B=xcode (run XP) loopW base zsd_) (hK:∀ s',Sees s' [(0,vnil),(3,tx e12)]→f (.exit 2,⟨s',h⟩)=b) :
  ∀ s,Sees s [(0,vnil),(5,.lst 1 (txN.map vs)),(3,tx e9),(7,vi 0)]→ob (loopW B ⟨s,h⟩) f=b:=by
 subst hB
 intro s hs
 refine zaf_ txN (fun k s h'=>Sees s [(0,vnil),(5,.lst 1 (txN.map vs)),(3,tx (e9++repF sF k)),(7,vi k)]∧h'=h) ?_ ?_ _ _ ⟨by simpa [repF] using hs,rfl⟩
 ·rintro B f' hB hf k e s h' he hk ⟨⟨g0,g5,g3,g7,-⟩,rfl⟩ K
  have hk9:k < 3:=hk
  have hlt:(k:Int) < 3:=by omega
  have hw:IntKind.i64.wrap ((k:Int) + 1)=(k:Int) + 1:=zac_ (by omega) (by omega)
  have hv:Rd h' 1 (.lst 1 (txN.map vs)) (txN.map vs):=.lst _
  obtain ⟨p,hp,hp2⟩:=hv.at1 (i:=k) (e:=vs e) (by simp [he]) rfl
  have hc:=fun h=>zdju_ h he
  have h1:=zbli_
  have h2:=ztn_
  rw [show colF []=nF from rfl] at h2
  have ln:=nF_len
  have ls:=sF_len
  have ld:=d0_len
  have l9:=e9_len
  have hr:=zgm_ sF k
  rw [ls] at hr
  have ha1:=add_tx (a:=e9++repF sF k) (b:=fText d0) (by rw [List.length_append,hr]; omega)
  have ha2:=add_tx (a:=e9++(repF sF k++fText d0)) (b:=nF) (by rw [List.length_append,List.length_append,hr]; omega)
  have li:txN.length=3:=rfl
  have t0:=zbx_ (fText d0)
  simp -implicitDefEqProofs [hB,zsd_,g0,g3,g5,g7,hlt,hp,hp2,hc,h1,h2,ha1,ha2,li]
  refine K _ _ ⟨?_,rfl⟩
  simp [g0,g5,hw,repF,sF,nF,List.append_assoc]
 ·rintro B hB s h' ⟨⟨g0,g5,g3,g7,-⟩,rfl⟩
  have li:txN.length=3:=rfl
  rw [li] at g3 g7
  simp -implicitDefEqProofs [hB,zsd_,g0,g3,g5,g7,li]
  exact hK _ (by simp [g0,g3,e12])
theorem zdjv_ (h:H):run XP zxr_ [vnil] h=some (tx blk0,h):=by
 have h1:=fun h=>zbhp_ h (n:=0) ⟨by omega,by omega⟩
 have h1':∀ h,run XP zhj_ [vi 0] h=some (tx (fNum 0),h):=h1
 have h2:=zbjl_
 have h3:=zdjt_
 have h4:=ztn_
 rw [show colF []=nF from rfl] at h4
 have l12:=zblj_
 have ln:=nF_len
 have ld:=d0_len
 have p0:=zbx_ (fNum 0)
 have pa:=zbx_ atF
 have b1:=add_tx (a:=e12) (b:=atF) (by simp only [atF,List.length_append]; omega)
 have b2:=add_tx (a:=e12++atF) (b:=nF) (by simp only [atF,List.length_append]; omega)
 have b3:=add_tx (a:=e12++atF++nF) (b:=nF) (by simp only [atF,List.length_append]; omega)
 have b4:=add_tx (a:=e12++atF++nF++nF) (b:=nF) (by simp only [atF,List.length_append]; omega)
 have hx:e12++atF++nF++nF++nF=blk0:=by simp [blk0,atF,sF,nF,List.append_assoc]
 rw [hx] at b4
 have hp:=zbx_ blk0
 rw [run_eq,zcjt_]
 simp -implicitDefEqProofs [zlj_,h1',h2]
 refine frm_l0 rfl ?_ _ (by simp)
 rintro s ⟨g0,g5,g3,-⟩
 simp -implicitDefEqProofs [g0,g5,g3]
 refine frm_l1 rfl ?_ _ (by simp [g0,g5,g3])
 clear s g0 g5 g3
 rintro s ⟨g0,g3,-⟩
 generalize e12++atF++nF++nF=q3 at *
 generalize e12++atF++nF=q2 at *
 generalize e12++atF=q1 at *
 simp -implicitDefEqProofs [g0,g3,h3,b1]
 rw [zbb_]
 simp -implicitDefEqProofs [zbgj_,g0,g3,h4,b2,b3,b4,hp]
end Go.Proofs.Sl
namespace Go.Proofs.Sl
theorem zbbm_ {L:List SP} (hL:∀ a ∈ L,∀ b ∈ L,cmpS a b=0→a=b):∀ {x y:List SP},sameL x y=true→(∀ a ∈ x,a ∈ L)→(∀ a ∈ y,a ∈ L)→x=y
 | [],[],_,_,_=>rfl
 | a :: x,b :: y,h,hx,hy=>by
  rw [sameL,Bool.and_eq_true,beq_iff_eq] at h
  rw [hL a (hx a (by simp)) b (hy b (by simp)) h.1,zbbm_ hL h.2 (fun c hc=>hx c (by simp [hc])) (fun c hc=>hy c (by simp [hc]))]
 | [],b :: y,h,_,_=>by simp [sameL] at h
 | a :: x,[],h,_,_=>by simp [sameL] at h
theorem zblk_ {l:List SP} (h:Str l):∀ a ∈ l,∀ b ∈ l,cmpS a b=0→a=b:=by
 intro a ha b hb hc
 obtain ⟨i,hi,rfl⟩:=List.getElem_of_mem ha
 obtain ⟨j,hj,rfl⟩:=List.getElem_of_mem hb
 rcases Nat.lt_trichotomy i j with hij | hij | hij
 ·have:=List.pairwise_iff_getElem.1 h i j hi hj hij
  omega
 ·subst hij; rfl
 ·have:=List.pairwise_iff_getElem.1 h j i hj hi hij
  have h2:=csym hc
  omega
theorem zdjw_ {l:List SP} (h:Str l):dst l=l:=zbbm_ (zblk_ h) (zbao_ (zbap_ l) h (zbjb_ l)) (fun _=>zgh_) (fun _ h=>h)
def PB (c:V) (bs:List (List SP)):Prop:=(c=vnil∧bs=[])∨c=.own 1 (bs.map bkV)
def PO (h:H) (l:Nat) (n:Int) (s:Bool) (bs:List (List SP)):Prop:=∃ c,h[l]?=some (.box false [vi n,vb s,c])∧PB c bs
theorem PO.app {h:H} {l:Nat} {n:Int} {s:Bool} {bs:List (List SP)} (p:PO h l n s bs) (t:H):PO (h++t) l n s bs:=by
 obtain ⟨c,h1,h2⟩:=p
 exact ⟨c,by rw [List.getElem?_append_left (List.getElem?_eq_some_iff.1 h1).1]; exact h1,h2⟩
def recs (bs:List (List SP)):List SP:=dst bs.flatten
def fgn (n:Int) (a:SP):Bool:=(a.tr.fdiv 1048576).fdiv 16 != n
end Go.Proofs.Sl
namespace Go.Proofs.Sl
end Go.Proofs.Sl
namespace Go.Proofs.Sl
section
variable {h:H} {l:Nat} {n:Int} {s:Bool} {bs:List (List SP)}
def blks (bs:List (List SP)) (v:V):Prop:=(v=vnil∧bs=[])∨v=.lst 1 (bs.map bkV)
theorem blks.rd {v:V} (b:blks bs v) (h:H):Rd h 1 v (bs.map bkV):=by
 rcases b with ⟨rfl,rfl⟩ | rfl
 ·exact .nil
 ·exact .lst _
end
end Go.Proofs.Sl
namespace Go.Proofs.Sl
def rc (id:Int):SP:=⟨16777217,id,0,0,1,3,⟨#[115]⟩,⟨#[]⟩,⟨#[111]⟩,0,0,false,[],[],true,true⟩
def SV (v:V) (bs:List (List SP)):Prop:=(v=vnil∧bs=[])∨v=.lst 1 (bs.map nl)
theorem SV.rd {v:V} {bs:List (List SP)} (b:SV v bs) (h:H):Rd h 1 v (bs.map nl):=by
 rcases b with ⟨rfl,rfl⟩ | rfl
 ·exact .nil
 ·exact .lst _
theorem SV.plain {v:V} {bs:List (List SP)} (b:SV v bs):v.plain=true:=by
 rcases b with ⟨rfl,rfl⟩ | rfl
 ·rfl
 ·rfl
end Go.Proofs.Sl
namespace Go.Proofs.Sl
end Go.Proofs.Sl
namespace Go.Proofs.Sl
end Go.Proofs.Sl
namespace Go.Proofs.Sl
end Go.Proofs.Sl
namespace Go.Proofs.Sl
theorem zbbn_ (h:H) {es:List SP} (hn:es.length≤100000) {j:Nat} {n:ByteArray} (hj:txN[j]?=some n):run XP zhz_ [bkV es,vs n] h=some (.tup [(dB (es.map (txF j))).1,vi (dB (es.map (txF j))).2],h):=by
 have h1:=fun h=>zph_ h hn hj
 have h2:=fun h=>zbau_ h (es.map (txF j)) (by rw [List.length_map]; omega)
 rw [List.map_map] at h2
 have ha:=zgl_ es
 have hs1:=zgj_ (es.map fun e=>vs (txF j e))
 have hs2:=zeu_ (es.map fun e=>vs (txF j e))
 have hd:res0 (dB (es.map (txF j))).1=(dB (es.map (txF j))).1:=by unfold dB; split; rfl; split; rfl; exact zeu_ _
 have hp:retV h.length h .v (dB (es.map (txF j))).1 []=some ((dB (es.map (txF j))).1,[]):=by
  unfold dB; split; simp; split; simp; unfold sL; split <;> simp
 have h2':∀ h,run XP zdi_ [sL (es.map fun e=>vs (txF j e))] h=some (.tup [(dB (es.map (txF j))).1,vi (dB (es.map (txF j))).2],h):=h2
 generalize (dB (es.map (txF j))).1=R1 at *
 generalize (dB (es.map (txF j))).2=R2 at *
 generalize sL (es.map fun e=>vs (txF j e))=S at *
 rw [run_eq,zbgz_]
 simp -implicitDefEqProofs [zih_,ha,h1,h2',hs1,hs2,hd,hp]
theorem zdjx_ (h:H) {es:List SP} {n:ByteArray} (hu:∀ m ∈ txN,(n == m)=false):run XP zhz_ [bkV es,vs n] h=some (.tup [vnil,vi 16],h):=by
 have h1:=fun h=>zbas_ h (es:=es) hu
 have ha:=zgl_ es
 rw [run_eq,zbgz_]
 simp -implicitDefEqProofs [zih_,ha,h1]
def kA:SP:=⟨5,1,0,0,1,3,⟨#[97]⟩,⟨#[]⟩,⟨#[111]⟩,0,0,false,[],[],true,true⟩
def kB:SP:=⟨5,2,0,0,1,3,⟨#[98]⟩,⟨#[118]⟩,⟨#[111]⟩,0,0,false,[],[],true,true⟩
theorem k_bk:∀ e ∈ [kB,kA],e.Bk:=by
 intro e he
 simp only [List.mem_cons,List.not_mem_nil,or_false] at he
 rcases he with rfl | rfl <;> exact ⟨Nat.zero_le _,Nat.zero_le _,fun _=>rfl,fun _=>rfl⟩
theorem k_sz:∀ e ∈ [kB,kA],e.Sz:=by
 intro e he
 simp only [List.mem_cons,List.not_mem_nil,or_false] at he
 rcases he with rfl | rfl
 ·exact ⟨by show 1≤9223372036854775807; decide,by show 1≤9223372036854775807; decide,by show 1≤9223372036854775807; decide,fun e he=>(List.not_mem_nil (show e ∈ ([]:List AT) from he)).elim,fun _=>rfl,fun _=>rfl⟩
 ·exact ⟨by show 1≤9223372036854775807; decide,by show 0≤9223372036854775807; decide,by show 1≤9223372036854775807; decide,fun e he=>(List.not_mem_nil (show e ∈ ([]:List AT) from he)).elim,fun _=>rfl,fun _=>rfl⟩
theorem strK:Str [kA,kB]:=by
 simp only [Str,List.pairwise_cons,List.mem_cons,List.not_mem_nil,or_false,forall_eq,false_implies,implies_true,List.Pairwise.nil,and_true]
 decide +kernel
theorem dstK:dst [kB,kA]=[kA,kB]:=by
 have hs:∀ a ∈ [kB,kA],a ∈ [kA,kB]:=by intro a ha; simp only [List.mem_cons,List.not_mem_nil,or_false] at ha ⊢; exact ha.symm
 have hs2:∀ a ∈ [kA,kB],a ∈ [kB,kA]:=by intro a ha; simp only [List.mem_cons,List.not_mem_nil,or_false] at ha ⊢; exact ha.symm
 have h1:=zbjb_ [kB,kA]
 have h2:Alk (dst [kB,kA]) [kA,kB]:=by
  refine ⟨fun a ha=>?_,fun c hc=>h1.2 c (hs2 c hc)⟩
  obtain ⟨b,hb,e⟩:=h1.1 a ha
  exact ⟨b,hs b hb,e⟩
 exact zbbm_ (zblk_ strK) (zbao_ (zbap_ _) strK h2) (fun a ha=>hs a (zgh_ ha)) (fun _ h=>h)
theorem blEK:blE [kB,kA]=0:=by
 have h1:blE0 [kB,kA]=0:=by decide +kernel
 have h2:madE [kA,kB]=0:=by decide +kernel
 rw [blE,h1,dstK,h2]
 rfl
theorem blVK:blV [kB,kA]=bkV [kA,kB]:=by rw [blV,blEK,dstK]; rfl
theorem blE29n:blE []=0:=by
 have h1:blE0 []=0:=by decide +kernel
 have h2:madE []=0:=by decide +kernel
 rw [blE,h1,zbaj_.2 rfl,h2]
 rfl
theorem blV29n:blV []=bkV []:=by rw [blV,blE29n,zbaj_.2 rfl]; rfl
theorem dicK:dic ([kA,kB].map (txF 1))=[⟨#[]⟩,⟨#[118]⟩]:=by
 have:sortStr ([kA,kB].map (txF 1))=[⟨#[]⟩,⟨#[118]⟩]:=List.mergeSort_of_pairwise (by simp [txF,kA,kB])
 rw [dic,this]
 decide +kernel
theorem dBK:dB ([kA,kB].map (txF 1))=(sL [vs ⟨#[]⟩,vs ⟨#[118]⟩],0):=by
 have h1:([kA,kB].map (txF 1)).any longT=false:=by decide +kernel
 rw [dB,h1,dicK]
 rfl
theorem selK:selR (pW [kA,kB]) [kA,kB].length=[0,1]:=by decide +kernel
theorem ofK:ofR [0,1]=[(0,1)]:=by
 have:zbp_ [0,1]=[0,1]:=List.mergeSort_of_pairwise (by simp)
 rw [ofR,this]
 decide +kernel
theorem zdjy_ (h:H):run XP zrz_ [] h=some (vb true,h):=by
 have hB1:=fun h=>zbam_ (SA.lst (v:=.lst 14 [kB.v,kA.v]) (es:=[kB,kA]) (.inr rfl) h) k_bk k_sz (by simp)
 have hB2:=fun h=>zbam_ (SA.lst (v:=vnil) (es:=[]) (.inl ⟨rfl,rfl⟩) h) (fun e he=>by simp at he) (fun e he=>by simp at he) (by simp)
 rw [blVK,blEK] at hB1
 rw [blV29n,blE29n] at hB2
 simp only [ite_self] at hB1 hB2
 have hL:=fun h=>zban_ h [kA,kB]
 have hS:=fun h=>zph_ h (es:=[kA,kB]) (by simp) (j:=0) (n:=⟨#[115,101,114,118,105,99,101]⟩) rfl
 have hD:=fun h=>zbbn_ h (es:=[kA,kB]) (by simp) (j:=1) (n:=⟨#[118,101,114,115,105,111,110]⟩) rfl
 rw [dBK] at hD
 have hW:=fun h=>zdjj_ h (D:=[kA,kB]) (by simp)
 rw [selK,ofK] at hW
 have hR:=fun h=>zdjd_ h (rs:=[(0,1)]) (by simp [IsRow]) (by simp)
 have hT1:=fun h=>ztj_ h (v:=.lst 1 [vs ⟨#[97]⟩,vs ⟨#[98]⟩]) (w:=.lst 1 [vs ⟨#[97]⟩,vs ⟨#[98]⟩]) (xs:=[⟨#[97]⟩,⟨#[98]⟩]) (.lst _) (.lst _) (by simp)
 have hT2:=fun h=>ztj_ h (v:=.lst 1 [vs ⟨#[]⟩,vs ⟨#[118]⟩]) (w:=.lst 1 [vs ⟨#[]⟩,vs ⟨#[118]⟩]) (xs:=[⟨#[]⟩,⟨#[118]⟩]) (.lst _) (.lst _) (by simp)
 have hE:=zdjs_
 have hF:=zdjv_
 have hp:=zbx_ blk0
 have ha:=zgl_ [kA,kB]
 have hbk:bkV []=.fptr (.agg [vnil]) 0:=rfl
 have hrow:(rowsR [(0,1)]).length=2:=by decide +kernel
 rw [hbk] at hB2
 have hr0:res0 (bkV [kA,kB])=bkV [kA,kB]:=rfl
 have e1:kB.v=.agg [vi 5,vi 2,vi 0,vi 0,vi 1,vi 3,vs ⟨#[98]⟩,vs ⟨#[118]⟩,vs ⟨#[111]⟩,vi 0,vi 0,vb false,vnil,vnil]:=rfl
 have e2:kA.v=.agg [vi 5,vi 1,vi 0,vi 0,vi 1,vi 3,vs ⟨#[97]⟩,vs ⟨#[]⟩,vs ⟨#[111]⟩,vi 0,vi 0,vb false,vnil,vnil]:=rfl
 have e3:sL (List.map (fun e=>vs (txF 0 e)) [kA,kB])=.lst 1 [vs ⟨#[97]⟩,vs ⟨#[98]⟩]:=rfl
 have e4:sL [vs ⟨#[]⟩,vs ⟨#[118]⟩]=.lst 1 [vs ⟨#[]⟩,vs ⟨#[118]⟩]:=rfl
 have e5:rsV [(0,1)]=.lst 2 [rv (0,1)]:=rfl
 have hr2:res0 (oL (List.map (fun x=>vi x) (rowsR [(0,1)])))=.lst 1 (List.map (fun x=>vi x) (rowsR [(0,1)])):=rfl
 rw [e1,e2] at hB1
 rw [e3] at hS
 simp only [e4] at hD
 rw [e5] at hW hR
 have hnp:zcm_ (bkV [kA,kB])=some false:=rfl
 generalize bkV [kA,kB]=K at *
 generalize rowsR [(0,1)]=RW at *
 simp only [rv] at hW hR
 rw [run_eq,zcjm_]
 simp -implicitDefEqProofs [zla_,hB1,hB2,hL,hS,hD,hW,hR,hT1,hT2,hE,hF,hp,ha,hr0,hnp,hr2,hrow]
end Go.Proofs.Sl
namespace Go.Proofs.Sl
def nlE (L:List EX):V:=if L=[] then vnil else .lst 5 (L.map EX.v)
theorem zdjz_ (L:List EX):res0 (owE L)=nlE L:=by unfold owE nlE; split <;> rfl
theorem nlE_rd (L:List EX) (h:H):Rd h 5 (nlE L) (L.map EX.v):=by
 unfold nlE
 split
 ·rename_i e; rw [e]; exact .nil
 ·exact .lst _
theorem nlE_at {L:List EX} {k:Nat} {a:EX} (ha:L[k]?=some a) (h:H):iaddrV h 5 (nlE L) k=some (.fptr a.v 0):=by
 have:L≠[]:=by rintro rfl; simp at ha
 rw [nlE,if_neg this]
 have h2:(L.map EX.v)[k]?=some a.v:=by rw [List.getElem?_map,ha]; rfl
 rw [zhg_,if_pos rfl,h2,zab_]
def exTo (c:Int) (L:List EX):List EX:=L.filter fun e=>decide (e.to=c)
theorem zdka_ {c:Int} {L:List EX} {k:Nat} {a:EX} (h:L[k]?=some a):exTo c (L.take (k + 1))=if a.to=c then exTo c (L.take k)++[a] else exTo c (L.take k):=by
 unfold exTo
 rw [zjl_ h,List.filter_append]
 by_cases hc:a.to=c
 ·rw [if_pos hc]; simp [hc]
 ·rw [if_neg hc]; simp [hc]
theorem zbll_ (c:Int) (L:List EX):(exTo c L).length≤L.length:=List.length_filter_le _ _
set_option maxHeartbeats 8000000 in
theorem zdkb_ {β:Type} {f:Ex × St→Option β} {w:Option β} {base:Nat} {h:H} {p:Nat} {x1 x2 x5 x6 x12:V} {L:List EX} {c sq:Int} (hp:h[p]?=some (.box false [vi c,vi sq,vnil,vnil])) (hbp:base≤p) (hl:L.length≤1000)
  (hend:∀ st t,Sees st [(1,x1),(2,x2),(5,x5),(6,x6),(7,nlE L),(8,vi c),(12,x12),(15,.ptr p 0)]→f (.exit 6,⟨st,h.set p (.box false [vi c,vi sq,vnil,owE (exTo c L)])++t⟩)=w)
  (s0:Sl) (g:Sees s0 [(1,x1),(2,x2),(5,x5),(6,x6),(7,nlE L),(8,vi c),(12,x12),(15,.ptr p 0),(16,vi 0)]):ob (loopW (xcode (run XP) loopW base zil_) ⟨s0,h⟩) f=w:=by
 have hL:=fun h=>(nlE_rd L h).toL
 have hpl:=(List.getElem?_eq_some_iff.1 hp).1
 have hgs:∀ (o:O) (r:H),(h.set p o++r)[p]?=some o:=fun o r=>by rw [List.getElem?_append_left (by simpa using hpl),List.getElem?_set_self hpl]
 have hss:∀ (o o2:O) (r:H),(h.set p o++r).set p o2=h.set p o2++r:=fun o o2 r=>by rw [List.set_append_left _ _ (by simpa using hpl),List.set_set]
 have hhl:∀ o:O,(h.set p o).length=h.length:=fun o=>by simp
 refine zaf_ L (fun k st h'=>∃ t,h'=h.set p (.box false [vi c,vi sq,vnil,owE (exTo c (L.take k))])++t∧Sees st [(1,x1),(2,x2),(5,x5),(6,x6),(7,nlE L),(8,vi c),(12,x12),(15,.ptr p 0),(16,vi k)]) ?_ ?_ _ _ ?_
 rotate_left
 ·rintro B hB st h' ⟨t,rfl,⟨g1,g2,g5,g6,g7,g8,g12,g15,g16,-⟩⟩
  rw [List.take_length]
  simp -implicitDefEqProofs [hB,zil_,g7,g16,hL]
  refine hend _ t ?_
  simp [g1,g2,g5,g6,g7,g8,g12,g15]
 ·refine ⟨[],?_,g⟩
  have:owE (exTo c (L.take 0))=vnil:=rfl
  rw [this,List.append_nil]
  obtain ⟨h2,h3⟩:=List.getElem?_eq_some_iff.1 hp
  rw [← h3,List.set_getElem_self]
 ·rintro B f' hB hf k e st h' he hk ⟨t,rfl,⟨g1,g2,g5,g6,g7,g8,g12,g15,g16,-⟩⟩ K
  have hlt:(k:Int) < L.length:=by omega
  have hw:IntKind.i64.wrap ((k:Int) + 1)=(k:Int) + 1:=w64 (by omega)
  have hat:=fun h=>nlE_at he h
  have hup:=zdka_ (c:=c) he
  have hle:=zbll_ c (L.take k)
  rw [List.length_take] at hle
  by_cases hc:e.to=c
  ·have hc2:(e.to == c)=true:=by simpa using hc
   rw [if_pos hc] at hup
   generalize hE:exTo c (L.take k)=E at *
   generalize exTo c (L.take (k + 1))=E2 at *
   subst hup
   have hwE:wide 5 [e.v]=true:=zbbe_ [e]
   have hcE:V.closed.closeds [e.v]=true:=zpd_ [e]
   have hcE2:V.closed.closeds (E.map EX.v++[e.v])=true:=by
    have:=zpd_ (E++[e])
    rwa [List.map_append] at this
   unfold EX.v at hat
   by_cases h0:E=[]
   ·subst h0
    have e1:owE []=vnil:=rfl
    rw [e1]
    simp -implicitDefEqProofs [hB,zil_,g1,g2,g5,g6,g7,g8,g12,g15,g16,hL,hlt,hat,hc2,hgs,hss,hhl,hbp,V.closed]
    refine K _ _ ⟨t++[.dead],rfl,?_⟩
    simp [g1,g2,g5,g6,g7,g8,g12,g15,hw]
   ·have e1:owE E=.own 5 (E.map EX.v):=by rw [owE,if_neg h0]
    have hE3:E.length≤3518437208882:=by omega
    rw [e1]
    simp -implicitDefEqProofs [hB,zil_,g1,g2,g5,g6,g7,g8,g12,g15,g16,hL,hlt,hat,hc2,hgs,hss,hhl,hbp,V.closed,hE3]
    refine K _ _ ⟨t,?_,?_⟩
    ·have e2:owE (E++[e])=.own 5 (E.map EX.v++[e.v]):=by rw [owE,if_neg (by simp),List.map_append]; rfl
     rw [e2]
     rfl
    ·simp [g1,g2,g5,g6,g7,g8,g12,g15,hw]
  ·have hc2:(e.to == c)=false:=by simpa using hc
   rw [if_neg hc] at hup
   unfold EX.v at hat
   simp -implicitDefEqProofs [hB,zil_,g1,g2,g5,g6,g7,g8,g12,g15,g16,hL,hlt,hat,hc2]
   refine K _ _ ⟨t,by rw [hup],?_⟩
   simp [g1,g2,g5,g6,g7,g8,g12,g15,hw]
def lastF (c:Int) (q:Nat) (L:List EX):List FR:=if L=[] then [] else [⟨c,q,[],L,true,false⟩]
def frs (w:Nat) (F:List SP) (X:List EX):Nat→List FR
 | 0=>[]
 | k + 1=>frs w F X k++(chunk w ((k:Int) + 1) (mineS ((k:Int) + 1) F) 0 0++lastF ((k:Int) + 1) (chunk w ((k:Int) + 1) (mineS ((k:Int) + 1) F) 0 0).length (exTo ((k:Int) + 1) X))
theorem zdkc_ (c:Int) (q:Nat) (L:List EX):((lastF c q L).map FR.sps).flatten=[]:=by
 unfold lastF
 split <;> rfl
def mines (F:List SP):Nat→List SP
 | 0=>[]
 | k + 1=>mines F k++mineS ((k:Int) + 1) F
theorem zblm_ (w:Nat) (F:List SP) (X:List EX):∀ k,((frs w F X k).map FR.sps).flatten=mines F k
 | 0=>rfl
 | k + 1=>by
  rw [frs,mines,List.map_append,List.flatten_append,zblm_ w F X k,List.map_append,List.flatten_append,zbky_,zdkc_]
  simp
theorem zbbo_ {w:Nat} {F:List SP} {X:List EX} {m:Nat} (hF:F.length≤m):∀ k,(frs w F X k).length≤(2 * m + 1) * k
 | 0=>by simp [frs]
 | k + 1=>by
  have h1:=zbbg_ w ((k:Int) + 1) (mineS ((k:Int) + 1) F) 0 0
  have h2:=zpm_ ((k:Int) + 1) F
  have h3:=zbbo_ hF (w:=w) (X:=X) k
  have h4:(lastF ((k:Int) + 1) (chunk w ((k:Int) + 1) (mineS ((k:Int) + 1) F) 0 0).length (exTo ((k:Int) + 1) X)).length≤1:=by unfold lastF; split <;> simp
  rw [frs,List.length_append,List.length_append,Nat.mul_add]
  omega
theorem zbln_ {F:List SP} {a:SP}:∀ {k:Nat},a ∈ mines F k→∃ b ∈ F,a=b∨(0 < b.rev∧a=b.early)
 | 0,h=>by simp [mines] at h
 | k + 1,h=>by
  rw [mines,List.mem_append] at h
  rcases h with h | h
  ·exact zbln_ h
  ·unfold mineS at h
   obtain ⟨b,hb,hm⟩:=List.mem_flatMap.1 h
   unfold mine1 at hm
   split at hm
   ·split at hm
    ·rename_i hr
     simp only [List.mem_cons,List.not_mem_nil,or_false] at hm
     rcases hm with rfl | rfl
     ·exact ⟨b,hb,.inr ⟨hr,rfl⟩⟩
     ·exact ⟨a,hb,.inl rfl⟩
    ·simp only [List.mem_cons,List.not_mem_nil,or_false] at hm
     exact ⟨b,hb,.inl hm⟩
   ·simp at hm
theorem zblo_ {F:List SP} {m:Nat} (hF:F.length≤m):∀ k,(mines F k).length≤2 * m * k
 | 0=>by simp [mines]
 | k + 1=>by
  have h2:=zpm_ ((k:Int) + 1) F
  have h3:=zblo_ hF k
  rw [mines,List.length_append,Nat.mul_add]
  omega
end Go.Proofs.Sl
namespace Go.Proofs.Sl
theorem zdkd_ (w:Nat) (c:Int) (a q:Nat):chunk w c [] a q=[]:=by
 rw [chunk,if_neg (by simp)]
theorem zdke_ {β:Type} {f:Ex × St→Option β} {w:Option β} {base:Nat} {h:H} {x2 x5 x6 x7 x9:V} {b0 b9 sz:Nat} {c:Int} {M:List SP} {pre:List FR} (hsz:sz < 256)
  (o9:OutV x9 h b9 14 (M.map SP.v)) (hb:b0≤b9) (hbh:b0≤h.length) (ho:OutV x5 h b0 4 (pre.map FR.v)) (hl:M.length≤1000) (hpl:pre.length≤100000)
  (hend:∀ st h',Sees st [(1,v8 sz),(2,x2),(6,x6),(7,x7),(8,vi c),(12,vi (chunk (sz % 4) c M 0 0).length)]→h'.take b0=h.take b0→b0≤h'.length→OutV (st 5) h' b0 4 ((pre++chunk (sz % 4) c M 0 0).map FR.v)→f (.exit 4,⟨st,h'⟩)=w)
  (s0:Sl) (g:Sees s0 [(1,v8 sz),(2,x2),(5,x5),(6,x6),(7,x7),(8,vi c),(9,x9),(12,vi 0),(13,vi 0)]):ob (loopW (xcode (run XP) loopW base zik_) ⟨s0,h⟩) f=w:=by
 rcases o9 with ⟨e,rfl⟩ | ⟨q,h0,h1,rfl,h3⟩
 ·have e:M=[]:=by simpa using e
  subst e
  obtain ⟨g1,g2,g5,g6,g7,g8,g9,g12,g13,-⟩:=g
  rw [zbb_]
  simp -implicitDefEqProofs [zik_,g9,g13]
  rw [zdkd_] at hend
  refine hend _ h ?_ rfl hbh ?_
  ·simp [g1,g2,g6,g7,g8,g12]
  ·simpa [g5] using ho
 ·rw [List.length_map] at g
  exact zdja_ hsz h3 (by omega) ho hl hpl hend s0 g
set_option maxHeartbeats 8000000 in
theorem zdkf_ {β:Type} {f:Ex × St→Option β} {w:Option β} {base:Nat} {H0:H} (hbase:base≤H0.length) {x2:V} {F:List SP} {X:List EX} {sz:Nat} (hsz:sz < 256) (hF:F.length≤100) (hX:X.length≤100)
  (hend:∀ st h',h'.take H0.length=H0→H0.length≤h'.length→OutV (st 5) h' H0.length 4 ((frs (sz % 4) F X 4).map FR.v)→f (.exit 0,⟨st,h'⟩)=w)
  (s0:Sl) (g:Sees s0 [(1,v8 sz),(2,x2),(5,vnil),(6,nl F),(7,nlE X),(8,vi 1)]):ob (loopW (xcode (run XP) loopW base zsi_) ⟨s0,H0⟩) f=w:=by
 refine zqw_ 4 (fun k st h'=>Sees st [(1,v8 sz),(2,x2),(6,nl F),(7,nlE X),(8,vi ((k:Int) + 1))]∧h'.take H0.length=H0∧H0.length≤h'.length∧OutV (st 5) h' H0.length 4 ((frs (sz % 4) F X k).map FR.v)) ?_ ?_ _ _ ?_
 rotate_left
 ·rintro B hB st h' ⟨⟨g1,g2,g6,g7,g8,-⟩,htk,hle,ho⟩
  simp -implicitDefEqProofs [hB,zsi_,g8]
  refine hend _ h' htk hle ?_
  simpa using ho
 ·obtain ⟨g1,g2,g5,g6,g7,g8,-⟩:=g
  exact ⟨by simp [g1,g2,g6,g7,g8],List.take_length,Nat.le_refl _,.inl ⟨rfl,g5⟩⟩
 ·rintro B f' hB hf k st h' hk ⟨⟨g1,g2,g6,g7,g8,-⟩,htk,hle,ho⟩ K
  have hlt:(k:Int) + 1≤4:=by omega
  have hlt':(k:Int)≤3:=by omega
  have hw:IntKind.i64.wrap ((k:Int) + 1 + 1)=(k:Int) + 1 + 1:=w64 (by omega)
  have hfr:=zbbo_ hF (w:=sz % 4) (X:=X) k
  have hml:=zpm_ ((k:Int) + 1) F
  have hEl:=zbll_ ((k:Int) + 1) X
  have hup:frs (sz % 4) F X (k + 1)=frs (sz % 4) F X k++(chunk (sz % 4) ((k:Int) + 1) (mineS ((k:Int) + 1) F) 0 0++lastF ((k:Int) + 1) (chunk (sz % 4) ((k:Int) + 1) (mineS ((k:Int) + 1) F) 0 0).length (exTo ((k:Int) + 1) X)):=rfl
  have hck:((k + 1:Nat):Int)=(k:Int) + 1:=by omega
  generalize hx5:st 5=x5 at *
  generalize hcc:(k:Int) + 1=c at *
  simp -implicitDefEqProofs [hB,zsi_,g1,g2,g6,g7,g8,hx5,hlt]
  refine zdix_ (x1:=v8 sz) (x2:=x2) (x5:=x5) (x7:=nlE X) (F:=F) (c:=c) (by omega) ?_ _ (by simp [g1,g2,g6,g7,g8,hx5])
  rintro st2 t ⟨u1,u2,u5,u6,u7,u8,-⟩ o9
  generalize hx9:st2 9=x9 at *
  simp -implicitDefEqProofs [u1,u2,u5,u6,u7,u8,hx9]
  refine zdke_ (x2:=x2) (x5:=x5) (x6:=nl F) (x7:=nlE X) (x9:=x9) (c:=c) (M:=mineS c F) (pre:=frs (sz % 4) F X k) hsz o9 hle (by simp; omega) (ho.app t) (by omega) (by omega) ?_ _ (by simp [u1,u2,u5,u6,u7,u8,hx9])
  rintro st3 h3 ⟨v1,v2,v6,v7,v8',v12,-⟩ htk3 hle3 ho3
  have htk3':h3.take H0.length=H0:=by rw [htk3,List.take_append_of_le_length hle,htk]
  have hCl:=zbbg_ (sz % 4) c (mineS c F) 0 0
  generalize chunk (sz % 4) c (mineS c F) 0 0=CH at *
  generalize hy5:st3 5=y5 at *
  simp -implicitDefEqProofs [v1,v2,v6,v7,v8',v12,hy5]
  refine zdkb_ (p:=h3.length) (x1:=v8 sz) (x2:=x2) (x5:=y5) (x6:=nl F) (x12:=vi CH.length) (L:=X) (c:=c) (sq:=CH.length) (by simp) (by omega) (by omega) ?_ _ (by simp [v1,v2,v6,v7,v8',v12,hy5])
  rintro st4 t4 ⟨z1,z2,z5,z6,z7,z8,z12,z15,-⟩
  have hse:∀ o o':O,(h3++[o]).set h3.length o'++t4=h3++(o' :: t4):=fun o o'=>by simp
  rw [hse]
  by_cases hE:exTo c X=[]
  ·have e1:owE []=vnil:=rfl
   rw [hE] at hup ⊢
   rw [e1]
   simp -implicitDefEqProofs [z1,z2,z5,z6,z7,z8,z12,z15]
   refine K _ _ ⟨?_,?_,?_,?_⟩
   ·simp [z1,z2,z6,z7,hw,hck]
   ·rw [List.take_append_of_le_length hle3,htk3']
   ·simp; omega
   ·rw [hup,lastF,if_pos rfl,List.append_nil]
    have:=ho3.app (.box false [vi c,vi CH.length,vnil,vnil] :: t4)
    simpa [z5] using this
  ·have e1:owE (exTo c X)=.own 5 ((exTo c X).map EX.v):=by rw [owE,if_neg hE]
   have hpos:0 < (exTo c X).length:=List.length_pos_iff.2 hE
   rw [e1]
   generalize hEE:exTo c X=E at *
   have hpos2:(0:Int) < E.length:=by omega
   obtain ⟨x',h'',hap,ho',htk',hle'⟩:=(ho3.app (.box false [vi c,vi CH.length,vnil,.own 5 (E.map EX.v)] :: t4)).grow (e:=(⟨c,CH.length,[],E,true,false⟩:FR).v) (lim:=2199023255552) (by simp; omega) (zbbf_ [_]) (ztm_ [_]) (by
    rw [List.length_map,List.length_append]
    omega)
   have hFv:(⟨c,CH.length,[],E,true,false⟩:FR).v=.agg [vi c,vi CH.length,vnil,.lst 5 (E.map EX.v)]:=rfl
   rw [hFv] at hap
   simp -implicitDefEqProofs [z1,z2,z5,z6,z7,z8,z12,z15,hpos,hpos2,hap]
   refine K _ _ ⟨?_,?_,hle',?_⟩
   ·simp [z1,z2,z6,z7,hw,hck]
   ·rw [htk',List.take_append_of_le_length hle3,htk3']
   ·rw [hup,lastF,if_neg hE,← List.append_assoc,List.map_append]
    simpa using ho'
def owF (L:List FR):V:=if L=[] then vnil else .own 4 (L.map FR.v)
def ST.frags (s:ST) (sz:Nat):List FR:=frs (sz % 4) s.final s.exs 4
theorem zbbp_ {s:ST} (hs:s.Ok):s.final.length≤24:=by
 have:=zbbd_ hs
 unfold ST.final
 rw [List.length_map]
 exact this
theorem zdkg_ {s:ST} (hs:s.Ok):s.exs.length≤6:=by
 have:=hs.yl
 unfold ST.exs
 rw [List.length_map]
 exact this
set_option maxHeartbeats 4000000 in
theorem zdkh_ {s:ST} (hs:s.Ok) {sz:Nat} (hsz:sz < 256) (h:H):run XP zro_ [s.v,v8 sz] h=some (owF (s.frags sz),h):=by
 have hFi:=fun h=>zdit_ hs h
 have hEx:=fun h=>zdiu_ hs h
 have hFl:=zbbp_ hs
 have hEl:=zdkg_ hs
 have sT:(lv 3 (slc TR.v s.ts s.tn)).plain=true:=zaq_ _ _
 have sY:(lv 5 (slc SY.v s.ys s.yn)).plain=true:=zaq_ _ _
 rw [run_eq,zchp_]
 simp only [ST.v] at hFi hEx ⊢
 unfold ST.frags
 generalize lv 3 (slc TR.v s.ts s.tn)=T at *
 generalize lv 5 (slc SY.v s.ys s.yn)=Y at *
 generalize s.final=F at *
 generalize s.exs=X at *
 simp -implicitDefEqProofs [zlr_,sT,sY,hFi,hEx,zpg_,zdjz_,zaw_,optEq]
 refine zdkf_ (x2:=.ptr h.length 0) (F:=F) (X:=X) (sz:=sz) (by simp) hsz (by omega) (by omega) ?_ _ (by simp)
 rintro st h' htk hle ho
 have htk2:h'.take h.length=h:=by
  have:=congrArg (fun l=>l.take h.length) htk
  simpa [List.take_take] using this
 have ho2:OutV (st 5) h' h.length 4 ((frs (sz % 4) F X 4).map FR.v):=by
  rcases ho with o | ⟨q,o1,o2,o3⟩
  ·exact .inl o
  ·exact .inr ⟨q,o1,by simp at o2; omega,o3⟩
 have hr:=ho2.ret (ztm_ _)
 generalize frs (sz % 4) F X 4=Z at *
 simp -implicitDefEqProofs [hr,htk2,owF]
end Go.Proofs.Sl
namespace Go.Proofs.Sl
end Go.Proofs.Sl
namespace Go.Proofs.Sl
end Go.Proofs.Sl
namespace Go.Proofs.Sl
theorem zblp_:∀ {l:List SP},chkF l=0↔∀ e ∈ l,chkSp e=0
 | []=>by simp [chkF]
 | a :: r=>by
  rw [chkF]
  by_cases h:chkSp a=0
  ·rw [if_neg (by simpa using h),zblp_]
   simp [h]
  ·rw [if_pos h]
   simp [h]
theorem SV.nil:SV vnil []:=.inl ⟨rfl,rfl⟩
end Go.Proofs.Sl
namespace Go.Proofs.Sl
theorem Ins.app {x y z:List SP} (h:Ins x z) (k:Ins y z):Ins (x++y) z:=fun a ha=>by
 rcases List.mem_append.1 ha with ha | ha
 ·exact h a ha
 ·exact k a ha
theorem Ins.left (x y:List SP):Ins x (x++y):=Ins.of_sub fun a h=>List.mem_append.2 (.inl h)
theorem Ins.right (x y:List SP):Ins y (x++y):=Ins.of_sub fun a h=>List.mem_append.2 (.inr h)
theorem Alk.app {x y z w:List SP} (h:Alk x y) (k:Alk z w):Alk (x++z) (y++w):=⟨(h.1.trans (Ins.left _ _)).app (k.1.trans (Ins.right _ _)),(h.2.trans (Ins.left _ _)).app (k.2.trans (Ins.right _ _))⟩
structure SP.Rc (a:SP):Prop where
 va:a.Va
 fg:fgn 1 a=false
 lo:longS a=false
 al:a.ats.length≤3
 ll:a.lks.length≤1
structure Bx (bs:List (List SP)) (n m:Nat):Prop where
 rc:∀ b ∈ bs,∀ e ∈ b,e.Rc
 n:bs.length≤n
 m:bs.flatten.length≤m
theorem Bx.nil:Bx [] 0 0:=⟨by simp,by simp,by simp⟩
theorem Bx.len {bs:List (List SP)} {n m:Nat} (h:Bx bs n m):(recs bs).length≤m:=Nat.le_trans (zpf_ _) h.m
end Go.Proofs.Sl
namespace Go.Proofs.Sl
theorem zdki_ {s:ST} (hs:s.Ok) {a:SP} (h:a ∈ s.final):∃ k t j c b,k < 3∧s.ts[k]?=some t∧t.cs[j]?=some c∧a=revd b (trS s t k t.S t.E j c):=by
 unfold ST.final at h
 obtain ⟨x,hx,rfl⟩:=List.mem_map.1 h
 obtain ⟨k,t,j,c,h1,h2,h3,h4⟩:=zbkv_ hs hx
 exact ⟨k,t,j,c,finB x 0 s.ts,h1,h2,h3,by rw [← h4]⟩
theorem Sto.rev {a:SP} (h:a.Sto) (b:Bool):(revd b a).Sto:=by
 cases b with
 | false=>exact h
 | true=>exact ⟨h.tr,h.id,h.par,⟨by show (0:Int)≤1; decide,by show (1:Int)≤1; decide⟩,h.clk,h.kind,h.sv,h.op,h.vr,h.tm,h.ats,h.lks,h.al,h.ll,h.an,h.ln,h.az⟩
theorem Sto.early {a:SP} (h:a.Sto):a.early.Sto :=
 ⟨h.tr,h.id,h.par,⟨by show (0:Int)≤0; decide,by show (0:Int)≤1; decide⟩,h.clk,h.kind,h.sv,h.op,h.vr,⟨h.tm.1,Int.le_refl _,by have:=h.tm; show a.st≤2000; omega⟩,h.ats,h.lks,h.al,h.ll,h.an,h.ln,h.az⟩
theorem zdkj_ {s:ST} (hs:s.Ok) {k:Nat} {t:TR} {j:Nat} {c:CL} (hk:k < 3) (ht:s.ts[k]?=some t) (hc:t.cs[j]?=some c):(trS s t k t.S t.E j c).Sto:=by
 have htok:=hs.ts t (List.mem_of_getElem? ht)
 obtain ⟨h1,h2,-⟩:=zbkh_ htok []
 have hj:=(List.getElem?_eq_some_iff.1 hc).1
 have:=htok.l
 exact zbkn_ hk h1 (by omega) (by omega) (htok.cs c (List.mem_of_getElem? hc))
theorem lo_ats:∀ tg:Nat,tg < 256→(atsN tg).any long=false:=by decide +kernel
theorem trS_lo {s:ST} {t:TR} {k:Nat} {j:Nat} {c:CL} (hc:c.Ok):longS (trS s t k t.S t.E j c)=false:=lo_ats c.tg (hc.a _ (by simp))
end Go.Proofs.Sl
namespace Go.Proofs.Sl
def nlF (L:List FR):V:=if L=[] then vnil else .lst 4 (L.map FR.v)
theorem zdkk_ (L:List FR):res0 (owF L)=nlF L:=by unfold owF nlF; split <;> rfl
theorem nlF_rd (L:List FR) (h:H):Rd h 4 (nlF L) (L.map FR.v):=by
 unfold nlF
 split
 ·rename_i e; rw [e]; exact .nil
 ·exact .lst _
theorem nlF_at {L:List FR} {k:Nat} {a:FR} (ha:L[k]?=some a) (h:H):iaddrV h 4 (nlF L) k=some (.fptr a.v 0):=by
 have:L≠[]:=by rintro rfl; simp at ha
 rw [nlF,if_neg this]
 have h2:(L.map FR.v)[k]?=some a.v:=by rw [List.getElem?_map,ha]; rfl
 rw [zhg_,if_pos rfl,h2,zab_]
theorem zblq_ (w:Nat) (c:Int) (M:List SP) (a q:Nat):∀ f ∈ chunk w c M a q,f.sn=false∧f.xn=true∧f.exs=[]:=by
 rw [chunk]
 split
 ·rename_i h
  intro f hf
  rcases List.mem_cons.1 hf with rfl | hf
  ·exact ⟨rfl,rfl,rfl⟩
  ·exact zblq_ w c M (a + 1 + w) (q + 1) f hf
 ·simp
termination_by M.length - a
theorem frs_sn (w:Nat) (F:List SP) (X:List EX):∀ k,∀ f ∈ frs w F X k,(f.sn=true→f.sps=[])∧(f.xn=true→f.exs=[])
 | 0,f,h=>by simp [frs] at h
 | k + 1,f,h=>by
  rw [frs,List.mem_append,List.mem_append] at h
  rcases h with h | h | h
  ·exact frs_sn w F X k f h
  ·obtain ⟨h1,h2,h3⟩:=zblq_ _ _ _ _ _ f h
   exact ⟨(fun e=>by rw [h1] at e; cases e),fun _=>h3⟩
  ·unfold lastF at h
   split at h
   ·simp at h
   ·rw [List.mem_singleton] at h
    subst h
    exact ⟨fun _=>rfl,(fun e=>by cases e)⟩
theorem zdkl_ {α:Type} {v:α→V} {k:Nat} {l:List α} {n:Bool} (hn:n=true→l=[]) (h:H):appEls h (lv k (slc v l n))=some (l.map v):=by
 cases n with
 | true=>rw [hn rfl]; rfl
 | false=>rfl
end Go.Proofs.Sl
namespace Go.Proofs.Sl
def ST.r29 (s:ST):List SP:=mines s.final 4
def ST.recs29 (s:ST):List SP:=if s.short=true then s.r29 else []
structure SP.R9 (a:SP):Prop where
 va:a.Va
 lo:longS a=false
 al:a.ats.length≤3
 ll:a.lks.length≤1
theorem sumA_9:∀ {l:List SP},(∀ e ∈ l,e.R9)→sumA l≤3 * l.length
 | [],_=>Nat.le_refl _
 | a :: r,h=>by
  have h1:=(h a (by simp)).al
  have h2:=sumA_9 (l:=r) fun e he=>h e (by simp [he])
  rw [sumA,List.length_cons]
  omega
theorem sumL_9:∀ {l:List SP},(∀ e ∈ l,e.R9)→sumL l≤l.length
 | [],_=>Nat.le_refl _
 | a :: r,h=>by
  have h1:=(h a (by simp)).ll
  have h2:=sumL_9 (l:=r) fun e he=>h e (by simp [he])
  rw [sumL,List.length_cons]
  omega
theorem zdkm_ {l:List SP} (h:∀ e ∈ l,e.R9):chkF l=0:=zblp_.2 fun e he=>(h e he).va.ck
theorem zdkn_ {l:List SP} (h:∀ e ∈ l,e.R9) (hl:l.length≤1000):madE l=0:=by
 have h1:=sumA_9 h
 have h2:=sumL_9 h
 rw [madE,if_neg (by omega)]
theorem blE_r9 {l:List SP} (h:∀ e ∈ l,e.R9) (hl:l.length≤1000):blE l=0:=by
 have h0:blE0 l=0:=by
  rw [blE0,if_neg (by omega),if_neg (by simpa using zdkm_ h),if_neg]
  rw [Bool.not_eq_true,List.any_eq_false]
  exact fun e he=>by rw [(h e he).lo]; simp
 have hd:∀ e ∈ dst l,e.R9:=fun e he=>h e (zgh_ he)
 rw [blE,h0,if_neg (by simp),zdkn_ hd (Nat.le_trans (zpf_ l) hl)]
theorem r29_r9 {s:ST} (hs:s.Ok) {e:SP} (h:e ∈ s.r29):e.R9:=by
 obtain ⟨a,ha,he⟩:=zbln_ h
 obtain ⟨k,t,j,c,b,h1,h2,h3,h4⟩:=zdki_ hs ha
 have hsto:=zdkj_ hs h1 h2 h3
 have hlo:=trS_lo (s:=s) (t:=t) (k:=k) (j:=j) ((hs.ts t (List.mem_of_getElem? h2)).cs c (List.mem_of_getElem? h3))
 generalize trS s t k t.S t.E j c=x at *
 have ha1:a.Sto:=by rw [h4]; exact Sto.rev hsto b
 have ha2:longS a=false:=by rw [h4]; cases b <;> exact hlo
 rcases he with rfl | ⟨-,rfl⟩
 ·exact ⟨ha1.va,ha2,ha1.al,ha1.ll⟩
 ·exact ⟨(Sto.early ha1).va,ha2,ha1.al,ha1.ll⟩
theorem r29_le {s:ST} (hs:s.Ok):s.r29.length≤192:=Nat.le_trans (zblo_ (zbbp_ hs) 4) (by decide)
theorem zdko_ {s:ST} (hs:s.short=true→s.Ok) {e:SP} (h:e ∈ s.recs29):e.R9:=by
 unfold ST.recs29 at h
 split at h
 ·exact r29_r9 (hs (by assumption)) h
 ·simp at h
theorem zdkp_ {s:ST} (hs:s.short=true→s.Ok):s.recs29.length≤192:=by
 unfold ST.recs29
 split
 ·exact r29_le (hs (by assumption))
 ·simp
theorem zdkq_ {s:ST} (hp:s.Pre) (hs:s.short=true→s.Ok) (h:H):run XP zxp_ [s.v] h=some (ow s.recs29,h):=by
 have hS:=fun h=>zdhv_ hp h
 have sT:(lv 3 (slc TR.v s.ts s.tn)).plain=true:=zaq_ _ _
 have sY:(lv 5 (slc SY.v s.ys s.yn)).plain=true:=zaq_ _ _
 rw [run_eq,zcjn_]
 cases hsh:s.short with
 | false =>
  have e0:ow s.recs29=vnil:=by rw [ST.recs29,hsh]; rfl
  rw [hsh] at hS
  simp only [ST.v] at hS ⊢
  rw [e0]
  generalize lv 3 (slc TR.v s.ts s.tn)=T at *
  generalize lv 5 (slc SY.v s.ys s.yn)=Y at *
  simp -implicitDefEqProofs [zif_,hS,sT,sY]
 | true =>
  have hok:=hs hsh
  have hF:∀ h,run XP zro_ [s.v,.s (.int .u8 2)] h=some (owF (s.frags 2),h):=fun h=>zdkh_ hok (sz:=2) (by omega) h
  have e0:s.recs29=s.r29:=by rw [ST.recs29,hsh]; rfl
  rw [e0]
  have hrl:=r29_le hok
  have hfs:∀ f ∈ s.frags 2,f.sn=true→f.sps=[]:=fun f hf=>(frs_sn (2 % 4) s.final s.exs 4 f hf).1
  have hsp:((s.frags 2).map FR.sps).flatten=s.r29:=zblm_ _ _ _ 4
  have hfl:(s.frags 2).length≤1000:=by
   have h1:=zbbo_ (zbbp_ hok) (w:=2 % 4) (X:=s.exs) 4
   exact Nat.le_trans h1 (by decide)
  rw [hsh] at hS
  generalize s.frags 2=FS at *
  generalize s.r29=R at *
  have hFL:=fun h=>(nlF_rd FS h).toL
  simp only [ST.v] at hS hF ⊢
  generalize lv 3 (slc TR.v s.ts s.tn)=T at *
  generalize lv 5 (slc SY.v s.ys s.yn)=Y at *
  simp -implicitDefEqProofs [zif_,hS,hF,sT,sY,zdkk_]
  refine zaf_ FS (fun k st h'=>∃ t,Sees st [(4,nlF FS),(5,vi k)]∧h'=h++t∧OutV (st 3) h' h.length 14 (((FS.map FR.sps).take k).flatten.map SP.v)) ?_ ?_ _ _ ?_
  rotate_left
  ·rintro B hB st h' ⟨t,⟨g5,g6,-⟩,rfl,ho⟩
   rw [List.take_of_length_le (by simp),hsp] at ho
   have hr:=ho.ret (zba_ _)
   simp -implicitDefEqProofs [hB,zya_,g5,g6,hFL]
   simp only [hr,ow]
   simp
  ·exact ⟨_,by simp,rfl,.inl ⟨by simp,by simp⟩⟩
  ·rintro B f hB hf k q st h' hq hk ⟨t,⟨g5,g6,-⟩,rfl,ho⟩ K
   have hlt:(k:Int) < FS.length:=by omega
   have hat:=nlF_at hq (h++t)
   have hqs:(FS.map FR.sps)[k]?=some q.sps:=by rw [List.getElem?_map,hq]; rfl
   have hf2:=zbix_ hqs
   have hfl2:=zbiy_ (xs:=FS.map FR.sps) (k + 1)
   rw [hf2,List.length_append,hsp] at hfl2
   have hw:IntKind.i64.wrap ((k:Int) + 1)=(k:Int) + 1:=w64 (by omega)
   obtain ⟨x',h'',hap,ho',htk,hbl⟩:=ho.grows (lim:=837723144972) (y:=lv 14 (slc SP.v q.sps q.sn)) (zdkl_ (hfs q (List.mem_of_getElem? hq)) _) (by simp) (zjm_ q.sps) (zba_ q.sps) (by simp only [List.length_map]; omega)
   obtain ⟨t',rfl⟩:∃ t',h''=h++t':=⟨h''.drop h.length,by
    have:=List.take_append_drop h.length h''
    rw [htk,List.take_left] at this
    exact this.symm⟩
   have n1:(lv 14 (slc SP.v q.sps q.sn)).plain=true:=zaq_ _ _
   have n2:(lv 5 (slc EX.v q.exs q.xn)).plain=true:=zaq_ _ _
   unfold FR.v at hat
   generalize lv 14 (slc SP.v q.sps q.sn)=Q1 at *
   generalize lv 5 (slc EX.v q.exs q.xn)=Q2 at *
   simp -implicitDefEqProofs [hB,zya_,g5,g6,hlt,hFL,hat,n1,n2,hap]
   refine K _ _ ⟨t',?_,rfl,?_⟩
   ·simp [g5,g6,hw]
   ·rw [hf2,List.map_append]
    exact ho'
end Go.Proofs.Sl
