/- A part of the proof. -/
import Derived.Test.YtalalpgkljkdiaaGreatSlT
import Derived.Test.YtalalpgkljkdiaaGreatSlL2
set_option linter.unusedVariables false
set_option linter.unusedSimpArgs false
set_option linter.unnecessarySimpa false
namespace Go.Proofs.Sl
theorem u8n {n:Int} (h:(Lit.int .u8 n).wf=true):∃ m:Nat,n=m∧m < 256:=by
 have:=u8_of h
 exact ⟨n.toNat,by omega,by omega⟩
end Go.Proofs.Sl
namespace Go.Proofs.Sl
theorem slc_of {α:Type} {v:α→V} {o:Option (List V)} {l:List α} (h:o.getD []=l.map v):∃ n:Bool,o=slc v l n∧(n=true→l=[]):=by
 cases o with
 | none =>
  refine ⟨true,rfl,fun _=>?_⟩
  have:l.map v=[]:=h.symm
  simpa using this
 | some es=>exact ⟨false,by simpa [slc] using h,fun h=>by cases h⟩
end Go.Proofs.Sl
namespace Go.Proofs.Sl
abbrev callTy:Ty:=.st [.i .u8,.i .u8,.i .u8,.i .u8,.i .u8,.i .u8,.i .u8,.i .u8,.i .u8,.i .u8,.b]
abbrev treeTy:Ty:=.st [.i .u8,.i .u8,.sl callTy]
abbrev syncTy:Ty:=.st [.i .u8,.i .u8,.i .u8,.i .u8,.i .u8]
abbrev zbbq_:Ty:=.st [.sl treeTy,.ar 4 (.i .i8),.sl syncTy,.i .u8]
theorem i8_of {n:Int} (h:(Lit.int .i8 n).wf=true):-128≤n∧n≤127:=by
 simp only [Lit.wf,Bool.and_eq_true,decide_eq_true_eq] at h
 exact h
theorem zdkr_ {x:V} (h:callTy.okV x):∃ p:CL,x=p.v∧p.Ok:=by
 obtain ⟨c,rfl,h0⟩:=okV_st h
 obtain ⟨n,c,rfl,k,h1⟩:=oks_i h0
 obtain ⟨n0,rfl,k0⟩:=u8n k
 obtain ⟨n,c,rfl,k,h2⟩:=oks_i h1
 obtain ⟨n1,rfl,k1⟩:=u8n k
 obtain ⟨n,c,rfl,k,h3⟩:=oks_i h2
 obtain ⟨n2,rfl,k2⟩:=u8n k
 obtain ⟨n,c,rfl,k,h4⟩:=oks_i h3
 obtain ⟨n3,rfl,k3⟩:=u8n k
 obtain ⟨n,c,rfl,k,h5⟩:=oks_i h4
 obtain ⟨n4,rfl,k4⟩:=u8n k
 obtain ⟨n,c,rfl,k,h6⟩:=oks_i h5
 obtain ⟨n5,rfl,k5⟩:=u8n k
 obtain ⟨n,c,rfl,k,h7⟩:=oks_i h6
 obtain ⟨n6,rfl,k6⟩:=u8n k
 obtain ⟨n,c,rfl,k,h8⟩:=oks_i h7
 obtain ⟨n7,rfl,k7⟩:=u8n k
 obtain ⟨n,c,rfl,k,h9⟩:=oks_i h8
 obtain ⟨n8,rfl,k8⟩:=u8n k
 obtain ⟨n,c,rfl,k,h10⟩:=oks_i h9
 obtain ⟨n9,rfl,k9⟩:=u8n k
 obtain ⟨b,c,rfl,h12⟩:=oks_b h10
 obtain rfl:=zqy_ h12
 refine ⟨⟨n0,n1,n2,n3,n4,n5,n6,n7,n8,n9,b⟩,rfl,⟨?_⟩⟩
 simp only [List.mem_cons,List.not_mem_nil,or_false,forall_eq_or_imp,forall_eq]
 exact ⟨k0,k1,k2,k3,k4,k5,k6,k7,k8,k9⟩
structure TR.In (t:TR):Prop where
 sl:t.sl < 256
 st:t.st < 256
 cs:∀ c ∈ t.cs,c.Ok
 n:t.cn=true→t.cs=[]
theorem zdks_ {x:V} (h:treeTy.okV x):∃ p:TR,x=p.v∧p.In:=by
 obtain ⟨c,rfl,h0⟩:=okV_st h
 obtain ⟨n,c,rfl,k,h1⟩:=oks_i h0
 obtain ⟨n0,rfl,k0⟩:=u8n k
 obtain ⟨n,c,rfl,k,h2⟩:=oks_i h1
 obtain ⟨n1,rfl,k1⟩:=u8n k
 obtain ⟨o1,c,rfl,l1,g1,h3⟩:=oks_sl h2
 obtain rfl:=zqy_ h3
 obtain ⟨cs,e1,p1⟩:=zqx_ fun y hy=>zdkr_ (g1 y hy)
 obtain ⟨cn,rfl,z1⟩:=slc_of e1
 exact ⟨⟨n0,n1,cs,cn⟩,rfl,⟨k0,k1,p1,z1⟩⟩
theorem zdkt_ {x:V} (h:syncTy.okV x):∃ p:SY,x=p.v∧p.Ok:=by
 obtain ⟨c,rfl,h0⟩:=okV_st h
 obtain ⟨n,c,rfl,k,h1⟩:=oks_i h0
 obtain ⟨n0,rfl,k0⟩:=u8n k
 obtain ⟨n,c,rfl,k,h2⟩:=oks_i h1
 obtain ⟨n1,rfl,k1⟩:=u8n k
 obtain ⟨n,c,rfl,k,h3⟩:=oks_i h2
 obtain ⟨n2,rfl,k2⟩:=u8n k
 obtain ⟨n,c,rfl,k,h4⟩:=oks_i h3
 obtain ⟨n3,rfl,k3⟩:=u8n k
 obtain ⟨n,c,rfl,k,h5⟩:=oks_i h4
 obtain ⟨n4,rfl,k4⟩:=u8n k
 obtain rfl:=zqy_ h5
 refine ⟨⟨n0,n1,n2,n3,n4⟩,rfl,⟨?_⟩⟩
 simp only [List.mem_cons,List.not_mem_nil,or_false,forall_eq_or_imp,forall_eq]
 exact ⟨k0,k1,k2,k3,k4⟩
structure ST.In (s:ST):Prop where
 ts:∀ t ∈ s.ts,t.In
 n:s.tn=true→s.ts=[]
 l:s.ts.length≤9223372036854775807
 ys:∀ y ∈ s.ys,y.Ok
 y:s.yn=true→s.ys=[]
 wr:s.wr < 256
 o:∀ o ∈ [s.o0,s.o1,s.o2,s.o3],-128≤o∧o≤127
theorem zdku_ {x:V} (h:zbbq_.okV x):∃ p:ST,x=p.v∧p.In:=by
 obtain ⟨c,rfl,h0⟩:=okV_st h
 obtain ⟨o1,c,rfl,l1,g1,h1⟩:=oks_sl h0
 obtain ⟨ns,c,rfl,hn,hw,h2⟩:=oks_ar h1
 obtain ⟨o2,c,rfl,l2,g2,h3⟩:=oks_sl h2
 obtain ⟨n,c,rfl,k,h4⟩:=oks_i h3
 obtain ⟨n0,rfl,k0⟩:=u8n k
 obtain rfl:=zqy_ h4
 obtain ⟨ts,e1,p1⟩:=zqx_ fun y hy=>zdks_ (g1 y hy)
 obtain ⟨tn,rfl,z1⟩:=slc_of e1
 obtain ⟨ys,e2,p2⟩:=zqx_ fun y hy=>zdkt_ (g2 y hy)
 obtain ⟨yn,rfl,z2⟩:=slc_of e2
 match ns,hn with
 | [a,b,c,d],_ =>
  have wl:ts.length≤maxLen:=by rw [e1,List.length_map] at l1; exact l1
  refine ⟨⟨ts,tn,a,b,c,d,ys,yn,n0⟩,rfl,⟨p1,z1,?_,p2,z2,k0,?_⟩⟩
  ·exact zcdm_ wl
  ·simp only [List.mem_cons,List.not_mem_nil,or_false,forall_eq_or_imp,forall_eq] at hw ⊢
   exact ⟨i8_of hw.1,i8_of hw.2.1,i8_of hw.2.2.1,i8_of hw.2.2.2⟩
theorem ST.In.pre {s:ST} (h:s.In):s.Pre:=⟨h.n,h.l,h.y,fun t ht=>(h.ts t ht).n⟩
theorem ST.In.ok {s:ST} (h:s.In) (hs:s.short=true):s.Ok:=by
 unfold ST.short at hs
 rw [Bool.and_eq_true,Bool.and_eq_true,List.all_eq_true,decide_eq_true_eq,decide_eq_true_eq] at hs
 obtain ⟨h1,h2,h3⟩:=hs
 exact ⟨fun t ht=>⟨(h.ts t ht).sl,(h.ts t ht).st,(h.ts t ht).cs,by simpa using h1 t ht,(h.ts t ht).n⟩,h2,h.n,h.ys,h3,h.y,h.wr,h.o⟩
end Go.Proofs.Sl
namespace Go.Proofs.Sl
theorem Va.names {a:SP} (h:a.Va):a.sv.size≤64∧a.vr.size≤64∧a.op.size≤64:=by
 obtain ⟨-,-,⟨h7,h8,h9⟩,-⟩:=zbba_ h.ck
 refine ⟨zgk_ h7,?_,zgk_ h8⟩
 rcases h9 with h9 | h9
 ·rw [h9]; decide
 ·exact zgk_ h9
theorem txF_le {a:SP} (h:a.Va) (j:Nat):(txF j a).size≤64:=by
 obtain ⟨h1,h2,h3⟩:=Va.names h
 unfold txF
 split <;> assumption
theorem dB_ok {D:List SP} (h:∀ e ∈ D,e.Va) (hl:D.length≤1000) (j:Nat):dB (D.map (txF j))=(sL ((dic (D.map (txF j))).map fun x=>vs x),0):=by
 have h1:(D.map (txF j)).any longT=false:=by
  rw [List.any_eq_false]
  intro x hx
  obtain ⟨e,he,rfl⟩:=List.mem_map.1 hx
  have:=txF_le (h e he) j
  simp only [longT,decide_eq_true_eq]
  omega
 have h2:=ztk_ (D.map (txF j))
 rw [List.length_map] at h2
 rw [dB,h1,if_neg (by simp),if_neg (by omega)]
theorem in_tx:∀ e ∈ inN,∀ m ∈ txN,(e == m)=false:=by decide
theorem tx_in:∀ e ∈ txN,∀ m ∈ inN,(e == m)=false:=by decide
theorem bb_eq (a b:ByteArray):(a == b)=decide (a=b):=by
 obtain ⟨x⟩:=a
 obtain ⟨y⟩:=b
 show ByteArray.beq _ _=_
 rw [show ByteArray.beq ⟨x⟩ ⟨y⟩=(x == y) by simp [ByteArray.beq]]
 by_cases h:x=y
 ·subst h; simp
 ·rw [decide_eq_false (by simpa using h)]
  exact beq_eq_false_iff_ne.2 h
theorem tl_bb (a b:ByteArray):(a.toList == b.toList)=(a == b):=by rw [bl_eq,bb_eq]
def isIn (L:List ByteArray) (n:ByteArray):Bool:=L.any fun m=>m == n
theorem zbbr_ {L:List ByteArray} {k:Nat} {e:ByteArray} (he:L[k]?=some e) (n:ByteArray):isIn (L.take (k + 1)) n=(isIn (L.take k) n || e == n):=by
 rw [List.take_add_one,he]
 simp [isIn]
theorem zbbs_ {L:List ByteArray} {n:ByteArray} (h:isIn L n=false):∀ m ∈ L,(n == m)=false:=by
 intro m hm
 rw [isIn,List.any_eq_false] at h
 have:=h m hm
 rw [bb_eq] at this ⊢
 simp only [decide_eq_true_eq] at this
 exact decide_eq_false fun e=>this e.symm
theorem nl_arg (es:List SP):arg0 (nl es)=some (nl es):=zdt_ es
section
variable {D:List SP} {n:ByteArray} {h:H} {base:Nat} {β:Type} {f:Ex × St→Option β} {b:Option β} {B:Body}
theorem col_l0 (hl:D.length≤1000) (hB:B=xcode (run XP) loopW base zky_)
  (hK:∀ s',Sees s' [(1,vs n),(5,nl D),(6,bkV D),(8,.lst 1 (inN.map vs)),(9,.lst 1 (txN.map vs)),(10,vb (isIn inN n)),(11,vb false)]→f (.exit 0,⟨s',h⟩)=b) :
  ∀ s,Sees s [(1,vs n),(5,nl D),(6,bkV D),(8,.lst 1 (inN.map vs)),(9,.lst 1 (txN.map vs)),(10,vb false),(11,vb false),(12,vi 0)]→ob (loopW B ⟨s,h⟩) f=b:=by
 subst hB
 intro s hs
 refine zaf_ inN (fun k s h'=>Sees s [(1,vs n),(5,nl D),(6,bkV D),(8,.lst 1 (inN.map vs)),(9,.lst 1 (txN.map vs)),(10,vb (isIn (inN.take k) n)),(11,vb false),(12,vi k)]∧h'=h) ?_ ?_ _ _ ⟨by simpa [isIn] using hs,rfl⟩
 ·rintro B f' hB hf k e s h' he hk ⟨⟨g1,g5,g6,g8,g9,g10,g11,g12,-⟩,rfl⟩ K
  have hk9:k < 9:=hk
  have hlt:(k:Int) < 9:=by omega
  have hw:IntKind.i64.wrap ((k:Int) + 1)=(k:Int) + 1:=zac_ (by omega) (by omega)
  have hv:Rd h' 1 (.lst 1 (inN.map vs)) (inN.map vs):=.lst _
  obtain ⟨p,hp,hp2⟩:=hv.at1 (i:=k) (e:=vs e) (by simp [he]) rfl
  have li:(inN.map vs).length=9:=rfl
  have hem:=List.mem_of_getElem? he
  have h1:=fun h=>zbat_ h (es:=D) (by omega) he
  have h2:=fun h=>zbas_ h (es:=D) (in_tx e hem)
  have h3:=fun h=>zbjn_ h (v:=nl D) (es:=D) (fun t=>(nl_LV D).rd _) (by omega) he
  have h4:=fun h=>zdgh_ h (v:=sL (D.map fun e=>vi (inF k e))) (w:=sL (D.map fun e=>vi (inF k e))) (xs:=D.map (inF k)) (by rw [List.map_map]; exact sL_rd _ _) (by rw [List.map_map]; exact sL_rd _ _) (by rw [List.length_map]; omega)
  have a1:=zgl_ D
  have a2:=nl_arg D
  have r1:=ztg_ (D.map fun e=>vi (inF k e))
  have r2:=zeu_ (D.map fun e=>vi (inF k e))
  have r3:=zgj_ (D.map fun e=>vi (inF k e))
  have hs:=zbbr_ he n
  rw [zbbr_ he n] at K
  generalize sL (D.map fun e=>vi (inF k e))=S at *
  generalize isIn (inN.take k) n=q at *
  cases q with
  | true =>
   simp -implicitDefEqProofs [hB,zky_,g1,g5,g6,g8,g9,g10,g11,g12,hlt,hp,hp2,li,h1,h2,h3,h4,a1,a2,r1,r2,r3]
   refine K _ _ ⟨?_,rfl⟩
   simp [g1,g5,g6,g8,g9,g10,g11,hw,tl_bb]
  | false =>
   simp -implicitDefEqProofs [hB,zky_,g1,g5,g6,g8,g9,g10,g11,g12,hlt,hp,hp2,li,h1,h2,h3,h4,a1,a2,r1,r2,r3]
   refine K _ _ ⟨?_,rfl⟩
   simp [g1,g5,g6,g8,g9,g10,g11,hw,tl_bb]
 ·rintro B hB s h' ⟨⟨g1,g5,g6,g8,g9,g10,g11,g12,-⟩,rfl⟩
  rw [List.take_length] at g10
  have li:inN.length=9:=rfl
  have li2:(inN.map vs).length=9:=rfl
  rw [li] at g12
  simp -implicitDefEqProofs [hB,zky_,g1,g5,g6,g8,g9,g10,g11,g12,li2]
  exact hK _ (by simp [g1,g5,g6,g8,g9,g10,g11])
theorem col_l1 (hl:D.length≤1000) (hva:∀ e ∈ D,e.Va) {q10:Bool} (hB:B=xcode (run XP) loopW base zkz_)
  (hK:∀ s',Sees s' [(1,vs n),(6,bkV D),(10,vb q10),(11,vb (isIn txN n))]→f (.exit 2,⟨s',h⟩)=b) :
  ∀ s,Sees s [(1,vs n),(5,nl D),(6,bkV D),(9,.lst 1 (txN.map vs)),(10,vb q10),(11,vb false),(17,vi 0)]→ob (loopW B ⟨s,h⟩) f=b:=by
 subst hB
 intro s hs
 refine zaf_ txN (fun k s h'=>Sees s [(1,vs n),(5,nl D),(6,bkV D),(9,.lst 1 (txN.map vs)),(10,vb q10),(11,vb (isIn (txN.take k) n)),(17,vi k)]∧h'=h) ?_ ?_ _ _ ⟨by simpa [isIn] using hs,rfl⟩
 ·rintro B f' hB hf k e s h' he hk ⟨⟨g1,g5,g6,g9,g10,g11,g17,-⟩,rfl⟩ K
  have hk9:k < 3:=hk
  have hlt:(k:Int) < 3:=by omega
  have hw:IntKind.i64.wrap ((k:Int) + 1)=(k:Int) + 1:=zac_ (by omega) (by omega)
  have hv:Rd h' 1 (.lst 1 (txN.map vs)) (txN.map vs):=.lst _
  obtain ⟨p,hp,hp2⟩:=hv.at1 (i:=k) (e:=vs e) (by simp [he]) rfl
  have li:(txN.map vs).length=3:=rfl
  have hem:=List.mem_of_getElem? he
  have h1:=fun h=>zbjk_ h (es:=D) (tx_in e hem)
  have h2:=fun h=>zph_ h (es:=D) (by omega) he
  have h3:=fun h=>zbjm_ h (v:=nl D) (es:=D) (fun t=>(nl_LV D).rd _) (by omega) he
  have h4:=fun h=>ztj_ h (v:=sL (D.map fun e=>vs (txF k e))) (w:=sL (D.map fun e=>vs (txF k e))) (xs:=D.map (txF k)) (by rw [List.map_map]; exact sL_rd _ _) (by rw [List.map_map]; exact sL_rd _ _) (by rw [List.length_map]; omega)
  have h5:=fun h=>zbbn_ h (es:=D) (by omega) he
  have h6:=fun h=>zbau_ h (D.map (txF k)) (by rw [List.length_map]; omega)
  have hdl:=ztk_ (D.map (txF k))
  rw [List.length_map] at hdl
  have h7:=fun h=>ztj_ h (v:=sL ((dic (D.map (txF k))).map fun x=>vs x)) (w:=sL ((dic (D.map (txF k))).map fun x=>vs x)) (xs:=dic (D.map (txF k))) (sL_rd _ _) (sL_rd _ _) (by omega)
  rw [dB_ok hva hl] at h5 h6
  rw [List.map_map] at h6
  have h6':∀ h,run XP zdi_ [sL (D.map fun e=>vs (txF k e))] h=some (.tup [sL ((dic (D.map (txF k))).map fun x=>vs x),vi 0],h):=h6
  have a1:=zgl_ D
  have a2:=nl_arg D
  have r1:=ztg_ (D.map fun e=>vs (txF k e))
  have r2:=zeu_ (D.map fun e=>vs (txF k e))
  have r3:=zgj_ (D.map fun e=>vs (txF k e))
  have r4:=zeu_ ((dic (D.map (txF k))).map fun x=>vs x)
  have r5:=zgj_ ((dic (D.map (txF k))).map fun x=>vs x)
  rw [zbbr_ he n] at K
  clear h6
  generalize sL ((dic (D.map (txF k))).map fun x=>vs x)=S2 at *
  generalize sL (D.map fun e=>vs (txF k e))=S at *
  generalize isIn (txN.take k) n=q at *
  cases q with
  | true =>
   simp -implicitDefEqProofs [hB,zkz_,g1,g5,g6,g9,g10,g11,g17,hlt,hp,hp2,li,h1,h2,h3,h4,h5,h6',h7,a1,a2,r1,r2,r3,r4,r5]
   refine K _ _ ⟨?_,rfl⟩
   simp [g1,g5,g6,g9,g10,g11,hw,tl_bb]
  | false =>
   simp -implicitDefEqProofs [hB,zkz_,g1,g5,g6,g9,g10,g11,g17,hlt,hp,hp2,li,h1,h2,h3,h4,h5,h6',h7,a1,a2,r1,r2,r3,r4,r5]
   refine K _ _ ⟨?_,rfl⟩
   simp [g1,g5,g6,g9,g10,g11,hw,tl_bb]
 ·rintro B hB s h' ⟨⟨g1,g5,g6,g9,g10,g11,g17,-⟩,rfl⟩
  rw [List.take_length] at g11
  have li:txN.length=3:=rfl
  have li2:(txN.map vs).length=3:=rfl
  rw [li] at g17
  simp -implicitDefEqProofs [hB,zkz_,g1,g5,g6,g9,g10,g11,g17,li2]
  exact hK _ (by simp [g1,g6,g10,g11])
end
end Go.Proofs.Sl
namespace Go.Proofs.Sl
theorem zblr_ {L:List ByteArray} {n:ByteArray} (h:isIn L n=true):∃ j:Nat,L[j]?=some n:=by
 rw [isIn,List.any_eq_true] at h
 obtain ⟨m,hm,e⟩:=h
 rw [bb_eq,decide_eq_true_eq] at e
 subst e
 exact List.getElem?_of_mem hm
theorem zdkv_ {s:ST} (hs:s.In) (n:ByteArray):run XP zry_ [s.v,vs n] []=some (vb true,[]):=by
 have hk:=zdjy_
 have hr:=fun h=>zdkq_ hs.pre hs.ok h
 have h9:∀ e ∈ s.recs29,e.R9:=fun e he=>zdko_ hs.ok he
 have hle:=zdkp_ hs.ok
 have hset:=fun h=>zbip_ (h:=h) (nl_LV s.recs29) (zdt_ s.recs29) (zbio_ (nl_LV s.recs29)) rfl (fun e he=>(h9 e he).va.bk.sm) (by omega)
 have hd9:∀ e ∈ dst s.recs29,e.R9:=fun e he=>h9 e (zgh_ he)
 have hdle:=Nat.le_trans (zpf_ s.recs29) hle
 have hstr:=zbap_ s.recs29
 generalize dst s.recs29=D at *
 have hBE:blE D=0:=blE_r9 hd9 (by omega)
 have hBV:blV D=bkV D:=by rw [blV,hBE,zdjw_ hstr]; rfl
 have hbl:=fun h=>zbam_ (SA.lst (nl_LV D) h) (fun e he=>(hd9 e he).va.bk) (fun e he=>(hd9 e he).va.sz) (by omega)
 rw [hBE,hBV] at hbl
 simp only [ite_self] at hbl
 have hnm:=zbjl_
 have r1:=zpg_ s.recs29
 have r2:=zpg_ D
 have a1:=zdt_ s.recs29
 have a2:=zdt_ D
 have a3:=zgl_ D
 have r3:res0 (bkV D)=bkV D:=rfl
 have sT:(lv 3 (slc TR.v s.ts s.tn)).plain=true:=zaq_ _ _
 have sY:(lv 5 (slc SY.v s.ys s.yn)).plain=true:=zaq_ _ _
 rw [run_eq,zcjl_]
 simp only [ST.v] at hr ⊢
 generalize lv 3 (slc TR.v s.ts s.tn)=T at *
 generalize lv 5 (slc SY.v s.ys s.yn)=Y at *
 by_cases hn:20 < n.size
 ·have hn':(20:Int) < n.size:=by omega
  simp -implicitDefEqProofs [zid_,hk,hn,hn',sT,sY]
 ·have hn':¬ (20:Int) < n.size:=by omega
  simp -implicitDefEqProofs [zid_,hk,hn,hn',sT,sY,hr,hset,r1,r2,a1,a2,hbl,hnm,r3]
  refine col_l0 (D:=D) (n:=n) (by omega) rfl ?_ _ (by simp)
  rintro s1 ⟨g1,g5,g6,g8,g9,g10,g11,-⟩
  simp -implicitDefEqProofs [g1,g5,g6,g8,g9,g10,g11]
  refine col_l1 (D:=D) (n:=n) (q10:=isIn inN n) (by omega) (fun e he=>(hd9 e he).va) rfl ?_ _ (by simp [g1,g5,g6,g8,g9,g10,g11])
  clear s1 g1 g5 g6 g8 g9 g10 g11
  rintro s1 ⟨g1,g6,g10,g11,-⟩
  have w0:IntKind.i64.wrap 0=0:=by decide
  have uI:=fun h=>zbjk_ h (es:=D) (n:=n)
  have uS:=fun h=>zbas_ h (es:=D) (n:=n)
  have uD:=fun h=>zdjx_ h (es:=D) (n:=n)
  cases hi:isIn inN n with
  | true =>
   rw [hi] at g10
   obtain ⟨j,hj⟩:=zblr_ hi
   have q1:=fun h=>zbat_ h (es:=D) (by omega) hj
   have q2:=fun h=>uS h (in_tx n (List.mem_of_getElem? hj))
   have q3:=fun h=>uD h (in_tx n (List.mem_of_getElem? hj))
   have z1:=zeu_ (D.map fun e=>vi (inF j e))
   have z2:=(sL_rd [] (D.map fun e=>vi (inF j e))).toL
   generalize sL (D.map fun e=>vi (inF j e))=S at *
   generalize isIn txN n=qq at *
   cases qq <;> simp -implicitDefEqProofs [g1,g6,g10,g11,a3,q1,q2,q3,z1,w0]
  | false =>
   rw [hi] at g10
   have q1:=fun h=>uI h (zbbs_ hi)
   cases ht:isIn txN n with
   | true =>
    rw [ht] at g11
    obtain ⟨j,hj⟩:=zblr_ ht
    have q2:=fun h=>zph_ h (es:=D) (by omega) hj
    have q3:=fun h=>zbbn_ h (es:=D) (by omega) hj
    rw [dB_ok (fun e he=>(hd9 e he).va) (by omega)] at q3
    have z1:=zeu_ (D.map fun e=>vs (txF j e))
    have z2:=zeu_ ((dic (D.map (txF j))).map fun x=>vs x)
    generalize sL ((dic (D.map (txF j))).map fun x=>vs x)=S2 at *
    generalize sL (D.map fun e=>vs (txF j e))=S at *
    simp -implicitDefEqProofs [g1,g6,g10,g11,a3,q1,q2,q3,z1,z2,w0]
   | false =>
    rw [ht] at g11
    have q2:=fun h=>uS h (zbbs_ ht)
    have q3:=fun h=>uD h (zbbs_ ht)
    simp -implicitDefEqProofs [g1,g6,g10,g11,a3,q1,q2,q3,w0]
end Go.Proofs.Sl
