/- A part of the proof. -/
import Derived.Test.YtalalpgkljkdiaaGreatSlT
import Derived.Test.YtalalpgkljkdiaaGreatSlL2
set_option linter.unusedVariables false
set_option linter.unusedSimpArgs false
set_option linter.unnecessarySimpa false
namespace Go.Proofs.Sl
theorem u8n {n:Int} (h:(Lit.int .u8 n).wf=true):∃ m:Nat,n=m∧m < 256:=by
 have:=u8_of h
 exact ⟨n.toNat,by omega,by omega⟩
end Go.Proofs.Sl
namespace Go.Proofs.Sl
theorem slc_of {α:Type} {v:α→V} {o:Option (List V)} {l:List α} (h:o.getD []=l.map v):∃ n:Bool,o=slc v l n∧(n=true→l=[]):=by
 cases o with
 | none =>
  refine ⟨true,rfl,fun _=>?_⟩
  have:l.map v=[]:=h.symm
  simpa using this
 | some es=>exact ⟨false,by simpa [slc] using h,fun h=>by cases h⟩
end Go.Proofs.Sl
namespace Go.Proofs.Sl
abbrev callTy:Ty:=.st [.i .u8,.i .u8,.i .u8,.i .u8,.i .u8,.i .u8,.i .u8,.i .u8,.i .u8,.i .u8,.b]
abbrev treeTy:Ty:=.st [.i .u8,.i .u8,.sl callTy]
abbrev syncTy:Ty:=.st [.i .u8,.i .u8,.i .u8,.i .u8,.i .u8]
abbrev zbbs_:Ty:=.st [.sl treeTy,.ar 4 (.i .i8),.sl syncTy,.i .u8]
theorem i8_of {n:Int} (h:(Lit.int .i8 n).wf=true):-128≤n∧n≤127:=by
 simp only [Lit.wf,Bool.and_eq_true,decide_eq_true_eq] at h
 exact h
theorem zdks_ {x:V} (h:callTy.okV x):∃ p:CL,x=p.v∧p.Ok:=by
 obtain ⟨c,rfl,h0⟩:=okV_st h
 obtain ⟨n,c,rfl,k,h1⟩:=oks_i h0
 obtain ⟨n0,rfl,k0⟩:=u8n k
 obtain ⟨n,c,rfl,k,h2⟩:=oks_i h1
 obtain ⟨n1,rfl,k1⟩:=u8n k
 obtain ⟨n,c,rfl,k,h3⟩:=oks_i h2
 obtain ⟨n2,rfl,k2⟩:=u8n k
 obtain ⟨n,c,rfl,k,h4⟩:=oks_i h3
 obtain ⟨n3,rfl,k3⟩:=u8n k
 obtain ⟨n,c,rfl,k,h5⟩:=oks_i h4
 obtain ⟨n4,rfl,k4⟩:=u8n k
 obtain ⟨n,c,rfl,k,h6⟩:=oks_i h5
 obtain ⟨n5,rfl,k5⟩:=u8n k
 obtain ⟨n,c,rfl,k,h7⟩:=oks_i h6
 obtain ⟨n6,rfl,k6⟩:=u8n k
 obtain ⟨n,c,rfl,k,h8⟩:=oks_i h7
 obtain ⟨n7,rfl,k7⟩:=u8n k
 obtain ⟨n,c,rfl,k,h9⟩:=oks_i h8
 obtain ⟨n8,rfl,k8⟩:=u8n k
 obtain ⟨n,c,rfl,k,h10⟩:=oks_i h9
 obtain ⟨n9,rfl,k9⟩:=u8n k
 obtain ⟨b,c,rfl,h12⟩:=oks_b h10
 obtain rfl:=zqy_ h12
 refine ⟨⟨n0,n1,n2,n3,n4,n5,n6,n7,n8,n9,b⟩,rfl,⟨?_⟩⟩
 simp only [List.mem_cons,List.not_mem_nil,or_false,forall_eq_or_imp,forall_eq]
 exact ⟨k0,k1,k2,k3,k4,k5,k6,k7,k8,k9⟩
structure TR.In (t:TR):Prop where
 sl:t.sl < 256
 st:t.st < 256
 cs:∀ c ∈ t.cs,c.Ok
 n:t.cn=true→t.cs=[]
theorem zdkt_ {x:V} (h:treeTy.okV x):∃ p:TR,x=p.v∧p.In:=by
 obtain ⟨c,rfl,h0⟩:=okV_st h
 obtain ⟨n,c,rfl,k,h1⟩:=oks_i h0
 obtain ⟨n0,rfl,k0⟩:=u8n k
 obtain ⟨n,c,rfl,k,h2⟩:=oks_i h1
 obtain ⟨n1,rfl,k1⟩:=u8n k
 obtain ⟨o1,c,rfl,l1,g1,h3⟩:=oks_sl h2
 obtain rfl:=zqy_ h3
 obtain ⟨cs,e1,p1⟩:=zqx_ fun y hy=>zdks_ (g1 y hy)
 obtain ⟨cn,rfl,z1⟩:=slc_of e1
 exact ⟨⟨n0,n1,cs,cn⟩,rfl,⟨k0,k1,p1,z1⟩⟩
theorem zdku_ {x:V} (h:syncTy.okV x):∃ p:SY,x=p.v∧p.Ok:=by
 obtain ⟨c,rfl,h0⟩:=okV_st h
 obtain ⟨n,c,rfl,k,h1⟩:=oks_i h0
 obtain ⟨n0,rfl,k0⟩:=u8n k
 obtain ⟨n,c,rfl,k,h2⟩:=oks_i h1
 obtain ⟨n1,rfl,k1⟩:=u8n k
 obtain ⟨n,c,rfl,k,h3⟩:=oks_i h2
 obtain ⟨n2,rfl,k2⟩:=u8n k
 obtain ⟨n,c,rfl,k,h4⟩:=oks_i h3
 obtain ⟨n3,rfl,k3⟩:=u8n k
 obtain ⟨n,c,rfl,k,h5⟩:=oks_i h4
 obtain ⟨n4,rfl,k4⟩:=u8n k
 obtain rfl:=zqy_ h5
 refine ⟨⟨n0,n1,n2,n3,n4⟩,rfl,⟨?_⟩⟩
 simp only [List.mem_cons,List.not_mem_nil,or_false,forall_eq_or_imp,forall_eq]
 exact ⟨k0,k1,k2,k3,k4⟩
structure ST.In (s:ST):Prop where
 ts:∀ t ∈ s.ts,t.In
 n:s.tn=true→s.ts=[]
 l:s.ts.length≤9223372036854775807
 ys:∀ y ∈ s.ys,y.Ok
 y:s.yn=true→s.ys=[]
 wr:s.wr < 256
 o:∀ o ∈ [s.o0,s.o1,s.o2,s.o3],-128≤o∧o≤127
theorem zdkv_ {x:V} (h:zbbs_.okV x):∃ p:ST,x=p.v∧p.In:=by
 obtain ⟨c,rfl,h0⟩:=okV_st h
 obtain ⟨o1,c,rfl,l1,g1,h1⟩:=oks_sl h0
 obtain ⟨ns,c,rfl,hn,hw,h2⟩:=oks_ar h1
 obtain ⟨o2,c,rfl,l2,g2,h3⟩:=oks_sl h2
 obtain ⟨n,c,rfl,k,h4⟩:=oks_i h3
 obtain ⟨n0,rfl,k0⟩:=u8n k
 obtain rfl:=zqy_ h4
 obtain ⟨ts,e1,p1⟩:=zqx_ fun y hy=>zdkt_ (g1 y hy)
 obtain ⟨tn,rfl,z1⟩:=slc_of e1
 obtain ⟨ys,e2,p2⟩:=zqx_ fun y hy=>zdku_ (g2 y hy)
 obtain ⟨yn,rfl,z2⟩:=slc_of e2
 match ns,hn with
 | [a,b,c,d],_ =>
  have wl:ts.length≤maxLen:=by rw [e1,List.length_map] at l1; exact l1
  refine ⟨⟨ts,tn,a,b,c,d,ys,yn,n0⟩,rfl,⟨p1,z1,?_,p2,z2,k0,?_⟩⟩
  ·exact zcdm_ wl
  ·simp only [List.mem_cons,List.not_mem_nil,or_false,forall_eq_or_imp,forall_eq] at hw ⊢
   exact ⟨i8_of hw.1,i8_of hw.2.1,i8_of hw.2.2.1,i8_of hw.2.2.2⟩
theorem ST.In.pre {s:ST} (h:s.In):s.Pre:=⟨h.n,h.l,h.y,fun t ht=>(h.ts t ht).n⟩
theorem ST.In.ok {s:ST} (h:s.In) (hs:s.short=true):s.Ok:=by
 unfold ST.short at hs
 rw [Bool.and_eq_true,Bool.and_eq_true,List.all_eq_true,decide_eq_true_eq,decide_eq_true_eq] at hs
 obtain ⟨h1,h2,h3⟩:=hs
 exact ⟨fun t ht=>⟨(h.ts t ht).sl,(h.ts t ht).st,(h.ts t ht).cs,by simpa using h1 t ht,(h.ts t ht).n⟩,h2,h.n,h.ys,h3,h.y,h.wr,h.o⟩
end Go.Proofs.Sl
