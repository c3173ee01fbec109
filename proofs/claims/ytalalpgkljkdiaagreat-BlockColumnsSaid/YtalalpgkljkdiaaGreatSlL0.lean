/- A part of the proof. -/
import Derived.Laws.Strings
import Derived.Sort.AssemblyPlain
import Derived.Test.YtalalpgkljkdiaaGreatSlS
import Derived.Test.YtalalpgkljkdiaaGreatSlP
set_option linter.unusedVariables false
set_option linter.unusedSimpArgs false
set_option linter.unnecessarySimpa false
namespace Go.Proofs.Sl
theorem zcx_ (n:Int):IntKind.u8.wrap n=n % 256:=rfl
theorem zgb_ (n:Int):IntKind.u64.wrap n=n % 18446744073709551616:=rfl
theorem zac_ {n:Int} (h1:-9223372036854775808≤n) (h2:n≤9223372036854775807):IntKind.i64.wrap n=n:=by
 have e:IntKind.i64.wrap n=if n % 18446744073709551616 ≥ 9223372036854775808 then n % 18446744073709551616 - 18446744073709551616 else n % 18446744073709551616:=by
  simp [IntKind.wrap,IntKind.bits,IntKind.signed]
 rw [e]
 split <;> omega
theorem zzr_ (m k:Nat) {kk:IntKind} (hk:k≤kk.bits):(m:Int).fdiv (2 ^ min k kk.bits)=((m / 2 ^ k:Nat):Int):=by
 rw [Nat.min_eq_left hk,Int.fdiv_eq_ediv_of_nonneg _ (Int.le_of_lt (Int.pow_pos (by decide)))]
 simp
def bl (l:List UInt8):List V:=l.map fun b=>.s (.int .u8 b.toNat)
theorem zpc_:∀ l:List UInt8,zdc_ (bl l)=some l
 | []=>rfl
 | b :: l=>by
  show ob (zdc_ (bl l)) _=_
  rw [zpc_ l]
  simp
theorem zcy_ (a:List UInt8):(bl a).length=a.length:=by simp [bl]
theorem zzs_:∀ l:List UInt8,wide 1 (bl l)=true
 | []=>rfl
 | b :: l=>by
  show ((_:Bool) && wide 1 (bl l))=true
  rw [zzs_ l]
  rfl
theorem zzt_:∀ l:List UInt8,V.closed.closeds (bl l)=true
 | []=>rfl
 | b :: l=>by
  show ((_:Bool) && V.closed.closeds (bl l))=true
  rw [zzt_ l]
  rfl
def wc (l:List UInt8):V:=if l=[] then vnil else .own 1 (bl l)
def dig (m:Nat):Nat→List Nat
 | 0=>[]
 | k + 1=>m / 256 ^ k % 256 :: dig m k
def blen (m:Nat):Nat:=if h:m=0 then 0 else blen (m / 256) + 1
termination_by m
decreasing_by omega
theorem zdce_ (h:H) {n:Int} (h1:-9223372036854775808≤n) (h2:n≤9223372036854775807):run XP zvt_ [vi n] h=some (vk .u64 n.natAbs,h):=by
 rw [run_eq,zcfm_]
 by_cases hn:n < 0
 ·simp -implicitDefEqProofs [zja_,hn,zgb_]
  omega
 ·simp -implicitDefEqProofs [zja_,hn,zgb_]
  omega
theorem zjk_:blen 0=0:=by unfold blen; simp
theorem zsz_ {m:Nat} (h:m≠0):blen m=blen (m / 256) + 1:=by conv=>lhs; unfold blen; simp [h]
theorem num_l0 (base:Nat) (h:H) {β:Type} {f:Ex × St→Option β} {b:Option β} {B:Body} (hB:B=xcode (run XP) loopW base zmp_):∀ (m k:Nat) (s:Sl),s 6=vk .u64 m→s 5=vi k→m < 18446744073709551616→k + blen m≤100 →
  (∀ s':Sl,s' 5=vi (k + blen m:Nat)→(∀ t,t < 5→s' t=s t)→f (.exit 0,⟨s',h⟩)=b)→ob (loopW B ⟨s,h⟩) f=b:=by
 have step:∀ st,B st=xcode (run XP) loopW base zmp_ st:=fun st=>by rw [hB]
 intro m
 induction m using Nat.strongRecOn with
 | ind m ih =>
  intro k s h6 h5 hm hk kk
  rw [zbb_]
  by_cases h0:m=0
  ·subst h0
   simp -implicitDefEqProofs [step,zmp_,h6]
   refine kk _ ?_ fun t ht=>?_
   ·simp [h5,zjk_]
   ·simp (disch:=omega) only [upd_ne]
  ·have hp:0 < m:=by omega
   rw [zsz_ h0] at hk kk
   simp -implicitDefEqProofs [step,zmp_,h6,h5,hp]
   rw [zac_ (by omega) (by omega)]
   refine ih (m / 256) (by omega) (k + 1) _ ?_ ?_ (by omega) (by omega) fun s2 h2 h3=>kk s2 ?_ fun t ht=>(h3 t ht).trans ?_
   ·simp only [zvi_]
    rw [zzr_ m 8 (by decide)]
   ·simp
   ·rw [h2]
    have e:k + 1 + blen (m / 256)=k + (blen (m / 256) + 1):=by omega
    rw [e]
   ·simp (disch:=omega) only [upd_ne]
def flipB (neg:Bool) (d:Nat):UInt8:=UInt8.ofNat (if neg=true then 255 - d else d)
theorem zdcf_ (neg:Bool) (d:Nat) (hd:d < 256):xorI .u8 (d:Int) (if neg=true then 255 else 0)=((flipB neg d).toNat:Int):=by
 have:∀ neg:Bool,∀ d:Fin 256,xorI .u8 (d.1:Int) (if neg=true then 255 else 0)=((flipB neg d.1).toNat:Int):=by decide +kernel
 exact this neg ⟨d,hd⟩
theorem num_l1 (base:Nat) (h:H) (l:Nat) (hl:l < h.length) (neg:Bool) (m:Nat) {β:Type} {f:Ex × St→Option β} {b:Option β} {B:Body} (hB:B=xcode (run XP) loopW base zin_):∀ (k:Nat) (bs:List UInt8) (s:Sl),s 0=.ptr l 0→s 4=vk .u64 m→s 7=vk .u8 (if neg=true then 255 else 0)→s 8=vi ((k:Int) - 1)→k≤8→bs≠[] →
  bs.length + k≤100000000001000→(∀ s':Sl,(∀ t,t < 4→s' t=s t)→f (.exit 2,⟨s',h.set l (.box false [wc (bs++(dig m k).map (flipB neg))])⟩)=b) →
  ob (loopW B ⟨s,h.set l (.box false [wc bs])⟩) f=b:=by
 have step:∀ st,B st=xcode (run XP) loopW base zin_ st:=fun st=>by rw [hB]
 intro k
 induction k with
 | zero =>
  intro bs s h0 h4 h7 h8 hk hb hs kk
  rw [zbb_]
  simp -implicitDefEqProofs [step,zin_,h8]
  simp only [dig,List.map_nil,List.append_nil] at kk
  exact kk _ fun t ht=>by simp (disch:=omega) only [upd_ne]
 | succ k ih =>
  intro bs s h0 h4 h7 h8 hk hb hs kk
  have hb':wc bs=.own 1 (bl bs):=by simp [wc,hb]
  rw [zbb_]
  have h8':s 8=vi k:=by rw [h8]; congr 2; omega
  have w8:IntKind.i64.wrap (8 * (k:Int))=8 * (k:Int):=zac_ (by omega) (by omega)
  have p8:(0:Int)≤8 * (k:Int):=by omega
  have hs':bs.length≤140737488355327:=by omega
  have hd:m / 256 ^ k % 256 < 256:=Nat.mod_lt _ (by decide)
  have hmin:min (8 * (k:Int)).toNat IntKind.u64.bits=8 * k:=by
   have:IntKind.u64.bits=64:=rfl
   rw [this]
   omega
  have hpow:(2:Nat) ^ (8 * k)=256 ^ k:=by rw [Nat.pow_mul]
  have hv:IntKind.u8.wrap ((m:Int).fdiv (2 ^ (8 * k)))=((m / 256 ^ k % 256:Nat):Int):=by
   rw [zcx_,Int.fdiv_eq_ediv_of_nonneg _ (Int.le_of_lt (Int.pow_pos (by decide)))]
   have:((2:Int) ^ (8 * k))=((256 ^ k:Nat):Int):=by rw [← hpow]; simp
   rw [this]
   rfl
  have hf:=zdcf_ neg _ hd
  generalize hq:m / 256 ^ k % 256=q at hv hf hd
  simp -implicitDefEqProofs [step,zin_,h0,h4,h7,h8',hb',hl,zcy_,w8,p8,hs',hmin,hv,hf]
  have hcell:V.own 1 (bl bs++[vk .u8 ((flipB neg q).toNat:Int)])=wc (bs++[flipB neg q]):=by simp [wc,bl]
  rw [hcell]
  refine ih (bs++[flipB neg q]) _ ?_ ?_ ?_ ?_ (by omega) (by simp) (by simp; omega) fun s' hs'=>?_
  ·simp [h0]
  ·simp [h4]
  ·simp [h7]
  ·simp only [zvi_]
   rw [zac_ (by omega) (by omega)]
  ·have:=kk s' fun t ht=>(hs' t ht).trans (by simp (disch:=omega) only [upd_ne])
   simpa [dig,hq] using this
theorem zbhb_:∀ (k m:Nat),m < 256 ^ k→blen m≤k
 | 0,m,h=>by
  obtain rfl:m=0:=by simpa using h
  rw [zjk_]
  exact Nat.le_refl _
 | k + 1,m,h=>by
  by_cases h0:m=0
  ·subst h0
   rw [zjk_]
   omega
  ·rw [zsz_ h0]
   have:=zbhb_ k (m / 256) (by rw [Nat.pow_succ] at h; omega)
   omega
def fNum (n:Int):List UInt8:=(if n < 0 then UInt8.ofNat (128 - blen n.natAbs) else UInt8.ofNat (128 + blen n.natAbs)) :: (dig n.natAbs (blen n.natAbs)).map (flipB (decide (n < 0)))
theorem zbhc_ (m:Nat):∀ k,(dig m k).length=k
 | 0=>rfl
 | k + 1=>by simp [dig,zbhc_ m k]
theorem zbhd_ (n:Int):(fNum n).length=1 + blen n.natAbs:=by simp [fNum,zbhc_,Nat.add_comm]
def Rng (n:Int):Prop:=-9223372036854775808≤n∧n≤9223372036854775807
theorem Rng.blen {n:Int} (h:Rng n):Sl.blen n.natAbs≤8:=zbhb_ 8 _ (by have:=h.1; have:=h.2; omega)
theorem zcz_ {n:Int} (h:Rng n):(fNum n).length≤9:=by rw [zbhd_]; have:=h.blen; omega
theorem wc_own {bs:List UInt8} (h:bs≠[]):wc bs=.own 1 (bl bs):=by simp [wc,h]
theorem zes_ {h:H} {l:Nat} {bs:List UInt8} {n:Int} (hl:l < h.length) (hn:Rng n) (hs:bs.length≤100000000000000) :
  run XP zbn_ [.ptr l 0,vi n] (h.set l (.box false [wc bs]))=some (.tup [],h.set l (.box false [wc (bs++fNum n)])):=by
 have hb:=hn.blen
 rw [run_eq,zcfi_]
 have hmag:=zdce_ (h.set l (.box false [wc bs])) hn.1 hn.2
 simp -implicitDefEqProofs [zmq_,hmag]
 refine num_l0 _ _ rfl n.natAbs 0 _ ?_ ?_ ?_ ?_ fun s' h5 hf=>?_
 ·simp
 ·simp
 ·have:=hn.1; have:=hn.2; omega
 ·omega
 have g0:=hf 0 (by omega)
 have g1:=hf 1 (by omega)
 have g4:=hf 4 (by omega)
 simp at g0 g1 g4
 have hlim:bs.length≤140737488355327:=by omega
 obtain ⟨c1,hc1⟩:∃ c:UInt8,c=UInt8.ofNat (128 - blen n.natAbs):=⟨_,rfl⟩
 obtain ⟨c2,hc2⟩:∃ c:UInt8,c=UInt8.ofNat (128 + blen n.natAbs):=⟨_,rfl⟩
 have w1:IntKind.u8.wrap (IntKind.i64.wrap (128 - (blen n.natAbs:Int)))=(c1.toNat:Int):=by
  rw [zac_ (by omega) (by omega),zcx_,hc1]
  simp
  omega
 have w2:IntKind.u8.wrap (IntKind.i64.wrap (128 + (blen n.natAbs:Int)))=(c2.toNat:Int):=by
  rw [zac_ (by omega) (by omega),zcx_,hc2]
  simp
 have w3:IntKind.i64.wrap ((blen n.natAbs:Int) - 1)=(blen n.natAbs:Int) - 1:=zac_ (by omega) (by omega)
 have hcell:∀ b:UInt8,V.own 1 (bl bs++[vk .u8 (b.toNat:Int)])=wc (bs++[b]):=fun b=>by simp [wc,bl]
 have hcell0:∀ b:UInt8,V.own 1 ([vk .u8 (b.toNat:Int)])=wc ([b]):=fun b=>by simp [wc,bl]
 have fin:∀ (neg:Bool) (c:UInt8) (s':Sl) (t:H),neg=decide (n < 0)→c=(if neg=true then c1 else c2)→s' 0=.ptr l 0→s' 4=vk .u64 n.natAbs→s' 7=vk .u8 (if neg=true then 255 else 0)→s' 8=vi ((blen n.natAbs:Int) - 1) →
   (ob (loopW (xcode (run XP) loopW h.length zin_) ⟨s',(h++t).set l (.box false [wc (bs++[c])])⟩) fun a=>backR [] (List.set h l (O.box false [wc bs])) (outOf 2 a))=some (.tup [],h.set l (.box false [wc (bs++fNum n)])):=by
  intro neg c s' t hneg hc e0 e4 e7 e8
  refine num_l1 _ (h++t) l (by simp; omega) neg n.natAbs rfl (blen n.natAbs) (bs++[c]) _ e0 e4 e7 e8 hb (by simp) (by simp; omega) fun s2 h2=>?_
  rw [zhh_ hl]
  simp -implicitDefEqProofs [fNum,hneg,hc,hc1,hc2]
 by_cases hb0:bs=[]
 ·subst hb0
  have hw:wc []=vnil:=by simp [wc]
  rw [hw] at fin
  simp only [zhh_ hl,List.nil_append] at fin
  by_cases hneg:n < 0
  ·simp -implicitDefEqProofs [h5,g0,g1,g4,hneg,hl,hw,w1,w3,hcell0,zqt_,zhh_]
   apply fin true c1 _ [.dead] <;> simp [g0,g4,hneg]
  ·simp -implicitDefEqProofs [h5,g0,g1,g4,hneg,hl,hw,w2,w3,hcell0,zqt_,zhh_]
   apply fin false c2 _ [.dead] <;> simp [g0,g4,hneg]
 ·have hw:=wc_own hb0
  have fin':=fun neg c s'=>fin neg c s' []
  rw [List.append_nil,hw] at fin'
  by_cases hneg:n < 0
  ·simp -implicitDefEqProofs [h5,g0,g1,g4,hneg,hl,hw,w1,w3,hlim,zcy_,hcell]
   apply fin' true c1 <;> simp [g0,g4,hneg]
  ·simp -implicitDefEqProofs [h5,g0,g1,g4,hneg,hl,hw,w2,w3,hlim,zcy_,hcell]
   apply fin' false c2 <;> simp [g0,g4,hneg]
end Go.Proofs.Sl
namespace Go.Proofs.Sl
def bts (s:ByteArray):List UInt8:=s.data.toList
theorem zzu_ (s:ByteArray):(bts s).length=s.size:=by rw [bts,Array.length_toList]; rfl
theorem zbhe_ (s:ByteArray):zdu_ s=bl (bts s):=rfl
theorem bl_nil {l:List UInt8}:bl l=[]↔l=[]:=by simp [bl]
def fText (s:ByteArray):List UInt8:=fNum s.size++bts s
theorem zet_ {n:Nat} (h:n≤1000000000000000):Rng n:=⟨by omega,by omega⟩
theorem W_text {h:H} {l:Nat} {bs:List UInt8} {s:ByteArray} (hl:l < h.length) (hs:bs.length + s.size≤90000000000000) :
  run XP zek_ [.ptr l 0,vs s] (h.set l (.box false [wc bs]))=some (.tup [],h.set l (.box false [wc (bs++fText s)])):=by
 have hr:Rng s.size:=zet_ (by omega)
 have hn:=zes_ (h:=h) (l:=l) (bs:=bs) hl hr (by omega)
 have hle:=zcz_ hr
 have hne:bs++fNum s.size≠[]:=by simp [fNum]
 have hw:=wc_own hne
 have hlim:bs.length + (fNum s.size).length + s.size≤140737488355328:=by omega
 have hlim':bs.length + (fNum s.size).length≤140737488355328:=by omega
 rw [run_eq,zcfl_]
 by_cases h0:bts s=[]
 ·simp -implicitDefEqProofs [zio_,hn,hl,hw,zbhe_,zzs_,zzt_,zcy_,zzu_,hlim,hlim',fText,bl_nil,h0]
 ·have hne2:bs++(fNum s.size++bts s)≠[]:=by simp [fNum]
  have hz:¬ s=ByteArray.empty:=fun e=>h0 (by rw [e]; rfl)
  simp -implicitDefEqProofs [zio_,hn,hl,hw,zbhe_,zzs_,zzt_,zcy_,zzu_,hlim,hlim',fText,bl_nil,h0,hz,wc_own hne2]
  simp only [bl,List.map_append,List.append_assoc]
theorem zgc_ {h t:H} {l:Nat} {bs:List UInt8} {n:Int} (hl:l < h.length) (hn:Rng n) (hs:bs.length≤100000000000000) :
  run XP zbn_ [.ptr l 0,vi n] (h.set l (.box false [wc bs])++t)=some (.tup [],h.set l (.box false [wc (bs++fNum n)])++t):=by
 have:=zes_ (h:=h++t) (l:=l) (bs:=bs) (by simp; omega) hn hs
 simpa only [zhh_ hl] using this
theorem zdcg_ {h t:H} {l:Nat} {bs:List UInt8} {s:ByteArray} (hl:l < h.length) (hs:bs.length + s.size≤90000000000000) :
  run XP zek_ [.ptr l 0,vs s] (h.set l (.box false [wc bs])++t)=some (.tup [],h.set l (.box false [wc (bs++fText s)])++t):=by
 have:=W_text (h:=h++t) (l:=l) (bs:=bs) (s:=s) (by simp; omega) hs
 simpa only [zhh_ hl] using this
def fNums:List Int→List UInt8
 | []=>[]
 | n :: r=>fNum n++fNums r
def il (l:List Int):List V:=l.map vi
theorem zta_:∀ {ns:List Int},(∀ n ∈ ns,Rng n)→(fNums ns).length≤9 * ns.length
 | [],_=>by simp [fNums]
 | n :: r,h=>by
  have h1:=zcz_ (h n (by simp))
  have h2:=zta_ (ns:=r) fun m hm=>h m (List.mem_cons_of_mem _ hm)
  simp [fNums]
  omega
def fBool (b:Bool):List UInt8:=fNum (if b=true then 1 else 0)
structure AV where
 k:Int
 t:ByteArray
 n:Int
def AV.v (a:AV):V:=.agg [vi a.k,vs a.t,vi a.n]
structure AV.Ok (a:AV):Prop where
 k:Rng a.k
 t:a.t.size≤5000
 n:Rng a.n
def AV.f (a:AV):List UInt8:=fNum a.k++(fText a.t++fNum a.n)
structure AT where
 key:ByteArray
 val:AV
def AT.v (a:AT):V:=.agg [vs a.key,vi a.val.k,vs a.val.t,vi a.val.n]
structure AT.Ok (a:AT):Prop where
 key:a.key.size≤5000
 val:a.val.Ok
def AT.f (a:AT):List UInt8:=fText a.key++a.val.f
structure RF where
 t:Int
 i:Int
def RF.v (a:RF):V:=.agg [vi a.t,vi a.i]
structure RF.Ok (a:RF):Prop where
 t:Rng a.t
 i:Rng a.i
def RF.f (a:RF):List UInt8:=fNums [a.t,a.i]
structure EX where
 fr:Int
 to:Int
 sent:Int
 rcv:Int
 least:Int
def EX.v (a:EX):V:=.agg [vi a.fr,vi a.to,vi a.sent,vi a.rcv,vi a.least]
structure EX.Ok (a:EX):Prop where
 fr:Rng a.fr
 to:Rng a.to
 sent:Rng a.sent
 rcv:Rng a.rcv
 least:Rng a.least
def EX.f (a:EX):List UInt8:=fNums [a.fr,a.to,a.sent,a.rcv,a.least]
structure MS where
 k:Int
 a:RF
 b:RF
 x:EX
def MS.v (a:MS):V:=.agg [vi a.k,vi a.a.t,vi a.a.i,vi a.b.t,vi a.b.i,vi a.x.fr,vi a.x.to,vi a.x.sent,vi a.x.rcv,vi a.x.least]
structure MS.Ok (m:MS):Prop where
 k:Rng m.k
 a:m.a.Ok
 b:m.b.Ok
 x:m.x.Ok
def MS.f (a:MS):List UInt8:=fNum a.k++(a.a.f++(a.b.f++a.x.f))
end Go.Proofs.Sl
namespace Go.Proofs.Sl
def fList {α:Type} (f:α→List UInt8) (l:List α):List UInt8:=fNum l.length++l.flatMap f
theorem zbhf_ {h:H} {l:Nat} {bs:List UInt8} (hl:h[l]?=some (.box false [wc bs])):run XP zhi_ [.ptr l 0] h=some (vs ⟨bs.toArray⟩,h):=by
 rw [run_eq,zcfj_]
 by_cases hb:bs=[]
 ·subst hb
  have hw:wc []=vnil:=by simp [wc]
  simp -implicitDefEqProofs [zip_,hl,hw,zdc_]
 ·simp -implicitDefEqProofs [zip_,hl,wc_own hb,zpc_]
end Go.Proofs.Sl
namespace Go.Proofs.Sl
structure SP where
 tr:Int
 id:Int
 par:Int
 rev:Int
 clk:Int
 kind:Int
 sv:ByteArray
 vr:ByteArray
 op:ByteArray
 st:Int
 en:Int
 er:Bool
 ats:List AT
 lks:List RF
 an:Bool
 ln:Bool
def slc {α:Type} (v:α→V) (l:List α) (n:Bool):Option (List V):=if n=true then none else some (l.map v)
def SP.v (a:SP):V:=.agg [vi a.tr,vi a.id,vi a.par,vi a.rev,vi a.clk,vi a.kind,vs a.sv,vs a.vr,vs a.op,vi a.st,vi a.en,vb a.er,lv 4 (slc AT.v a.ats a.an),lv 2 (slc RF.v a.lks a.ln)]
structure SP.Ok (a:SP):Prop where
 n:∀ n ∈ [a.tr,a.id,a.par,a.rev,a.clk,a.kind,a.st,a.en],Rng n
 sv:a.sv.size≤5000
 vr:a.vr.size≤5000
 op:a.op.size≤5000
 ats:∀ e ∈ a.ats,e.Ok
 lks:∀ e ∈ a.lks,e.Ok
 al:a.ats.length≤1000
 ll:a.lks.length≤1000
 an:a.an=true→a.ats=[]
 ln:a.ln=true→a.lks=[]
theorem zzv_ {α:Type} {v:α→V} {l:List α} {n:Bool} (h:n=true→l=[]):(slc v l n).getD []=l.map v:=by
 cases n with
 | true=>rw [h rfl]; rfl
 | false=>rfl
def SP.f (a:SP):List UInt8:=fNums [a.tr,a.id,a.par,a.rev,a.clk,a.kind]++(fText a.sv++(fText a.vr++(fText a.op++(fNums [a.st,a.en]++(fBool a.er++(fList AT.f a.ats++fList RF.f a.lks))))))
end Go.Proofs.Sl
namespace Go.Proofs.Sl
end Go.Proofs.Sl
namespace Go.Proofs.Sl
end Go.Proofs.Sl
namespace Go.Proofs.Sl
def rd (s:ByteArray) (a:Nat) (e:Int):O:=.box false [vs s,vi a,vi e]
end Go.Proofs.Sl
namespace Go.Proofs.Sl
theorem Rng.zero:Rng 0:=⟨by decide,by decide⟩
section
variable {h t:H} {l:Nat} {s:ByteArray} {a:Nat} {e:Int}
end
end Go.Proofs.Sl
namespace Go.Proofs.Sl
section
variable {h t:H} {l:Nat} {s:ByteArray} {a:Nat} {e:Int}
theorem bone {n:Int} (h1:0 < n) (h2:n < 256):blen n.natAbs=1:=by
 have:n.natAbs / 256=0:=by omega
 rw [zsz_ (by omega),this,zjk_]
theorem b3:fNum 3=[129,3]:=by
 unfold fNum
 rw [bone (by decide) (by decide)]
 decide +kernel
theorem b1:fNum 1=[129,1]:=by
 unfold fNum
 rw [bone (by decide) (by decide)]
 decide +kernel
theorem b0:fNum 0=[128]:=by
 have:blen (Int.natAbs 0)=0:=zjk_
 unfold fNum
 rw [this]
 decide +kernel
end
end Go.Proofs.Sl
namespace Go.Proofs.Sl
def Cut (u v:List UInt8):Prop:=∃ p a b x y,u=p++a :: x∧v=p++b :: y∧a < b
theorem Cut.take {u v:List UInt8} (h:Cut u v):u.take (min u.length v.length)≠v.take (min u.length v.length):=by
 obtain ⟨p,a,b,x,y,rfl,rfl,hab⟩:=h
 intro e
 have e1:=congrArg (·[p.length]?) e
 simp only [List.getElem?_take] at e1
 rw [if_pos (by simp),if_pos (by simp)] at e1
 simp at e1
 subst e1
 exact absurd hab (by simp)
theorem zbhg_ (l:List UInt8):(⟨l.toArray⟩:ByteArray).toList=l:=by
 rw [ByteArray.toList_eq]
theorem zzw_ (l:List UInt8):(⟨l.toArray⟩:ByteArray).size=l.length:=by
 show l.toArray.size=_
 simp
theorem zzx_:∀ l:List UInt8,Op.bytesLess l l=false
 | []=>rfl
 | a :: l=>by simp [Op.bytesLess,zzx_ l]
end Go.Proofs.Sl
namespace Go.Proofs.Sl
open Go
theorem zbhh_ (x:List UInt8):Op.bytesLess x []=false:=by cases x <;> rfl
theorem zzy_:∀ {x y z:List UInt8},Op.bytesLess x y=true→Op.bytesLess y z=true→Op.bytesLess x z=true
 | _,[],_,h,_=>by rw [zbhh_] at h; cases h
 | _,_ :: _,[],_,h=>by rw [zbhh_] at h; cases h
 | [],_ :: _,_ :: _,_,_=>rfl
 | a :: x,b :: y,c :: z,h,k=>by
  simp only [Op.bytesLess,Bool.or_eq_true,Bool.and_eq_true,decide_eq_true_eq,beq_iff_eq] at h k ⊢
  rcases h with h | ⟨rfl,h⟩ <;> rcases k with k | ⟨rfl,k⟩
  ·exact .inl (UInt8.lt_trans h k)
  ·exact .inl h
  ·exact .inl k
  ·exact .inr ⟨rfl,zzy_ h k⟩
theorem zzz_:∀ (x y:List UInt8),Op.bytesLess x y=false→Op.bytesLess y x=false→x=y
 | [],[],_,_=>rfl
 | [],_ :: _,h,_=>by cases h
 | _ :: _,[],_,h=>by cases h
 | a :: x,b :: y,h,k=>by
  simp only [Op.bytesLess,Bool.or_eq_false_iff,decide_eq_false_iff_not,Bool.and_eq_false_iff,beq_eq_false_iff_ne] at h k
  have hab:a=b:=UInt8.le_antisymm (UInt8.not_lt.1 k.1) (UInt8.not_lt.1 h.1)
  subst hab
  rw [zzz_ x y (by rcases h.2 with h | h; exact absurd rfl h; exact h) (by rcases k.2 with h | h; exact absurd rfl h; exact h)]
theorem zbaa_ {x y:List UInt8} (h:Op.bytesLess x y=true):Op.bytesLess y x=false:=by
 cases k:Op.bytesLess y x with
 | false=>rfl
 | true=>have:=zzy_ h k; rw [zzx_] at this; cases this
def sgn (a b:Int):Int:=if a < b then -1 else if b < a then 1 else 0
def wrd (a b:ByteArray):Int:=if Op.bytesLess a.toList b.toList=true then -1 else if Op.bytesLess b.toList a.toList=true then 1 else 0
def orl:List Int→Int
 | []=>0
 | n :: l=>if n≠0 then n else orl l
theorem zdch_ (a b:List Int):orl (a++b)=if orl a≠0 then orl a else orl b:=by
 induction a with
 | nil=>simp [orl]
 | cons n a ih =>
  simp only [List.cons_append,orl,ih]
  by_cases h:n=0 <;> simp [h]
structure Cm {α:Type} (f:α→α→Int):Prop where
 anti:∀ x y,f y x=-f x y
 trans:∀ x y z,f x y≤0→f y z≤0→f x z≤0
section
variable {α β:Type} {f g:α→α→Int}
theorem Cm.self (c:Cm f) (x:α):f x x=0:=by have:=c.anti x x; omega
theorem Cm.lt_of_lt_le (c:Cm f) {x y z:α} (h:f x y < 0) (k:f y z≤0):f x z < 0:=by
 have h1:=c.trans x y z (by omega) k
 rcases Int.lt_or_eq_of_le h1 with h2 | h2
 ·exact h2
 ·have h3:=c.trans y z x k (by rw [c.anti x z]; omega)
  rw [c.anti x y] at h3
  omega
theorem Cm.lt_of_le_lt (c:Cm f) {x y z:α} (h:f x y≤0) (k:f y z < 0):f x z < 0:=by
 have h1:=c.trans x y z h (by omega)
 rcases Int.lt_or_eq_of_le h1 with h2 | h2
 ·exact h2
 ·have h3:=c.trans z x y (by rw [c.anti x z]; omega) h
  rw [c.anti y z] at h3
  omega
theorem Cm.eq_trans (c:Cm f) {x y z:α} (h:f x y=0) (k:f y z=0):f x z=0:=by
 have h1:=c.trans x y z (by omega) (by omega)
 have h2:=c.trans z y x (by rw [c.anti y z]; omega) (by rw [c.anti x y]; omega)
 rw [c.anti x z] at h2
 omega
theorem Cm.key {f:β→β→Int} (c:Cm f) (k:α→β):Cm fun x y=>f (k x) (k y):=⟨fun x y=>c.anti _ _,fun x y z=>c.trans _ _ _⟩
theorem Cm.zero:Cm fun (_ _:α)=>(0:Int):=⟨fun _ _=>rfl,fun _ _ _ _ _=>Int.le_refl _⟩
theorem Cm.lex (c:Cm f) (d:Cm g):Cm fun x y=>if f x y≠0 then f x y else g x y where
 anti:=fun x y=>by
  rw [c.anti x y,d.anti x y]
  by_cases h:f x y=0 <;> simp [h]
 trans:=fun x y z h k=>by
  by_cases h1:f x y=0 <;> by_cases h2:f y z=0
  ·rw [if_neg (by simpa using h1)] at h
   rw [if_neg (by simpa using h2)] at k
   rw [if_neg (by simpa using c.eq_trans h1 h2)]
   exact d.trans _ _ _ h k
  ·rw [if_pos h2] at k
   have:=c.lt_of_le_lt (x:=x) (y:=y) (z:=z) (by omega) (by omega)
   rw [if_pos (by omega)]
   omega
  ·rw [if_pos h1] at h
   have:=c.lt_of_lt_le (x:=x) (y:=y) (z:=z) (by omega) (by omega)
   rw [if_pos (by omega)]
   omega
  ·rw [if_pos h1] at h
   rw [if_pos h2] at k
   have:=c.lt_of_lt_le (x:=x) (y:=y) (z:=z) (by omega) (by omega)
   rw [if_pos (by omega)]
   omega
theorem Cm.orl_nil:Cm fun (_ _:α)=>orl []:=Cm.zero
theorem Cm.orl_cons {fs:List (α→α→Int)} (c:Cm f) (d:Cm fun x y=>orl (fs.map fun g=>g x y)):Cm fun x y=>orl ((f :: fs).map fun g=>g x y):=by
 have:=c.lex d
 simpa only [List.map_cons,orl] using this
end
theorem sgn_cm:Cm sgn where
 anti:=fun x y=>by unfold sgn; split <;> split <;> omega
 trans:=fun x y z h k=>by unfold sgn at *; split at h <;> split at k <;> (try split at h) <;> (try split at k) <;> split <;> (try split) <;> omega
theorem wrd_cm:Cm wrd where
 anti:=fun x y=>by
  unfold wrd
  cases h:Op.bytesLess x.toList y.toList <;> cases k:Op.bytesLess y.toList x.toList <;> simp
  have:=zbaa_ h
  rw [k] at this
  cases this
 trans:=fun x y z h k=>by
  have key:∀ a b:ByteArray,wrd a b≤0↔Op.bytesLess b.toList a.toList=false:=fun a b=>by
   unfold wrd
   cases h:Op.bytesLess a.toList b.toList <;> cases k:Op.bytesLess b.toList a.toList <;> simp
   have:=zbaa_ h
   rw [k] at this
   cases this
  rw [key] at h k ⊢
  cases e:Op.bytesLess z.toList x.toList with
  | false=>rfl
  | true =>
   cases e1:Op.bytesLess x.toList y.toList with
   | true=>rw [zzy_ e e1] at k; cases k
   | false =>
    have:=zzz_ _ _ e1 h
    rw [this] at e
    rw [e] at k
    cases k
def lexc {α:Type} (f:α→α→Int):List α→List α→Int
 | [],[]=>0
 | [],_ :: _=>-1
 | _ :: _,[]=>1
 | a :: r,b :: s=>if f a b≠0 then f a b else lexc f r s
theorem zbhi_ {α:Type} {f:α→α→Int} (c:Cm f):∀ x y:List α,lexc f y x=-lexc f x y
 | [],[]=>rfl
 | [],_ :: _=>rfl
 | _ :: _,[]=>rfl
 | a :: x,b :: y=>by
  simp only [lexc]
  rw [c.anti a b,zbhi_ c x y]
  by_cases h:f a b=0 <;> simp [h]
theorem zbhj_ {α:Type} {f:α→α→Int} (c:Cm f):∀ x y z:List α,lexc f x y≤0→lexc f y z≤0→lexc f x z≤0
 | [],_,[],_,_=>by simp [lexc]
 | [],_,_ :: _,_,_=>by simp [lexc]
 | _ :: _,[],_,h,_=>by simp [lexc] at h
 | _,_ :: _,[],_,h=>by simp [lexc] at h
 | a :: x,b :: y,d :: z,h,k=>by
  simp only [lexc] at h k ⊢
  by_cases h1:f a b=0 <;> by_cases h2:f b d=0
  ·rw [if_neg (by simpa using h1)] at h
   rw [if_neg (by simpa using h2)] at k
   rw [if_neg (by simpa using c.eq_trans h1 h2)]
   exact zbhj_ c _ _ _ h k
  ·rw [if_pos h2] at k
   have:=c.lt_of_le_lt (x:=a) (y:=b) (z:=d) (by omega) (by omega)
   rw [if_pos (by omega)]
   omega
  ·rw [if_pos h1] at h
   have:=c.lt_of_lt_le (x:=a) (y:=b) (z:=d) (by omega) (by omega)
   rw [if_pos (by omega)]
   omega
  ·rw [if_pos h1] at h
   rw [if_pos h2] at k
   have:=c.lt_of_lt_le (x:=a) (y:=b) (z:=d) (by omega) (by omega)
   rw [if_pos (by omega)]
   omega
theorem zbhk_ {α:Type} {f:α→α→Int} (c:Cm f):Cm (lexc f):=⟨zbhi_ c,zbhj_ c⟩
def flg (b:Bool):Int:=if b=true then 1 else 0
def cmpV (a b:AV):Int:=orl [sgn a.k b.k,wrd a.t b.t,sgn a.n b.n]
def cmpA (a b:AT):Int:=orl [wrd a.key b.key,cmpV a.val b.val]
def cmpR (a b:RF):Int:=orl [sgn a.t b.t,sgn a.i b.i]
def cmpS (a b:SP):Int:=orl [sgn a.tr b.tr,sgn a.id b.id,sgn a.rev b.rev,sgn a.par b.par,sgn a.clk b.clk,sgn a.kind b.kind,wrd a.sv b.sv,wrd a.vr b.vr,wrd a.op b.op,sgn a.st b.st,sgn a.en b.en,sgn (flg a.er) (flg b.er),
 lexc cmpA a.ats b.ats,lexc cmpR a.lks b.lks]
theorem zdci_:Cm cmpV:=Cm.orl_cons (f:=fun a b:AV=>sgn a.k b.k) (fs:=[fun a b:AV=>wrd a.t b.t,fun a b:AV=>sgn a.n b.n]) (sgn_cm.key _) (Cm.orl_cons (wrd_cm.key _) (Cm.orl_cons (fs:=[]) (sgn_cm.key _) Cm.orl_nil))
theorem zdcj_:Cm cmpA:=Cm.orl_cons (f:=fun a b:AT=>wrd a.key b.key) (fs:=[fun a b:AT=>cmpV a.val b.val]) (wrd_cm.key _) (Cm.orl_cons (fs:=[]) (zdci_.key _) Cm.orl_nil)
theorem zdck_:Cm cmpR:=Cm.orl_cons (f:=fun a b:RF=>sgn a.t b.t) (fs:=[fun a b:RF=>sgn a.i b.i]) (sgn_cm.key _) (Cm.orl_cons (fs:=[]) (sgn_cm.key _) Cm.orl_nil)
theorem zbs_:Cm cmpS :=
 Cm.orl_cons (f:=fun a b:SP=>sgn a.tr b.tr) (fs:=[fun a b:SP=>sgn a.id b.id,fun a b:SP=>sgn a.rev b.rev,fun a b:SP=>sgn a.par b.par,fun a b:SP=>sgn a.clk b.clk,fun a b:SP=>sgn a.kind b.kind,fun a b:SP=>wrd a.sv b.sv,fun a b:SP=>wrd a.vr b.vr,fun a b:SP=>wrd a.op b.op,
  fun a b:SP=>sgn a.st b.st,fun a b:SP=>sgn a.en b.en,fun a b:SP=>sgn (flg a.er) (flg b.er),fun a b:SP=>lexc cmpA a.ats b.ats,fun a b:SP=>lexc cmpR a.lks b.lks]) (sgn_cm.key _)
 (Cm.orl_cons (sgn_cm.key _) (Cm.orl_cons (sgn_cm.key _) (Cm.orl_cons (sgn_cm.key _) (Cm.orl_cons (sgn_cm.key _) (Cm.orl_cons (sgn_cm.key _) (Cm.orl_cons (wrd_cm.key _) (Cm.orl_cons (wrd_cm.key _) (Cm.orl_cons (wrd_cm.key _)
 (Cm.orl_cons (sgn_cm.key _) (Cm.orl_cons (sgn_cm.key _) (Cm.orl_cons (sgn_cm.key fun a:SP=>flg a.er) (Cm.orl_cons ((zbhk_ zdcj_).key _) (Cm.orl_cons (fs:=[]) ((zbhk_ zdck_).key _) Cm.orl_nil)))))))))))))
theorem zbhl_:∀ {l:List Int},orl l=0↔∀ n ∈ l,n=0
 | []=>by simp [orl]
 | n :: l=>by
  simp only [orl,List.mem_cons,forall_eq_or_imp]
  by_cases h:n=0
  ·simp [h,zbhl_]
  ·simp [h]
end Go.Proofs.Sl
namespace Go.Proofs.Sl
def lek:Nat→Nat→List Nat
 | _,0=>[]
 | m,k + 1=>m % 256 :: lek (m / 256) k
theorem zbhm_:∀ k m,lek m (k + 1)=lek m k++[m / 256 ^ k % 256]
 | 0,m=>by simp [lek]
 | k + 1,m=>by
  have:=zbhm_ k (m / 256)
  rw [show lek m (k + 1 + 1)=m % 256 :: lek (m / 256) (k + 1) from rfl,this]
  simp [lek,Nat.div_div_eq_div_mul,Nat.pow_succ,Nat.mul_comm]
theorem zbhn_:∀ k m,dig m k=(lek m k).reverse
 | 0,m=>rfl
 | k + 1,m=>by rw [zbhm_,List.reverse_append,← zbhn_ k m]; rfl
theorem zbho_:∀ k m,(lek m k).length=k
 | 0,m=>rfl
 | k + 1,m=>by simp [lek,zbho_ k]
theorem lek_lt:∀ k m d,d ∈ lek m k→d < 256
 | 0,m,d,h=>by simp [lek] at h
 | k + 1,m,d,h=>by
  simp only [lek,List.mem_cons] at h
  rcases h with rfl | h
  ·exact Nat.mod_lt _ (by decide)
  ·exact lek_lt k _ _ h
def nb (l:List Nat):List V:=l.map fun d:Nat=>vk .u8 (d:Int)
theorem zgd_ (l:List Nat):(nb l).length=l.length:=by simp [nb]
theorem zdcl_ (h:H) {n:Int} (hn:Rng n):run XP zvu_ [vi n] h=some (vk .u64 n.natAbs,h):=by
 obtain ⟨h1,h2⟩:=hn
 rw [run_eq,zcfn_]
 by_cases hneg:n < 0
 ·have w1:IntKind.i64.wrap (n + 1)=n + 1:=zac_ (by omega) (by omega)
  have w2:IntKind.i64.wrap (-(n + 1))=-(n + 1):=zac_ (by omega) (by omega)
  simp -implicitDefEqProofs [ziy_,hneg,w1,w2,zgb_]
  omega
 ·simp -implicitDefEqProofs [ziy_,hneg,zgb_]
  omega
def lowV (h:H) (l:List Nat):V:=if l=[] then vnil else .ref h.length l.length
def lowT (l:List Nat):H:=if l=[] then [] else [.arr false 1 (nb l)]
theorem zdcm_ (base:Nat) (h:H) {β:Type} {f:Ex × St→Option β} {b:Option β} {B:Body} (hB:B=xcode (run XP) loopW base zfs_) :
  ∀ (m:Nat) (low:List Nat) (s:Sl),s 4=vk .u64 m→s 3=lowV h low→m < 18446744073709551616→low.length + blen m≤100 →
  (∀ s':Sl,s' 3=lowV h (low++lek m (blen m))→(∀ t,t < 3→s' t=s t)→f (.exit 0,⟨s',h++lowT (low++lek m (blen m))⟩)=b)→ob (loopW B ⟨s,h++lowT low⟩) f=b:=by
 have step:∀ st,B st=xcode (run XP) loopW base zfs_ st:=fun st=>by rw [hB]
 intro m
 induction m using Nat.strongRecOn with
 | ind m ih =>
  intro low s h4 h3 hm hl kk
  rw [zbb_]
  by_cases h0:m=0
  ·subst h0
   simp only [zjk_,lek,List.append_nil] at kk
   simp -implicitDefEqProofs [step,zfs_,h4]
   exact kk _ (by simp [h3]) fun t ht=>by simp (disch:=omega) only [upd_ne]
  ·have hp:0 < m:=by omega
   rw [zsz_ h0] at hl kk
   have w1:IntKind.u8.wrap ((m:Int).tmod 256)=((m % 256:Nat):Int):=by
    rw [zcx_,Int.tmod_eq_emod_of_nonneg (by omega)]
    omega
   have w2:IntKind.u64.wrap ((m:Int).tdiv 256)=((m / 256:Nat):Int):=by
    rw [zgb_,Int.tdiv_eq_ediv_of_nonneg (by omega)]
    omega
   have htm:(m:Int).tmod 256=(m:Int) % 256:=Int.tmod_eq_emod_of_nonneg (by omega)
   have w1':IntKind.u8.wrap ((m:Int) % 256)=(m:Int) % 256:=by rw [zcx_]; omega
   have w2':IntKind.u64.wrap ((m:Int) / 256)=(m:Int) / 256:=by rw [zgb_]; omega
   have next:∀ s2:Sl,s2 4=vk .u64 (m / 256:Nat)→s2 3=lowV h (low++[m % 256])→(∀ t,t < 3→s2 t=s t)→ob (loopW B ⟨s2,h++lowT (low++[m % 256])⟩) f=b:=by
    intro s2 g4 g3 gf
    refine ih (m / 256) (by omega) (low++[m % 256]) s2 g4 g3 (by omega) (by simp; omega) fun s' e3 ef=>?_
    have:=kk s' (by rw [e3]; simp [lek]) fun t ht=>(ef t ht).trans (gf t ht)
    simpa [lek] using this
   by_cases hlow:low=[]
   ·subst hlow
    have e1:lowV h []=vnil:=rfl
    have e2:lowT []=[]:=rfl
    rw [e1] at h3
    rw [e2,List.append_nil]
    simp -implicitDefEqProofs [step,zfs_,h4,h3,hp,htm,w1',w2']
    have e3:lowT ([]++[m % 256])=[.arr false 1 [vk .u8 ((m % 256:Nat):Int)]]:=rfl
    rw [e3] at next
    simp only [Int.natCast_emod,Int.natCast_ediv,Int.cast_ofNat_Int] at next ⊢
    apply next
    ·simp
    ·simp [lowV]
    ·intro t ht
     simp (disch:=omega) only [upd_ne]
   ·have e1:lowV h low=.ref h.length low.length:=by simp [lowV,hlow]
    have e2:lowT low=[.arr false 1 (nb low)]:=by simp [lowT,hlow]
    have hlim:low.length≤140737488355327:=by omega
    rw [e1] at h3
    rw [e2]
    simp -implicitDefEqProofs [step,zfs_,h4,h3,hp,htm,w1',w2',zgd_,hlim]
    have e3:lowT (low++[m % 256])=[.arr false 1 (nb low++[vk .u8 ((m % 256:Nat):Int)])]:=by simp [lowT,nb]
    rw [e3] at next
    simp only [Int.natCast_emod,Int.natCast_ediv,Int.cast_ofNat_Int] at next ⊢
    apply next
    ·simp
    ·simp [lowV]
    ·intro t ht
     simp (disch:=omega) only [upd_ne]
theorem zdcn_ (base:Nat) (h:H) (low:List Nat) (neg:Bool) (n:Int) (hneg:neg=decide (n < 0)) (hlow:∀ d ∈ low,d < 256) (hll:low.length≤100) {β:Type} {f:Ex × St→Option β} {b:Option β} {B:Body}
  (hB:B=xcode (run XP) loopW base zft_):∀ (k:Nat) (out:List UInt8) (s:Sl),k≤low.length→s 0=vi n→s 3=lowV h low→s 6=.ref (h.length + (lowT low).length) out.length→s 7=vi ((k:Int) - 1)→out.length + k≤1000 →
  (∀ s':Sl,s' 6=.ref (h.length + (lowT low).length) (out.length + k)→f (.exit 2,⟨s',h++(lowT low++[.arr false 1 (bl (out++((low.take k).reverse.map (flipB neg))))])⟩)=b)→ob (loopW B ⟨s,h++(lowT low++[.arr false 1 (bl out)])⟩) f=b:=by
 have step:∀ st,B st=xcode (run XP) loopW base zft_ st:=fun st=>by rw [hB]
 intro k
 induction k with
 | zero =>
  intro out s hk h0 h3 h6 h7 hl kk
  rw [zbb_]
  simp -implicitDefEqProofs [step,zft_,h7]
  have:=kk (upd (upd s 35 (vi (-1))) 36 (vb false)) (by simpa using h6)
  simpa using this
 | succ k ih =>
  intro out s hk h0 h3 h6 h7 hl kk
  have hne:low≠[]:=by intro e; rw [e] at hk; simp at hk
  have hg:low[k]?=some (low[k]'(by omega)):=List.getElem?_eq_getElem (by omega)
  generalize hd:low[k]'(by omega)=d at hg
  have hd256:d < 256:=hlow d (List.mem_of_getElem? hg)
  have h3':s 3=.ref h.length low.length:=by rw [h3]; simp [lowV,hne]
  have hT:lowT low=[.arr false 1 (nb low)]:=by simp [lowT,hne]
  have hnb:(nb low)[k]?=some (vk .u8 (d:Int)):=by simp [nb,hg]
  have hnb':∀ hh,(nb low)[k]'hh=vk .u8 (d:Int):=fun hh=>by
   rw [List.getElem?_eq_getElem hh] at hnb
   exact Option.some.inj hnb
  have h7':s 7=vi k:=by rw [h7]; congr 2; omega
  have hlt:k < low.length:=by omega
  have hout:out.length≤140737488355327:=by omega
  have htake:(low.take (k + 1)).reverse.map (flipB neg)=flipB neg d :: (low.take k).reverse.map (flipB neg):=by
   rw [List.take_add_one,hg]
   simp
  rw [zbb_]
  have next:∀ s2:Sl,s2 0=vi n→s2 3=lowV h low→s2 6=.ref (h.length + (lowT low).length) (out.length + 1)→s2 7=vi ((k:Int) - 1)→ob (loopW B ⟨s2,h++(lowT low++[.arr false 1 (bl out++[vk .u8 ((flipB neg d).toNat:Int)])])⟩) f=b:=by
   intro s2 g0 g3 g6 g7
   have:=ih (out++[flipB neg d]) s2 (by omega) g0 g3 (by simpa using g6) g7 (by simp; omega) fun s' e6=>by
    have:=kk s' (by rw [e6]; congr 1; simp; omega)
    rw [htake] at this
    simpa using this
   simpa [bl] using this
  have w7:IntKind.i64.wrap ((k:Int) - 1)=(k:Int) - 1:=zac_ (by omega) (by omega)
  rw [hT] at h6 next ⊢
  simp only [List.length_cons,List.length_nil,Nat.zero_add,List.cons_append,List.nil_append] at h6 next ⊢
  cases neg with
  | true =>
   have hn:n < 0:=by simpa using hneg.symm
   have w8:IntKind.u8.wrap (255 - (d:Int))=((flipB true d).toNat:Int):=by
    rw [zcx_]
    simp [flipB]
    omega
   simp -implicitDefEqProofs [step,zft_,h0,h3',h6,h7',zgd_,hlt,hnb',hn,w8,zcy_,hout,w7]
   apply next <;> simp [h0,h3]
  | false =>
   have hn:¬ n < 0:=by simpa using hneg.symm
   have w8:((flipB false d).toNat:Int)=(d:Int):=by
    simp [flipB]
    omega
   rw [w8] at next
   simp -implicitDefEqProofs [step,zft_,h0,h3',h6,h7',zgd_,hlt,hnb',hn,zcy_,hout,w7]
   apply next <;> simp [h0,h3]
theorem zbhp_ (h:H) {n:Int} (hn:Rng n):run XP zhj_ [vi n] h=some (vs ⟨(fNum n).toArray⟩,h):=by
 have hmag:=zdcl_ h hn
 have hb:=hn.blen
 have hm64:n.natAbs < 18446744073709551616:=by have:=hn.1; have:=hn.2; omega
 obtain ⟨low,hlow⟩:∃ low,low=lek n.natAbs (blen n.natAbs):=⟨_,rfl⟩
 have hll:low.length=blen n.natAbs:=by rw [hlow,zbho_]
 have hl256:∀ d ∈ low,d < 256:=by rw [hlow]; exact lek_lt _ _
 have htl:(lowV h low).toL (h++lowT low)=some (nb low):=by
  unfold lowV lowT
  by_cases hne:low=[]
  ·simp [hne,nb]
  ·simp [hne,zgd_]
 have htl2:∀ t:H,(lowV h low).toL (h++(lowT low++t))=some (nb low):=by
  intro t
  unfold lowV lowT
  by_cases hne:low=[]
  ·simp [hne,nb]
  ·simp [hne,zgd_]
 rw [run_eq,zcfk_]
 simp -implicitDefEqProofs [zmh_,hmag]
 have key:=fun (f:Ex × St→Option (V × H)) (b:Option (V × H))=>zdcm_ (β:=V × H) (f:=f) (b:=b) (B:=xcode (run XP) loopW h.length zfs_) h.length h rfl n.natAbs []
 have e2:lowT []=[]:=rfl
 simp only [e2,List.append_nil,List.nil_append,← hlow] at key
 refine key _ _ _ ?_ ?_ hm64 (by simp; omega) fun s' e3 ef=>?_
 ·simp
 ·simp [lowV]
 have g0:=ef 0 (by omega)
 simp at g0
 obtain ⟨c1,hc1⟩:∃ c:UInt8,c=UInt8.ofNat (128 - blen n.natAbs):=⟨_,rfl⟩
 obtain ⟨c2,hc2⟩:∃ c:UInt8,c=UInt8.ofNat (128 + blen n.natAbs):=⟨_,rfl⟩
 have w1:IntKind.u8.wrap (IntKind.i64.wrap (128 - (blen n.natAbs:Int)))=(c1.toNat:Int):=by
  rw [zac_ (by omega) (by omega),zcx_,hc1]
  simp
  omega
 have w2:IntKind.u8.wrap (IntKind.i64.wrap (128 + (blen n.natAbs:Int)))=(c2.toNat:Int):=by
  rw [zac_ (by omega) (by omega),zcx_,hc2]
  simp
 have w3:IntKind.i64.wrap ((blen n.natAbs:Int) - 1)=(blen n.natAbs:Int) - 1:=zac_ (by omega) (by omega)
 have hform:∀ (neg:Bool) (c:UInt8),neg=decide (n < 0)→c=(if neg=true then c1 else c2)→[c]++(low.take low.length).reverse.map (flipB neg)=fNum n:=by
  intro neg c h1 h2
  rw [List.take_length,hlow,← zbhn_]
  unfold fNum
  subst h1
  rw [h2,hc1,hc2]
  by_cases hneg:n < 0 <;> simp [hneg]
 have fin:∀ (neg:Bool) (c:UInt8) (s2:Sl),neg=decide (n < 0)→c=(if neg=true then c1 else c2)→s2 0=vi n→s2 3=lowV h low→s2 6=.ref (h.length + (lowT low).length) 1→s2 7=vi ((low.length:Int) - 1)→∀ (f:Ex × St→Option (V × H)) (b:Option (V × H)),
   (∀ s':Sl,s' 6=.ref (h.length + (lowT low).length) (fNum n).length→f (.exit 2,⟨s',h++(lowT low++[.arr false 1 (bl (fNum n))])⟩)=b)→ob (loopW (xcode (run XP) loopW h.length zft_) ⟨s2,h++(lowT low++[.arr false 1 [vk .u8 (c.toNat:Int)]])⟩) f=b:=by
  intro neg c s2 h1 h2 g0 g3 g6 g7 f b kk
  refine zdcn_ h.length h low neg n h1 hl256 (by omega) rfl low.length [c] s2 (Nat.le_refl _) g0 g3 g6 g7 (by simp; omega) fun s' e6=>?_
  rw [hform neg c h1 h2]
  apply kk
  rw [e6,zbhd_,hll]
  rfl
 have hat:(h++(lowT low++[.arr false 1 (bl (fNum n))]:H))[h.length + (lowT low).length]?=some (.arr false 1 (bl (fNum n))):=by
  rw [at_app]
  simp
 by_cases hneg:n < 0
 ·simp -implicitDefEqProofs [e3,g0,htl,htl2,zgd_,hll,hneg,w1,w3]
  refine fin true c1 _ (by simp [hneg]) rfl ?_ ?_ ?_ ?_ _ _ fun s3 e6=>?_
  ·simp [g0]
  ·simp [e3]
  ·simp
  ·simp [hll]
  simp -implicitDefEqProofs [e6,hat,zcy_,zpc_]
 ·simp -implicitDefEqProofs [e3,g0,htl,htl2,zgd_,hll,hneg,w2,w3]
  refine fin false c2 _ (by simp [hneg]) rfl ?_ ?_ ?_ ?_ _ _ fun s3 e6=>?_
  ·simp [g0]
  ·simp [e3]
  ·simp
  ·simp [hll]
  simp -implicitDefEqProofs [e6,hat,zcy_,zpc_]
end Go.Proofs.Sl
namespace Go.Proofs.Sl
end Go.Proofs.Sl
namespace Go.Proofs.Sl
theorem zbhq_ (a b:List UInt8):(⟨a.toArray⟩:ByteArray)++⟨b.toArray⟩=⟨(a++b).toArray⟩:=by
 have h:((⟨a.toArray⟩:ByteArray)++⟨b.toArray⟩).data=(a++b).toArray:=by
  rw [ByteArray.data_append]
  simp
 calc (⟨a.toArray⟩:ByteArray)++⟨b.toArray⟩=⟨((⟨a.toArray⟩:ByteArray)++⟨b.toArray⟩).data⟩:=rfl
  _=_:=by rw [h]
end Go.Proofs.Sl
namespace Go.Proofs.Sl
def tx (l:List UInt8):V:=vs ⟨l.toArray⟩
theorem zdco_ (a:List UInt8) (s:ByteArray):(⟨a.toArray⟩:ByteArray)++s=⟨(a++bts s).toArray⟩:=by
 have:s=⟨(bts s).toArray⟩:=by simp [bts]
 conv=>lhs; rw [this]
 exact zbhq_ a (bts s)
theorem add_tx {a b:List UInt8} (h:a.length + b.length≤1000000000000000):xbin .add (tx a) (tx b)=some (tx (a++b)):=by
 have hs:¬ 9223372036854775807 < ((a.length:Int) + (b.length:Int)):=by omega
 simp [tx,strOp,zzw_,zbhq_,hs]
theorem zdcp_ {a:List UInt8} {s:ByteArray} (h:a.length + s.size≤1000000000000000):xbin .add (tx a) (vs s)=some (tx (a++bts s)):=by
 have hs:¬ 9223372036854775807 < ((a.length:Int) + (s.size:Int)):=by omega
 simp [tx,strOp,zzw_,zdco_,hs]
theorem zbx_ (a:List UInt8):(tx a).plain=true:=Eq.trans rfl rfl
theorem zdcq_ (a:List UInt8):lenT (tx a)=some (vi a.length):=by simp [tx,zzw_]
theorem eql_tx (a b:List UInt8):xbin .eql (tx a) (tx b)=some (vb (a == b)):=by simp [tx,strOp,zbhg_]
theorem neq_tx (a b:List UInt8):xbin .neq (tx a) (tx b)=some (vb (!(a == b))):=by simp [tx,strOp,zbhg_]
attribute [simp] zdcq_ eql_tx neq_tx zbx_
theorem zdcr_ (h:H) {n:Int} (hn:Rng n):run XP zhj_ [vi n] h=some (tx (fNum n),h):=zbhp_ h hn
theorem zbhr_ (h:H) {s:ByteArray} (hs:s.size≤10000000000000):run XP zrb_ [vs s] h=some (tx (fText s),h):=by
 have hr:=zet_ (n:=s.size) (by omega)
 have h1:=zdcr_ h hr
 have h2:=zcz_ hr
 have h3:=zdcp_ (a:=fNum s.size) (s:=s) (by omega)
 rw [run_eq,zcfo_]
 simp -implicitDefEqProofs [zmi_,h1,h3,zbx_,fText]
end Go.Proofs.Sl
namespace Go.Proofs.Sl
end Go.Proofs.Sl
namespace Go.Proofs.Sl
structure PT where
 k:Int
 n0:Int
 n1:Int
 n2:Int
 n3:Int
 n4:Int
 n5:Int
 n6:Int
 n7:Int
 key:ByteArray
 s:ByteArray
def PT.v (p:PT):V:=.agg [vk .u8 p.k,vi p.n0,vi p.n1,vi p.n2,vi p.n3,vi p.n4,vi p.n5,vi p.n6,vi p.n7,vs p.key,vs p.s]
structure PT.Ok (p:PT):Prop where
 k0:0≤p.k
 k1:p.k≤255
 n0:Rng p.n0
 n1:Rng p.n1
 n2:Rng p.n2
 n3:Rng p.n3
 n4:Rng p.n4
 n5:Rng p.n5
 n6:Rng p.n6
 n7:Rng p.n7
 key:p.key.size≤5000
 s:p.s.size≤5000
def PT.av (p:PT):AV:=⟨p.n0,p.s,p.n1⟩
def PT.at (p:PT):AT:=⟨p.key,p.av⟩
def PT.rf (p:PT):RF:=⟨p.n0,p.n1⟩
def PT.ex (p:PT):EX:=⟨p.n0,p.n1,p.n2,p.n3,p.n4⟩
def PT.ms (p:PT):MS:=⟨p.n0,p.rf,⟨p.n2,p.n3⟩,⟨p.n4,p.n5,p.n6,p.n7,p.n1⟩⟩
def PT.sp (p:PT):SP:=⟨p.n0,p.n1,p.n2,p.n3,p.n4,p.n5,p.key,p.s,p.key,p.n6,p.n7,decide (p.n0 > 0),[p.at],[p.rf,p.rf],false,false⟩
theorem PT.Ok.av {p:PT} (h:p.Ok):p.av.Ok:=⟨h.n0,h.s,h.n1⟩
theorem PT.Ok.at {p:PT} (h:p.Ok):p.at.Ok:=⟨h.key,h.av⟩
theorem PT.Ok.rf {p:PT} (h:p.Ok):p.rf.Ok:=⟨h.n0,h.n1⟩
theorem PT.Ok.ex {p:PT} (h:p.Ok):p.ex.Ok:=⟨h.n0,h.n1,h.n2,h.n3,h.n4⟩
theorem PT.Ok.ms {p:PT} (h:p.Ok):p.ms.Ok:=⟨h.n0,h.rf,⟨h.n2,h.n3⟩,⟨h.n4,h.n5,h.n6,h.n7,h.n1⟩⟩
theorem PT.Ok.sp {p:PT} (h:p.Ok):p.sp.Ok where
 n:=by
  intro n hn
  simp [PT.sp] at hn
  rcases hn with rfl | rfl | rfl | rfl | rfl | rfl | rfl | rfl
  ·exact h.n0
  ·exact h.n1
  ·exact h.n2
  ·exact h.n3
  ·exact h.n4
  ·exact h.n5
  ·exact h.n6
  ·exact h.n7
 sv:=h.key
 vr:=h.s
 op:=h.key
 ats:=by
  intro e he
  simp [PT.sp] at he
  rw [he]
  exact h.at
 lks:=by
  intro e he
  simp [PT.sp] at he
  rw [he]
  exact h.rf
 al:=by simp [PT.sp]
 ll:=by simp [PT.sp]
 an:=by simp [PT.sp]
 ln:=by simp [PT.sp]
def PT.f (p:PT):List UInt8 :=
 if p.k.tmod 9=0 then fNum p.n0 else
 if p.k.tmod 9=1 then fBool (decide (p.n0 > 0)) else
 if p.k.tmod 9=2 then fText p.s else
 if p.k.tmod 9=3 then p.av.f else
 if p.k.tmod 9=4 then p.at.f else
 if p.k.tmod 9=5 then p.rf.f else
 if p.k.tmod 9=6 then p.ex.f else
 if p.k.tmod 9=7 then p.ms.f else
 p.sp.f
structure PT.Pre (p:PT):Prop where
 k0:0≤p.k
 k1:p.k≤255
 n0:Rng p.n0
 n1:Rng p.n1
 n2:Rng p.n2
 n3:Rng p.n3
 n4:Rng p.n4
 n5:Rng p.n5
 n6:Rng p.n6
 n7:Rng p.n7
 key:p.key.size≤9223372036854775807
 s:p.s.size≤9223372036854775807
theorem PT.Pre.ok {p:PT} (h:p.Pre) (h1:p.key.size≤50) (h2:p.s.size≤50):p.Ok:=⟨h.k0,h.k1,h.n0,h.n1,h.n2,h.n3,h.n4,h.n5,h.n6,h.n7,by omega,by omega⟩
end Go.Proofs.Sl
namespace Go.Proofs.Sl
section
variable {h t:H} {l:Nat} {s:ByteArray} {a:Nat} {e:Int}
end
end Go.Proofs.Sl
namespace Go.Proofs.Sl
def plains (cs:List V):Prop:=∀ c ∈ cs,c.plain=true
theorem plains.set {cs:List V} (h:plains cs) (j:Nat) {v:V} (hv:v.plain=true):plains (cs.set j v):=by
 intro c hc
 rcases List.mem_or_eq_of_mem_set hc with hc | rfl
 ·exact h c hc
 ·exact hv
section
variable {s:ByteArray}
end
end Go.Proofs.Sl
namespace Go.Proofs.Sl
def AV.z:AV:=⟨0,⟨#[]⟩,0⟩
def AT.z:AT:=⟨⟨#[]⟩,AV.z⟩
def RF.z:RF:=⟨0,0⟩
def EX.z:EX:=⟨0,0,0,0,0⟩
def MS.z:MS:=⟨0,RF.z,RF.z,EX.z⟩
section
variable {h t:H} {l:Nat} {s:ByteArray} {a:Nat} {e:Int}
end
end Go.Proofs.Sl
namespace Go.Proofs.Sl
section
variable {h t:H} {l:Nat} {s:ByteArray} {a:Nat} {e:Int}
end
theorem zbhs_:∀ l:List AT,V.closed.closeds (l.map AT.v)=true
 | []=>rfl
 | x :: l=>by simp [AT.v,zbhs_ l]
theorem zbht_:∀ l:List RF,V.closed.closeds (l.map RF.v)=true
 | []=>rfl
 | x :: l=>by simp [RF.v,zbht_ l]
theorem zpd_:∀ l:List EX,V.closed.closeds (l.map EX.v)=true
 | []=>rfl
 | x :: l=>by simp [EX.v,zpd_ l]
end Go.Proofs.Sl
namespace Go.Proofs.Sl
def SP.z:SP:=⟨0,0,0,0,0,0,⟨#[]⟩,⟨#[]⟩,⟨#[]⟩,0,0,false,[],[],true,true⟩
section
variable {h t:H} {l:Nat} {s:ByteArray} {a:Nat} {e:Int}
end
end Go.Proofs.Sl
namespace Go.Proofs.Sl
structure AT.Pre (a:AT):Prop where
 key:a.key.size≤9223372036854775807
 k:Rng a.val.k
 t:a.val.t.size≤9223372036854775807
 n:Rng a.val.n
structure SP.Pre (a:SP):Prop where
 n:∀ n ∈ [a.tr,a.id,a.par,a.rev,a.clk,a.kind,a.st,a.en],Rng n
 sv:a.sv.size≤9223372036854775807
 vr:a.vr.size≤9223372036854775807
 op:a.op.size≤9223372036854775807
 ats:∀ e ∈ a.ats,e.Pre
 lks:∀ e ∈ a.lks,e.Ok
 al:a.ats.length≤9223372036854775807
 ll:a.lks.length≤9223372036854775807
 an:a.an=true→a.ats=[]
 ln:a.ln=true→a.lks=[]
def AT.isShort (a:AT):Bool:=!(decide (100 < (a.key.size:Int)) || decide (100 < (a.val.t.size:Int)))
def SP.isShort (a:SP):Bool:=!(decide (8 < (a.ats.length:Int)) || (decide (8 < (a.lks.length:Int)) || (decide (100 < (a.sv.size:Int)) || (decide (100 < (a.vr.size:Int)) || decide (100 < (a.op.size:Int)))))) && a.ats.all AT.isShort
theorem SP.Pre.ok {a:SP} (h:a.Pre) (hs:a.isShort=true):a.Ok:=by
 simp [SP.isShort] at hs
 obtain ⟨⟨h1,h2,h3,h4,h5⟩,h6⟩:=hs
 refine ⟨h.n,by omega,by omega,by omega,fun e he=>?_,h.lks,by omega,by omega,h.an,h.ln⟩
 have h7:=h6 e he
 have h8:=h.ats e he
 simp [AT.isShort] at h7
 exact ⟨by omega,⟨h8.k,by omega,h8.n⟩⟩
end Go.Proofs.Sl
namespace Go.Proofs.Sl
theorem zba_:∀ l:List SP,V.closed.closeds (l.map SP.v)=true
 | []=>rfl
 | x :: l=>by simp [SP.v,zba_ l]
structure FR where
 ag:Int
 sq:Int
 sps:List SP
 exs:List EX
 sn:Bool
 xn:Bool
def FR.v (a:FR):V:=.agg [vi a.ag,vi a.sq,lv 14 (slc SP.v a.sps a.sn),lv 5 (slc EX.v a.exs a.xn)]
structure FR.Ok (a:FR):Prop where
 ag:Rng a.ag
 sq:Rng a.sq
 sps:∀ e ∈ a.sps,e.Ok
 exs:∀ e ∈ a.exs,e.Ok
 sl:a.sps.length≤1000
 xl:a.exs.length≤1000
 sn:a.sn=true→a.sps=[]
 xn:a.xn=true→a.exs=[]
def FR.f (a:FR):List UInt8:=fNums [a.ag,a.sq]++(fList SP.f a.sps++fList EX.f a.exs)
structure TC where
 id:Int
 wt:Int
 sps:List SP
 sn:Bool
def TC.v (a:TC):V:=.agg [vi a.id,vi a.wt,lv 14 (slc SP.v a.sps a.sn)]
structure TC.Ok (a:TC):Prop where
 id:Rng a.id
 wt:Rng a.wt
 sps:∀ e ∈ a.sps,e.Ok
 sl:a.sps.length≤1000
 sn:a.sn=true→a.sps=[]
def TC.f (a:TC):List UInt8:=fNums [a.id,a.wt]++fList SP.f a.sps
def FR.z:FR:=⟨0,0,[],[],true,true⟩
def TC.z:TC:=⟨0,0,[],true⟩
end Go.Proofs.Sl
namespace Go.Proofs.Sl
def wrongB (n:Int):Bool:=decide (n < -1152921504606846976) || decide (n > 1152921504606846976)
def chkE (vs:List Int):Int:=if vs.length > 4096 then 6 else if vs.any wrongB then 2 else 0
theorem zas_ {α:Type} {l:List α} {k:Nat} {e:α} (h:l[k]?=some e):l.drop k=e :: l.drop (k + 1):=by
 obtain ⟨hk,he⟩:=List.getElem?_eq_some_iff.1 h
 rw [List.drop_eq_getElem_cons hk,he]
theorem zjl_ {α:Type} {l:List α} {k:Nat} {e:α} (h:l[k]?=some e):l.take (k + 1)=l.take k++[e]:=by
 rw [List.take_add_one,h]; rfl
theorem zcl_ {k:Nat} (h:k < 100000000000):IntKind.i64.wrap ((k:Int) + 1)=(k:Int) + 1:=zac_ (by omega) (by omega)
theorem il_at {vs:List Int} {k:Nat} {e:Int} (h:vs[k]?=some e):(il vs)[k]?=some (vi e):=by simp [il,h]
theorem zar_ (vs:List Int):(il vs).length=vs.length:=by simp [il]
theorem zdcs_ (h:H) (n:Int):run XP zhl_ [vi n] h=some (vb (wrongB n),h):=by
 rw [run_eq,zcfv_]
 by_cases h1:n < -1152921504606846976
 ·simp -implicitDefEqProofs [zjg_,h1,wrongB]
 ·simp -implicitDefEqProofs [zjg_,h1,wrongB]
def ixW:List Int→Nat→Int
 | [],_=>-1
 | v :: r,k=>if wrongB v=true then k else ixW r (k + 1)
theorem zbhu_:∀ (l:List Int) (k:Nat),decide (ixW l k ≥ 0)=l.any wrongB
 | [],k=>by simp [ixW]
 | v :: r,k=>by
  rw [ixW,List.any_cons]
  cases hw:wrongB v with
  | true=>simp
  | false=>simpa using zbhu_ r (k + 1)
theorem zdct_ {h:H} {v:V} {vs:List Int} (hv:Rd h 1 v (il vs)) (hl:vs.length≤10000) :
  run XP zwc_ [v,.fn zhl_ [] []] h=some (vi (ixW vs 0),h):=by
 rw [run_eq,zcgc_]
 simp -implicitDefEqProofs [zor_,hv.toL,zar_]
 refine zaf_ vs (fun k s h'=>Sees s [(0,v),(1,.fn zhl_ [] []),(7,vi vs.length),(8,vi k)]∧h'=h∧ixW vs 0=ixW (vs.drop k) k) ?_ ?_ _ _ ⟨by simp,rfl,rfl⟩
 ·rintro B f hB hf k e s h' he hk ⟨⟨h0,h1,h7,h8,-⟩,rfl,hx⟩ K
  obtain ⟨p,hp,hld⟩:=hv.at1 (il_at he) rfl
  have hlt:(k:Int) < vs.length:=by omega
  have hw:=zdcs_ h' e
  rw [zas_ he,ixW] at hx
  cases hb:wrongB e with
  | true =>
   rw [hb,if_pos rfl] at hx
   simp -implicitDefEqProofs [hB,hf,zsw_,h0,h1,h7,h8,hlt,hv.toL,hp,hld,hw,hb,hx]
  | false =>
   rw [hb,if_neg (by simp)] at hx
   simp -implicitDefEqProofs [hB,zsw_,h0,h1,h7,h8,hlt,hv.toL,hp,hld,hw,hb]
   refine K _ _ ⟨?_,rfl,hx⟩
   simp [h0,h1,h7,zcl_ (by omega:k < 100000000000)]
 ·rintro B hB s h' ⟨⟨h0,h1,h7,h8,-⟩,rfl,hx⟩
  simp -implicitDefEqProofs [hB,zsw_,h7,h8,hx,ixW]
theorem zdcu_ {h:H} {v:V} {vs:List Int} (hv:Rd h 1 v (il vs)) (hl:vs.length≤10000) :
  run XP zvz_ [v,.fn zhl_ [] []] h=some (vb (vs.any wrongB),h):=by
 have h1:=zdct_ hv hl
 have h2:=zbhu_ vs 0
 rw [run_eq,zcfu_]
 simp -implicitDefEqProofs [zop_,h1,hv.arg0]
 simpa using h2
theorem zdcv_ {h:H} {v:V} {vs:List Int} (hv:Rd h 1 v (il vs)) (hl:vs.length≤10000) :
  run XP zvv_ [v] h=some (vi (chkE vs),h):=by
 have h1:=zdcu_ hv hl
 rw [run_eq,zcfr_,chkE]
 by_cases hm:vs.length > 4096
 ·have hm':4096 < (vs.length:Int):=by omega
  simp -implicitDefEqProofs [zje_,hv.toL,zar_,hm,hm']
 ·have hm':¬ 4096 < (vs.length:Int):=by omega
  cases hw:vs.any wrongB <;> simp -implicitDefEqProofs [zje_,hv.toL,zar_,hm,hm',h1,hw,hv.arg0]
end Go.Proofs.Sl
namespace Go.Proofs.Sl
open Go
theorem zdcw_:noOwn []=true:=Eq.trans rfl rfl
attribute [simp] zdcw_
theorem bl_eq {a b:ByteArray}:(a.toList == b.toList)=decide (a=b):=by
 by_cases h:a=b
 ·subst h; simp
 ·have:a.toList≠b.toList:=fun e=>h (by rw [ByteArray.toList_eq,ByteArray.toList_eq] at e; exact ByteArray.ext (Array.ext' e))
  simp [h,this]
theorem bl_ne {a b:ByteArray} (h:Op.bytesLess a.toList b.toList=true):¬ a=b:=by
 rintro rfl
 rw [zzx_] at h
 cases h
theorem bl_gt (a b:ByteArray):(!(Op.bytesLess a.toList b.toList || a.toList == b.toList))=Op.bytesLess b.toList a.toList:=by
 cases h:Op.bytesLess a.toList b.toList with
 | true=>simp [zbaa_ h]
 | false =>
  cases k:Op.bytesLess b.toList a.toList with
  | true=>have:=bl_ne k; rw [bl_eq]; simp; exact fun e=>this e.symm
  | false=>rw [zzz_ _ _ h k]; simp
theorem zdcx_ {a b:ByteArray} (h:Op.bytesLess a.toList b.toList=false):(a.toList == b.toList)=!Op.bytesLess b.toList a.toList:=by
 have:=bl_gt a b
 rw [h,Bool.false_or] at this
 rw [← this,Bool.not_not]
theorem zbhv_ (h:H) (a:Int):run XP zrk_ [vi a] h=some (vb false,h):=by
 rw [run_eq,zchc_]
 simp -implicitDefEqProofs [zok_]
theorem zbhw_ (h:H) (a:ByteArray):run XP zhv_ [vs a] h=some (vb false,h):=by
 rw [run_eq,zchb_]
 simp -implicitDefEqProofs [zoj_]
theorem zge_ (h:H) (a b:Int):run XP zdq_ [vi a,vi b] h=some (vi (sgn a b),h):=by
 rw [run_eq,zcgu_]
 have h1:=zbhv_ h a
 have h2:=zbhv_ h b
 unfold sgn
 by_cases h3:a < b
 ·simp -implicitDefEqProofs [zjc_,h1,h2,h3]
 ·by_cases h4:b < a <;> simp -implicitDefEqProofs [zjc_,h1,h2,h3,h4]
theorem zpe_ (h:H) (a b:ByteArray):run XP zfn_ [vs a,vs b] h=some (vi (wrd a b),h):=by
 rw [run_eq,zcgt_]
 have h1:=zbhw_ h a
 have h2:=zbhw_ h b
 unfold wrd
 cases h3:Op.bytesLess a.toList b.toList
 ·have h5:=zdcx_ h3
  cases h4:Op.bytesLess b.toList a.toList
  ·rw [h4,Bool.not_false] at h5
   simp -implicitDefEqProofs [zga_,h1,h2,h3,h4,h5]
  ·rw [h4,Bool.not_true] at h5
   simp -implicitDefEqProofs [zga_,h1,h2,h3,h4,h5]
 ·simp -implicitDefEqProofs [zga_,h1,h2,h3]
theorem zbhx_ (h:H) (b:Bool):run XP zrh_ [vb b] h=some (vi (flg b),h):=by
 rw [run_eq,zcgv_]
 cases b <;> simp -implicitDefEqProofs [zmd_,flg]
theorem run_Or (h:H) (ns:List Int) (hl:ns.length≤10000):run XP zhu_ [.lst 1 (il ns)] h=some (vi (orl ns),h):=by
 have hv:Rd h 1 (.lst 1 (il ns)) (il ns):=.lst _
 rw [run_eq,zcgr_]
 simp -implicitDefEqProofs [znv_,zar_]
 refine zaf_ ns (fun k s h'=>Sees s [(3,vi 0),(6,.lst 1 (il ns)),(7,vi ns.length),(8,vi k)]∧h'=h∧orl ns=orl (ns.drop k)) ?_ ?_ _ _ ⟨by simp,rfl,rfl⟩
 ·rintro B f hB hf k e s h' he hk ⟨⟨h3,h6,h7,h8,-⟩,rfl,hx⟩ K
  obtain ⟨p,hp,hld⟩:=hv.at1 (il_at he) rfl
  have hlt:(k:Int) < ns.length:=by omega
  rw [zas_ he,orl] at hx
  by_cases h0:e=0
  ·rw [if_neg (by simpa using h0)] at hx
   simp -implicitDefEqProofs [hB,zst_,h3,h6,h7,h8,hlt,hp,hld,h0]
   refine K _ _ ⟨?_,rfl,hx⟩
   simp [h3,h6,h7,zcl_ (by omega:k < 100000000000)]
  ·rw [if_pos h0] at hx
   have h0':(e != 0)=true:=by simpa using h0
   simp -implicitDefEqProofs [hB,hf,zst_,h3,h6,h7,h8,hlt,hp,hld,h0',hx]
 ·rintro B hB s h' ⟨⟨h3,h6,h7,h8,-⟩,rfl,hx⟩
  simp -implicitDefEqProofs [hB,zst_,h3,h7,h8,hx,orl]
theorem il_get {l:List Int} {k:Nat} {e:Int} (h:l[k]?=some e):∀ hh,(il l)[k]'hh=vi e:=fun hh=>by
 have:=il_at h
 rw [List.getElem?_eq_getElem hh] at this
 injection this
theorem zbab_ {α:Type} {f:α→α→Int} {x y:List α} {k:Nat} {a b:α} (ha:x[k]?=some a) (hb:y[k]?=some b):lexc f (x.drop k) (y.drop k)=if f a b≠0 then f a b else lexc f (x.drop (k + 1)) (y.drop (k + 1)):=by
 rw [zas_ ha,zas_ hb,lexc]
theorem zbhy_ {α:Type} {f:α→α→Int} {x y:List α} {k:Nat} {a:α} (ha:x[k]?=some a) (hb:y.length≤k):lexc f (x.drop k) (y.drop k)=1:=by
 rw [zas_ ha,List.drop_of_length_le hb,lexc]
theorem zbac_ {α:Type} {f:α→α→Int} {x y:List α}:lexc f (x.drop x.length) (y.drop x.length)=if x.length < y.length then -1 else 0:=by
 rw [List.drop_of_length_le (Nat.le_refl _)]
 split
 ·rename_i h
  rw [List.drop_eq_getElem_cons h,lexc]
 ·rename_i h
  rw [List.drop_of_length_le (by omega),lexc]
theorem zdcy_ {h:H} {l m:Nat} {z z':Bool} {xs ys:List Int} (hx:h[l]?=some (.box z (il xs))) (hy:h[m]?=some (.box z' (il ys))) (hn:xs.length=ys.length) (hl:xs.length≤1000) :
  run XP zrg_ [.bref l xs.length,.bref m ys.length] h=some (vi (lexc sgn xs ys),h):=by
 rw [run_eq,zcgs_]
 have hb1:∀ l:List Int,(il l).map zan_=il l:=fun l=>by simp [il]
 simp -implicitDefEqProofs [znw_,zar_,hx,hy,hb1]
 refine zaf_ xs (fun k s h'=>Sees s [(0,.bref l xs.length),(1,.bref m ys.length),(9,.bref l xs.length),(10,vi xs.length),(11,vi k)]∧h'=h∧lexc sgn xs ys=lexc sgn (xs.drop k) (ys.drop k)) ?_ ?_ _ _ ⟨by simp,rfl,rfl⟩
 ·rintro B f hB hf k e s h' he hk ⟨⟨h0',h1,h9,h10,h11,-⟩,rfl,hq⟩ K
  have hlt:(k:Int) < xs.length:=by omega
  have hky:k < ys.length:=by omega
  have hlt2:¬ ((ys.length:Int)≤k):=by omega
  obtain ⟨e',he'⟩:∃ e',ys[k]?=some e':=⟨_,List.getElem?_eq_getElem hky⟩
  have hc:=zge_ h' e e'
  have g1:=il_get he
  have g2:=il_get he'
  rw [zbab_ he he'] at hq
  by_cases h0:sgn e e'=0
  ·rw [if_neg (by simpa using h0)] at hq
   simp -implicitDefEqProofs [hB,zsu_,h1,h9,h10,h11,hlt,hlt2,hk,hky,hx,hy,g1,g2,hc,h0,zar_,hb1]
   refine K _ _ ⟨?_,rfl,hq⟩
   simp [h0',h1,h9,h10,zcl_ (by omega:k < 100000000000)]
  ·rw [if_pos h0] at hq
   have h0n:(sgn e e' != 0)=true:=by simpa using h0
   simp -implicitDefEqProofs [hB,hf,zsu_,h1,h9,h10,h11,hlt,hlt2,hk,hky,hx,hy,g1,g2,hc,h0n,hq,zar_,hb1]
 ·rintro B hB s h' ⟨⟨h0',h1,h9,h10,h11,-⟩,rfl,hq⟩
  rw [zbac_,if_neg (by omega)] at hq
  simp -implicitDefEqProofs [hB,zsu_,h0',h1,h9,h10,h11,hq,hx,hy,zar_,hn,hb1]
end Go.Proofs.Sl
namespace Go.Proofs.Sl
theorem zdcz_ (h:H) (a b:AV):run XP zwo_ [a.v,b.v] h=some (vi (cmpV a b),h):=by
 obtain ⟨k,t,n⟩:=a
 obtain ⟨k',t',n'⟩:=b
 rw [run_eq,zchf_]
 have h1:=fun h=>zge_ h k k'
 have h2:=fun h=>zpe_ h t t'
 have h3:=fun h=>zge_ h n n'
 have h4:=fun h=>run_Or h [sgn k k',wrd t t',sgn n n'] (by simp)
 simp only [il,List.map_cons,List.map_nil] at h4
 simp -implicitDefEqProofs [zog_,AV.v,h1,h2,h3,h4,zaw_,optEq,cmpV]
theorem zdda_ (h:H) (a b:AT):run XP zke_ [a.v,b.v] h=some (vi (cmpA a b),h):=by
 obtain ⟨k,v⟩:=a
 obtain ⟨k',v'⟩:=b
 rw [run_eq,zche_]
 have h1:=fun h=>zpe_ h k k'
 have h2:=fun h=>zdcz_ h v v'
 have h4:=fun h=>run_Or h [wrd k k',cmpV v v'] (by simp)
 simp only [il,List.map_cons,List.map_nil,AV.v] at h4 h2
 simp -implicitDefEqProofs [zom_,AT.v,h1,h2,h4,zaw_,optEq,cmpA]
theorem zbhz_ (h:H) (a b:RF):run XP zhq_ [a.v,b.v] h=some (vi (cmpR a b),h):=by
 obtain ⟨k,v⟩:=a
 obtain ⟨k',v'⟩:=b
 rw [run_eq,zcgi_]
 have h1:=fun h=>zge_ h k k'
 have h2:=fun h=>zge_ h v v'
 have h4:=fun h=>run_Or h [sgn k k',sgn v v'] (by simp)
 simp only [il,List.map_cons,List.map_nil] at h4
 simp -implicitDefEqProofs [znz_,RF.v,h1,h2,h4,zaw_,optEq,cmpR]
end Go.Proofs.Sl
namespace Go.Proofs.Sl
theorem zddb_ {h:H} {v w:V} {xs ys:List AT} (hx:∀ h,Rd h 4 v (xs.map AT.v)) (hy:∀ h,Rd h 4 w (ys.map AT.v)) (hl:xs.length≤9223372036854775807) :
  run XP zwn_ [v,w,.fn zke_ [] []] h=some (vi (lexc cmpA xs ys),h):=by
 rw [run_eq,zchd_]
 simp -implicitDefEqProofs [zol_,(hx _).toL]
 refine zaf_ xs (fun k s h'=>Sees s [(0,v),(1,w),(2,.fn zke_ [] []),(11,v),(12,vi xs.length),(13,vi k)]∧(∃ t,h'=h++t)∧lexc cmpA xs ys=lexc cmpA (xs.drop k) (ys.drop k)) ?_ ?_ _ _ ⟨by simp,⟨[],by simp⟩,rfl⟩
 ·rintro B f hB hf k e s h' he hk ⟨⟨h0,h1,h2,h11,h12,h13,-⟩,⟨t,rfl⟩,hq⟩ K
  have hlt:(k:Int) < xs.length:=by omega
  obtain ⟨p,hp,hld⟩:=(hx (h++t)).at (i:=k) (e:=e.v) (by simp [he])
  have hw:IntKind.i64.wrap ((k:Int) + 1)=(k:Int) + 1:=zac_ (by omega) (by omega)
  by_cases hky:k < ys.length
  ·have hlt2:¬ ((ys.length:Int)≤k):=by omega
   obtain ⟨e',he'⟩:∃ e',ys[k]?=some e':=⟨_,List.getElem?_eq_getElem hky⟩
   obtain ⟨p',hp',hld'⟩:=(hy (h++(t++[.box false e.v.cells]))).at (i:=k) (e:=e'.v) (by simp [he'])
   have hc:=fun h=>zdda_ h e e'
   rw [zbab_ he he'] at hq
   simp only [AT.v,V.cells] at hld hld' hc hp'
   by_cases hz:cmpA e e'=0
   ·rw [if_neg (by simpa using hz)] at hq
    simp -implicitDefEqProofs [hB,zjf_,h0,h1,h2,h11,h12,h13,hlt,hlt2,hk,(hy _).toL,hp,hld,hp',hld',hc,hz]
    refine K _ _ ⟨?_,⟨_,rfl⟩,hq⟩
    simp [h0,h1,h2,h11,h12,hw]
   ·rw [if_pos hz] at hq
    have hz':(cmpA e e' != 0)=true:=by simpa using hz
    simp -implicitDefEqProofs [hB,hf,zjf_,h0,h1,h2,h11,h12,h13,hlt,hlt2,hk,(hy _).toL,hp,hld,hp',hld',hc,hz',hq]
  ·have hlt2:((ys.length:Int)≤k):=by omega
   rw [zbhy_ he (by omega)] at hq
   simp only [AT.v,V.cells] at hld
   simp -implicitDefEqProofs [hB,hf,zjf_,h0,h1,h2,h11,h12,h13,hlt,hlt2,hk,(hy _).toL,hp,hld,hq]
 ·rintro B hB s h' ⟨⟨h0,h1,h2,h11,h12,h13,-⟩,⟨t,rfl⟩,hq⟩
  rw [zbac_] at hq
  by_cases hlt:xs.length < ys.length
  ·rw [if_pos hlt] at hq
   simp -implicitDefEqProofs [hB,zjf_,h0,h1,h11,h12,h13,hq,(hx _).toL,(hy _).toL,hlt]
  ·rw [if_neg hlt] at hq
   simp -implicitDefEqProofs [hB,zjf_,h0,h1,h11,h12,h13,hq,(hx _).toL,(hy _).toL,hlt]
theorem zddc_ {h:H} {v w:V} {xs ys:List RF} (hx:∀ h,Rd h 2 v (xs.map RF.v)) (hy:∀ h,Rd h 2 w (ys.map RF.v)) (hl:xs.length≤9223372036854775807) :
  run XP zwk_ [v,w,.fn zhq_ [] []] h=some (vi (lexc cmpR xs ys),h):=by
 rw [run_eq,zcgx_]
 simp -implicitDefEqProofs [zny_,(hx _).toL]
 refine zaf_ xs (fun k s h'=>Sees s [(0,v),(1,w),(2,.fn zhq_ [] []),(11,v),(12,vi xs.length),(13,vi k)]∧(∃ t,h'=h++t)∧lexc cmpR xs ys=lexc cmpR (xs.drop k) (ys.drop k)) ?_ ?_ _ _ ⟨by simp,⟨[],by simp⟩,rfl⟩
 ·rintro B f hB hf k e s h' he hk ⟨⟨h0,h1,h2,h11,h12,h13,-⟩,⟨t,rfl⟩,hq⟩ K
  have hlt:(k:Int) < xs.length:=by omega
  obtain ⟨p,hp,hld⟩:=(hx (h++t)).at (i:=k) (e:=e.v) (by simp [he])
  have hw:IntKind.i64.wrap ((k:Int) + 1)=(k:Int) + 1:=zac_ (by omega) (by omega)
  by_cases hky:k < ys.length
  ·have hlt2:¬ ((ys.length:Int)≤k):=by omega
   obtain ⟨e',he'⟩:∃ e',ys[k]?=some e':=⟨_,List.getElem?_eq_getElem hky⟩
   obtain ⟨p',hp',hld'⟩:=(hy (h++(t++[.box false e.v.cells]))).at (i:=k) (e:=e'.v) (by simp [he'])
   have hc:=fun h=>zbhz_ h e e'
   rw [zbab_ he he'] at hq
   simp only [RF.v,V.cells] at hld hld' hc hp'
   by_cases hz:cmpR e e'=0
   ·rw [if_neg (by simpa using hz)] at hq
    simp -implicitDefEqProofs [hB,zjd_,h0,h1,h2,h11,h12,h13,hlt,hlt2,hk,(hy _).toL,hp,hld,hp',hld',hc,hz]
    refine K _ _ ⟨?_,⟨_,rfl⟩,hq⟩
    simp [h0,h1,h2,h11,h12,hw]
   ·rw [if_pos hz] at hq
    have hz':(cmpR e e' != 0)=true:=by simpa using hz
    simp -implicitDefEqProofs [hB,hf,zjd_,h0,h1,h2,h11,h12,h13,hlt,hlt2,hk,(hy _).toL,hp,hld,hp',hld',hc,hz',hq]
  ·have hlt2:((ys.length:Int)≤k):=by omega
   rw [zbhy_ he (by omega)] at hq
   simp only [RF.v,V.cells] at hld
   simp -implicitDefEqProofs [hB,hf,zjd_,h0,h1,h2,h11,h12,h13,hlt,hlt2,hk,(hy _).toL,hp,hld,hq]
 ·rintro B hB s h' ⟨⟨h0,h1,h2,h11,h12,h13,-⟩,⟨t,rfl⟩,hq⟩
  rw [zbac_] at hq
  by_cases hlt:xs.length < ys.length
  ·rw [if_pos hlt] at hq
   simp -implicitDefEqProofs [hB,zjd_,h0,h1,h11,h12,h13,hq,(hx _).toL,(hy _).toL,hlt]
  ·rw [if_neg hlt] at hq
   simp -implicitDefEqProofs [hB,zjd_,h0,h1,h11,h12,h13,hq,(hx _).toL,(hy _).toL,hlt]
end Go.Proofs.Sl
namespace Go.Proofs.Sl
structure SP.Len (a:SP):Prop where
 al:a.ats.length≤9223372036854775807
 ll:a.lks.length≤9223372036854775807
 an:a.an=true→a.ats=[]
 ln:a.ln=true→a.lks=[]
theorem rd_slc {α:Type} (h:H) (k:Nat) (v:α→V) {l:List α} {n:Bool} (hn:n=true→l=[]):Rd h k (lv k (slc v l n)) (l.map v):=by
 have:=Rd.lv h k (slc v l n)
 rwa [zzv_ hn] at this
theorem orl6 (a b c d e f:Int) (l:List Int):orl (orl [a,b,c,d,e,f] :: l)=orl (a :: b :: c :: d :: e :: f :: l):=by
 have:=zdch_ [a,b,c,d,e,f] l
 simp only [List.cons_append,List.nil_append] at this
 rw [this]
 simp only [orl]
theorem lexc6 (a b c d e f a' b' c' d' e' f':Int):lexc sgn [a,b,c,d,e,f] [a',b',c',d',e',f']=orl [sgn a a',sgn b b',sgn c c',sgn d d',sgn e e',sgn f f']:=by
 simp only [lexc,orl]
theorem zddd_ (a b:Bool):IntKind.i64.wrap (flg a - flg b)=sgn (flg a) (flg b):=by cases a <;> cases b <;> rfl
theorem zbia_ (h:H) {a b:SP} (ha:a.Len) (hb:b.Len):run XP zfm_ [a.v,b.v] h=some (vi (cmpS a b),h):=by
 obtain ⟨q1,q2,q3,q4⟩:=ha
 obtain ⟨r1,r2,r3,r4⟩:=hb
 obtain ⟨tr,id,par,rev,clk,kind,sv,vr,op,st,en,er,ats,lks,an,ln⟩:=a
 obtain ⟨tr',id',par',rev',clk',kind',sv',vr',op',st',en',er',ats',lks',an',ln'⟩:=b
 simp only at q1 q2 q3 q4 r1 r2 r3 r4
 have cA:=fun h=>zddb_ (h:=h) (fun h=>rd_slc h 4 AT.v q3) (fun h=>rd_slc h 4 AT.v r3) q1
 have cR:=fun h=>zddc_ (h:=h) (fun h=>rd_slc h 2 RF.v q4) (fun h=>rd_slc h 2 RF.v r4) q2
 have h1:=fun h=>zpe_ h sv sv'
 have h2:=fun h=>zpe_ h vr vr'
 have h3:=fun h=>zpe_ h op op'
 have h4:=fun h=>zge_ h st st'
 have h5:=fun h=>zge_ h en en'
 have h6:=fun h=>zbhx_ h er
 have h7:=fun h=>zbhx_ h er'
 have h8:=fun h=>run_Or h [orl [sgn tr tr',sgn id id',sgn rev rev',sgn par par',sgn clk clk',sgn kind kind'],wrd sv sv',wrd vr vr',wrd op op',sgn st st',sgn en en',sgn (flg er) (flg er'),lexc cmpA ats ats',lexc cmpR lks lks'] (by simp)
 have h9:∀ (h:H) (t1 t2:H) (z z':Bool),run XP zrg_ [.bref (h.length + 2) 6,.bref (h.length + 3) 6] (h++[t1.headD .dead,t2.headD .dead,.box z [vi tr,vi id,vi rev,vi par,vi clk,vi kind],.box z' [vi tr',vi id',vi rev',vi par',vi clk',vi kind']]) =
   some (vi (orl [sgn tr tr',sgn id id',sgn rev rev',sgn par par',sgn clk clk',sgn kind kind']),h++[t1.headD .dead,t2.headD .dead,.box z [vi tr,vi id,vi rev,vi par,vi clk,vi kind],.box z' [vi tr',vi id',vi rev',vi par',vi clk',vi kind']]):=by
  intro h t1 t2 z z'
  have:=zdcy_ (h:=h++[t1.headD .dead,t2.headD .dead,.box z [vi tr,vi id,vi rev,vi par,vi clk,vi kind],.box z' [vi tr',vi id',vi rev',vi par',vi clk',vi kind']]) (l:=h.length + 2) (m:=h.length + 3) (z:=z) (z':=z') (xs:=[tr,id,rev,par,clk,kind]) (ys:=[tr',id',rev',par',clk',kind']) (by simp [il]) (by simp [il]) rfl (by simp)
  rw [lexc6] at this
  exact this
 have h9':=fun a b=>h9 h [a] [b] false false
 simp only [List.headD] at h9'
 simp only [il,List.map_cons,List.map_nil] at h8
 have hcA:∀ h,run XP zwj_ [lv 4 (slc AT.v ats an),lv 4 (slc AT.v ats' an')] h=some (vi (lexc cmpA ats ats'),h):=by
  intro h
  rw [run_eq,zcgw_]
  simp -implicitDefEqProofs [znx_,cA,(rd_slc h 4 AT.v q3).arg0,(rd_slc h 4 AT.v r3).arg0]
 rw [run_eq,zcgf_]
 simp -implicitDefEqProofs [zmy_,SP.v,h1,h2,h3,h4,h5,h6,h7,h8,h9',cR,hcA,zddd_,(fun h=>(rd_slc h 4 AT.v q3).arg0),(fun h=>(rd_slc h 4 AT.v r3).arg0),(fun h=>(rd_slc h 2 RF.v q4).arg0),(fun h=>(rd_slc h 2 RF.v r4).arg0),zaw_,optEq,cmpS,orl6]
end Go.Proofs.Sl
namespace Go.Proofs.Sl
theorem zbib_ (h:H) (a:SP):run XP zrf_ [a.v] h=some (RF.v ⟨a.tr,a.id⟩,h):=by
 rw [run_eq,zcgh_]
 simp -implicitDefEqProofs [zmw_,SP.v,RF.v]
theorem zbic_ (h:H) {a b:SP} (ha:a.Len) (hb:b.Len):run XP zel_ [a.v,b.v] h=some (vb (cmpS a b == 0),h):=by
 have hc:=fun h=>zbia_ h ha hb
 simp only [SP.v] at hc
 rw [run_eq,zcgg_]
 simp -implicitDefEqProofs [zma_,SP.v,hc]
theorem zbid_:∀ l:List AT,wide 4 (l.map AT.v)=true
 | []=>rfl
 | a :: l=>by simp only [List.map_cons,wide,zbid_ l,Bool.and_true]; rfl
theorem zbie_:∀ l:List RF,wide 2 (l.map RF.v)=true
 | []=>rfl
 | a :: l=>by simp only [List.map_cons,wide,zbie_ l,Bool.and_true]; rfl
theorem zgf_ (a:SP):wide 14 [a.v]=true:=by
 have h:∀ (k:Nat) (o:Option (List V)),(lv k o).cell=true:=fun k o=>by cases o <;> rfl
 simp only [wide,SP.v,V.cells,List.length_cons,List.length_nil,zai_,h,Bool.and_true]
 rfl
theorem zjm_:∀ l:List SP,wide 14 (l.map SP.v)=true
 | []=>rfl
 | a :: l=>by
  have h:=zgf_ a
  simp only [wide,Bool.and_true] at h
  simp only [List.map_cons,wide,h,zjm_ l,Bool.and_self]
def ov (k:Nat):Option (List V)→V
 | none=>vnil
 | some es=>.own k es
theorem zbif_ (k:Nat) (o:Option (List V)):res0 (ov k o)=lv k o:=by cases o <;> rfl
theorem zbig_ (h:H) {l:List AT} {n:Bool} (hn:n=true→l=[]) (hl:l.length≤2932031007402):run XP zrl_ [lv 4 (slc AT.v l n)] h=some (ov 4 (slc AT.v l n),h):=by
 rw [run_eq,zchi_]
 have h1:=zbid_ l
 have h2:=zbhs_ l
 cases n with
 | true =>
  rw [hn rfl]
  simp -implicitDefEqProofs [ziw_,slc,lv,ov]
 | false=>simp -implicitDefEqProofs [ziw_,slc,lv,ov,h1,h2,hl]
theorem zbih_ (h:H) {l:List RF} {n:Bool} (hn:n=true→l=[]) (hl:l.length≤8796093022208):run XP zrm_ [lv 2 (slc RF.v l n)] h=some (ov 2 (slc RF.v l n),h):=by
 rw [run_eq,zchj_]
 have h1:=zbie_ l
 have h2:=zbht_ l
 cases n with
 | true =>
  rw [hn rfl]
  simp -implicitDefEqProofs [zix_,slc,lv,ov]
 | false=>simp -implicitDefEqProofs [zix_,slc,lv,ov,h1,h2,hl]
structure SP.Sm (a:SP):Prop where
 al:a.ats.length≤2000000000000
 ll:a.lks.length≤2000000000000
 an:a.an=true→a.ats=[]
 ln:a.ln=true→a.lks=[]
theorem SP.Sm.len {a:SP} (h:a.Sm):a.Len:=⟨by have:=h.al; omega,by have:=h.ll; omega,h.an,h.ln⟩
theorem zdde_ (h:H) {a:SP} (ha:a.Sm):run XP zwp_ [a.v] h=some (a.v,h):=by
 have h1:=fun h=>zbig_ h ha.an (by have:=ha.al; omega)
 have h2:=fun h=>zbih_ h ha.ln (by have:=ha.ll; omega)
 rw [run_eq,zchg_]
 simp -implicitDefEqProofs [zmx_,SP.v,h1,h2,zbif_,zaw_,optEq]
end Go.Proofs.Sl
namespace Go.Proofs.Sl
def selA (p:Nat→Bool):Nat→List SP→List SP
 | _,[]=>[]
 | k,e :: r=>if p k=true then e :: selA p (k + 1) r else selA p (k + 1) r
def OutV (x:V) (h:H) (b k:Nat) (es:List V):Prop:=(es=[]∧x=vnil)∨∃ q,es≠[]∧b≤q∧x=.ref q es.length∧h[q]?=some (.arr false k es)
theorem OutV.app {x:V} {h:H} {b k:Nat} {es:List V} (o:OutV x h b k es) (t:H):OutV x (h++t) b k es:=by
 rcases o with o | ⟨q,h0,h1,h2,h3⟩
 ·exact .inl o
 ·exact .inr ⟨q,h0,h1,h2,by rw [List.getElem?_append_left (List.getElem?_eq_some_iff.1 h3).1]; exact h3⟩
theorem OutV.grow {x:V} {h:H} {b k lim:Nat} {es:List V} (o:OutV x h b k es) {e:V} (hb:b≤h.length) (hw:wide k [e]=true) (hc:V.closed.closeds [e]=true) (hl:es.length + 1≤lim) :
  ∃ x' h',zao_ h k lim x (.lst k [e])=some (x',h')∧OutV x' h' b k (es++[e])∧h'.take b=h.take b∧b≤h'.length:=by
 have ea:appEls h (.lst k [e])=some [e]:=rfl
 rcases o with ⟨rfl,rfl⟩ | ⟨q,h0,h1,rfl,h3⟩
 ·have hl':1≤lim:=by simpa using hl
  refine ⟨.ref h.length 1,h++[.arr false k [e]],?_,.inr ⟨h.length,by simp,hb,rfl,by simp⟩,by rw [List.take_append_of_le_length hb],by simp; omega⟩
  simp only [zao_,ea,zab_,hw,hc,and_self,if_true,List.length_cons,List.length_nil,Nat.zero_add,Nat.one_ne_zero,if_false,hl']
 ·have hq:=(List.getElem?_eq_some_iff.1 h3).1
  refine ⟨.ref q (es.length + 1),h.set q (.arr false k (es++[e])),?_,.inr ⟨q,by simp,h1,by simp,by rw [List.getElem?_set_self hq]⟩,?_,by simpa using hb⟩
  ·have:arrN h q es.length=some (false,k,es):=by simp [arrN,arrAt,h3,zab_]
   simp only [zao_,ea,zab_,hw,hc,and_self,if_true,this,List.length_cons,List.length_nil,Nat.zero_add,true_and,hl]
  ·rw [List.take_set,List.set_eq_of_length_le (by simp; omega)]
theorem OutV.ret {x:V} {h:H} {b k:Nat} {es:List V} (o:OutV x h b k es) (hc:V.closed.closeds es=true):retV b h .v x []=some (if es=[] then vnil else .own k es,[]):=by
 rcases o with ⟨rfl,rfl⟩ | ⟨q,h0,h1,rfl,h3⟩
 ·simp
 ·have:arrN h q es.length=some (false,k,es):=by simp [arrN,arrAt,h3,zab_]
  rw [if_neg h0]
  show (if q < b then _ else ob (arrN h q es.length) _)=_
  rw [if_neg (by omega),this,zab_,if_pos hc]
  rfl
theorem zddf_ {h:H} {v:V} {es:List SP} (hv:∀ t,Rd (h++t) 14 v (es.map SP.v)) (hs:∀ e ∈ es,e.Sm) (hl:es.length≤100000) {f:Nat} {b:List V} (hb0:arg0s b=some b) {p:Nat→Bool} (hp:∀ k t,k < es.length→run XP f (vi k :: b) (h++t)=some (vb (p k),h++t)) :
  run XP zwl_ [v,.fn f [] b] h=some (if selA p 0 es=[] then vnil else .own 14 ((selA p 0 es).map SP.v),h):=by
 have hv0:=hv []
 rw [List.append_nil] at hv0
 rw [run_eq,zcgz_]
 simp -implicitDefEqProofs [zlo_,hv0.toL]
 refine zaf_ es (fun k s h'=>∃ t pre,Sees s [(1,.fn f [] b),(8,v),(9,vi es.length),(10,vi k)]∧h'=h++t∧OutV (s 5) h' h.length 14 (pre.map SP.v)∧pre++selA p k (es.drop k)=selA p 0 es∧pre.length≤k) ?_ ?_ _ _
  ⟨[],[],by simp,by simp,.inl ⟨rfl,by simp⟩,rfl,by simp⟩
 ·rintro B f' hB hf k e s h' he hk ⟨t,pre,⟨h1,h8,h9,h10,-⟩,rfl,ho,hx,hpl⟩ K
  have hlt:(k:Int) < es.length:=by omega
  obtain ⟨q,hq,hld⟩:=(hv t).at (i:=k) (e:=e.v) (by simp [he])
  have hw:IntKind.i64.wrap ((k:Int) + 1)=(k:Int) + 1:=zac_ (by omega) (by omega)
  have hsm:=hs e (List.mem_of_getElem? he)
  have hcp:=fun h=>zdde_ h hsm
  have hpk:=fun t=>hp k t hk
  have hw1:=zgf_ e
  have hc1:V.closed.closeds [e.v]=true:=zba_ [e]
  rw [zas_ he,selA] at hx
  obtain ⟨x',h'',hap,ho',htk,hbl⟩:=(ho.app [.box false e.v.cells]).grow (lim:=837723144972) (by simp) hw1 hc1 (by simp; omega)
  simp only [SP.v,V.cells] at hld hcp hap hw1 hc1
  rw [List.append_assoc] at hap
  cases hb:p k with
  | false =>
   rw [hb,if_neg (by simp)] at hx
   simp -implicitDefEqProofs [hB,zsh_,h1,h8,h9,h10,hlt,hq,hld,hb0,hpk,hb]
   refine K _ _ ⟨t++[.box false e.v.cells],pre,?_,?_,?_,hx,by omega⟩
   ·simp [h1,h8,h9,hw]
   ·simp [SP.v]
   ·have:=ho.app [.box false e.v.cells]
    simpa [SP.v] using this
  | true =>
   rw [hb,if_pos rfl] at hx
   have htk':∃ t',h''=h++t':=⟨h''.drop h.length,by
    have:=List.take_append_drop h.length h''
    rw [htk] at this
    rw [List.append_assoc,List.take_left] at this
    exact this.symm⟩
   obtain ⟨t',rfl⟩:=htk'
   simp -implicitDefEqProofs [hB,zsh_,h1,h8,h9,h10,hlt,hq,hld,hb0,hpk,hb,hcp,hap]
   refine K _ _ ⟨t',pre++[e],?_,rfl,?_,by simpa using hx,by simp; omega⟩
   ·simp [h1,h8,h9,hw]
   ·simpa using ho'
 ·rintro B hB s h' ⟨t,pre,⟨h1,h8,h9,h10,-⟩,rfl,ho,hx,-⟩
  rw [List.drop_of_length_le (Nat.le_refl _),selA,List.append_nil] at hx
  subst hx
  have hr:=ho.ret (zba_ _)
  simp -implicitDefEqProofs [hB,zsh_,h1,h8,h9,h10]
  simp only [hr]
  simp
end Go.Proofs.Sl
namespace Go.Proofs.Sl
def cptA:SP→List SP→List SP
 | _,[]=>[]
 | a,b :: r=>if cmpS b a=0 then cptA b r else b :: cptA b r
def cpt:List SP→List SP
 | []=>[]
 | a :: r=>a :: cptA a r
def zSP:V:=.agg [.s (.int .i64 0),.s (.int .i64 0),.s (.int .i64 0),.s (.int .i64 0),.s (.int .i64 0),.s (.int .i64 0),.s (.string ⟨#[]⟩),.s (.string ⟨#[]⟩),.s (.string ⟨#[]⟩),.s (.int .i64 0),.s (.int .i64 0),.s (.bool false),.s (.slice none 0 0),.s (.slice none 0 0)]
theorem zbii_ (a b:List V):V.closed.closeds (a++b)=(V.closed.closeds a && V.closed.closeds b):=by
 induction a with
 | nil=>rfl
 | cons x a ih=>simp only [List.cons_append,V.closed.closeds,ih,Bool.and_assoc]
theorem zddg_ (n:Nat):V.closed.closeds (List.replicate n zSP)=true:=by
 induction n with
 | zero=>rfl
 | succ n ih=>simp only [List.replicate_succ,V.closed.closeds,ih,Bool.and_true]; rfl
theorem zbad_ (a:SP):a.v.cells.length=14∧zai_ a.v.cells=true:=by
 have:=zgf_ a
 simp only [wide,Bool.and_true,Bool.and_eq_true,beq_iff_eq] at this
 exact this
theorem zddh_ (a b:SP):putEl 0 a.v.cells b.v=a.v:=rfl
theorem zddi_ (a:SP):keep0s a.v.cells=some a.v.cells:=by
 have h1:∀ (k:Nat) (o:Option (List V)),frz0 (lv k o)=some (lv k o):=fun k o=>by cases o <;> rfl
 simp [SP.v,V.cells,keep0s,h1]
theorem zddj_ {base:Nat} {h:H} {l n i:Nat} {ws:List SP} (e:h[l]?=some (.arr false 14 (ws.map SP.v))) (hn:ws.length=n) (hi:i < n) (a:SP) :
  xstore base h 14 (.eptr l n i 0) a.v=some (h.set l (.arr false 14 ((ws.set i a).map SP.v))):=by
 have h1:arrN h l n=some (false,14,ws.map SP.v):=by simp [arrN,arrAt,e,zab_,hn]
 obtain ⟨w,hw⟩:∃ w,ws[i]?=some w:=⟨_,List.getElem?_eq_getElem (by omega)⟩
 have h2:(ws.map SP.v)[i]?=some w.v:=by rw [List.getElem?_map,hw]; rfl
 have h3:V.closed.closeds a.v.cells=true:=by
  have:=zba_ [a]
  simp only [List.map_cons,List.map_nil,V.closed.closeds,Bool.and_true] at this
  exact this
 have h4:zai_ a.v.cells=true:=(zbad_ a).2
 rw [zqv_,if_pos (zbad_ a).1,h1,zab_]
 simp only [Bool.false_eq_true,if_false,h2,zab_,zddi_,h3,h4,and_true]
 rw [if_pos (by rw [(zbad_ w).1]; exact Nat.le_refl _),zddh_,List.map_set]
theorem ztb_ {h:H} {l n i:Nat} {z:Bool} {ws:List SP} (e:h[l]?=some (.arr z 14 (ws.map SP.v))) (hn:ws.length=n) {a:SP} (hi:ws[i]?=some a):xload h 14 true (.eptr l n i 0)=some a.v:=by
 have h1:arrN h l n=some (z,14,ws.map SP.v):=by simp [arrN,arrAt,e,zab_,hn]
 have h2:(ws.map SP.v)[i]?=some a.v:=by rw [List.getElem?_map,hi]; rfl
 rw [zkc_,h1,zab_]
 simp only [h2,zab_]
 rfl
theorem zddk_ {h:H} {l n a b:Nat} {z:Bool} {ws:List V} (e:h[l]?=some (.arr z 14 ws)) (hn:ws.length=n) (hb:b≤n):V.toL h (.win l n a b)=some ((ws.take b).drop a):=by
 show (match h[l]? with
  | some (.arr _ _ es)=>if es.length=n∧b≤n then some ((es.take b).drop a) else none
  | _=>none)=_
 rw [e]
 exact if_pos ⟨hn,hb⟩
theorem zbij_ {h:H} {l n a b i:Nat} {z:Bool} {ws:List V} (e:h[l]?=some (.arr z 14 ws)) (hn:ws.length=n) (hi:a + i < b) (hb:b≤n):iaddrV h 14 (.win l n a b) i=some (.eptr l n (a + i) 0):=by
 rw [zvj_]
 have h1:arrN h l n=some (z,14,ws):=by simp [arrN,arrAt,e,zab_,hn]
 rw [h1,zab_,if_pos ⟨hi,hb,rfl⟩]
theorem zbae_ {h:H} {l n i:Nat} {z:Bool} {ws:List V} (e:h[l]?=some (.arr z 14 ws)) (hn:ws.length=n) (hi:i < n):iaddrV h 14 (.ref l n) i=some (.eptr l n i 0):=by
 have h1:arrN h l n=some (z,14,ws):=by simp [arrN,arrAt,e,zab_,hn]
 rw [zvk_,h1,zab_,if_pos ⟨hi,rfl⟩]
theorem zbik_ {h:H} {l:Nat} {o:O} (e:h[l]?=some o):h.set l o=h:=by
 apply List.ext_getElem?
 intro i
 rw [List.getElem?_set]
 split
 ·rename_i hi
  subst hi
  have:=(List.getElem?_eq_some_iff.1 e).1
  rw [if_pos this,e]
 ·rfl
theorem zbil_ {a:SP}:cptA a []=[]:=rfl
theorem zddl_ (es:List SP) (a:SP) (ha:es[1 - 1]?=some a):cpt es=es.take 1++cptA a (es.drop 1):=by
 cases es with
 | nil=>simp at ha
 | cons x r =>
  simp only [Nat.sub_self,List.getElem?_cons_zero,Option.some.injEq] at ha
  subst ha
  rfl
theorem zddm_ {h:H} {l:Nat} {es:List SP} (he:h[l]?=some (.arr false 14 (es.map SP.v))) (hs:∀ e ∈ es,e.Sm) (hn:es.length≤100000) :
  ∃ r,run XP zkf_ [.ref l es.length,.fn zel_ [] []] h=some r∧((r=(.ref l es.length,h)∧cpt es=es)∨∃ o,r=(.lst 14 ((cpt es).map SP.v),h.set l o)):=by
 have hl:l < h.length:=(List.getElem?_eq_some_iff.1 he).1
 have hset:∀ o:O,(h.set l o)[l]?=some o:=fun o=>List.getElem?_set_self hl
 have hlen:(es.map SP.v).length=es.length:=by simp
 have htoL:V.toL h (.ref l es.length)=some (es.map SP.v):=by simp [he]
 by_cases h2:es.length < 2
 ·refine ⟨_,?_,.inl ⟨rfl,?_⟩⟩
  ·have h2i:(es.length:Int) < 2:=by omega
   rw [run_eq,zzn_]
   simp -implicitDefEqProofs [zfu_,htoL,h2i,hl]
  ·cases es with
   | nil=>rfl
   | cons a r=>cases r with
    | nil=>rfl
    | cons b r=>simp at h2; omega
 ·have h2':¬ ((es.length:Int) < 2):=by omega
  suffices key:∃ r,((r=(.ref l es.length,h)∧cpt es=es)∨∃ o,r=(.lst 14 ((cpt es).map SP.v),h.set l o))∧run XP zkf_ [.ref l es.length,.fn zel_ [] []] h=some r by
   obtain ⟨r,h3,h4⟩:=key
   exact ⟨r,h4,h3⟩
  -- which of the two it will be
  obtain ⟨r,hr,hr1,hr2⟩:∃ r,((r=(V.ref l es.length,h)∧cpt es=es)∨∃ o,r=(.lst 14 ((cpt es).map SP.v),h.set l o))∧(cpt es=es→r=(.ref l es.length,h)) ∧
    (cpt es≠es→r=(.lst 14 ((cpt es).map SP.v),h.set l (.arr true 14 ((cpt es).map SP.v++List.replicate (es.length - (cpt es).length) zSP)))):=by
   by_cases hc:cpt es=es
   ·exact ⟨_,.inl ⟨rfl,hc⟩,fun _=>rfl,fun h=>absurd hc h⟩
   ·exact ⟨_,.inr ⟨_,rfl⟩,fun h=>absurd h hc,fun _=>rfl⟩
  refine ⟨r,hr,?_⟩
  rw [run_eq,zzn_]
  simp -implicitDefEqProofs [zfu_,htoL,h2']
  refine zei_ (σ:=Nat) (fun k=>es.length - k) (fun k s h'=>Sees s [(0,.ref l es.length),(1,.fn zel_ [] []),(5,vi k)]∧h'=h∧1≤k∧k≤es.length∧∀ a,es[k - 1]?=some a→cpt es=es.take k++cptA a (es.drop k)) ?_ 1 _ _
   ⟨by simp,rfl,Nat.le_refl _,by omega,zddl_ es⟩
  rintro B f hB hf k s h' ⟨⟨h0,h1,h5,-⟩,rfl,hk1,hkn,hinv⟩ K
  obtain ⟨a,ha⟩:∃ a,es[k - 1]?=some a:=⟨_,List.getElem?_eq_getElem (by omega)⟩
  have hx:=hinv a ha
  have hw:IntKind.i64.wrap ((k:Int) + 1)=(k:Int) + 1:=zac_ (by omega) (by omega)
  by_cases hlt:k < es.length
  ·have hlti:(k:Int) < es.length:=by omega
   obtain ⟨e,hek⟩:∃ e,es[k]?=some e:=⟨_,List.getElem?_eq_getElem hlt⟩
   have hw1:IntKind.i64.wrap ((k:Int) - 1)=((k - 1:Nat):Int):=by rw [zac_ (by omega) (by omega)]; omega
   have ld1:=ztb_ he rfl hek
   have ld2:=ztb_ he rfl ha
   have hE:=zbic_ h' (hs e (List.mem_of_getElem? hek)).len (hs a (List.mem_of_getElem? ha)).len
   have hp1:k - 1 < es.length:=by omega
   have hf1:frz0 e.v=some e.v:=rfl
   have ia1:=zbae_ he hlen hlt
   have ia2:=zbae_ he hlen hp1
   have ar1:∀ a:SP,arg0 a.v=some a.v:=fun _=>rfl
   rw [zas_ hek,cptA] at hx
   by_cases hc:cmpS e a=0
   ·rw [if_pos hc] at hx
    have hc':(cmpS e a == 0)=true:=by simpa using hc
    have hsame:h'.set l (.arr false 14 (es.map SP.v))=h':=zbik_ he
    have hke:k≤es.length:=by omega
    simp -implicitDefEqProofs [hB,hf,zsp_,h0,h1,h5,htoL,hlt,hw1,ia1,ia2,ld1,ld2,hE,hc',ar1,he,hke]
    refine zei_ (σ:=Nat) (fun j=>es.length - j) (fun j s h''=>∃ (ws out:List SP),Sees s [(0,.ref l es.length),(1,.fn zel_ [] []),(5,vi out.length),(6,.win l es.length k es.length),(7,vi j)]∧h''=h'.set l (.arr false 14 (ws.map SP.v)) ∧
     ws.length=es.length∧ws.take out.length=out∧out.length + 1≤k + j∧(∀ i,k + j≤i + 1→ws[i]?=es[i]?)∧(∀ b,es[k + j - 1]?=some b→cpt es=out++cptA b (es.drop (k + j)))∧1≤j∧k + j≤es.length) ?_ 1 _ _
     ⟨es,es.take k,by simp [Nat.min_eq_left hke,h0,h1,h5],hsame.symm,rfl,by simp,by simp; omega,fun _ _=>rfl,fun b hb=>?_,Nat.le_refl _,hlt⟩
    ·rintro B2 f2 hB2 hf2 j s2 h2 ⟨ws,out,⟨z0,z1,z5,z6,z7,-⟩,rfl,hwl,hwo,hol,hwe,hwc,hj1,hjn⟩ K2
     have hH:=hset (.arr false 14 (ws.map SP.v))
     have hwl':(ws.map SP.v).length=es.length:=by simp [hwl]
     have htw:=zddk_ hH hwl' (a:=k) (Nat.le_refl es.length)
     have hlw:(((ws.map SP.v).take es.length).drop k).length=es.length - k:=by simp [hwl]
     have hmn:out.length < es.length:=by omega
     by_cases hjl:k + j < es.length
     ·have hjlt:(j:Int) < ((es.length - k:Nat):Int):=by omega
      have hw2:IntKind.i64.wrap ((j:Int) - 1)=((j - 1:Nat):Int):=by rw [zac_ (by omega) (by omega)]; omega
      have hw3:IntKind.i64.wrap ((j:Int) + 1)=(j:Int) + 1:=zac_ (by omega) (by omega)
      have hw4:IntKind.i64.wrap ((out.length:Int) + 1)=(out.length:Int) + 1:=zac_ (by omega) (by omega)
      obtain ⟨e1,he1⟩:∃ e1,es[k + j]?=some e1:=⟨_,List.getElem?_eq_getElem hjl⟩
      obtain ⟨e0,he0⟩:∃ e0,es[k + j - 1]?=some e0:=⟨_,List.getElem?_eq_getElem (by omega)⟩
      have hj0:k + (j - 1)=k + j - 1:=by omega
      have w1:ws[k + j]?=some e1:=by rw [hwe _ (by omega),he1]
      have w0:ws[k + (j - 1)]?=some e0:=by rw [hj0,hwe _ (by omega),he0]
      have ib1:=zbij_ hH hwl' hjl (Nat.le_refl _)
      have ib0:=zbij_ hH hwl' (a:=k) (i:=j - 1) (b:=es.length) (by omega) (Nat.le_refl _)
      have ib2:=zbae_ hH hwl' hmn
      have lb1:=ztb_ hH hwl w1
      have lb0:=ztb_ hH hwl w0
      have hE2:=zbic_ (h'.set l (.arr false 14 (ws.map SP.v))) (hs e1 (List.mem_of_getElem? he1)).len (hs e0 (List.mem_of_getElem? he0)).len
      have hcc:=hwc e0 he0
      rw [zas_ he1,cptA] at hcc
      by_cases hd:cmpS e1 e0=0
      ·rw [if_pos hd] at hcc
       have hd':(cmpS e1 e0 == 0)=true:=by simpa using hd
       simp -implicitDefEqProofs [hB2,zso_,z0,z1,z5,z6,z7,htw,hlw,hjlt,hw2,ib1,ib0,lb1,lb0,hE2,hd',ar1]
       refine K2 (j + 1) _ _ (by omega) ⟨ws,out,?_,rfl,hwl,hwo,by omega,fun i hi=>hwe i (by omega),fun b hb=>?_,by omega,by omega⟩
       ·simp [z0,z1,z5,z6,hw3]
       ·rw [show k + (j + 1) - 1=k + j by omega,he1] at hb
        injection hb with hb
        subst hb
        exact hcc
      ·rw [if_neg hd] at hcc
       have hd':(cmpS e1 e0 == 0)=false:=by simpa using hd
       have sb:=zddj_ (base:=h'.length) hH hwl hmn e1
       simp -implicitDefEqProofs [hB2,zso_,z0,z1,z5,z6,z7,htw,hlw,hjlt,hw2,ib1,ib0,ib2,lb1,lb0,hE2,hd',ar1,sb]
       refine K2 (j + 1) _ _ (by omega) ⟨ws.set out.length e1,out++[e1],?_,by rw [List.map_set],by simp [hwl],?_,by simp; omega,fun i hi=>?_,fun b hb=>?_,by omega,by omega⟩
       ·simp [z0,z1,z6,hw3,hw4]
       ·rw [List.length_append,List.length_singleton,List.take_add_one,List.take_set,List.set_eq_of_length_le (by simp; omega),hwo,List.getElem?_set_self (by omega)]
        rfl
       ·rw [List.getElem?_set_ne (by omega)]
        exact hwe i (by omega)
       ·rw [show k + (j + 1) - 1=k + j by omega,he1] at hb
        injection hb with hb
        subst hb
        rw [hcc]
        simp
        rfl
     ·have hjn':k + j=es.length:=by omega
      have hjlt:¬ ((j:Int) < ((es.length - k:Nat):Int)):=by omega
      obtain ⟨e0,he0⟩:∃ e0,es[k + j - 1]?=some e0:=⟨_,List.getElem?_eq_getElem (by omega)⟩
      have hcc:=hwc e0 he0
      rw [hjn',List.drop_of_length_le (Nat.le_refl _),zbil_,List.append_nil] at hcc
      subst hcc
      have hrr:=hr2 (fun h=>by rw [h] at hmn; omega)
      subst hrr
      have hmle:(cpt es).length≤es.length:=by omega
      simp -implicitDefEqProofs [hB2,hf2,zso_,z0,z1,z5,z6,z7,htw,hlw,hjlt,hH,hwl,hmle,hset]
      have htk:(ws.map SP.v).take (cpt es).length=(cpt es).map SP.v:=by rw [← List.map_take,hwo]
      rw [htk]
      refine ⟨?_,?_⟩
      ·have h1:=zbii_ ((cpt es).map SP.v) (List.replicate (es.length - (cpt es).length) zSP)
       rw [zba_,zddg_,Bool.and_self] at h1
       exact h1
      ·rw [hf]
       simp -implicitDefEqProofs [zSP]
    ·rw [Nat.add_sub_cancel,hek] at hb
     injection hb with hb
     subst hb
     exact hx
   ·rw [if_neg hc] at hx
    have hc':(cmpS e a == 0)=false:=by simpa using hc
    simp -implicitDefEqProofs [hB,zsp_,h0,h1,h5,htoL,hlt,hw1,ia1,ia2,ld1,ld2,hE,hc',ar1]
    refine K (k + 1) _ _ (by omega) ⟨?_,rfl,by omega,hlt,fun b hb=>?_⟩
    ·simp [h0,h1,hw]
    ·rw [Nat.add_sub_cancel,hek] at hb
     injection hb with hb
     subst hb
     rw [hx,zjl_ hek]
     simp
  ·obtain rfl:k=es.length:=by omega
   rw [List.drop_of_length_le (Nat.le_refl _),zbil_,List.append_nil,List.take_length] at hx
   have:=hr1 hx
   subst this
   simp -implicitDefEqProofs [hB,hf,zsp_,h0,h1,h5,htoL,hl]
end Go.Proofs.Sl
namespace Go.Proofs.Sl
theorem zbaf_ {n:Nat} {c:Nat→Nat→Int} (hO:Go.Sort.SWO (cmpLt n c)):(zbf_ n c).Perm (List.range n)∧(zbf_ n c).Pairwise fun a b=>¬ c b a < 0:=by
 unfold zbf_
 by_cases h0:n=0
 ·subst h0; simp
 ·rw [if_neg h0]
  have hd:(Array.range n).size=n:=by simp
  have hps:=Go.Sort.pdq_sorts (cmpLt n c) hO (Array.range n) 0 n (zgp_ n) true true (Nat.zero_le _) (by rw [hd]; exact Nat.le_refl _) (Or.inl rfl)
  generalize Go.Sort.pdq (cmpLt n c) (Array.range n) 0 n (zgp_ n) true true=dd at hps
  obtain ⟨⟨hs1,_,hp⟩,hs2⟩:=hps
  rw [hd] at hs1
  have e1:(dd.extract 0 n).toList=dd.toList:=by
   rw [Array.toList_extract,List.extract_eq_take_drop,List.drop_zero,Nat.sub_zero,List.take_of_length_le (by rw [Array.length_toList,hs1]; exact Nat.le_refl _)]
  have e2:((Array.range n).extract 0 n).toList=List.range n:=by
   rw [Array.toList_extract,List.extract_eq_take_drop]
   simp
  rw [e1,e2] at hp
  refine ⟨hp,?_⟩
  have hmem:∀ i,i < n→dd[i]! < n:=fun i hi=>by
   have:dd[i]! ∈ dd.toList:=by
    rw [getElem!_pos dd i (by omega)]
    exact Array.mem_toList_iff.2 (Array.getElem_mem _)
   exact List.mem_range.1 (hp.mem_iff.1 this)
  rw [List.pairwise_iff_getElem]
  intro i j hi hj hij
  rw [Array.length_toList] at hi hj
  have:=hs2 i j (Nat.zero_le _) hij (by omega)
  have h1:=hmem i (by omega)
  have h2:=hmem j (by omega)
  simp only [cmpLt,decide_eq_false_iff_not] at this
  rw [show clampI n dd[j]! = dd[j]! by simp [clampI,h2],show clampI n dd[i]! = dd[i]! by simp [clampI,h1],getElem!_pos dd i (by omega),getElem!_pos dd j (by omega)] at this
  simpa using this
def cI (l:List SP) (i j:Nat):Int:=cmpS (l.getD i SP.z) (l.getD j SP.z)
def srt (l:List SP):List SP:=(zbf_ l.length (cI l)).map fun i=>l.getD i SP.z
theorem cI_swo (l:List SP):Go.Sort.SWO (cmpLt l.length (cI l)) where
 irrefl:=fun x=>by simp [cmpLt,cI,zbs_.self]
 trans:=fun x y z h k=>by
  simp only [cmpLt,decide_eq_true_eq] at h k ⊢
  simp only [cI] at h k ⊢
  exact zbs_.lt_of_lt_le h (by omega)
 ntrans:=fun x y z h k=>by
  simp only [cmpLt,decide_eq_false_iff_not] at h k ⊢
  simp only [cI] at h k ⊢
  generalize l.getD (clampI l.length x) SP.z=a at *
  generalize l.getD (clampI l.length y) SP.z=b at *
  generalize l.getD (clampI l.length z) SP.z=c at *
  have h1:=zbs_.anti a b
  have h2:=zbs_.anti b c
  have h3:=zbs_.anti a c
  have:=zbs_.trans c b a (by omega) (by omega)
  omega
theorem zddn_ (l:List SP):(List.range l.length).map (fun i=>l.getD i SP.z)=l:=by
 apply List.ext_getElem
 ·simp
 ·intro i h1 h2
  simp at h1
  simp [h1]
theorem zbim_ (l:List SP):(srt l).Perm l:=by
 have:=((zbaf_ (cI_swo l)).1).map fun i=>l.getD i SP.z
 rw [zddn_] at this
 exact this
theorem zddo_ (l:List SP):(srt l).Pairwise fun a b=>cmpS a b≤0:=by
 have:=(zbaf_ (cI_swo l)).2
 rw [srt,List.pairwise_map]
 refine this.imp fun {a b} h=>?_
 simp only [cI] at h
 have:=zbs_.anti (l.getD a SP.z) (l.getD b SP.z)
 omega
theorem ztc_ (l:List SP):(srt l).length=l.length:=(zbim_ l).length_eq
theorem zbag_ {l:List SP} {a:SP}:a ∈ srt l↔a ∈ l:=(zbim_ l).mem_iff
theorem zddp_ (l:List SP):pickEs (l.map SP.v) (zbf_ l.length (cI l))=(srt l).map SP.v:=by
 unfold pickEs srt
 rw [List.map_map]
 apply List.map_congr_left
 intro i hi
 have:i < l.length:=List.mem_range.1 ((zbaf_ (cI_swo l)).1.mem_iff.1 hi)
 simp [this]
theorem zgg_ {f:Nat} {F:XF} {k:NK} (e:XP f=some F) (hk:F.nat=some k) (hq:k≠.keep:=by intro hh; cases hh) (args:List V) (h:H):run XP f args h=xnat (run XP) args h k:=by
 rw [run_eq,e,zab_]
 unfold xfun
 rw [hk]
 cases k <;> first
  | rfl
  | exact absurd rfl hq
theorem zbah_:∀ l:List SP,allAgg (l.map SP.v)=true
 | []=>rfl
 | a :: l=>zbah_ l
theorem zddq_ (h:H) (f:V):run XP zrn_ [vnil,f] h=some (.tup [],h):=by
 rw [zgg_ zbgw_ rfl]
 rfl
theorem zddr_ {h:H} {l:Nat} {es:List SP} (he:h[l]?=some (.arr false 14 (es.map SP.v))) (hs:∀ e ∈ es,e.Sm) (hn:es.length≤100000) :
  run XP zrn_ [.ref l es.length,.fn zfm_ [] []] h=some (.tup [],h.set l (.arr false 14 ((srt es).map SP.v))):=by
 rw [zgg_ zbgw_ rfl]
 simp only [xnat]
 rw [zew_]
 refine ⟨es.map SP.v,cI es,he,by simp,by omega,zba_ es,rfl,rfl,⟨rfl,zbah_ es⟩,⟨?_,by simpa using cI_swo es⟩,by rw [zddp_]⟩
 intro i j x y hx hy
 rw [List.getElem?_map] at hx hy
 obtain ⟨a,ha,rfl⟩:∃ a,es[i]?=some a∧a.v=x:=by simpa using hx
 obtain ⟨b,hb,rfl⟩:∃ a,es[j]?=some a∧a.v=y:=by simpa using hy
 have:=zbia_ [] (hs a (List.mem_of_getElem? ha)).len (hs b (List.mem_of_getElem? hb)).len
 simp only [List.nil_append,List.append_nil]
 rw [this]
 simp [cI,ha,hb]
def LV (v:V) (es:List SP):Prop:=(es=[]∧v=vnil)∨v=.lst 14 (es.map SP.v)
theorem zdds_ {h:H} {v:V} {es:List SP} (hv:LV v es) (hn:es.length≤100000):run XP zws_ [vnil,.fn zck_ [] [.fptr (.agg [v]) 0]] h=some (if es=[] then vnil else .own 14 (es.map SP.v),h):=by
 rw [zgg_ zchl_ rfl]
 simp only [xnat]
 rcases hv with ⟨rfl,rfl⟩ | rfl
 ·rfl
 ·show (if _ then _ else _)=_
  rw [if_pos ⟨rfl,rfl,by simp; omega,zjm_ es,zba_ es,zbah_ es⟩]
  cases es with
  | nil=>rfl
  | cons a r=>rfl
theorem zddt_ {h:H} {v:V} {es:List SP} (hv:LV v es) (hn:es.length≤100000):run XP zwr_ [.fn zck_ [] [.fptr (.agg [v]) 0]] h=some (if es=[] then vnil else .own 14 (es.map SP.v),h):=by
 have h1:=fun h=>zdds_ (h:=h) hv hn
 have h2:=zba_ es
 rw [run_eq,zchk_]
 by_cases he:es=[]
 ·simp -implicitDefEqProofs [zjb_,h1,he]
 ·simp -implicitDefEqProofs [zjb_,h1,he,h2]
theorem zddu_ {h:H} {v:V} {es:List SP} (hv:LV v es) (hs:∀ e ∈ es,e.Sm) (hn:es.length≤100000) :
  run XP zwq_ [.fn zck_ [] [.fptr (.agg [v]) 0],.fn zfm_ [] []] h=some (if es=[] then vnil else .own 14 ((srt es).map SP.v),h):=by
 have h1:=fun h=>zddt_ (h:=h) hv hn
 have h2:=zba_ (srt es)
 have h4:=ztc_ es
 rw [run_eq,zchh_]
 by_cases he:es=[]
 ·have h3:=fun h=>zddq_ h (.fn zfm_ [] [])
  simp -implicitDefEqProofs [zir_,h1,he,h3]
 ·have h3:=zddr_ (h:=h++[.arr false 14 (es.map SP.v)]) (l:=h.length) (by simp) hs hn
  simp -implicitDefEqProofs [zir_,h1,he,h2,h3,h4]
end Go.Proofs.Sl
namespace Go.Proofs.Sl
def nl (es:List SP):V:=if es=[] then vnil else .lst 14 (es.map SP.v)
theorem nl_LV (es:List SP):LV (nl es) es:=by
 unfold nl
 split
 ·rename_i h; exact .inl ⟨h,rfl⟩
 ·exact .inr rfl
theorem LV.rd {v:V} {es:List SP} (l:LV v es) (h:H):Rd h 14 v (es.map SP.v):=by
 rcases l with ⟨rfl,rfl⟩ | rfl
 ·exact .nil
 ·exact .lst _
theorem zddv_ {es:List SP}:cpt es=[]↔es=[]:=by cases es <;> simp [cpt]
theorem zbai_:∀ (r:List SP) (a:SP),(cptA a r).Sublist r
 | [],a=>List.Sublist.slnil
 | b :: r,a=>by
  rw [cptA]
  split
  ·exact (zbai_ r b).cons b
  ·exact (zbai_ r b).cons_cons b
theorem zbin_:∀ es:List SP,(cpt es).Sublist es
 | []=>List.Sublist.slnil
 | a :: r=>(zbai_ r a).cons_cons a
def dst (es:List SP):List SP:=cpt (srt es)
theorem zbaj_ {es:List SP}:dst es=[]↔es=[]:=by
 unfold dst
 rw [zddv_]
 constructor
 ·intro h
  have:=ztc_ es
  rw [h] at this
  exact List.eq_nil_of_length_eq_zero this.symm
 ·rintro rfl
  rfl
theorem zgh_ {es:List SP} {a:SP} (h:a ∈ dst es):a ∈ es:=zbag_.1 ((zbin_ _).subset h)
theorem zpf_ (es:List SP):(dst es).length≤es.length:=by
 have:=(zbin_ (srt es)).length_le
 rw [ztc_] at this
 exact this
theorem zbio_ {h:H} {v:V} {es:List SP} (hv:LV v es):run XP zfo_ [v] h=some (.fn zck_ [] [.fptr (.agg [v]) 0],h):=by
 rw [run_eq,zbgv_]
 rcases hv with ⟨rfl,rfl⟩ | rfl <;> simp -implicitDefEqProofs [zis_,V.closed]
theorem zddw_ {h:H} {l:Nat} {z:Bool} {es:List SP} (he:h[l]?=some (.arr z 14 (es.map SP.v))) :
  run XP zfo_ [.ref l es.length] h=some (.fn zck_ [] [.fptr (.agg [.lst 14 (es.map SP.v)]) 0],h.set l (.arr true 14 (es.map SP.v))):=by
 have h1:=zba_ es
 rw [run_eq,zbgv_]
 have hl:(h.set l (O.arr true 14 (es.map SP.v))).length=h.length:=by simp
 simp -implicitDefEqProofs [zis_,V.closed,he,h1]
theorem zddx_ (h:H):run XP zkf_ [vnil,.fn zel_ [] []] h=some (vnil,h):=by
 rw [run_eq,zzn_]
 simp -implicitDefEqProofs [zfu_]
theorem zddy_ {h h2:H} {v v2:V} {es:List SP} (hv:LV v2 es) (h1:arg0 v=some v) (hval:run XP zfo_ [v] h=some (.fn zck_ [] [.fptr (.agg [v2]) 0],h2)) (hl2:h2.length=h.length) (hs:∀ e ∈ es,e.Sm) (hn:es.length≤100000) :
  ∃ R,run XP zwm_ [v] h=some (R,h2)∧res0 R=nl (dst es):=by
 have hS:=fun h=>zddu_ (h:=h) hv hs hn
 have htk:h2.take h.length=h2:=List.take_of_length_le (by omega)
 by_cases he:es=[]
 ·subst he
  refine ⟨vnil,?_,by rw [show dst []=[] from rfl]; rfl⟩
  have hC:=zddx_
  rw [run_eq,zzm_]
  simp -implicitDefEqProofs [zfp_,h1,hval,hS,hC,htk]
 ·have hlen:=ztc_ es
  obtain ⟨r,hr,hc⟩:=zddm_ (h:=h2++[.arr false 14 ((srt es).map SP.v)]) (l:=h2.length) (es:=srt es) (by simp) (fun e he=>hs e (zbag_.1 he)) (by omega)
  rw [hlen] at hr hc
  have hd:dst es≠[]:=fun h=>he (zbaj_.1 h)
  have hcl:=zba_ (srt es)
  have hnl:¬ h2.length < h.length:=by omega
  have htk3:(h2++[O.arr false 14 ((srt es).map SP.v)]).take h.length=h2:=by rw [← hl2]; simp
  rcases hc with ⟨rfl,hcc⟩ | ⟨o,rfl⟩
  ·refine ⟨.own 14 ((srt es).map SP.v),?_,by rw [nl,if_neg hd]; show V.lst 14 _=V.lst 14 ((cpt (srt es)).map SP.v); rw [hcc]⟩
   rw [run_eq,zzm_]
   simp -implicitDefEqProofs [zfp_,h1,hval,hS,he,hr,htk,htk3,hcl,hlen,hnl]
  ·refine ⟨.lst 14 ((dst es).map SP.v),?_,by rw [nl,if_neg hd]; rfl⟩
   rw [run_eq,zzm_]
   have htk2:(h2++[o]).take h.length=h2:=by rw [← hl2]; simp
   simp -implicitDefEqProofs [zfp_,h1,hval,hS,he,hr,htk2,hcl,hlen,dst]
theorem zddz_ (es:List SP):∀ k,selA (fun _=>true) k es=es:=by
 induction es with
 | nil=>exact fun _=>rfl
 | cons a r ih=>intro k; rw [selA,if_pos rfl,ih]
theorem zdea_ (h:H) (k:Nat):run XP zrj_ [vi k] h=some (vb true,h):=by
 rw [run_eq,zcha_]
 simp -implicitDefEqProofs [zlp_]
theorem nl_res (es:List SP):res0 (if es=[] then vnil else V.own 14 (es.map SP.v))=nl es:=by
 unfold nl
 split <;> rfl
def ow (es:List SP):V:=if es=[] then vnil else .own 14 (es.map SP.v)
theorem zpg_ (es:List SP):res0 (ow es)=nl es:=nl_res es
theorem zdt_ (es:List SP):arg0 (nl es)=some (nl es):=by unfold nl; split <;> rfl
theorem zdeb_ (es:List SP):res0 (nl es)=nl es:=by unfold nl; split <;> rfl
theorem zbip_ {h h2:H} {v v2:V} {es:List SP} (hv:LV v2 es) (h1:arg0 v=some v) (hval:run XP zfo_ [v] h=some (.fn zck_ [] [.fptr (.agg [v2]) 0],h2)) (hl2:h2.length=h.length) (hs:∀ e ∈ es,e.Sm) (hn:es.length≤100000) :
  run XP zkd_ [v] h=some (ow (dst es),h2):=by
 obtain ⟨R,hR,hR0⟩:=zddy_ hv h1 hval hl2 hs hn
 have htk:h2.take h.length=h2:=List.take_of_length_le (by omega)
 have hC:=zddf_ (h:=h2) (v:=nl (dst es)) (es:=dst es) (fun t=>(nl_LV _).rd _) (fun e he=>hs e (zgh_ he)) (by have:=zpf_ es; omega) (f:=zrj_) (b:=[]) rfl (p:=fun _=>true) (fun k t _=>zdea_ _ k)
 rw [zddz_] at hC
 have hcl:=zba_ (dst es)
 have hnl:¬ h2.length < h.length:=by omega
 have htk3:∀ o:O,(h2++[o]).take h.length=h2:=fun o=>by rw [← hl2]; simp
 rw [run_eq,zcgl_,ow]
 by_cases hd:dst es=[]
 ·rw [if_pos hd] at hC ⊢
  simp -implicitDefEqProofs [zie_,h1,hR,hR0,zdt_,hC,htk]
 ·rw [if_neg hd] at hC ⊢
  simp -implicitDefEqProofs [zie_,h1,hR,hR0,zdt_,hC,hcl,hnl,htk3]
def pW (D:List SP) (k:Nat):Bool:=k + 1 == D.length || !((D.getD (k + 1) SP.z).tr == (D.getD k SP.z).tr && (D.getD (k + 1) SP.z).id == (D.getD k SP.z).id)
theorem nl_at {D:List SP} {k:Nat} {a:SP} (ha:D[k]?=some a) (h:H):iaddrV h 14 (nl D) k=some (.fptr a.v 0):=by
 have:D≠[]:=by rintro rfl; simp at ha
 rw [nl,if_neg this]
 have h2:(D.map SP.v)[k]?=some a.v:=by rw [List.getElem?_map,ha]; rfl
 rw [zhg_,if_pos rfl,h2,zab_]
end Go.Proofs.Sl
namespace Go.Proofs.Sl
def wthn (lo hi:Int):List UInt8→Bool
 | []=>true
 | b :: l=>if (b.toNat:Int) < lo∨hi < (b.toNat:Int) then false else wthn lo hi l
theorem zdec_ {s:ByteArray} {k:Nat} {c:UInt8} (h:(bts s)[k]?=some c):s.data[k]?=some c:=by simpa [bts] using h
theorem zbiq_ (h:H) (s:ByteArray) (lo hi:Int) (hs:s.size≤9223372036854775807):run XP zri_ [vs s,vk .u8 lo,vk .u8 hi] h=some (vb (wthn lo hi (bts s)),h):=by
 have hlen:=zzu_ s
 rw [run_eq,zcgy_]
 simp -implicitDefEqProofs [zoe_]
 refine zaf_ (bts s) (fun k s' h'=>Sees s' [(0,vs s),(1,vk .u8 lo),(2,vk .u8 hi),(9,vi s.size),(10,vi k)]∧h'=h∧wthn lo hi (bts s)=wthn lo hi ((bts s).drop k)) ?_ ?_ _ _ ⟨by simp,rfl,rfl⟩
 ·rintro B f hB hf k c s' h' he hk ⟨⟨h0,h1,h2,h9,h10,-⟩,rfl,hx⟩ K
  have hlt:(k:Int) < s.size:=by omega
  have hw:IntKind.i64.wrap ((k:Int) + 1)=(k:Int) + 1:=zac_ (by omega) (by omega)
  have hd:=zdec_ he
  rw [zas_ he,wthn] at hx
  by_cases c1:(c.toNat:Int) < lo
  ·rw [if_pos (.inl c1)] at hx
   simp -implicitDefEqProofs [hB,hf,zod_,h0,h1,h2,h9,h10,hlt,hd,c1,hx]
  ·by_cases c2:hi < (c.toNat:Int)
   ·rw [if_pos (.inr c2)] at hx
    simp -implicitDefEqProofs [hB,hf,zod_,h0,h1,h2,h9,h10,hlt,hd,c1,c2,hx]
   ·rw [if_neg (by omega)] at hx
    simp -implicitDefEqProofs [hB,zod_,h0,h1,h2,h9,h10,hlt,hd,c1,c2]
    refine K _ _ ⟨?_,rfl,hx⟩
    simp [h0,h1,h2,h9,hw]
 ·rintro B hB s' h' ⟨⟨h0,h1,h2,h9,h10,-⟩,rfl,hx⟩
  rw [hlen] at h10
  rw [hlen,List.drop_of_length_le (by omega),wthn] at hx
  simp -implicitDefEqProofs [hB,zod_,h0,h1,h2,h9,h10,hx]
def eS:ByteArray:=⟨#[]⟩
def isNm (s:ByteArray):Bool:=!(decide (s=eS)) && (decide (s.size≤64) && wthn 33 126 (bts s))
theorem isE (s:ByteArray):s.toList.isEmpty=decide (s=eS):=by
 have:=bl_eq (a:=s) (b:=eS)
 rw [← this]
 have h:eS.toList=[]:=by rw [ByteArray.toList_eq]; rfl
 rw [h]
 cases s.toList <;> rfl
theorem ztd_ (h:H) (s:ByteArray) (hs:s.size≤9223372036854775807):run XP zht_ [vs s] h=some (vb (isNm s),h):=by
 have h1:=fun h=>zbiq_ h s 33 126 hs
 have h2:=isE s
 rw [run_eq,zcgn_]
 unfold isNm
 by_cases c1:s=eS
 ·have h3:s.toList.isEmpty=true:=by rw [h2]; simp [c1]
  rw [show decide (s=eS)=true by simp [c1]]
  simp only [Bool.not_true,Bool.false_and]
  simp -implicitDefEqProofs [zfx_,h3]
 ·have h3:s.toList.isEmpty=false:=by rw [h2]; simp [c1]
  rw [show decide (s=eS)=false by simp [c1]]
  simp only [Bool.not_false,Bool.true_and]
  by_cases c2:s.size≤64
  ·have c2':(s.size:Int)≤64:=by omega
   simp -implicitDefEqProofs [zfx_,h3,c2,c2',h1]
  ·have c2':¬ (s.size:Int)≤64:=by omega
   simp -implicitDefEqProofs [zfx_,h3,c2,c2']
def fin5 (sz:Nat) (ok:Bool):Int:=if 4096 < sz then 5 else if ok=true then 0 else 3
def okV (k:Int) (t:ByteArray) (n:Int):Bool:=if k=1 then wthn 32 126 (bts t) && decide (n=0) else if k=2 then decide (t=eS) && (decide (-1099511627776≤n) && decide (n≤1099511627776)) else decide (t=eS) && (decide (n=0) || decide (n=1))
def chkV (v:AV):Int:=if v.k=1∨v.k=2∨v.k=3 then fin5 v.t.size (okV v.k v.t v.n) else 12
theorem zded_ (h:H) (v:AV) (hs:v.t.size≤9223372036854775807):run XP zwf_ [v.v] h=some (vi (chkV v),h):=by
 obtain ⟨k,t,n⟩:=v
 simp only at hs
 have h1:=fun h=>zbiq_ h t 32 126 hs
 rw [run_eq,zcgj_]
 by_cases hl:4096 < t.size
 ·have hl':(4096:Int) < t.size:=by omega
  by_cases k1:k=1
  ·cases hw:wthn 32 126 (bts t)
   ·simp -implicitDefEqProofs [zax_,AV.v,h1,chkV,fin5,okV,hl,hl',k1,hw]
   ·by_cases n0:n=0
    ·simp -implicitDefEqProofs [zax_,AV.v,h1,chkV,fin5,okV,hl,hl',k1,hw,n0]
    ·have n0':(n == 0)=false:=by simpa using n0
     simp -implicitDefEqProofs [zax_,AV.v,h1,chkV,fin5,okV,hl,hl',k1,hw,n0,n0']
  ·have k1':(k == 1)=false:=by simpa using k1
   by_cases k2:k=2
   ·by_cases te:t=eS
    ·have te':t.toList.isEmpty=true:=by rw [isE]; simp [te]
     have teP:t=eS↔True:=iff_true_intro te
     by_cases n1:-1099511627776≤n
     ·by_cases n2:n≤1099511627776
      ·simp -implicitDefEqProofs [zax_,AV.v,h1,chkV,fin5,okV,hl,hl',k1,k1',k2,te',teP,n1,n2]
      ·simp -implicitDefEqProofs [zax_,AV.v,h1,chkV,fin5,okV,hl,hl',k1,k1',k2,te',teP,n1,n2]
     ·simp -implicitDefEqProofs [zax_,AV.v,h1,chkV,fin5,okV,hl,hl',k1,k1',k2,te',teP,n1]
    ·have te':t.toList.isEmpty=false:=by rw [isE]; simp [te]
     have teP:t=eS↔False:=iff_false_intro te
     simp -implicitDefEqProofs [zax_,AV.v,h1,chkV,fin5,okV,hl,hl',k1,k1',k2,te',teP]
   ·have k2':(k == 2)=false:=by simpa using k2
    by_cases k3:k=3
    ·by_cases te:t=eS
     ·have te':t.toList.isEmpty=true:=by rw [isE]; simp [te]
      have teP:t=eS↔True:=iff_true_intro te
      by_cases n0:n=0
      ·simp -implicitDefEqProofs [zax_,AV.v,h1,chkV,fin5,okV,hl,hl',k1,k1',k2,k2',k3,te',teP,n0]
      ·have n0':(n == 0)=false:=by simpa using n0
       by_cases n1:n=1
       ·simp -implicitDefEqProofs [zax_,AV.v,h1,chkV,fin5,okV,hl,hl',k1,k1',k2,k2',k3,te',teP,n0,n0',n1]
       ·have n1':(n == 1)=false:=by simpa using n1
        simp -implicitDefEqProofs [zax_,AV.v,h1,chkV,fin5,okV,hl,hl',k1,k1',k2,k2',k3,te',teP,n0,n0',n1,n1']
     ·have te':t.toList.isEmpty=false:=by rw [isE]; simp [te]
      have teP:t=eS↔False:=iff_false_intro te
      simp -implicitDefEqProofs [zax_,AV.v,h1,chkV,fin5,okV,hl,hl',k1,k1',k2,k2',k3,te',teP]
    ·have k3':(k == 3)=false:=by simpa using k3
     simp -implicitDefEqProofs [zax_,AV.v,h1,chkV,fin5,okV,hl,hl',k1,k1',k2,k2',k3,k3']
 ·have hl':¬ ((4096:Int) < t.size):=by omega
  by_cases k1:k=1
  ·cases hw:wthn 32 126 (bts t)
   ·simp -implicitDefEqProofs [zax_,AV.v,h1,chkV,fin5,okV,hl,hl',k1,hw]
   ·by_cases n0:n=0
    ·simp -implicitDefEqProofs [zax_,AV.v,h1,chkV,fin5,okV,hl,hl',k1,hw,n0]
    ·have n0':(n == 0)=false:=by simpa using n0
     simp -implicitDefEqProofs [zax_,AV.v,h1,chkV,fin5,okV,hl,hl',k1,hw,n0,n0']
  ·have k1':(k == 1)=false:=by simpa using k1
   by_cases k2:k=2
   ·by_cases te:t=eS
    ·have te':t.toList.isEmpty=true:=by rw [isE]; simp [te]
     have teP:t=eS↔True:=iff_true_intro te
     by_cases n1:-1099511627776≤n
     ·by_cases n2:n≤1099511627776
      ·simp -implicitDefEqProofs [zax_,AV.v,h1,chkV,fin5,okV,hl,hl',k1,k1',k2,te',teP,n1,n2]
      ·simp -implicitDefEqProofs [zax_,AV.v,h1,chkV,fin5,okV,hl,hl',k1,k1',k2,te',teP,n1,n2]
     ·simp -implicitDefEqProofs [zax_,AV.v,h1,chkV,fin5,okV,hl,hl',k1,k1',k2,te',teP,n1]
    ·have te':t.toList.isEmpty=false:=by rw [isE]; simp [te]
     have teP:t=eS↔False:=iff_false_intro te
     simp -implicitDefEqProofs [zax_,AV.v,h1,chkV,fin5,okV,hl,hl',k1,k1',k2,te',teP]
   ·have k2':(k == 2)=false:=by simpa using k2
    by_cases k3:k=3
    ·by_cases te:t=eS
     ·have te':t.toList.isEmpty=true:=by rw [isE]; simp [te]
      have teP:t=eS↔True:=iff_true_intro te
      by_cases n0:n=0
      ·simp -implicitDefEqProofs [zax_,AV.v,h1,chkV,fin5,okV,hl,hl',k1,k1',k2,k2',k3,te',teP,n0]
      ·have n0':(n == 0)=false:=by simpa using n0
       by_cases n1:n=1
       ·simp -implicitDefEqProofs [zax_,AV.v,h1,chkV,fin5,okV,hl,hl',k1,k1',k2,k2',k3,te',teP,n0,n0',n1]
       ·have n1':(n == 1)=false:=by simpa using n1
        simp -implicitDefEqProofs [zax_,AV.v,h1,chkV,fin5,okV,hl,hl',k1,k1',k2,k2',k3,te',teP,n0,n0',n1,n1']
     ·have te':t.toList.isEmpty=false:=by rw [isE]; simp [te]
      have teP:t=eS↔False:=iff_false_intro te
      simp -implicitDefEqProofs [zax_,AV.v,h1,chkV,fin5,okV,hl,hl',k1,k1',k2,k2',k3,te',teP]
    ·have k3':(k == 3)=false:=by simpa using k3
     simp -implicitDefEqProofs [zax_,AV.v,h1,chkV,fin5,okV,hl,hl',k1,k1',k2,k2',k3,k3']
end Go.Proofs.Sl
namespace Go.Proofs.Sl
theorem zdee_ (h:H) (ns:List Int) (hl:ns.length≤10000):run XP zwg_ [.lst 1 (il ns)] h=some (vi (orl ns),h):=by
 have hv:Rd h 1 (.lst 1 (il ns)) (il ns):=.lst _
 rw [run_eq,zcgo_]
 simp -implicitDefEqProofs [zna_,zar_]
 refine zaf_ ns (fun k s h'=>Sees s [(3,vi 0),(6,.lst 1 (il ns)),(7,vi ns.length),(8,vi k)]∧h'=h∧orl ns=orl (ns.drop k)) ?_ ?_ _ _ ⟨by simp,rfl,rfl⟩
 ·rintro B f hB hf k e s h' he hk ⟨⟨h3,h6,h7,h8,-⟩,rfl,hx⟩ K
  obtain ⟨p,hp,hld⟩:=hv.at1 (il_at he) rfl
  have hlt:(k:Int) < ns.length:=by omega
  rw [zas_ he,orl] at hx
  by_cases h0:e=0
  ·rw [if_neg (by simpa using h0)] at hx
   simp -implicitDefEqProofs [hB,zsr_,h3,h6,h7,h8,hlt,hp,hld,h0]
   refine K _ _ ⟨?_,rfl,hx⟩
   simp [h3,h6,h7,zcl_ (by omega:k < 100000000000)]
  ·rw [if_pos h0] at hx
   have h0':(e != 0)=true:=by simpa using h0
   simp -implicitDefEqProofs [hB,hf,zsr_,h3,h6,h7,h8,hlt,hp,hld,h0',hx]
 ·rintro B hB s h' ⟨⟨h3,h6,h7,h8,-⟩,rfl,hx⟩
  simp -implicitDefEqProofs [hB,zsr_,h3,h7,h8,hx,orl]
def rngd (n lo hi:Int):Bool:=decide (lo≤n) && decide (n≤hi)
theorem zte_ (h:H) (n:Int):run XP zhs_ [vi n] h=some (vb (!rngd n 1 1099511627776),h):=by
 rw [run_eq,zcgm_]
 unfold rngd
 by_cases c1:1≤n
 ·have c1':¬ n < 1:=by omega
  by_cases c2:n≤1099511627776
  ·have c2':¬ 1099511627776 < n:=by omega
   simp -implicitDefEqProofs [zfw_,c1,c2,c1',c2']
  ·have c2':1099511627776 < n:=by omega
   simp -implicitDefEqProofs [zfw_,c1,c2,c1',c2']
 ·have c1':n < 1:=by omega
  simp -implicitDefEqProofs [zfw_,c1,c1']
def leqT (a b:ByteArray):Bool:=Op.bytesLess a.toList b.toList || a.toList == b.toList
def chkAs:Option AT→List AT→Int
 | _,[]=>0
 | p,a :: r=>if isNm a.key=false then 11 else if (match p with
   | none=>false
   | some q=>leqT a.key q.key)=true then 8 else if chkV a.val≠0 then chkV a.val else chkAs (some a) r
theorem zdef_ (p:Option AT):chkAs p []=0:=by rw [chkAs]
theorem zbir_ (p:Option AT) (a:AT) (r:List AT):chkAs p (a :: r)=if isNm a.key=false then 11 else if (match p with
   | none=>false
   | some q=>leqT a.key q.key)=true then 8 else if chkV a.val≠0 then chkV a.val else chkAs (some a) r:=by cases p <;> rfl
def chkAL (l:List AT):Int:=if 32 < l.length then 6 else chkAs none l
def prevA {α:Type} (l:List α) (k:Nat):Option α:=if k=0 then none else l[k - 1]?
theorem ztf_ {α:Type} {l:List α} {k:Nat} {a:α} (h:l[k]?=some a):prevA l (k + 1)=some a:=by simp [prevA,h]
structure AT.Sz (a:AT):Prop where
 key:a.key.size≤9223372036854775807
 t:a.val.t.size≤9223372036854775807
theorem zbak_ {α:Type} {f:α→V} {l:List α} {n:Bool} (hn:n=true→l=[]) {i:Nat} {a:α} (ha:l[i]?=some a) (h:H) (k:Nat):iaddrV h k (lv k (slc f l n)) i=some (.fptr (f a) 0):=by
 cases n with
 | true=>rw [hn rfl] at ha; simp at ha
 | false =>
  show iaddrV h k (.lst k (l.map f)) i=_
  have:(l.map f)[i]?=some (f a):=by rw [List.getElem?_map,ha]; rfl
  rw [zhg_,if_pos rfl,this,zab_]
theorem zdeg_ {h:H} {l:List AT} {n:Bool} (hn:n=true→l=[]) (hs:∀ a ∈ l,a.Sz):run XP zwh_ [lv 4 (slc AT.v l n)] h=some (vi (chkAL l),h):=by
 have hv:=fun h=>rd_slc h 4 AT.v hn
 obtain ⟨v,hvv⟩:∃ v,v=lv 4 (slc AT.v l n):=⟨_,rfl⟩
 rw [← hvv] at hv ⊢
 rw [run_eq,zcgp_]
 by_cases hl:32 < l.length
 ·have hl':(32:Int) < l.length:=by omega
  simp -implicitDefEqProofs [ziu_,(hv _).toL,hl,hl',chkAL]
 ·have hl':¬ (32:Int) < l.length:=by omega
  rw [chkAL,if_neg hl]
  simp -implicitDefEqProofs [ziu_,(hv _).toL,hl,hl']
  refine zaf_ l (fun k s h'=>Sees s [(0,v),(9,v),(10,vi l.length),(11,vi k)]∧(∃ t,h'=h++t)∧chkAs none l=chkAs (prevA l k) (l.drop k)) ?_ ?_ _ _ ⟨by simp,⟨[],by simp⟩,rfl⟩
  ·rintro B f hB hf k e s h' he hk ⟨⟨h0,h9,h10,h11,-⟩,⟨t,rfl⟩,hx⟩ K
   have hlt:(k:Int) < l.length:=by omega
   obtain ⟨p,hp,hld⟩:=(hv (h++t)).at (i:=k) (e:=e.v) (by simp [he])
   have hw:IntKind.i64.wrap ((k:Int) + 1)=(k:Int) + 1:=zac_ (by omega) (by omega)
   have hsz:=hs e (List.mem_of_getElem? he)
   have hN:=fun h=>ztd_ h e.key hsz.key
   have hV:=fun h=>zded_ h e.val hsz.t
   simp only [AT.v,AV.v,V.cells] at hld hV
   rw [zas_ he,zbir_] at hx
   cases hnm:isNm e.key with
   | false =>
    rw [if_pos hnm] at hx
    simp -implicitDefEqProofs [hB,hf,zeq_,h0,h9,h10,h11,hlt,hp,hld,hN,hnm,hx]
   | true =>
    rw [if_neg (by simp [hnm])] at hx
    by_cases hk0:k=0
    ·subst hk0
     simp only [prevA,if_true,Bool.false_eq_true,if_false] at hx
     by_cases hz:chkV e.val=0
     ·rw [if_neg (by simpa using hz)] at hx
      simp -implicitDefEqProofs [hB,zeq_,h0,h9,h10,h11,hk,hp,hld,hN,hnm,hV,hz]
      refine K _ _ ⟨?_,⟨_,rfl⟩,by rw [ztf_ he]; exact hx⟩
      simpa [h0,h9,h10] using hw
     ·rw [if_pos hz] at hx
      have hz':(chkV e.val != 0)=true:=by simpa using hz
      simp -implicitDefEqProofs [hB,hf,zeq_,h0,h9,h10,h11,hk,hp,hld,hN,hnm,hV,hz',hx]
    ·obtain ⟨q,hq⟩:∃ q,l[k - 1]?=some q:=⟨_,List.getElem?_eq_getElem (by omega)⟩
     have hp2:=zbak_ (f:=AT.v) hn hq (h++(t++[.box false e.v.cells])) 4
     rw [← hvv] at hp2
     have hw1:IntKind.i64.wrap ((k:Int) - 1)=((k - 1:Nat):Int):=by rw [zac_ (by omega) (by omega)]; omega
     have hk0':(0:Int) < k:=by omega
     have hk0n:0 < k:=by omega
     simp only [AT.v,V.cells] at hp2
     have hpv:prevA l k=some q:=by simp [prevA,hk0,hq]
     rw [hpv] at hx
     replace hx:chkAs none l=if leqT e.key q.key=true then 8 else if chkV e.val≠0 then chkV e.val else chkAs (some e) (l.drop (k + 1)):=hx
     cases hle0:leqT e.key q.key with
     | true =>
      rw [if_pos hle0] at hx
      have hle:(Op.bytesLess e.key.toList q.key.toList || e.key.toList == q.key.toList)=true:=hle0
      simp -implicitDefEqProofs [hB,hf,zeq_,h0,h9,h10,h11,hlt,hp,hld,hN,hnm,hk0',hk0n,hw1,hp2,hle,hx]
     | false =>
      rw [if_neg (by simp [hle0])] at hx
      have hle:(Op.bytesLess e.key.toList q.key.toList || e.key.toList == q.key.toList)=false:=hle0
      by_cases hz:chkV e.val=0
      ·rw [if_neg (by simpa using hz)] at hx
       simp -implicitDefEqProofs [hB,zeq_,h0,h9,h10,h11,hlt,hp,hld,hN,hnm,hk0',hk0n,hw1,hp2,hle,hV,hz]
       refine K _ _ ⟨?_,⟨_,rfl⟩,by rw [ztf_ he]; exact hx⟩
       simp [h0,h9,h10,hw]
      ·rw [if_pos hz] at hx
       have hz':(chkV e.val != 0)=true:=by simpa using hz
       simp -implicitDefEqProofs [hB,hf,zeq_,h0,h9,h10,h11,hlt,hp,hld,hN,hnm,hk0',hk0n,hw1,hp2,hle,hV,hz',hx]
  ·rintro B hB s h' ⟨⟨h0,h9,h10,h11,-⟩,⟨t,rfl⟩,hx⟩
   rw [List.drop_of_length_le (Nat.le_refl _),zdef_] at hx
   simp -implicitDefEqProofs [hB,zeq_,h0,h9,h10,h11,hx]
def okR (r:RF):Bool:=rngd r.t 1 1099511627776 && rngd r.i 1 1099511627776
def chkLs:Option RF→List RF→Int
 | _,[]=>0
 | p,r :: l=>if okR r=false then 2 else if (match p with
   | none=>false
   | some q=>decide (0≤cmpR q r))=true then 8 else chkLs (some r) l
theorem zbis_ (p:Option RF):chkLs p []=0:=by rw [chkLs]
theorem zbal_ (p:Option RF) (r:RF) (l:List RF):chkLs p (r :: l)=if okR r=false then 2 else if (match p with
   | none=>false
   | some q=>decide (0≤cmpR q r))=true then 8 else chkLs (some r) l:=by cases p <;> rfl
def chkLL (l:List RF):Int:=if 16 < l.length then 6 else chkLs none l
theorem zdeh_ {h:H} {l:List RF} {n:Bool} (hn:n=true→l=[]):run XP zwi_ [lv 2 (slc RF.v l n)] h=some (vi (chkLL l),h):=by
 have hv:=fun h=>rd_slc h 2 RF.v hn
 obtain ⟨v,hvv⟩:∃ v,v=lv 2 (slc RF.v l n):=⟨_,rfl⟩
 rw [← hvv] at hv ⊢
 rw [run_eq,zcgq_]
 by_cases hl:16 < l.length
 ·have hl':(16:Int) < l.length:=by omega
  simp -implicitDefEqProofs [ziv_,(hv _).toL,hl,hl',chkLL]
 ·have hl':¬ (16:Int) < l.length:=by omega
  rw [chkLL,if_neg hl]
  simp -implicitDefEqProofs [ziv_,(hv _).toL,hl,hl']
  refine zaf_ l (fun k s h'=>Sees s [(0,v),(8,v),(9,vi l.length),(10,vi k)]∧(∃ t,h'=h++t)∧chkLs none l=chkLs (prevA l k) (l.drop k)) ?_ ?_ _ _ ⟨by simp,⟨[],by simp⟩,rfl⟩
  ·rintro B f hB hf k e s h' he hk ⟨⟨h0,h8,h9,h10,-⟩,⟨t,rfl⟩,hx⟩ K
   have hlt:(k:Int) < l.length:=by omega
   have hp:=zbak_ (f:=RF.v) hn he (h++t) 2
   rw [← hvv] at hp
   have hw:IntKind.i64.wrap ((k:Int) + 1)=(k:Int) + 1:=zac_ (by omega) (by omega)
   have b1:=fun h=>zte_ h e.t
   have b2:=fun h=>zte_ h e.i
   simp only [RF.v] at hp
   rw [zas_ he,zbal_] at hx
   cases r1:rngd e.t 1 1099511627776 with
   | false =>
    rw [if_pos (by simp [okR,r1])] at hx
    simp -implicitDefEqProofs [hB,hf,zfy_,h0,h8,h9,h10,hlt,hk,hp,b1,r1,hx]
   | true =>
    cases r2:rngd e.i 1 1099511627776 with
    | false =>
     rw [if_pos (by simp [okR,r2])] at hx
     simp -implicitDefEqProofs [hB,hf,zfy_,h0,h8,h9,h10,hlt,hk,hp,b1,b2,r1,r2,hx]
    | true =>
     rw [if_neg (by simp [okR,r1,r2])] at hx
     by_cases hk0:k=0
     ·subst hk0
      simp only [prevA,if_true,Bool.false_eq_true,if_false] at hx
      simp -implicitDefEqProofs [hB,zfy_,h0,h8,h9,h10,hk,hp,b1,b2,r1,r2]
      refine K _ _ ⟨?_,⟨_,rfl⟩,by rw [ztf_ he]; exact hx⟩
      simpa [h0,h8,h9] using hw
     ·obtain ⟨q,hq⟩:∃ q,l[k - 1]?=some q:=⟨_,List.getElem?_eq_getElem (by omega)⟩
      have hp2:=zbak_ (f:=RF.v) hn hq (h++(t++[.box false e.v.cells])) 2
      rw [← hvv] at hp2
      have hw1:IntKind.i64.wrap ((k:Int) - 1)=((k - 1:Nat):Int):=by rw [zac_ (by omega) (by omega)]; omega
      have hk0':(0:Int) < k:=by omega
      have hk0n:0 < k:=by omega
      have hc:=fun h=>zbhz_ h q e
      simp only [RF.v,V.cells] at hp2 hc
      have hpv:prevA l k=some q:=by simp [prevA,hk0,hq]
      rw [hpv] at hx
      replace hx:chkLs none l=if decide (0≤cmpR q e)=true then 8 else chkLs (some e) (l.drop (k + 1)):=hx
      by_cases hle:0≤cmpR q e
      ·rw [if_pos (by simpa using hle)] at hx
       simp -implicitDefEqProofs [hB,hf,zfy_,h0,h8,h9,h10,hlt,hk,hp,b1,b2,r1,r2,hk0',hk0n,hw1,hp2,hc,hle,hx]
      ·rw [if_neg (by simpa using hle)] at hx
       simp -implicitDefEqProofs [hB,zfy_,h0,h8,h9,h10,hlt,hk,hp,b1,b2,r1,r2,hk0',hk0n,hw1,hp2,hc,hle]
       refine K _ _ ⟨?_,⟨_,rfl⟩,by rw [ztf_ he]; exact hx⟩
       simp [h0,h8,h9,hw]
  ·rintro B hB s h' ⟨⟨h0,h8,h9,h10,-⟩,⟨t,rfl⟩,hx⟩
   rw [List.drop_of_length_le (Nat.le_refl _),zbis_] at hx
   simp -implicitDefEqProofs [hB,zfy_,h0,h8,h9,h10,hx]
end Go.Proofs.Sl
namespace Go.Proofs.Sl
theorem zda_ {n lo hi:Int}:rngd n lo hi=true↔lo≤n∧n≤hi:=by simp [rngd]
def chkSp (a:SP):Int :=
 if (rngd a.tr 1 1099511627776 && (rngd a.id 1 1099511627776 && (rngd a.par 0 1099511627776 && (rngd a.rev 0 1048576 && rngd a.clk 1 1048576))))=false then 2
 else if rngd a.kind 1 5=false then 12
 else if (isNm a.sv && (isNm a.op && (decide (a.vr=eS) || isNm a.vr)))=false then 11
 else if (rngd a.st (-1099511627776) 1099511627776 && rngd a.en (-1099511627776) 1099511627776)=false then 32
 else if a.en < a.st then 8
 else if 1099511627776 < a.en - a.st then 32
 else orl [chkAL a.ats,chkLL a.lks]
structure SP.Sz (a:SP):Prop where
 sv:a.sv.size≤9223372036854775807
 vr:a.vr.size≤9223372036854775807
 op:a.op.size≤9223372036854775807
 ats:∀ e ∈ a.ats,e.Sz
 an:a.an=true→a.ats=[]
 ln:a.ln=true→a.lks=[]
theorem vcase (vr:ByteArray) (h:(decide (vr=eS) || isNm vr)=true):(vr.toList.isEmpty=true∧True)∨(vr.toList.isEmpty=false∧isNm vr=true):=by
 by_cases e:vr=eS
 ·exact .inl ⟨by rw [isE]; simp [e],trivial⟩
 ·exact .inr ⟨by rw [isE]; simp [e],by simpa [e] using h⟩
theorem zdei_ (h:H) {a:SP} (ha:a.Sz):run XP zre_ [a.v] h=some (vi (chkSp a),h):=by
 obtain ⟨q1,q2,q3,q4,q5,q6⟩:=ha
 obtain ⟨tr,id,par,rev,clk,kind,sv,vr,op,st,en,er,ats,lks,an,ln⟩:=a
 simp only at q1 q2 q3 q4 q5 q6
 have i1:=fun h=>ztd_ h sv q1
 have i2:=fun h=>ztd_ h vr q2
 have i3:=fun h=>ztd_ h op q3
 have ca:=fun h=>zdeg_ (h:=h) q5 q4
 have aa:=(rd_slc h 4 AT.v q5).arg0
 have ab:=(rd_slc h 2 RF.v q6).arg0
 have b1:=fun h=>zte_ h tr
 have b2:=fun h=>zte_ h id
 have cl:=fun h=>zdeh_ (h:=h) q6
 have co:=fun h=>zdee_ h [chkAL ats,chkLL lks] (by simp)
 simp only [il,List.map_cons,List.map_nil] at co
 rw [run_eq]
 cases r_tr:rngd tr 1 1099511627776
 ·(rw [zbh_]; simp -implicitDefEqProofs [zaz_,SP.v,chkSp,i1,i2,i3,b1,b2,r_tr])
 ·
  cases r_id:rngd id 1 1099511627776
  ·(rw [zbh_]; simp -implicitDefEqProofs [zaz_,SP.v,chkSp,i1,i2,i3,b1,b2,r_tr,r_id])
  ·
   by_cases c_par:par < 0
   ·have r_par:rngd par 0 1099511627776=false:=by simp [rngd]; omega
    (rw [zbh_]; simp -implicitDefEqProofs [zaz_,SP.v,chkSp,i1,i2,i3,b1,b2,r_tr,r_id,c_par,r_par])
   ·
    by_cases d_par:1099511627776 < par
    ·have r_par:rngd par 0 1099511627776=false:=by simp [rngd]; omega
     (rw [zbh_]; simp -implicitDefEqProofs [zaz_,SP.v,chkSp,i1,i2,i3,b1,b2,r_tr,r_id,c_par,d_par,r_par])
    ·
     have r_par:rngd par 0 1099511627776=true:=by simp [rngd]; omega
     by_cases c_rev:rev < 0
     ·have r_rev:rngd rev 0 1048576=false:=by simp [rngd]; omega
      (rw [zbh_]; simp -implicitDefEqProofs [zaz_,SP.v,chkSp,i1,i2,i3,b1,b2,r_tr,r_id,c_par,d_par,r_par,c_rev,r_rev])
     ·
      by_cases d_rev:1048576 < rev
      ·have r_rev:rngd rev 0 1048576=false:=by simp [rngd]; omega
       (rw [zbh_]; simp -implicitDefEqProofs [zaz_,SP.v,chkSp,i1,i2,i3,b1,b2,r_tr,r_id,c_par,d_par,r_par,c_rev,d_rev,r_rev])
      ·
       have r_rev:rngd rev 0 1048576=true:=by simp [rngd]; omega
       by_cases c_clk:clk < 1
       ·have r_clk:rngd clk 1 1048576=false:=by simp [rngd]; omega
        (rw [zbh_]; simp -implicitDefEqProofs [zaz_,SP.v,chkSp,i1,i2,i3,b1,b2,r_tr,r_id,c_par,d_par,r_par,c_rev,d_rev,r_rev,c_clk,r_clk])
       ·
        by_cases d_clk:1048576 < clk
        ·have r_clk:rngd clk 1 1048576=false:=by simp [rngd]; omega
         (rw [zbh_]; simp -implicitDefEqProofs [zaz_,SP.v,chkSp,i1,i2,i3,b1,b2,r_tr,r_id,c_par,d_par,r_par,c_rev,d_rev,r_rev,c_clk,d_clk,r_clk])
        ·
         have r_clk:rngd clk 1 1048576=true:=by simp [rngd]; omega
         by_cases c_kind:kind < 1
         ·have r_kind:rngd kind 1 5=false:=by simp [rngd]; omega
          (rw [zbh_]; simp -implicitDefEqProofs [zaz_,SP.v,chkSp,i1,i2,i3,b1,b2,r_tr,r_id,c_par,d_par,r_par,c_rev,d_rev,r_rev,c_clk,d_clk,r_clk,c_kind,r_kind])
         ·
          by_cases d_kind:5 < kind
          ·have r_kind:rngd kind 1 5=false:=by simp [rngd]; omega
           (rw [zbh_]; simp -implicitDefEqProofs [zaz_,SP.v,chkSp,i1,i2,i3,b1,b2,r_tr,r_id,c_par,d_par,r_par,c_rev,d_rev,r_rev,c_clk,d_clk,r_clk,c_kind,d_kind,r_kind])
          ·
           have r_kind:rngd kind 1 5=true:=by simp [rngd]; omega
           cases n_sv:isNm sv
           ·(rw [zbh_]; simp -implicitDefEqProofs [zaz_,SP.v,chkSp,i1,i2,i3,b1,b2,r_tr,r_id,c_par,d_par,r_par,c_rev,d_rev,r_rev,c_clk,d_clk,r_clk,c_kind,d_kind,r_kind,n_sv])
           ·
            cases n_op:isNm op
            ·(rw [zbh_]; simp -implicitDefEqProofs [zaz_,SP.v,chkSp,i1,i2,i3,b1,b2,r_tr,r_id,c_par,d_par,r_par,c_rev,d_rev,r_rev,c_clk,d_clk,r_clk,c_kind,d_kind,r_kind,n_sv,n_op])
            ·
             have tail:∀ (q:Bool),q=(decide (vr=eS) || isNm vr)→q=true→ob (XP zre_) (fun F=>xfun (run XP) loopW F [SP.v ⟨tr,id,par,rev,clk,kind,sv,vr,op,st,en,er,ats,lks,an,ln⟩] h)=some (vi (chkSp ⟨tr,id,par,rev,clk,kind,sv,vr,op,st,en,er,ats,lks,an,ln⟩),h):=by
              intro q hq hq1
              rw [hq1] at hq
              replace hq:=hq.symm
              rcases vcase vr hq with ⟨v1,v2⟩ | ⟨v1,v2⟩
              all_goals
               by_cases o1:en < st
               ·have o3:¬ st < en:=by omega
                by_cases t1:en < -1099511627776
                ·have r_en:rngd en (-1099511627776) 1099511627776=false:=by (cases h:rngd en (-1099511627776) 1099511627776; rfl; have:=zda_.1 h; omega)
                 (rw [zbh_]; simp -implicitDefEqProofs [zaz_,SP.v,chkSp,i1,i2,i3,b1,b2,r_tr,r_id,c_par,d_par,r_par,c_rev,d_rev,r_rev,c_clk,d_clk,r_clk,c_kind,d_kind,r_kind,n_sv,n_op,hq,v1,v2,o1,o3,t1,r_en,Bool.and_false])
                ·by_cases t2:1099511627776 < st
                 ·have r_st:rngd st (-1099511627776) 1099511627776=false:=by (cases h:rngd st (-1099511627776) 1099511627776; rfl; have:=zda_.1 h; omega)
                  (rw [zbh_]; simp -implicitDefEqProofs [zaz_,SP.v,chkSp,i1,i2,i3,b1,b2,r_tr,r_id,c_par,d_par,r_par,c_rev,d_rev,r_rev,c_clk,d_clk,r_clk,c_kind,d_kind,r_kind,n_sv,n_op,hq,v1,v2,o1,o3,t1,t2,r_st])
                 ·have r_st:rngd st (-1099511627776) 1099511627776=true:=zda_.2 (by omega)
                  have r_en:rngd en (-1099511627776) 1099511627776=true:=zda_.2 (by omega)
                  (rw [zbh_]; simp -implicitDefEqProofs [zaz_,SP.v,chkSp,i1,i2,i3,b1,b2,r_tr,r_id,c_par,d_par,r_par,c_rev,d_rev,r_rev,c_clk,d_clk,r_clk,c_kind,d_kind,r_kind,n_sv,n_op,hq,v1,v2,o1,o3,t1,t2,r_st,r_en])
               ·have hmx:(if st < en then en else st)=en:=by split <;> omega
                by_cases t1:st < -1099511627776
                ·have r_st:rngd st (-1099511627776) 1099511627776=false:=by (cases h:rngd st (-1099511627776) 1099511627776; rfl; have:=zda_.1 h; omega)
                 (rw [zbh_]; simp -implicitDefEqProofs [zaz_,SP.v,chkSp,i1,i2,i3,b1,b2,r_tr,r_id,c_par,d_par,r_par,c_rev,d_rev,r_rev,c_clk,d_clk,r_clk,c_kind,d_kind,r_kind,n_sv,n_op,hq,v1,v2,o1,hmx,t1,r_st])
                ·by_cases t2:1099511627776 < en
                 ·have r_en:rngd en (-1099511627776) 1099511627776=false:=by (cases h:rngd en (-1099511627776) 1099511627776; rfl; have:=zda_.1 h; omega)
                  (rw [zbh_]; simp -implicitDefEqProofs [zaz_,SP.v,chkSp,i1,i2,i3,b1,b2,r_tr,r_id,c_par,d_par,r_par,c_rev,d_rev,r_rev,c_clk,d_clk,r_clk,c_kind,d_kind,r_kind,n_sv,n_op,hq,v1,v2,o1,hmx,t1,t2,r_en,Bool.and_false])
                 ·have r_st:rngd st (-1099511627776) 1099511627776=true:=zda_.2 (by omega)
                  have r_en:rngd en (-1099511627776) 1099511627776=true:=zda_.2 (by omega)
                  have hw:IntKind.i64.wrap (en - st)=en - st:=zac_ (by omega) (by omega)
                  by_cases o2:1099511627776 < en - st
                  ·(rw [zbh_]; simp -implicitDefEqProofs [zaz_,SP.v,chkSp,i1,i2,i3,b1,b2,r_tr,r_id,c_par,d_par,r_par,c_rev,d_rev,r_rev,c_clk,d_clk,r_clk,c_kind,d_kind,r_kind,n_sv,n_op,hq,v1,v2,o1,hmx,t1,t2,r_st,r_en,hw,o2])
                  ·
                   rw [zbh_]; simp -implicitDefEqProofs [zaz_,SP.v,chkSp,i1,i2,i3,b1,b2,ca,cl,co,aa,ab,zaw_,optEq,r_tr,r_id,c_par,d_par,r_par,c_rev,d_rev,r_rev,c_clk,d_clk,r_clk,c_kind,d_kind,r_kind,n_sv,n_op,hq,v1,v2,o1,hmx,t1,t2,r_st,r_en,hw,o2]
             by_cases e_vr:vr=eS
             ·exact tail _ rfl (by simp [e_vr])
             ·cases n_vr:isNm vr
              ·have e_vr':vr.toList.isEmpty=false:=by rw [isE]; simp [e_vr]
               have hq:(decide (vr=eS) || isNm vr)=false:=by simp [e_vr,n_vr]
               (rw [zbh_]; simp -implicitDefEqProofs [zaz_,SP.v,chkSp,i1,i2,i3,b1,b2,r_tr,r_id,c_par,d_par,r_par,c_rev,d_rev,r_rev,c_clk,d_clk,r_clk,c_kind,d_kind,r_kind,n_sv,n_op,e_vr',e_vr,n_vr,hq])
              ·exact tail _ rfl (by simp [n_vr])
end Go.Proofs.Sl
namespace Go.Proofs.Sl
end Go.Proofs.Sl
namespace Go.Proofs.Sl
def ixF {α:Type} (p:α→Bool):List α→Nat→Int
 | [],_=>-1
 | e :: r,k=>if p e=true then (k:Int) else ixF p r (k + 1)
theorem zbit_ {α:Type} (p:α→Bool):∀ (es:List α) (k:Nat),decide (0≤ixF p es k)=es.any p
 | [],k=>rfl
 | e :: r,k=>by
  rw [ixF,List.any_cons]
  cases h:p e with
  | true=>simp
  | false=>rw [if_neg (by simp),zbit_ p r (k + 1)]; rfl
theorem zdej_ {h:H} {v:V} {es:List AT} {f:Nat} {a b:List V} {p:AT→Bool} (hv:Rd h 4 v (es.map AT.v)) (hg:∀ e ∈ es,arg0s (a++e.v :: b)=some (a++e.v :: b)) (hp:∀ e ∈ es,run XP f (a++e.v :: b) h=some (vb (p e),h)) (hl:es.length≤100000) :
  run XP zxb_ [v,.fn f a b] h=some (vi (ixF p es 0),h):=by
 rw [run_eq,zcih_]
 simp -implicitDefEqProofs [znb_,hv.toL]
 refine zaf_ es (fun k s h'=>Sees s [(0,v),(1,.fn f a b),(7,vi es.length),(8,vi k)]∧h'=h∧ixF p es 0=ixF p (es.drop k) k) ?_ ?_ _ _ ⟨by simp,rfl,rfl⟩
 ·rintro B f' hB hf k e s h' he hk ⟨⟨h0,h1,h7,h8,-⟩,rfl,hx⟩ K
  have hlt:(k:Int) < es.length:=by omega
  have hm:=List.mem_of_getElem? he
  obtain ⟨q,hq,hld⟩:=hv.at (i:=k) (e:=e.v) (by simp [he])
  have hw:IntKind.i64.wrap ((k:Int) + 1)=(k:Int) + 1:=zac_ (by omega) (by omega)
  have hge:=hg e hm
  have hpe:=hp e hm
  rw [zas_ he,ixF] at hx
  simp only [AT.v,V.cells] at hld hge hpe
  cases hb:p e with
  | false =>
   rw [hb] at hpe
   rw [hb,if_neg (by simp)] at hx
   simp -implicitDefEqProofs [hB,zss_,h0,h1,h7,h8,hlt,hq,hld,hge,hpe]
   refine K _ _ ⟨?_,rfl,hx⟩
   simp [h0,h1,h7,hw]
  | true =>
   rw [hb] at hpe
   rw [hb,if_pos rfl] at hx
   simp -implicitDefEqProofs [hB,hf,zss_,h0,h1,h7,h8,hlt,hq,hld,hge,hpe,hx]
 ·rintro B hB s h' ⟨⟨h0,h1,h7,h8,-⟩,rfl,hx⟩
  rw [List.drop_of_length_le (Nat.le_refl _)] at hx
  have hx':ixF p es 0=-1:=hx
  simp -implicitDefEqProofs [hB,zss_,h7,h8,hx']
theorem zdek_ {h:H} {v:V} {es:List AT} {f:Nat} {a b:List V} {p:AT→Bool} (hv:Rd h 4 v (es.map AT.v)) (hf:arg0 (.fn f a b)=some (.fn f a b)) (hg:∀ e ∈ es,arg0s (a++e.v :: b)=some (a++e.v :: b)) (hp:∀ e ∈ es,run XP f (a++e.v :: b) h=some (vb (p e),h)) (hl:es.length≤100000) :
  run XP zrp_ [v,.fn f a b] h=some (vb (es.any p),h):=by
 have h1:=zdej_ hv hg hp hl
 have ha:=hv.arg0
 have hx:=zbit_ p es 0
 generalize ixF p es 0=z at *
 rw [run_eq,zchr_,← hx]
 simp -implicitDefEqProofs [zls_,h1,ha,hf]
end Go.Proofs.Sl
namespace Go.Proofs.Sl
theorem zdel_ (h:H) {a:SP} (ha:a.Sm):run XP zxc_ [a.v] h=some (a.v,h):=by
 have h1:=fun h=>zbig_ h ha.an (by have:=ha.al; omega)
 have h2:=fun h=>zbih_ h ha.ln (by have:=ha.ll; omega)
 rw [run_eq,zcii_]
 simp -implicitDefEqProofs [zmg_,SP.v,h1,h2,zbif_,zaw_,optEq]
def long (a:AT):Bool:=decide (255 < a.val.t.size)
theorem zdem_ (h:H) (a:AT):run XP zrq_ [a.v] h=some (vb (long a),h):=by
 have e:decide ((255:Int) < (a.val.t.size:Int))=long a:=by
  unfold long
  congr 1
  exact propext ⟨fun h=>by omega,fun h=>by omega⟩
 rw [run_eq,zchs_,← e]
 simp -implicitDefEqProofs [zlt_,AT.v]
def chkF:List SP→Int
 | []=>0
 | a :: r=>if chkSp a≠0 then chkSp a else chkF r
def longS (a:SP):Bool:=a.ats.any long
theorem zden_ (h:H) {a:SP} (ha:a.Sm) (hl:a.ats.length≤100000):run XP zrp_ [lv 4 (slc AT.v a.ats a.an),.fn zrq_ [] []] h=some (vb (longS a),h) :=
 zdek_ (a:=[]) (b:=[]) (rd_slc h 4 AT.v ha.an) rfl (fun _ _=>rfl) (fun e _=>zdem_ h e) hl
def bkV (es:List SP):V:=.fptr (.agg [nl es]) 0
def sumA:List SP→Nat
 | []=>0
 | a :: r=>a.ats.length + sumA r
def sumL:List SP→Nat
 | []=>0
 | a :: r=>a.lks.length + sumL r
def madE (es:List SP):Int:=if 4096 < es.length∨4096 < sumA es∨4096 < sumL es then 6 else 0
theorem zdeo_ {es:List SP}:∀ {k:Nat} {e:SP},es[k]?=some e→sumA (es.take (k + 1))=sumA (es.take k) + e.ats.length:=by
 induction es with
 | nil=>intro k e h; simp at h
 | cons a r ih =>
  intro k e h
  cases k with
  | zero=>simp only [List.getElem?_cons_zero,Option.some.injEq] at h; subst h; simp [sumA]
  | succ k =>
   have:=ih (k:=k) (e:=e) (by simpa using h)
   simp only [List.take_succ_cons,sumA,this]
   omega
theorem zdep_ {es:List SP}:∀ {k:Nat} {e:SP},es[k]?=some e→sumL (es.take (k + 1))=sumL (es.take k) + e.lks.length:=by
 induction es with
 | nil=>intro k e h; simp at h
 | cons a r ih =>
  intro k e h
  cases k with
  | zero=>simp only [List.getElem?_cons_zero,Option.some.injEq] at h; subst h; simp [sumL]
  | succ k =>
   have:=ih (k:=k) (e:=e) (by simpa using h)
   simp only [List.take_succ_cons,sumL,this]
   omega
structure SP.Bk (a:SP):Prop where
 al:a.ats.length≤100000
 ll:a.lks.length≤100000
 an:a.an=true→a.ats=[]
 ln:a.ln=true→a.lks=[]
theorem SP.Bk.sm {a:SP} (h:a.Bk):a.Sm:=⟨by have:=h.al; omega,by have:=h.ll; omega,h.an,h.ln⟩
theorem zdeq_ {es:List SP} (hs:∀ e ∈ es,e.Bk):sumA es≤es.length * 100000:=by
 induction es with
 | nil=>exact Nat.le_refl _
 | cons a r ih =>
  have:=(hs a (by simp)).al
  have:=ih fun e he=>hs e (by simp [he])
  simp only [sumA,List.length_cons]
  omega
theorem zder_ {es:List SP} (hs:∀ e ∈ es,e.Bk):sumL es≤es.length * 100000:=by
 induction es with
 | nil=>exact Nat.le_refl _
 | cons a r ih =>
  have:=(hs a (by simp)).ll
  have:=ih fun e he=>hs e (by simp [he])
  simp only [sumL,List.length_cons]
  omega
theorem zdes_ {es:List SP} (k:Nat):sumA (es.take k)≤sumA es:=by
 induction es generalizing k with
 | nil=>simp
 | cons a r ih =>
  cases k with
  | zero=>simp [sumA]
  | succ k=>have:=ih k; simp only [List.take_succ_cons,sumA]; omega
theorem zdet_ {es:List SP} (k:Nat):sumL (es.take k)≤sumL es:=by
 induction es generalizing k with
 | nil=>simp
 | cons a r ih =>
  cases k with
  | zero=>simp [sumL]
  | succ k=>have:=ih k; simp only [List.take_succ_cons,sumL]; omega
end Go.Proofs.Sl
namespace Go.Proofs.Sl
def gl (es:List SP):V:=if es=[] then vnil else .own 14 (es.map SP.v)
theorem zdeu_ (es:List SP):zan_ (gl es)=nl es:=by unfold gl nl; split <;> rfl
theorem gl_nil:gl []=vnil:=rfl
theorem zdev_ {β:Type} {f:Ex × St→Option β} {w:Option β} {base:Nat} {h:H} {v:V} {es:List SP} (hv:∀ t,Rd (h++t) 14 v (es.map SP.v)) (hs:∀ e ∈ es,e.Bk) (hl:es.length≤100000)
  (hend:∀ s t,Sees s [(0,v),(3,vi 0),(4,vi (sumA es)),(5,vi (sumL es))]→f (.exit 0,⟨s,h++t⟩)=w)
  (s0:Sl) (g:Sees s0 [(0,v),(3,vi 0),(4,vi 0),(5,vi 0),(11,v),(12,vi es.length),(13,vi 0)]):ob (loopW (xcode (run XP) loopW base zsj_) ⟨s0,h⟩) f=w:=by
 have hA:=zdeq_ hs
 have hL:=zder_ hs
 refine zaf_ es (fun k s h'=>∃ t,h'=h++t∧Sees s [(0,v),(3,vi 0),(4,vi (sumA (es.take k))),(5,vi (sumL (es.take k))),(11,v),(12,vi es.length),(13,vi k)]) ?_ ?_ _ _ ⟨[],by simp,by simpa [sumA,sumL] using g⟩
 ·rintro B f' hB hf k e s h' he hk ⟨t,rfl,h0,h3,h4,h5,h11,h12,h13,-⟩ K
  have hlt:(k:Int) < es.length:=by omega
  have hm:=List.mem_of_getElem? he
  obtain ⟨q,hq,hld⟩:=(hv t).at (i:=k) (e:=e.v) (by simp [he])
  have hb:=hs e hm
  have hat:=zzv_ (v:=AT.v) hb.an
  have hrt:=zzv_ (v:=RF.v) hb.ln
  have a1:=zdeo_ he
  have a2:=zdep_ he
  have b1:=zdes_ (es:=es) (k + 1)
  have b2:=zdet_ (es:=es) (k + 1)
  have w0:IntKind.i64.wrap ((k:Int) + 1)=(k:Int) + 1:=zac_ (by omega) (by omega)
  have w1:IntKind.i64.wrap ((sumA (es.take k):Int) + e.ats.length)=(sumA (es.take (k + 1)):Int):=by rw [zac_ (by omega) (by omega)]; omega
  have w2:IntKind.i64.wrap ((sumL (es.take k):Int) + e.lks.length)=(sumL (es.take (k + 1)):Int):=by rw [zac_ (by omega) (by omega)]; omega
  simp only [SP.v,V.cells] at hld
  simp -implicitDefEqProofs [hB,zsj_,h0,h3,h4,h5,h11,h12,h13,hlt,hq,hld,hat,hrt,w1,w2]
  refine K _ _ ⟨_,rfl,?_⟩
  simp [h0,h3,h11,h12,w0]
 ·rintro B hB s h' ⟨t,rfl,h0,h3,h4,h5,h11,h12,h13,-⟩
  rw [List.take_length] at h4 h5
  simp -implicitDefEqProofs [hB,zsj_,h12,h13]
  exact hend _ t (by simp [h0,h3,h4,h5])
theorem zdew_ {β:Type} {f:Ex × St→Option β} {w:Option β} {h:H} {v:V} {es:List SP} (hv:∀ t,Rd (h++t) 14 v (es.map SP.v)) (hs:∀ e ∈ es,e.Bk) (hl:es.length≤100000) {l:Nat}
  (hend:∀ s t,Sees s [(3,vi 0),(8,.ptr l 0)]→(h++t)[l]?=some (.box false [gl es])→f (.exit 2,⟨s,h++t⟩)=w)
  (s0:Sl) (t0:H) (hb0:h.length≤l) (hl0:(h++t0)[l]?=some (.box false [vnil])) (g:Sees s0 [(3,vi 0),(8,.ptr l 0),(41,v),(42,vi es.length),(43,vi 0)]):ob (loopW (xcode (run XP) loopW h.length zlu_) ⟨s0,h++t0⟩) f=w:=by
 refine zaf_ es (fun k s h'=>∃ t,h'=h++t∧h'[l]?=some (.box false [gl (es.take k)])∧Sees s [(3,vi 0),(8,.ptr l 0),(41,v),(42,vi es.length),(43,vi k)]) ?_ ?_ _ _ ⟨t0,rfl,by rw [List.take_zero,gl_nil]; exact hl0,by simpa using g⟩
 ·rintro B f' hB hf k e s h' he hk ⟨t,rfl,hbx,h3,h8,h41,h42,h43,-⟩ K
  have hlt:(k:Int) < es.length:=by omega
  have hm:=List.mem_of_getElem? he
  obtain ⟨q,hq,hld⟩:=(hv t).at (i:=k) (e:=e.v) (by simp [he])
  have hb:=hs e hm
  have hcp:=fun h=>zdel_ h hb.sm
  have hw1:=zgf_ e
  have hc1:V.closed.closeds [e.v]=true:=zba_ [e]
  have w0:IntKind.i64.wrap ((k:Int) + 1)=(k:Int) + 1:=zac_ (by omega) (by omega)
  have tk:es.take (k + 1)=es.take k++[e]:=by rw [List.take_add_one,he]; rfl
  have hle:(es.take k).length=k:=by rw [List.length_take]; omega
  have hc14:∀ (P:List SP),wide 14 (P.map SP.v)=true:=zjm_
  have hhl:¬ l < h.length:=by omega
  obtain ⟨u,hu⟩:∃ u,u=l - h.length:=⟨_,rfl⟩
  obtain rfl:l=h.length + u:=by omega
  have hx:∀ x:H,(t++x)[u]?=some (.box false [gl (es.take k)]):=fun x=>by
   rw [at_app u] at hbx
   rw [List.getElem?_append_left (List.getElem?_eq_some_iff.1 hbx).1]
   exact hbx
  have hut:u < t.length:=by
   rw [at_app u] at hbx
   exact (List.getElem?_eq_some_iff.1 hbx).1
  have hset:∀ (x:H) (y:O),((t++x).set u y)[u]?=some y:=fun x y=>List.getElem?_set_self (by simp; omega)
  have hmin:min k es.length=k:=by omega
  simp only [SP.v,V.cells] at hld hcp hw1 hc1
  by_cases hk0:es.take k=[]
  ·rw [hk0,gl_nil] at hx
   simp -implicitDefEqProofs [hB,zlu_,h3,h8,h41,h42,h43,hlt,hq,hld,hcp,hw1,hc1,hx,hle,hset,zaw_,optEq]
   refine K _ _ ⟨_,rfl,?_,?_⟩
   ·rw [at_app u]
    simp [gl,tk,hk0,SP.v,hset]
   ·simp [h3,h8,h41,h42,w0]
  ·have hgl:gl (es.take k)=.own 14 ((es.take k).map SP.v):=by rw [gl,if_neg hk0]
   rw [hgl] at hx
   have hk1:k≤837723144971:=by omega
   simp -implicitDefEqProofs [hB,zlu_,h3,h8,h41,h42,h43,hlt,hq,hld,hcp,hw1,hc1,hx,hle,hk1,hset,hmin,zaw_,optEq]
   refine K _ _ ⟨_,rfl,?_,?_⟩
   ·rw [at_app u,hset]
    simp [gl,tk,hk0,SP.v]
   ·simp [h3,h8,h41,h42,w0]
 ·rintro B hB s h' ⟨t,rfl,hbx,h3,h8,h41,h42,h43,-⟩
  rw [List.take_length] at hbx
  simp -implicitDefEqProofs [hB,zlu_,h42,h43]
  exact hend _ t (by simp [h3,h8]) hbx
end Go.Proofs.Sl
namespace Go.Proofs.Sl
theorem zbiu_ (es:List SP):(nl es).closed=true:=by unfold nl; split <;> rfl
def mdV (es:List SP):V:=if madE es=0 then bkV es else vnp
theorem zdex_ {h:H} {v:V} {es:List SP} (hv:∀ t,Rd (h++t) 14 v (es.map SP.v)) (hs:∀ e ∈ es,e.Bk) (hl:es.length≤100000) :
  run XP zwv_ [v] h=some (.tup [mdV es,vi (madE es)],h):=by
 have hv0:=hv []
 rw [List.append_nil] at hv0
 rw [run_eq,zcht_]
 simp -implicitDefEqProofs [zlv_,hv0.toL]
 refine zdev_ hv hs hl ?_ _ (by simp)
 rintro s t ⟨h0,h3,h4,h5,-⟩
 have hvt:=hv t
 by_cases c1:4096 < es.length
 ·have c1':(4096:Int) < es.length:=by omega
  have e6:madE es=6:=by rw [madE,if_pos (.inl c1)]
  simp -implicitDefEqProofs [h0,h3,h4,h5,hvt.toL,c1,c1',e6,mdV]
 ·have c1':¬ (4096:Int) < es.length:=by omega
  by_cases c2:4096 < sumA es
  ·have c2':(4096:Int) < sumA es:=by omega
   have e6:madE es=6:=by rw [madE,if_pos (.inr (.inl c2))]
   simp -implicitDefEqProofs [h0,h3,h4,h5,hvt.toL,c1,c1',c2,c2',e6,mdV]
  ·have c2':¬ (4096:Int) < sumA es:=by omega
   by_cases c3:4096 < sumL es
   ·have c3':(4096:Int) < sumL es:=by omega
    have e6:madE es=6:=by rw [madE,if_pos (.inr (.inr c3))]
    simp -implicitDefEqProofs [h0,h3,h4,h5,hvt.toL,c1,c1',c2,c2',c3,c3',e6,mdV]
   ·have c3':¬ (4096:Int) < sumL es:=by omega
    have e0:madE es=0:=by rw [madE,if_neg (by omega)]
    have hvt2:=fun x:H=>(hv (t++x)).toL
    simp -implicitDefEqProofs [h0,h3,h4,h5,hvt.toL,hvt2,c1,c1',c2,c2',c3,c3',e0,mdV]
    refine zdew_ (l:=h.length + t.length) hv hs hl ?_ _ _ (by omega) ?_ ?_
    ·rintro s t2 ⟨g3,g8,-⟩ hbx
     have hn:¬ h.length + t.length < h.length:=by omega
     have hr:=zdeu_ es
     have hc:=zbiu_ es
     simp -implicitDefEqProofs [g3,g8,hbx,hn,hr,hc,bkV,V.closed]
    ·simp
    ·simp [h3]
end Go.Proofs.Sl
namespace Go.Proofs.Sl
theorem zdey_ {β:Type} {f:Ex × St→Option β} {w:Option β} {base:Nat} {h:H} {v:V} {es:List SP} (hv:∀ t,Rd (h++t) 14 v (es.map SP.v)) (hs:∀ e ∈ es,e.Sz) (hl:es.length≤100000)
  (hret:∀ s t,Sees s [(2,vnp),(3,vi (chkF es))]→chkF es≠0→f (.ret,⟨s,h++t⟩)=w)
  (hend:∀ s t,Sees s [(0,v)]→chkF es=0→f (.exit 0,⟨s,h++t⟩)=w)
  (s0:Sl) (g:Sees s0 [(0,v),(12,v),(13,vi es.length),(14,vi 0)]):ob (loopW (xcode (run XP) loopW base zlb_) ⟨s0,h⟩) f=w:=by
 refine zaf_ es (fun k s h'=>∃ t,h'=h++t∧Sees s [(0,v),(12,v),(13,vi es.length),(14,vi k)]∧chkF es=chkF (es.drop k)) ?_ ?_ _ _ ⟨[],by simp,by simpa using g,rfl⟩
 ·rintro B f' hB hf k e s h' he hk ⟨t,rfl,⟨h0,h12,h13,h14,-⟩,hx⟩ K
  have hlt:(k:Int) < es.length:=by omega
  have hm:=List.mem_of_getElem? he
  obtain ⟨q,hq,hld⟩:=(hv t).at (i:=k) (e:=e.v) (by simp [he])
  have hck:=fun h=>zdei_ h (hs e hm)
  have w0:IntKind.i64.wrap ((k:Int) + 1)=(k:Int) + 1:=zac_ (by omega) (by omega)
  rw [zas_ he,chkF] at hx
  simp only [SP.v,V.cells] at hld hck
  by_cases hc:chkSp e=0
  ·rw [if_neg (by simpa using hc)] at hx
   rw [hc] at hck
   simp -implicitDefEqProofs [hB,zlb_,h0,h12,h13,h14,hlt,hq,hld,hck]
   refine K _ _ ⟨_,rfl,?_,hx⟩
   simp [h0,h12,h13,w0]
  ·rw [if_pos hc] at hx
   have hr:=fun s t g=>hret s t g (by rw [hx]; exact hc)
   rw [hx] at hr
   generalize chkSp e=z at *
   have hnz:(z != 0)=true:=by simpa using hc
   simp -implicitDefEqProofs [hB,hf,hnz,zlb_,h0,h12,h13,h14,hlt,hq,hld,hck,hc]
   refine hr _ _ ?_
   simp
 ·rintro B hB s h' ⟨t,rfl,⟨h0,h12,h13,h14,-⟩,hx⟩
  rw [List.drop_of_length_le (Nat.le_refl _)] at hx
  simp -implicitDefEqProofs [hB,zlb_,h13,h14]
  exact hend _ t (by simp [h0]) hx
theorem zdez_ {β:Type} {f:Ex × St→Option β} {w:Option β} {base:Nat} {h t0:H} {v:V} {es:List SP} (hv:∀ t,Rd (h++t) 14 v (es.map SP.v)) (hs:∀ e ∈ es,e.Bk) (hl:es.length≤100000)
  (hret:∀ s t,Sees s [(2,vnp),(3,vi 5)]→es.any longS=true→f (.ret,⟨s,h++t⟩)=w)
  (hend:∀ s t,Sees s [(0,v)]→es.any longS=false→f (.exit 2,⟨s,h++t⟩)=w)
  (s0:Sl) (g:Sees s0 [(0,v),(24,v),(25,vi es.length),(26,vi 0)]):ob (loopW (xcode (run XP) loopW base zlc_) ⟨s0,h++t0⟩) f=w:=by
 refine zaf_ es (fun k s h'=>∃ t,h'=h++t∧Sees s [(0,v),(24,v),(25,vi es.length),(26,vi k)]∧es.any longS=(es.drop k).any longS) ?_ ?_ _ _ ⟨t0,rfl,by simpa using g,rfl⟩
 ·rintro B f' hB hf k e s h' he hk ⟨t,rfl,⟨h0,h24,h25,h26,-⟩,hx⟩ K
  have hlt:(k:Int) < es.length:=by omega
  have hm:=List.mem_of_getElem? he
  obtain ⟨q,hq,hld⟩:=(hv t).at (i:=k) (e:=e.v) (by simp [he])
  have hbk:=hs e hm
  have hlo:=fun h=>zden_ h hbk.sm hbk.al
  have w0:IntKind.i64.wrap ((k:Int) + 1)=(k:Int) + 1:=zac_ (by omega) (by omega)
  rw [zas_ he,List.any_cons] at hx
  simp only [SP.v,V.cells] at hld
  cases hc:longS e with
  | false =>
   rw [hc,Bool.false_or] at hx
   rw [hc] at hlo
   simp -implicitDefEqProofs [hB,zlc_,h0,h24,h25,h26,hlt,hq,hld,hlo]
   refine K _ _ ⟨_,rfl,?_,hx⟩
   simp [h0,h24,h25,w0]
  | true =>
   rw [hc,Bool.true_or] at hx
   rw [hc] at hlo
   simp -implicitDefEqProofs [hB,hf,zlc_,h0,h24,h25,h26,hlt,hq,hld,hlo]
   refine hret _ _ ?_ hx
   simp
 ·rintro B hB s h' ⟨t,rfl,⟨h0,h24,h25,h26,-⟩,hx⟩
  rw [List.drop_of_length_le (Nat.le_refl _)] at hx
  simp -implicitDefEqProofs [hB,zlc_,h25,h26]
  exact hend _ t (by simp [h0]) hx
structure SA (h h2:H) (v:V) (es:List SP):Prop where
 a0:arg0 v=some v
 len:h2.length=h.length
 val:∃ v2,LV v2 es∧∀ t,run XP zfo_ [v] (h++t)=some (.fn zck_ [] [.fptr (.agg [v2]) 0],h2++t)
 rd:∀ t,Rd (h++t) 14 v (es.map SP.v)
 rd2:∀ t,Rd (h2++t) 14 v (es.map SP.v)
theorem SA.lst {v:V} {es:List SP} (l:LV v es) (h:H):SA h h v es :=
 ⟨by rcases l with ⟨rfl,rfl⟩ | rfl <;> rfl,rfl,⟨v,l,fun t=>zbio_ l⟩,fun t=>l.rd _,fun t=>l.rd _⟩
theorem SA.ref {h:H} {l:Nat} {z:Bool} {es:List SP} (he:h[l]?=some (.arr z 14 (es.map SP.v))):SA h (h.set l (.arr true 14 (es.map SP.v))) (.ref l es.length) es:=by
 have hl:=(List.getElem?_eq_some_iff.1 he).1
 have h3:∀ t,(h++t)[l]?=some (.arr z 14 (es.map SP.v)):=fun t=>by rw [List.getElem?_append_left hl]; exact he
 refine ⟨rfl,by simp,⟨_,.inr rfl,fun t=>?_⟩,fun t=>?_,fun t=>?_⟩
 ·rw [zddw_ (h3 t),List.set_append_left _ _ hl]
 ·have:=Rd.ref (h:=h++t) (k:=14) l z (es.map SP.v) (h3 t)
  rwa [List.length_map] at this
 ·have:=Rd.ref (h:=h.set l (.arr true 14 (es.map SP.v))++t) (k:=14) l true (es.map SP.v) (by rw [List.getElem?_append_left (by simpa using hl),List.getElem?_set_self hl])
  rwa [List.length_map] at this
theorem SA.set {h h2:H} {v:V} {es:List SP} (a:SA h h2 v es) (hs:∀ e ∈ es,e.Sm) (hn:es.length≤100000) (t:H):run XP zkd_ [v] (h++t)=some (ow (dst es),h2++t):=by
 obtain ⟨v2,hl,hval⟩:=a.val
 exact zbip_ hl a.a0 (hval t) (by simp [a.len]) hs hn
def blE0 (es:List SP):Int:=if 4096 < es.length then 6 else if chkF es≠0 then chkF es else if es.any longS=true then 5 else 0
def blE (es:List SP):Int:=if blE0 es≠0 then blE0 es else madE (dst es)
def blV (es:List SP):V:=if blE es=0 then bkV (dst es) else vnp
theorem zbam_ {h h2:H} {v:V} {es:List SP} (a:SA h h2 v es) (hb:∀ e ∈ es,e.Bk) (hs:∀ e ∈ es,e.Sz) (hl:es.length≤100000) :
  run XP zkg_ [v] h=some (.tup [blV es,vi (blE es)],if blE0 es≠0 then h else h2):=by
 have hv0:=a.rd []
 rw [List.append_nil] at hv0
 have hS:=a.set (fun e he=>(hb e he).sm) hl
 have ha0:=a.a0
 have hM:=fun h=>zdex_ (h:=h) (v:=nl (dst es)) (es:=dst es) (fun t=>(nl_LV _).rd _) (fun e he=>hb e (zgh_ he)) (by have:=zpf_ es; omega)
 rw [run_eq,zchn_]
 by_cases c1:4096 < es.length
 ·have c1':(4096:Int) < es.length:=by omega
  have e0:blE0 es=6:=by rw [blE0,if_pos c1]
  have e1:blE es=6:=by rw [blE,e0]; rfl
  simp -implicitDefEqProofs [zig_,hv0.toL,c1,c1',e0,e1,blV]
 ·have c1':¬ (4096:Int) < es.length:=by omega
  simp -implicitDefEqProofs [zig_,hv0.toL,c1,c1']
  refine zdey_ a.rd hs hl ?_ ?_ _ (by simp)
  ·rintro s t ⟨g2,g3,-⟩ hz
   have e0:blE0 es=chkF es:=by rw [blE0,if_neg c1,if_pos hz]
   have e1:blE es=chkF es:=by rw [blE,e0,if_pos hz]
   simp -implicitDefEqProofs [g2,g3,e0,e1,hz,blV]
  ·rintro s t ⟨g0,-⟩ hz
   have hvt:=(a.rd t).toL
   simp -implicitDefEqProofs [g0,hvt]
   refine zdez_ a.rd hb hl ?_ ?_ _ (by simp [g0])
   ·rintro s t ⟨g2,g3,-⟩ hy
    have e0:blE0 es=5:=by rw [blE0,if_neg c1,if_neg (by simpa using hz),if_pos hy]
    have e1:blE es=5:=by rw [blE,e0]; rfl
    simp -implicitDefEqProofs [g2,g3,e0,e1,blV]
   ·rintro s t ⟨g0,-⟩ hy
    have e0:blE0 es=0:=by rw [blE0,if_neg c1,if_neg (by simpa using hz),if_neg (by simp [hy])]
    have e1:blE es=madE (dst es):=by rw [blE,e0]; rfl
    have ln:=a.len
    have htk:(h2++t).take h.length=h2:=by rw [← ln]; simp
    have hn0:=zdt_ (dst es)
    have e2:mdV (dst es)=blV es:=by rw [mdV,blV,e1]
    have hbv:retV h.length (h2++t) .f (blV es) []=some (blV es,[]):=by
     rw [blV]
     split
     ·rfl
     ·rfl
    have hr0:res0 (blV es)=blV es:=by rw [blV]; split <;> rfl
    rw [e2] at hM
    have hn1:=zpg_ (dst es)
    simp -implicitDefEqProofs [g0,ha0,hS,hn0,hn1,hM,e0,e1,htk,hbv,hr0]
end Go.Proofs.Sl
namespace Go.Proofs.Sl
end Go.Proofs.Sl
namespace Go.Proofs.Sl
theorem zdfa_ (h:H) (a:SP):run XP zhr_ [a.v] h=some (vi (IntKind.i64.wrap (a.en - a.st)),h):=by
 rw [run_eq,zcgk_]
 simp -implicitDefEqProofs [znj_,SP.v]
end Go.Proofs.Sl
namespace Go.Proofs.Sl
theorem zdfb_ (a b:List Int):il (a++b)=il a++il b:=by simp [il]
theorem zbiv_:∀ l:List Int,wide 1 (il l)=true
 | []=>rfl
 | n :: l=>by
  have:=zbiv_ l
  simp only [il] at this
  simp only [il,List.map_cons,wide,this,Bool.and_true]
  rfl
theorem zbiw_:∀ l:List Int,V.closed.closeds (il l)=true
 | []=>rfl
 | n :: l=>by
  have:=zbiw_ l
  simp only [il] at this
  simp only [il,List.map_cons,V.closed.closeds,this,Bool.and_true]
  rfl
structure At3 (h:H) (n:Nat) (ca cb:List V) (ns:List Int):Prop where
 a:h[n]?=some (.box false ca)
 b:h[n + 1]?=some (.box false cb)
 l:h[n + 2]?=some (.arr false 1 (il ns))
theorem At3.app {h:H} {n:Nat} {ca cb:List V} {ns:List Int} (A:At3 h n ca cb ns) (t:H):At3 (h++t) n ca cb ns:=by
 have:=(List.getElem?_eq_some_iff.1 A.l).1
 exact ⟨by rw [List.getElem?_append_left (by omega)]; exact A.a,by rw [List.getElem?_append_left (by omega)]; exact A.b,by rw [List.getElem?_append_left (by omega)]; exact A.l⟩
theorem At3.set {h:H} {n:Nat} {ca cb:List V} {ns:List Int} (A:At3 h n ca cb ns) (ms:List Int):At3 (h.set (n + 2) (.arr false 1 (il ms))) n ca cb ms:=by
 have:=(List.getElem?_eq_some_iff.1 A.l).1
 exact ⟨by rw [List.getElem?_set_ne (by omega)]; exact A.a,by rw [List.getElem?_set_ne (by omega)]; exact A.b,by rw [List.getElem?_set_self this]⟩
theorem At3.len {h:H} {n:Nat} {ca cb:List V} {ns:List Int} (A:At3 h n ca cb ns):n + 2 < h.length:=(List.getElem?_eq_some_iff.1 A.l).1
theorem At3.grow {h:H} {n:Nat} {ca cb:List V} {ns:List Int} (A:At3 h n ca cb ns) (ms:List Int) (hl:ns.length + ms.length≤17592186044416):zao_ h 1 17592186044416 (.ref (n + 2) ns.length) (.lst 1 (il ms))=some (.ref (n + 2) (ns++ms).length,h.set (n + 2) (.arr false 1 (il (ns++ms)))):=by
 have h1:arrN h (n + 2) ns.length=some (false,1,il ns):=by simp [arrN,arrAt,A.l,zab_,zar_]
 have ea:appEls h (.lst 1 (il ms))=some (il ms):=rfl
 have hl':ns.length + (il ms).length≤17592186044416:=by rw [zar_]; exact hl
 simp only [zao_,ea,zab_,zbiv_,zbiw_,and_self,if_true,h1,true_and,hl,zdfb_,List.length_append,zar_]
end Go.Proofs.Sl
namespace Go.Proofs.Sl
theorem zdfc_ (s:Sl) (h:H) (k:Nat) (x i:Opd):xread s h (.iaddr k x i)=ob (asNat (i.ev s)) fun i=>iaddrV h k (x.ev s) i:=Eq.trans rfl rfl
theorem zdfd_ (s:Sl) (h:H) (n:Nat) (g:Bool) (x:Opd):xread s h (.load n g x)=xload h n g (x.ev s):=Eq.trans rfl rfl
theorem zdfe_ (s:Sl) (h:H) (x:Opd):xread s h (.len false x)=ob ((x.ev s).toL h) fun es=>some (vi es.length):=Eq.trans rfl rfl
section
variable {H0:H} {n base:Nat} {ca cb:List V} {f:Ex × St→Option (V × H)} {w:Option (V × H)} {ns:List Int}
end
end Go.Proofs.Sl
namespace Go.Proofs.Sl
abbrev v8 (n:Nat):V:=.s (.int .u8 (n:Int))
structure MK where
 t:Nat
 i:Nat
 p:Nat
 r:Nat
 c:Nat
 k:Nat
 s:Nat
 v:Nat
 o:Nat
 st:Nat
 lo:Nat
 tg:Nat
 lk:Nat
 fl:Bool
def MK.val (m:MK):V:=.agg [v8 m.t,v8 m.i,v8 m.p,v8 m.r,v8 m.c,v8 m.k,v8 m.s,v8 m.v,v8 m.o,v8 m.st,v8 m.lo,v8 m.tg,v8 m.lk,vb m.fl]
structure MK.Ok (m:MK):Prop where
 a:∀ n ∈ [m.t,m.i,m.p,m.r,m.c,m.k,m.s,m.v,m.o,m.st,m.lo,m.tg,m.lk],n < 256
def svs:List ByteArray:=[⟨#[97,112,105]⟩,⟨#[100,98]⟩,⟨#[119,101,98]⟩]
def vrs:List ByteArray:=[⟨#[]⟩,⟨#[118,49]⟩,⟨#[118,50]⟩]
def ops:List ByteArray:=[⟨#[103,101,116]⟩,⟨#[112,117,116]⟩]
def zns:List ByteArray:=[⟨#[97]⟩,⟨#[98]⟩,⟨#[119,101,115,116,32,49]⟩]
def mats (b:Nat) (n:Int) (z:ByteArray):List AT:=[⟨⟨#[111,107]⟩,⟨3,⟨#[]⟩,b⟩⟩,⟨⟨#[115,105,122,101]⟩,⟨2,⟨#[]⟩,n⟩⟩,⟨⟨#[122,111,110,101]⟩,⟨1,z,0⟩⟩]
def mlks:Nat→Int→Int→List RF
 | 0,_,_=>[]
 | 1,t,i=>[⟨t,i⟩]
 | _,t,i=>[⟨t,i⟩,⟨t,i + 1⟩]
def tbl (l:List ByteArray) (n:Nat):ByteArray:=l.getD n ⟨#[]⟩
def MK.sp (m:MK):SP:=⟨((m.t % 3 * 1048576 + 1 + m.t / 3 % 4:Nat):Int),((1 + m.i % 4:Nat):Int),((m.p % 5:Nat):Int),((m.r % 3:Nat):Int),((1 + m.c % 3:Nat):Int),((1 + m.k % 5:Nat):Int),tbl svs (m.s % 3),tbl vrs (m.v % 3),tbl ops (m.o % 2),(m.st:Int) - 50,(m.st:Int) - 50 + ((m.lo % 40:Nat):Int),m.fl,
 (mats (m.tg / 4 % 2) ((m.tg:Int) - 60) (tbl zns (m.tg / 8 % 3))).take (m.tg % 4),mlks (m.lk % 3) ((1 + m.lk / 3 % 5:Nat):Int) ((1 + m.lk / 15 % 5:Nat):Int),false,m.lk % 3 == 0⟩
theorem tmodN (a b:Nat):(a:Int).tmod (b:Int)=((a % b:Nat):Int):=rfl
theorem tdivN (a b:Nat):(a:Int).tdiv (b:Int)=((a / b:Nat):Int):=rfl
theorem w8 {n:Nat} (h:n < 256):IntKind.u8.wrap (n:Int)=(n:Int):=by rw [zcx_]; omega
theorem w64 {n:Int} (h:-1000000000≤n∧n≤1000000000):IntKind.i64.wrap n=n:=zac_ (by omega) (by omega)
theorem tbl_at {l:List ByteArray} {n:Nat} (h:n < l.length):(l.map vs)[n]?=some (vs (tbl l n)):=by
 simp [tbl,h]
end Go.Proofs.Sl
namespace Go.Proofs.Sl
theorem MK.len (m:MK):m.sp.ats.length≤3∧m.sp.lks.length≤2:=by
 refine ⟨?_,?_⟩
 ·show ((mats _ _ _).take _).length≤3
  rw [List.length_take]
  exact Nat.min_le_right _ _
 ·show (mlks (m.lk % 3) _ _).length≤2
  have:m.lk % 3=0∨m.lk % 3=1∨m.lk % 3=2:=by omega
  rcases this with h | h | h <;> rw [h] <;> simp [mlks]
theorem MK.an (m:MK):m.sp.an=true→m.sp.ats=[]:=fun h=>by cases h
theorem MK.ln (m:MK):m.sp.ln=true→m.sp.lks=[]:=fun h=>by
 have h0:m.lk % 3=0:=by simpa [MK.sp] using h
 show mlks (m.lk % 3) _ _=[]
 rw [h0,mlks]
theorem MK.sm (m:MK):m.sp.Sm:=⟨by have:=m.len.1; omega,by have:=m.len.2; omega,m.an,m.ln⟩
end Go.Proofs.Sl
namespace Go.Proofs.Sl
def sps (ms:List MK):List SP:=(ms.take 12).map MK.sp
structure SP.Ti (a:SP):Prop where
 al:a.ats.length≤1000
 ll:a.lks.length≤1000
 an:a.an=true→a.ats=[]
 ln:a.ln=true→a.lks=[]
theorem SP.Ti.sm {a:SP} (h:a.Ti):a.Sm:=⟨by have:=h.al; omega,by have:=h.ll; omega,h.an,h.ln⟩
theorem zdff_ {h h2:H} (htk:h2.take h.length=h):∃ t,h2=h++t:=⟨h2.drop h.length,by
 have:=List.take_append_drop h.length h2
 rw [htk] at this
 exact this.symm⟩
def sameL:List SP→List SP→Bool
 | [],[]=>true
 | a :: x,b :: y=>cmpS a b == 0 && sameL x y
 | _,_=>false
end Go.Proofs.Sl
namespace Go.Proofs.Sl
end Go.Proofs.Sl
namespace Go.Proofs.Sl
theorem OutV.rd {x:V} {h:H} {b k:Nat} {es:List V} (o:OutV x h b k es):Rd h k x es:=by
 rcases o with ⟨rfl,rfl⟩ | ⟨q,_,_,rfl,h3⟩
 ·exact .nil
 ·exact .ref q false es h3
theorem zdfg_ (s:Sl) (h:H) (k:Nat) (x:Opd) (lo hi:Option Opd):xread s h (.slLst k x lo hi)=slV h k (x.ev s) (evOpt s lo) (evOpt s hi):=Eq.trans rfl rfl
end Go.Proofs.Sl
namespace Go.Proofs.Sl
end Go.Proofs.Sl
namespace Go.Proofs.Sl
theorem zgi_ (es:List SP):(nl es).plain=true:=by unfold nl; split <;> simp
theorem zbix_ {xs:List (List SP)} {k:Nat} {e:List SP} (h:xs[k]?=some e):(xs.take (k + 1)).flatten=(xs.take k).flatten++e:=by
 rw [List.take_add_one,h]
 simp
theorem zbiy_ {xs:List (List SP)} (k:Nat):(xs.take k).flatten.length≤xs.flatten.length:=by
 have:=congrArg (fun l:List (List SP)=>l.flatten.length) (List.take_append_drop k xs)
 simp only [List.flatten_append,List.length_append] at this
 omega
end Go.Proofs.Sl
namespace Go.Proofs.Sl
theorem zban_ (h:H) (es:List SP):run XP zhw_ [bkV es] h=some (vi es.length,h):=by
 have hL:=((nl_LV es).rd h).toL
 have hp:=zgi_ es
 rw [run_eq,zchq_]
 simp -implicitDefEqProofs [zll_,bkV,hL]
end Go.Proofs.Sl
namespace Go.Proofs.Sl
def Str (l:List SP):Prop:=l.Pairwise fun a b=>cmpS a b < 0
def Ins (x y:List SP):Prop:=∀ a ∈ x,∃ b ∈ y,cmpS a b=0
def Alk (x y:List SP):Prop:=Ins x y∧Ins y x
theorem cz (a:SP):cmpS a a=0:=zbs_.self a
theorem csym {a b:SP} (h:cmpS a b=0):cmpS b a=0:=by rw [zbs_.anti]; omega
theorem clt {a b c:SP} (h:cmpS a b < 0) (k:cmpS b c≤0):cmpS a c < 0:=zbs_.lt_of_lt_le h k
theorem Ins.of_sub {x y:List SP} (h:∀ a ∈ x,a ∈ y):Ins x y:=fun a ha=>⟨a,h a ha,cz a⟩
theorem Ins.trans {x y z:List SP} (h:Ins x y) (k:Ins y z):Ins x z:=fun a ha=>by
 obtain ⟨b,hb,e⟩:=h a ha
 obtain ⟨c,hc,e2⟩:=k b hb
 exact ⟨c,hc,zbs_.eq_trans e e2⟩
theorem Alk.symm {x y:List SP} (h:Alk x y):Alk y x:=⟨h.2,h.1⟩
theorem Alk.trans {x y z:List SP} (h:Alk x y) (k:Alk y z):Alk x z:=⟨h.1.trans k.1,k.2.trans h.2⟩
theorem zbao_:∀ {x y:List SP},Str x→Str y→Alk x y→sameL x y=true
 | [],[],_,_,_=>rfl
 | [],b :: y,_,_,h=>by obtain ⟨a,ha,_⟩:=h.2 b (by simp); cases ha
 | a :: x,[],_,_,h=>by obtain ⟨b,hb,_⟩:=h.1 a (by simp); cases hb
 | a :: x,b :: y,hx,hy,h=>by
  obtain ⟨hx1,hx2⟩:=List.pairwise_cons.1 hx
  obtain ⟨hy1,hy2⟩:=List.pairwise_cons.1 hy
  have hab:cmpS a b=0:=by
   obtain ⟨b',hb',e1⟩:=h.1 a (by simp)
   obtain ⟨a',ha',e2⟩:=h.2 b (by simp)
   rcases List.mem_cons.1 hb' with rfl | hb'
   ·exact e1
   ·rcases List.mem_cons.1 ha' with rfl | ha'
    ·exact csym e2
    ·have l1:=hy1 b' hb'
     have l2:=hx1 a' ha'
     have l3:=clt l1 (by rw [csym e1]; exact Int.le_refl _)
     have l4:=clt l3 (Int.le_of_lt l2)
     have l5:=csym e2
     rw [zbs_.anti] at l5
     omega
  rw [sameL,hab,zbao_ hx2 hy2]
  ·rfl
  ·refine ⟨fun c hc=>?_,fun c hc=>?_⟩
   ·obtain ⟨d,hd,e⟩:=h.1 c (List.mem_cons_of_mem _ hc)
    rcases List.mem_cons.1 hd with rfl | hd
    ·have:=hx1 c hc
     have e3:=zbs_.eq_trans hab (csym e)
     omega
    ·exact ⟨d,hd,e⟩
   ·obtain ⟨d,hd,e⟩:=h.2 c (List.mem_cons_of_mem _ hc)
    rcases List.mem_cons.1 hd with rfl | hd
    ·have:=hy1 c hc
     have e3:=zbs_.eq_trans (csym hab) (csym e)
     omega
    ·exact ⟨d,hd,e⟩
theorem zbiz_:∀ (r:List SP) (a:SP),∀ c ∈ r,∃ d ∈ a :: cptA a r,cmpS c d=0
 | [],a,c,h=>by cases h
 | b :: r,a,c,h=>by
  rw [cptA]
  have ih:=zbiz_ r b
  by_cases e:cmpS b a=0
  ·rw [if_pos e]
   rcases List.mem_cons.1 h with rfl | h
   ·exact ⟨a,by simp,e⟩
   ·obtain ⟨d,hd,e2⟩:=ih c h
    rcases List.mem_cons.1 hd with rfl | hd
    ·exact ⟨a,by simp,zbs_.eq_trans e2 e⟩
    ·exact ⟨d,List.mem_cons_of_mem _ hd,e2⟩
  ·rw [if_neg e]
   rcases List.mem_cons.1 h with rfl | h
   ·exact ⟨c,by simp,cz c⟩
   ·obtain ⟨d,hd,e2⟩:=ih c h
    exact ⟨d,List.mem_cons_of_mem _ hd,e2⟩
theorem zbja_:∀ (r:List SP) (a:SP),(a :: r).Pairwise (fun a b=>cmpS a b≤0)→Str (a :: cptA a r)
 | [],a,h=>List.pairwise_singleton _ _
 | b :: r,a,h=>by
  obtain ⟨h1,h2⟩:=List.pairwise_cons.1 h
  have ih:=zbja_ r b h2
  obtain ⟨i1,i2⟩:=List.pairwise_cons.1 ih
  have hab:=h1 b (by simp)
  rw [cptA]
  by_cases e:cmpS b a=0
  ·rw [if_pos e]
   refine List.pairwise_cons.2 ⟨fun c hc=>?_,i2⟩
   have:=i1 c hc
   exact zbs_.lt_of_le_lt hab this
  ·rw [if_neg e]
   refine List.pairwise_cons.2 ⟨fun c hc=>?_,ih⟩
   have hlt:cmpS a b < 0:=by
    rcases Int.lt_or_eq_of_le hab with q | q
    ·exact q
    ·exact absurd (csym q) e
   rcases List.mem_cons.1 hc with rfl | hc
   ·exact hlt
   ·exact clt hlt (Int.le_of_lt (i1 c hc))
theorem zbap_ (es:List SP):Str (dst es):=by
 have h:=zddo_ es
 unfold dst
 match srt es,h with
 | [],_=>exact List.Pairwise.nil
 | a :: r,h=>exact zbja_ r a h
theorem zbjb_ (es:List SP):Alk (dst es) es:=by
 refine ⟨Ins.of_sub fun a=>zgh_,fun c hc=>?_⟩
 have hc:=zbag_.2 hc
 unfold dst
 generalize srt es=l at *
 match l,hc with
 | a :: r,hc =>
  rcases List.mem_cons.1 hc with rfl | hc
  ·exact ⟨c,by simp [cpt],cz c⟩
  ·obtain ⟨d,hd,e⟩:=zbiz_ r a c hc
   exact ⟨d,hd,e⟩
def Idn (a b:SP):Prop:=a.tr=b.tr∧a.id=b.id
theorem Idn.symm {a b:SP} (h:Idn a b):Idn b a:=⟨h.1.symm,h.2.symm⟩
theorem Idn.trans {a b c:SP} (h:Idn a b) (k:Idn b c):Idn a c:=⟨h.1.trans k.1,h.2.trans k.2⟩
end Go.Proofs.Sl
namespace Go.Proofs.Sl
end Go.Proofs.Sl
namespace Go.Proofs.Sl
end Go.Proofs.Sl
namespace Go.Proofs.Sl
end Go.Proofs.Sl
namespace Go.Proofs.Sl
end Go.Proofs.Sl
namespace Go.Proofs.Sl
end Go.Proofs.Sl
namespace Go.Proofs.Sl
end Go.Proofs.Sl
namespace Go.Proofs.Sl
theorem OutV.grows {x:V} {h:H} {b k lim:Nat} {es:List V} (o:OutV x h b k es) {y:V} {ys:List V} (ey:appEls h y=some ys) (hb:b≤h.length) (hw:wide k ys=true) (hc:V.closed.closeds ys=true) (hl:es.length + ys.length≤lim) :
  ∃ x' h',zao_ h k lim x y=some (x',h')∧OutV x' h' b k (es++ys)∧h'.take b=h.take b∧b≤h'.length:=by
 rcases o with ⟨rfl,rfl⟩ | ⟨q,h0,h1,rfl,h3⟩
 ·by_cases hy:ys=[]
  ·subst hy
   refine ⟨vnil,h,?_,.inl ⟨rfl,rfl⟩,rfl,hb⟩
   simp only [zao_,ey,zab_,hw,hc,and_self,if_true,List.length_nil]
  ·have hy':ys.length≠0:=by simpa using hy
   have hl':ys.length≤lim:=by simpa using hl
   refine ⟨.ref h.length ys.length,h++[.arr false k ys],?_,.inr ⟨h.length,by simpa using hy,hb,by simp,by simp⟩,by rw [List.take_append_of_le_length hb],by simp; omega⟩
   simp only [zao_,ey,zab_,hw,hc,and_self,if_true,hy',if_false,hl']
 ·have hq:=(List.getElem?_eq_some_iff.1 h3).1
  refine ⟨.ref q (es.length + ys.length),h.set q (.arr false k (es++ys)),?_,.inr ⟨q,by simp [h0],h1,by simp,by rw [List.getElem?_set_self hq]⟩,?_,by simpa using hb⟩
  ·have:arrN h q es.length=some (false,k,es):=by simp [arrN,arrAt,h3,zab_]
   simp only [zao_,ey,zab_,hw,hc,and_self,if_true,this,true_and,hl]
  ·rw [List.take_set,List.set_eq_of_length_le (by simp; omega)]
end Go.Proofs.Sl
namespace Go.Proofs.Sl
def oL (es:List V):V:=if es=[] then vnil else .own 1 es
def sL (es:List V):V:=if es=[] then vnil else .lst 1 es
theorem ztg_ (es:List V):res0 (oL es)=sL es:=by unfold oL sL; split <;> simp
theorem sL_rd (h:H) (es:List V):Rd h 1 (sL es) es:=by
 unfold sL
 split
 ·rename_i e
  subst e
  exact .nil
 ·exact .lst _
theorem zeu_ (es:List V):res0 (sL es)=sL es:=(sL_rd [] es).res0
theorem zgj_ (es:List V):arg0 (sL es)=some (sL es):=(sL_rd [] es).arg0
theorem zbjc_ (es:List V):(sL es).plain=true:=by unfold sL; split <;> rfl
theorem cl_vs {α:Type} (g:α→ByteArray) (l:List α):V.closed.closeds (l.map fun e=>vs (g e))=true:=by induction l <;> simp_all
theorem cl_vi {α:Type} (g:α→Int) (l:List α):V.closed.closeds (l.map fun e=>vi (g e))=true:=by induction l <;> simp_all
theorem zbaq_ (h:H) {v:V} {es:List SP} {f:Nat} {g:SP→ByteArray} (hv:∀ t,Rd (h++t) 14 v (es.map SP.v)) (hf:∀ e ∈ es,∀ t,run XP f [e.v] (h++t)=some (vs (g e),h++t)) (hl:es.length≤100000) :
  run XP zxf_ [v,.fn f [] []] h=some (oL (es.map fun e=>vs (g e)),h):=by
 have hv0:=hv []
 rw [List.append_nil] at hv0
 rw [run_eq,zcil_]
 simp -implicitDefEqProofs [zlz_,hv0.toL]
 refine zaf_ es (fun k s h'=>∃ t,Sees s [(1,.fn f [] []),(8,v),(9,vi es.length),(10,vi k)]∧h'=h++t∧OutV (s 5) h' h.length 1 ((es.take k).map fun e=>vs (g e))) ?_ ?_ _ _ ?_
 rotate_left
 ·rintro B hB s h' ⟨t,⟨g1,g8,g9,g10,-⟩,rfl,ho⟩
  rw [List.take_length] at ho
  have hr:=ho.ret (cl_vs g _)
  simp -implicitDefEqProofs [hB,zyh_,g8,g9,g10]
  simp only [hr]
  simp [oL]
 ·exact ⟨[],by simp,by simp,.inl ⟨by simp,by simp⟩⟩
 ·rintro B f' hB hf' k e s h' he hk ⟨t,⟨g1,g8,g9,g10,-⟩,rfl,ho⟩ K
  have hlt:(k:Int) < es.length:=by omega
  obtain ⟨q,hq,hld⟩:=(hv t).at (i:=k) (e:=e.v) (by simp [he])
  have hw:IntKind.i64.wrap ((k:Int) + 1)=(k:Int) + 1:=zac_ (by omega) (by omega)
  have hfe:=hf e (List.mem_of_getElem? he)
  have hmin:min k es.length=k:=by omega
  have tk:es.take (k + 1)=es.take k++[e]:=by rw [List.take_add_one,he]; rfl
  obtain ⟨x',h'',hap,ho',htk,hbl⟩:=(ho.app [.box false e.v.cells]).grow (e:=vs (g e)) (lim:=8796093022208) (by simp) (by simp) (by simp) (by simp [hmin]; omega)
  simp only [SP.v,V.cells] at hld hfe hap
  rw [List.append_assoc] at hap
  have htk':∃ t',h''=h++t':=⟨h''.drop h.length,by
   have:=List.take_append_drop h.length h''
   rw [htk] at this
   rw [List.append_assoc,List.take_left] at this
   exact this.symm⟩
  obtain ⟨t',rfl⟩:=htk'
  simp -implicitDefEqProofs [hB,zyh_,g1,g8,g9,g10,hlt,hq,hld,hfe,hap]
  refine K _ _ ⟨t',?_,rfl,?_⟩
  ·simp [g1,g8,g9,g10,hw]
  ·rw [tk,List.map_append]
   simpa using ho'
theorem zdl_ (h:H) {v:V} {es:List SP} {f:Nat} {g:SP→Int} (hv:∀ t,Rd (h++t) 14 v (es.map SP.v)) (hf:∀ e ∈ es,∀ t,run XP f [e.v] (h++t)=some (vi (g e),h++t)) (hl:es.length≤100000) :
  run XP zhx_ [v,.fn f [] []] h=some (oL (es.map fun e=>vi (g e)),h):=by
 have hv0:=hv []
 rw [List.append_nil] at hv0
 rw [run_eq,zchz_]
 simp -implicitDefEqProofs [zlx_,hv0.toL]
 refine zaf_ es (fun k s h'=>∃ t,Sees s [(1,.fn f [] []),(8,v),(9,vi es.length),(10,vi k)]∧h'=h++t∧OutV (s 5) h' h.length 1 ((es.take k).map fun e=>vi (g e))) ?_ ?_ _ _ ?_
 rotate_left
 ·rintro B hB s h' ⟨t,⟨g1,g8,g9,g10,-⟩,rfl,ho⟩
  rw [List.take_length] at ho
  have hr:=ho.ret (cl_vi g _)
  simp -implicitDefEqProofs [hB,zyg_,g8,g9,g10]
  simp only [hr]
  simp [oL]
 ·exact ⟨[],by simp,by simp,.inl ⟨by simp,by simp⟩⟩
 ·rintro B f' hB hf' k e s h' he hk ⟨t,⟨g1,g8,g9,g10,-⟩,rfl,ho⟩ K
  have hlt:(k:Int) < es.length:=by omega
  obtain ⟨q,hq,hld⟩:=(hv t).at (i:=k) (e:=e.v) (by simp [he])
  have hw:IntKind.i64.wrap ((k:Int) + 1)=(k:Int) + 1:=zac_ (by omega) (by omega)
  have hfe:=hf e (List.mem_of_getElem? he)
  have hmin:min k es.length=k:=by omega
  have tk:es.take (k + 1)=es.take k++[e]:=by rw [List.take_add_one,he]; rfl
  obtain ⟨x',h'',hap,ho',htk,hbl⟩:=(ho.app [.box false e.v.cells]).grow (e:=vi (g e)) (lim:=17592186044416) (by simp) (by simp) (by simp) (by simp [hmin]; omega)
  simp only [SP.v,V.cells] at hld hfe hap
  rw [List.append_assoc] at hap
  have htk':∃ t',h''=h++t':=⟨h''.drop h.length,by
   have:=List.take_append_drop h.length h''
   rw [htk] at this
   rw [List.append_assoc,List.take_left] at this
   exact this.symm⟩
  obtain ⟨t',rfl⟩:=htk'
  simp -implicitDefEqProofs [hB,zyg_,g1,g8,g9,g10,hlt,hq,hld,hfe,hap]
  refine K _ _ ⟨t',?_,rfl,?_⟩
  ·simp [g1,g8,g9,g10,hw]
  ·rw [tk,List.map_append]
   simpa using ho'
theorem zdfh_ (h:H) {v:V} {es:List AT} {f:Nat} {g:AT→ByteArray} (hv:∀ t,Rd (h++t) 4 v (es.map AT.v)) (hf:∀ e ∈ es,∀ t,run XP f [e.v] (h++t)=some (vs (g e),h++t)) (hl:es.length≤100000) :
  run XP zrs_ [v,.fn f [] []] h=some (oL (es.map fun e=>vs (g e)),h):=by
 have hv0:=hv []
 rw [List.append_nil] at hv0
 rw [run_eq,zcia_]
 simp -implicitDefEqProofs [zmb_,hv0.toL]
 refine zaf_ es (fun k s h'=>∃ t,Sees s [(1,.fn f [] []),(8,v),(9,vi es.length),(10,vi k)]∧h'=h++t∧OutV (s 5) h' h.length 1 ((es.take k).map fun e=>vs (g e))) ?_ ?_ _ _ ?_
 rotate_left
 ·rintro B hB s h' ⟨t,⟨g1,g8,g9,g10,-⟩,rfl,ho⟩
  rw [List.take_length] at ho
  have hr:=ho.ret (cl_vs g _)
  simp -implicitDefEqProofs [hB,zyj_,g8,g9,g10]
  simp only [hr]
  simp [oL]
 ·exact ⟨[],by simp,by simp,.inl ⟨by simp,by simp⟩⟩
 ·rintro B f' hB hf' k e s h' he hk ⟨t,⟨g1,g8,g9,g10,-⟩,rfl,ho⟩ K
  have hlt:(k:Int) < es.length:=by omega
  obtain ⟨q,hq,hld⟩:=(hv t).at (i:=k) (e:=e.v) (by simp [he])
  have hw:IntKind.i64.wrap ((k:Int) + 1)=(k:Int) + 1:=zac_ (by omega) (by omega)
  have hfe:=hf e (List.mem_of_getElem? he)
  have hmin:min k es.length=k:=by omega
  have tk:es.take (k + 1)=es.take k++[e]:=by rw [List.take_add_one,he]; rfl
  obtain ⟨x',h'',hap,ho',htk,hbl⟩:=(ho.app [.box false e.v.cells]).grow (e:=vs (g e)) (lim:=8796093022208) (by simp) (by simp) (by simp) (by simp [hmin]; omega)
  simp only [AT.v,V.cells] at hld hfe hap
  rw [List.append_assoc] at hap
  have htk':∃ t',h''=h++t':=⟨h''.drop h.length,by
   have:=List.take_append_drop h.length h''
   rw [htk] at this
   rw [List.append_assoc,List.take_left] at this
   exact this.symm⟩
  obtain ⟨t',rfl⟩:=htk'
  simp -implicitDefEqProofs [hB,zyj_,g1,g8,g9,g10,hlt,hq,hld,hfe,hap]
  refine K _ _ ⟨t',?_,rfl,?_⟩
  ·simp [g1,g8,g9,g10,hw]
  ·rw [tk,List.map_append]
   simpa using ho'
theorem zdfi_ (h:H) {v:V} {es:List RF} {f:Nat} {g:RF→Int} (hv:∀ t,Rd (h++t) 2 v (es.map RF.v)) (hf:∀ e ∈ es,∀ t,run XP f [e.v] (h++t)=some (vi (g e),h++t)) (hl:es.length≤100000) :
  run XP zki_ [v,.fn f [] []] h=some (oL (es.map fun e=>vi (g e)),h):=by
 have hv0:=hv []
 rw [List.append_nil] at hv0
 rw [run_eq,zcie_]
 simp -implicitDefEqProofs [zmv_,hv0.toL]
 refine zaf_ es (fun k s h'=>∃ t,Sees s [(1,.fn f [] []),(8,v),(9,vi es.length),(10,vi k)]∧h'=h++t∧OutV (s 5) h' h.length 1 ((es.take k).map fun e=>vi (g e))) ?_ ?_ _ _ ?_
 rotate_left
 ·rintro B hB s h' ⟨t,⟨g1,g8,g9,g10,-⟩,rfl,ho⟩
  rw [List.take_length] at ho
  have hr:=ho.ret (cl_vi g _)
  simp -implicitDefEqProofs [hB,zyq_,g8,g9,g10]
  simp only [hr]
  simp [oL]
 ·exact ⟨[],by simp,by simp,.inl ⟨by simp,by simp⟩⟩
 ·rintro B f' hB hf' k e s h' he hk ⟨t,⟨g1,g8,g9,g10,-⟩,rfl,ho⟩ K
  have hlt:(k:Int) < es.length:=by omega
  obtain ⟨q,hq,hld⟩:=(hv t).at (i:=k) (e:=e.v) (by simp [he])
  have hw:IntKind.i64.wrap ((k:Int) + 1)=(k:Int) + 1:=zac_ (by omega) (by omega)
  have hfe:=hf e (List.mem_of_getElem? he)
  have hmin:min k es.length=k:=by omega
  have tk:es.take (k + 1)=es.take k++[e]:=by rw [List.take_add_one,he]; rfl
  obtain ⟨x',h'',hap,ho',htk,hbl⟩:=(ho.app [.box false e.v.cells]).grow (e:=vi (g e)) (lim:=17592186044416) (by simp) (by simp) (by simp) (by simp [hmin]; omega)
  simp only [RF.v,V.cells] at hld hfe hap
  rw [List.append_assoc] at hap
  have htk':∃ t',h''=h++t':=⟨h''.drop h.length,by
   have:=List.take_append_drop h.length h''
   rw [htk] at this
   rw [List.append_assoc,List.take_left] at this
   exact this.symm⟩
  obtain ⟨t',rfl⟩:=htk'
  simp -implicitDefEqProofs [hB,zyq_,g1,g8,g9,g10,hlt,hq,hld,hfe,hap]
  refine K _ _ ⟨t',?_,rfl,?_⟩
  ·simp [g1,g8,g9,g10,hw]
  ·rw [tk,List.map_append]
   simpa using ho'
end Go.Proofs.Sl
namespace Go.Proofs.Sl
section
variable {α:Type} (q:α→α→Bool)
def cqA:α→List α→List α
 | _,[]=>[]
 | a,b :: r=>if q b a=true then cqA b r else b :: cqA b r
def cq:List α→List α
 | []=>[]
 | a :: r=>a :: cqA q a r
theorem zbjd_ {a:α}:cqA q a []=[]:=rfl
theorem zdfj_ (es:List α) (a:α) (ha:es[1 - 1]?=some a):cq q es=es.take 1++cqA q a (es.drop 1):=by
 cases es with
 | nil=>simp at ha
 | cons x r =>
  simp only [Nat.sub_self,List.getElem?_cons_zero,Option.some.injEq] at ha
  subst ha
  rfl
theorem zbje_:∀ (r:List α) (a:α),(cqA q a r).length≤r.length
 | [],_=>Nat.le_refl _
 | b :: r,a=>by
  have:=zbje_ r b
  unfold cqA
  split
  ·simp only [List.length_cons]; omega
  ·simp only [List.length_cons]; omega
theorem cq_len (l:List α):(cq q l).length≤l.length:=by
 cases l with
 | nil=>exact Nat.le_refl _
 | cons a r =>
  have:=zbje_ q r a
  simp only [cq,List.length_cons]
  omega
end
def eqT (a b:ByteArray):Bool:=a.toList == b.toList
theorem zdfk_ {h:H} {l n a b k:Nat} {z:Bool} {ws:List V} (e:h[l]?=some (.arr z k ws)) (hn:ws.length=n) (hb:b≤n):V.toL h (.win l n a b)=some ((ws.take b).drop a):=by
 show (match h[l]? with
  | some (.arr _ _ es)=>if es.length=n∧b≤n then some ((es.take b).drop a) else none
  | _=>none)=_
 rw [e]
 exact if_pos ⟨hn,hb⟩
theorem zbjf_ {h:H} {l n a b i k:Nat} {z:Bool} {ws:List V} (e:h[l]?=some (.arr z k ws)) (hn:ws.length=n) (hi:a + i < b) (hb:b≤n):iaddrV h k (.win l n a b) i=some (.eptr l n (a + i) 0):=by
 rw [zvj_]
 have h1:arrN h l n=some (z,k,ws):=by simp [arrN,arrAt,e,zab_,hn]
 rw [h1,zab_,if_pos ⟨hi,hb,rfl⟩]
theorem zth_ {h:H} {l n i k:Nat} {z:Bool} {ws:List V} (e:h[l]?=some (.arr z k ws)) (hn:ws.length=n) (hi:i < n):iaddrV h k (.ref l n) i=some (.eptr l n i 0):=by
 have h1:arrN h l n=some (z,k,ws):=by simp [arrN,arrAt,e,zab_,hn]
 rw [zvk_,h1,zab_,if_pos ⟨hi,rfl⟩]
theorem zdfl_ (z:V) (hz:z.closed=true) (n:Nat):V.closed.closeds (List.replicate n z)=true:=by
 induction n with
 | zero=>rfl
 | succ n ih=>simp only [List.replicate_succ,V.closed.closeds,ih,hz,Bool.and_true]
theorem zti_ {h:H} {l n i:Nat} {z:Bool} {ws:List ByteArray} (e:h[l]?=some (.arr z 1 (ws.map fun a=>vs a))) (hn:ws.length=n) {a:ByteArray} (hi:ws[i]?=some a):xload h 1 false (.eptr l n i 0)=some (vs a):=by
 have h1:arrN h l n=some (z,1,ws.map fun a=>vs a):=by simp [arrN,arrAt,e,zab_,hn]
 have h2:(ws.map fun a=>vs a)[i]?=some (vs a):=by rw [List.getElem?_map,hi]; rfl
 rw [zkc_,h1,zab_]
 simp only [h2,zab_]
 rfl
theorem zdfm_ {base:Nat} {h:H} {l n i:Nat} {ws:List ByteArray} (e:h[l]?=some (.arr false 1 (ws.map fun a=>vs a))) (hn:ws.length=n) (hi:i < n) (a:ByteArray) :
  xstore base h 1 (.eptr l n i 0) (vs a)=some (h.set l (.arr false 1 ((ws.set i a).map fun a=>vs a))):=by
 have h1:arrN h l n=some (false,1,ws.map fun a=>vs a):=by simp [arrN,arrAt,e,zab_,hn]
 obtain ⟨w,hw⟩:∃ w,ws[i]?=some w:=⟨_,List.getElem?_eq_getElem (by omega)⟩
 have h2:(ws.map fun a=>vs a)[i]?=some (vs w):=by rw [List.getElem?_map,hw]; rfl
 rw [zqv_,if_pos (show (vs a).cells.length=1 from rfl),h1,zab_]
 simp only [Bool.false_eq_true,if_false,h2,zab_]
 rw [List.map_set]
 rfl
theorem zdfn_ {h:H} {l:Nat} {es:List ByteArray} (he:h[l]?=some (.arr false 1 (es.map fun a=>vs a))) (hn:es.length≤1000000) :
  ∃ r,run XP zkj_ [.ref l es.length] h=some r∧((r=(.ref l es.length,h)∧cq eqT es=es)∨∃ o,r=(.lst 1 ((cq eqT es).map fun a=>vs a),h.set l o)):=by
 have hl:l < h.length:=(List.getElem?_eq_some_iff.1 he).1
 have hset:∀ o:O,(h.set l o)[l]?=some o:=fun o=>List.getElem?_set_self hl
 have hlen:(es.map fun a=>vs a).length=es.length:=by simp
 have htoL:V.toL h (.ref l es.length)=some (es.map fun a=>vs a):=by simp [he]
 by_cases h2:es.length < 2
 ·refine ⟨_,?_,.inl ⟨rfl,?_⟩⟩
  ·have h2i:(es.length:Int) < 2:=by omega
   rw [run_eq,zzo_]
   simp -implicitDefEqProofs [zfq_,htoL,h2i,hl]
  ·cases es with
   | nil=>rfl
   | cons a r=>cases r with
    | nil=>rfl
    | cons b r=>simp at h2; omega
 ·have h2':¬ ((es.length:Int) < 2):=by omega
  suffices key:∃ r,((r=(.ref l es.length,h)∧cq eqT es=es)∨∃ o,r=(.lst 1 ((cq eqT es).map fun a=>vs a),h.set l o))∧run XP zkj_ [.ref l es.length] h=some r by
   obtain ⟨r,h3,h4⟩:=key
   exact ⟨r,h4,h3⟩
  -- which of the two it will be
  obtain ⟨r,hr,hr1,hr2⟩:∃ r,((r=(V.ref l es.length,h)∧cq eqT es=es)∨∃ o,r=(.lst 1 ((cq eqT es).map fun a=>vs a),h.set l o))∧(cq eqT es=es→r=(.ref l es.length,h)) ∧
    (cq eqT es≠es→r=(.lst 1 ((cq eqT es).map fun a=>vs a),h.set l (.arr true 1 (((cq eqT es).map fun a=>vs a)++List.replicate (es.length - (cq eqT es).length) (vs ⟨#[]⟩))))):=by
   by_cases hc:cq eqT es=es
   ·exact ⟨_,.inl ⟨rfl,hc⟩,fun _=>rfl,fun h=>absurd hc h⟩
   ·exact ⟨_,.inr ⟨_,rfl⟩,fun h=>absurd h hc,fun _=>rfl⟩
  refine ⟨r,hr,?_⟩
  rw [run_eq,zzo_]
  simp -implicitDefEqProofs [zfq_,htoL,h2']
  refine zei_ (σ:=Nat) (fun k=>es.length - k) (fun k s h'=>Sees s [(0,.ref l es.length),(3,vi k)]∧h'=h∧1≤k∧k≤es.length∧∀ a,es[k - 1]?=some a→cq eqT es=es.take k++cqA eqT a (es.drop k)) ?_ 1 _ _
   ⟨by simp,rfl,Nat.le_refl _,by omega,zdfj_ eqT es⟩
  rintro B f hB hf k s h' ⟨⟨h0,h5,-⟩,rfl,hk1,hkn,hinv⟩ K
  obtain ⟨a,ha⟩:∃ a,es[k - 1]?=some a:=⟨_,List.getElem?_eq_getElem (by omega)⟩
  have hx:=hinv a ha
  have hw:IntKind.i64.wrap ((k:Int) + 1)=(k:Int) + 1:=zac_ (by omega) (by omega)
  by_cases hlt:k < es.length
  ·have hlti:(k:Int) < es.length:=by omega
   obtain ⟨e,hek⟩:∃ e,es[k]?=some e:=⟨_,List.getElem?_eq_getElem hlt⟩
   have hw1:IntKind.i64.wrap ((k:Int) - 1)=((k - 1:Nat):Int):=by rw [zac_ (by omega) (by omega)]; omega
   have ld1:=zti_ he rfl hek
   have ld2:=zti_ he rfl ha
   have hp1:k - 1 < es.length:=by omega
   have ia1:=zth_ he hlen hlt
   have ia2:=zth_ he hlen hp1
   rw [zas_ hek,cqA] at hx
   cases hc:eqT e a with
   | true =>
    rw [hc,if_pos rfl] at hx
    have hc:(e.toList == a.toList)=true:=hc
    have hsame:h'.set l (.arr false 1 (es.map fun a=>vs a))=h':=zbik_ he
    have hke:k≤es.length:=by omega
    simp -implicitDefEqProofs [hB,hf,zsl_,h0,h5,htoL,hlt,hw1,ia1,ia2,ld1,ld2,hc,he,hke]
    refine zei_ (σ:=Nat) (fun j=>es.length - j) (fun j s h''=>∃ (ws out:List ByteArray),Sees s [(0,.ref l es.length),(3,vi out.length),(4,.win l es.length k es.length),(5,vi j)]∧h''=h'.set l (.arr false 1 (ws.map fun a=>vs a)) ∧
     ws.length=es.length∧ws.take out.length=out∧out.length + 1≤k + j∧(∀ i,k + j≤i + 1→ws[i]?=es[i]?)∧(∀ b,es[k + j - 1]?=some b→cq eqT es=out++cqA eqT b (es.drop (k + j)))∧1≤j∧k + j≤es.length) ?_ 1 _ _
     ⟨es,es.take k,by simp [Nat.min_eq_left hke,h0,h5],hsame.symm,rfl,by simp,by simp; omega,fun _ _=>rfl,fun b hb=>?_,Nat.le_refl _,hlt⟩
    ·rintro B2 f2 hB2 hf2 j s2 h2 ⟨ws,out,⟨z0,z5,z6,z7,-⟩,rfl,hwl,hwo,hol,hwe,hwc,hj1,hjn⟩ K2
     have hH:=hset (.arr false 1 (ws.map fun a=>vs a))
     have hwl':(ws.map fun a=>vs a).length=es.length:=by simp [hwl]
     have htw:=zdfk_ hH hwl' (a:=k) (Nat.le_refl es.length)
     have hlw:(((ws.map fun a=>vs a).take es.length).drop k).length=es.length - k:=by simp [hwl]
     have hmn:out.length < es.length:=by omega
     by_cases hjl:k + j < es.length
     ·have hjlt:(j:Int) < ((es.length - k:Nat):Int):=by omega
      have hw2:IntKind.i64.wrap ((j:Int) - 1)=((j - 1:Nat):Int):=by rw [zac_ (by omega) (by omega)]; omega
      have hw3:IntKind.i64.wrap ((j:Int) + 1)=(j:Int) + 1:=zac_ (by omega) (by omega)
      have hw4:IntKind.i64.wrap ((out.length:Int) + 1)=(out.length:Int) + 1:=zac_ (by omega) (by omega)
      obtain ⟨e1,he1⟩:∃ e1,es[k + j]?=some e1:=⟨_,List.getElem?_eq_getElem hjl⟩
      obtain ⟨e0,he0⟩:∃ e0,es[k + j - 1]?=some e0:=⟨_,List.getElem?_eq_getElem (by omega)⟩
      have hj0:k + (j - 1)=k + j - 1:=by omega
      have w1:ws[k + j]?=some e1:=by rw [hwe _ (by omega),he1]
      have w0:ws[k + (j - 1)]?=some e0:=by rw [hj0,hwe _ (by omega),he0]
      have ib1:=zbjf_ hH hwl' hjl (Nat.le_refl _)
      have ib0:=zbjf_ hH hwl' (a:=k) (i:=j - 1) (b:=es.length) (by omega) (Nat.le_refl _)
      have ib2:=zth_ hH hwl' hmn
      have lb1:=zti_ hH hwl w1
      have lb0:=zti_ hH hwl w0
      have hcc:=hwc e0 he0
      rw [zas_ he1,cqA] at hcc
      cases hd:eqT e1 e0 with
      | true =>
       rw [hd,if_pos rfl] at hcc
       have hd:(e1.toList == e0.toList)=true:=hd
       have hd':(e1.toList != e0.toList)=false:=by simp only [bne,hd,Bool.not_true]
       simp -implicitDefEqProofs [hB2,zsk_,z0,z5,z6,z7,htw,hlw,hjlt,hw2,ib1,ib0,lb1,lb0,hd,hd']
       refine K2 (j + 1) _ _ (by omega) ⟨ws,out,?_,rfl,hwl,hwo,by omega,fun i hi=>hwe i (by omega),fun b hb=>?_,by omega,by omega⟩
       ·simp [z0,z5,z6,hw3]
       ·rw [show k + (j + 1) - 1=k + j by omega,he1] at hb
        injection hb with hb
        subst hb
        exact hcc
      | false =>
       rw [hd,if_neg (by simp)] at hcc
       have hd:(e1.toList == e0.toList)=false:=hd
       have hd':(e1.toList != e0.toList)=true:=by simp only [bne,hd,Bool.not_false]
       have sb:=zdfm_ (base:=h'.length) hH hwl hmn e1
       simp -implicitDefEqProofs [hB2,zsk_,z0,z5,z6,z7,htw,hlw,hjlt,hw2,ib1,ib0,ib2,lb1,lb0,hd,hd',sb]
       refine K2 (j + 1) _ _ (by omega) ⟨ws.set out.length e1,out++[e1],?_,by rw [List.map_set],by simp [hwl],?_,by simp; omega,fun i hi=>?_,fun b hb=>?_,by omega,by omega⟩
       ·simp [z0,z6,hw3,hw4]
       ·rw [List.length_append,List.length_singleton,List.take_add_one,List.take_set,List.set_eq_of_length_le (by simp; omega),hwo,List.getElem?_set_self (by omega)]
        rfl
       ·rw [List.getElem?_set_ne (by omega)]
        exact hwe i (by omega)
       ·rw [show k + (j + 1) - 1=k + j by omega,he1] at hb
        injection hb with hb
        subst hb
        rw [hcc]
        simp
        rfl
     ·have hjn':k + j=es.length:=by omega
      have hjlt:¬ ((j:Int) < ((es.length - k:Nat):Int)):=by omega
      obtain ⟨e0,he0⟩:∃ e0,es[k + j - 1]?=some e0:=⟨_,List.getElem?_eq_getElem (by omega)⟩
      have hcc:=hwc e0 he0
      rw [hjn',List.drop_of_length_le (Nat.le_refl _),zbjd_,List.append_nil] at hcc
      subst hcc
      have hrr:=hr2 (fun h=>by rw [h] at hmn; omega)
      subst hrr
      have hmle:(cq eqT es).length≤es.length:=by omega
      simp -implicitDefEqProofs [hB2,hf2,zsk_,z0,z5,z6,z7,htw,hlw,hjlt,hH,hwl,hmle,hset]
      have htk:(ws.map fun a=>vs a).take (cq eqT es).length=(cq eqT es).map fun a=>vs a:=by rw [← List.map_take,hwo]
      rw [htk]
      refine ⟨?_,?_⟩
      ·have h1:=zbii_ ((cq eqT es).map fun a=>vs a) (List.replicate (es.length - (cq eqT es).length) (vs ⟨#[]⟩))
       rw [cl_vs (fun a=>a),zdfl_ _ rfl,Bool.and_self] at h1
       exact h1
      ·rw [hf]
       simp -implicitDefEqProofs
    ·rw [Nat.add_sub_cancel,hek] at hb
     injection hb with hb
     subst hb
     exact hx
   | false =>
    rw [hc,if_neg (by simp)] at hx
    have hc:(e.toList == a.toList)=false:=hc
    simp -implicitDefEqProofs [hB,zsl_,h0,h5,htoL,hlt,hw1,ia1,ia2,ld1,ld2,hc]
    refine K (k + 1) _ _ (by omega) ⟨?_,rfl,by omega,hlt,fun b hb=>?_⟩
    ·simp [h0,hw]
    ·rw [Nat.add_sub_cancel,hek] at hb
     injection hb with hb
     subst hb
     rw [hx,zjl_ hek]
     simp
  ·obtain rfl:k=es.length:=by omega
   rw [List.drop_of_length_le (Nat.le_refl _),zbjd_,List.append_nil,List.take_length] at hx
   have:=hr1 hx
   subst this
   simp -implicitDefEqProofs [hB,hf,zsl_,h0,h5,htoL,hl]
end Go.Proofs.Sl
