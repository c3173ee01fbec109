/- A part of the proof. -/
import Derived.Test.YtalalpgkljkdiaaGreatSlB
import Derived.Test.YtalalpgkljkdiaaGreatSlS
set_option linter.unusedVariables false
set_option linter.unusedSimpArgs false
set_option linter.unnecessarySimpa false
namespace Go.Proofs.Sl
theorem zqx_ {α:Type} {v:α→V} {Q:α→Prop}:∀ {l:List V},(∀ y ∈ l,∃ a,y=v a∧Q a)→∃ as:List α,l=as.map v∧∀ a ∈ as,Q a
 | [],_=>⟨[],rfl,by simp⟩
 | y :: l,h=>by
  obtain ⟨a,ha,hq⟩:=h y (by simp)
  obtain ⟨as,hl,hall⟩:=zqx_ (l:=l) fun z hz=>h z (List.mem_cons_of_mem _ hz)
  exact ⟨a :: as,by rw [ha,hl]; rfl,by simpa using ⟨hq,hall⟩⟩
theorem okV_st {fs:List Ty} {x:V} (h:(Ty.st fs).okV x):∃ cs,x=.agg cs∧Ty.oks fs cs:=by
 unfold Ty.okV at h
 simp only [Ty.isAgg,if_true,Ty.ok] at h
 exact h
theorem zqy_ {cs:List V} (h:Ty.oks [] cs):cs=[]:=by simpa [Ty.oks] using h
theorem oks_i {k:IntKind} {r:List Ty} {cs:List V} (h:Ty.oks (.i k :: r) cs):∃ n b,cs=vk k n :: b∧(Lit.int k n).wf=true∧Ty.oks r b:=by
 simp only [Ty.oks,Ty.ok] at h
 obtain ⟨a,b,rfl,⟨n,rfl,hw⟩,h⟩:=h
 exact ⟨n,b,rfl,hw,h⟩
theorem oks_b {r:List Ty} {cs:List V} (h:Ty.oks (.b :: r) cs):∃ x b,cs=vb x :: b∧Ty.oks r b:=by
 simp only [Ty.oks,Ty.ok] at h
 obtain ⟨a,b,rfl,⟨n,rfl⟩,h⟩:=h
 exact ⟨n,b,rfl,h⟩
theorem oks_sl {e:Ty} {r:List Ty} {cs:List V} (h:Ty.oks (.sl e :: r) cs):∃ (o:Option (List V)) (b:List V),cs=lv e.cells o :: b∧(o.getD []).length≤maxLen∧(∀ y ∈ o.getD [],e.okV y)∧Ty.oks r b:=by
 simp only [Ty.oks] at h
 obtain ⟨a,b,rfl,h1,h⟩:=h
 simp only [Ty.ok] at h1
 rcases h1 with rfl | ⟨es,rfl,hl,hes⟩
 ·exact ⟨none,b,rfl,by simp,by simp,h⟩
 ·exact ⟨some es,b,rfl,hl,hes,h⟩
theorem oks_ar {n:Nat} {k:IntKind} {r:List Ty} {cs:List V} (h:Ty.oks (.ar n (.i k) :: r) cs):∃ (ns:List Int) (b:List V),cs=ns.map (vk k)++b∧ns.length=n∧(∀ x ∈ ns,(Lit.int k x).wf=true)∧Ty.oks r b:=by
 simp only [Ty.oks,Ty.ok] at h
 obtain ⟨a,b,rfl,⟨css,hl,rfl,hc⟩,h⟩:=h
 have:∀ css:List (List V),(∀ c ∈ css,∃ n,c=[vk k n]∧(Lit.int k n).wf=true)→∃ ns:List Int,css.flatten=ns.map (vk k)∧ns.length=css.length∧∀ x ∈ ns,(Lit.int k x).wf=true:=by
  intro css
  induction css with
  | nil=>intro _; exact ⟨[],rfl,rfl,by simp⟩
  | cons c css ih =>
   intro hc
   obtain ⟨n,rfl,hw⟩:=hc c (by simp)
   obtain ⟨ns,h1,h2,h3⟩:=ih fun c hc'=>hc c (List.mem_cons_of_mem _ hc')
   exact ⟨n :: ns,by simp [h1],by simp [h2],by simpa using ⟨hw,h3⟩⟩
 obtain ⟨ns,h1,h2,h3⟩:=this css hc
 exact ⟨ns,b,by rw [h1],by omega,h3,h⟩
theorem u8_of {n:Int} (h:(Lit.int .u8 n).wf=true):0≤n∧n≤255:=by
 simp only [Lit.wf,Bool.and_eq_true,decide_eq_true_eq] at h
 exact h
theorem zcdm_ {n:Nat} (h:n≤maxLen):n≤9223372036854775807:=by
 unfold maxLen at h
 omega
end Go.Proofs.Sl
