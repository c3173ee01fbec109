/- The functions of the program are what the evaluator has for them. -/
import Derived.Test.YtlhniejmohghgaaGreatProg
import Derived.Test.YtlhniejmohghgaaGreatSlB
import Derived.Test.YtlhniejmohghgaaGreatSlP
import Derived.Test.YtlhniejmohghgaaGreatSlN
import Derived.Shelf.SlGeneric
import Derived.Ground.SlsfProg
import Derived.Ground.Names8Prog
set_option linter.unusedVariables false
set_option linter.unusedSimpArgs false
set_option linter.unnecessarySimpa false
set_option maxRecDepth 100000
namespace Go.Proofs.Sl
def phiL : List (Option FuncId) := [none, none, none, none, none, none, none, none, none, some 52, some 58, none, none, none, none, none, none, none, none, none, none, none, none, none, none, none, none, none, none, none, some 71, none, none, some 53, some 55, some 149, none, none, none, none, none, none, none, none, none, none, none, some 99, some 206, none, none, none, none, none, none, some 262, none, none, some 208, none, none, none, none, none, none, none, none, none, none, none, none, none, none, none, none, none, some 204, none, none, some 205, some 207, none, none, none, none, none, none, none, none, none, none, none, none, none, none, none, none, none, none, none, none, none, none, none, none, none, none, none, none, none, none, none, none, none, none, none, none, none, none, none, none, none, none, none, none, none, none, none, none, none, none, none, none, none, none, none, none, none, none, none, none, none, none, none, none, none, none, none, none, none, none, none, none, none, none, none, none, some 60, none, none, some 67, none, some 70, none, some 148, none, none, none, none, none, none, some 155, none, none, none, none, none, none, none, none, some 32, some 74, none, none, some 64, none, none, none, none, some 135, some 136, some 137, some 138, some 139, none, some 142, some 143, some 92, some 144, some 145, some 146, some 147, none, none, none, none, none, none, some 199, none, none, none, some 82, some 81, some 141, none, none, some 169, some 200, some 201, some 202, some 203, none, none, some 159, some 156, some 157, some 158, none, some 213, some 214, some 211, some 93, some 212, some 264, none, none, none, none, none, none, none, none, none, none, none, none, none, none, none, some 3, none, none, none, none, none, none, none, none, some 12, some 13, some 14, some 15, some 16, some 17, some 18, some 19, some 20, some 21, some 22, none, some 24, none, none, none, none, none, none, none, none, none, none, none, none, none, none, none, none, none, none, none, none, none, none, some 50, none, some 54, none, none, some 59, some 61, some 62, some 63, some 65, some 66, some 68, some 69, some 72, some 73, none, some 76, none, none, none, none, none, none, none, none, none, none, none, none, none, none, some 98, some 100, some 101, some 102, none, none, none, none, none, none, none, none, none, none, none, none, none, none, none, none, none, none, none, none, none, none, none, some 133, some 134, some 140, some 150, some 151, none, none, none, none, none, none, none, none, none, none, none, some 172, some 173, none, none, none, none, none, none, none, none, none, none, none, none, none, none, none, some 196, some 197, some 198, some 209, some 210, none, none, none, none, none, none, none, none, none, none, none, none, none, none, none, none, none, none, none, none, none, none, none, none, none, none, none, none, none, some 261, some 263, none, none, none, none, none, none, none, none, none, none, none, none, none, none, none, none, none, none, none, none, none, none, some 299, none, none, none, none, none, none, none, some 314, some 315, none, none, some 319, some 320]
def phi : Nat → Option FuncId := fun n => phiL.getD n none
inductive Each (p : Option FuncId → Option XF → Prop) : List (Option FuncId) → List (Option XF) → Prop
  | nil {l : List (Option XF)} : Each p [] l
  | cons {a : Option FuncId} {x : Option XF} {r : List (Option FuncId)} {l : List (Option XF)} (h : p a x) (k : Each p r l) : Each p (a :: r) (x :: l)
theorem Each.get {p : Option FuncId → Option XF → Prop} (h0 : ∀ x, p none x) : ∀ {r : List (Option FuncId)} {l : List (Option XF)}, Each p r l → ∀ f, p (r.getD f none) (l.getD f none)
  | _, _, .nil, f => by simpa using h0 _
  | _, _, .cons h k, 0 => by simpa using h
  | _, _, .cons h k, f + 1 => by simpa using k.get h0 f
def There (id : FuncId) : Prop := ∃ fn : Func, Tryz.prog.funcs[id]? = some fn ∧ (fn.name == "runtime.NumGoroutine") = false ∧ fn.body.isNone = false
theorem zcag_ : There 52 := ⟨Tryz.f52, Tryz.func52, by kernel_rfl, by kernel_rfl⟩
theorem zcah_ : There 58 := ⟨Tryz.f58, Tryz.func58, by kernel_rfl, by kernel_rfl⟩
theorem zcai_ : There 71 := ⟨Tryz.f71, Tryz.func71, by kernel_rfl, by kernel_rfl⟩
theorem zcaj_ : There 53 := ⟨Tryz.f53, Tryz.func53, by kernel_rfl, by kernel_rfl⟩
theorem zcak_ : There 55 := ⟨Tryz.f55, Tryz.func55, by kernel_rfl, by kernel_rfl⟩
theorem zcal_ : There 149 := ⟨Tryz.f149, Tryz.func149, by kernel_rfl, by kernel_rfl⟩
theorem zcam_ : There 99 := ⟨Tryz.f99, Tryz.func99, by kernel_rfl, by kernel_rfl⟩
theorem zcan_ : There 206 := ⟨Tryz.f206, Tryz.func206, by kernel_rfl, by kernel_rfl⟩
theorem zcao_ : There 262 := ⟨Tryz.f262, Tryz.func262, by kernel_rfl, by kernel_rfl⟩
theorem zcap_ : There 208 := ⟨Tryz.f208, Tryz.func208, by kernel_rfl, by kernel_rfl⟩
theorem zcaq_ : There 204 := ⟨Tryz.f204, Tryz.func204, by kernel_rfl, by kernel_rfl⟩
theorem zcar_ : There 205 := ⟨Tryz.f205, Tryz.func205, by kernel_rfl, by kernel_rfl⟩
theorem zcas_ : There 207 := ⟨Tryz.f207, Tryz.func207, by kernel_rfl, by kernel_rfl⟩
theorem zcat_ : There 60 := ⟨Tryz.f60, Tryz.func60, by kernel_rfl, by kernel_rfl⟩
theorem zcau_ : There 67 := ⟨Tryz.f67, Tryz.func67, by kernel_rfl, by kernel_rfl⟩
theorem zcav_ : There 70 := ⟨Tryz.f70, Tryz.func70, by kernel_rfl, by kernel_rfl⟩
theorem zcaw_ : There 148 := ⟨Tryz.f148, Tryz.func148, by kernel_rfl, by kernel_rfl⟩
theorem zcax_ : There 155 := ⟨Tryz.f155, Tryz.func155, by kernel_rfl, by kernel_rfl⟩
theorem zcay_ : There 32 := ⟨Tryz.f32, Tryz.func32, by kernel_rfl, by kernel_rfl⟩
theorem zcaz_ : There 74 := ⟨Tryz.f74, Tryz.func74, by kernel_rfl, by kernel_rfl⟩
theorem zcba_ : There 64 := ⟨Tryz.f64, Tryz.func64, by kernel_rfl, by kernel_rfl⟩
theorem zcbb_ : There 135 := ⟨Tryz.f135, Tryz.func135, by kernel_rfl, by kernel_rfl⟩
theorem zcbc_ : There 136 := ⟨Tryz.f136, Tryz.func136, by kernel_rfl, by kernel_rfl⟩
theorem zcbd_ : There 137 := ⟨Tryz.f137, Tryz.func137, by kernel_rfl, by kernel_rfl⟩
theorem zcbe_ : There 138 := ⟨Tryz.f138, Tryz.func138, by kernel_rfl, by kernel_rfl⟩
theorem zcbf_ : There 139 := ⟨Tryz.f139, Tryz.func139, by kernel_rfl, by kernel_rfl⟩
theorem zcbg_ : There 142 := ⟨Tryz.f142, Tryz.func142, by kernel_rfl, by kernel_rfl⟩
theorem zcbh_ : There 143 := ⟨Tryz.f143, Tryz.func143, by kernel_rfl, by kernel_rfl⟩
theorem zcbi_ : There 92 := ⟨Tryz.f92, Tryz.func92, by kernel_rfl, by kernel_rfl⟩
theorem zcbj_ : There 144 := ⟨Tryz.f144, Tryz.func144, by kernel_rfl, by kernel_rfl⟩
theorem zcbk_ : There 145 := ⟨Tryz.f145, Tryz.func145, by kernel_rfl, by kernel_rfl⟩
theorem zcbl_ : There 146 := ⟨Tryz.f146, Tryz.func146, by kernel_rfl, by kernel_rfl⟩
theorem zcbm_ : There 147 := ⟨Tryz.f147, Tryz.func147, by kernel_rfl, by kernel_rfl⟩
theorem zcbn_ : There 199 := ⟨Tryz.f199, Tryz.func199, by kernel_rfl, by kernel_rfl⟩
theorem zcbo_ : There 82 := ⟨Tryz.f82, Tryz.func82, by kernel_rfl, by kernel_rfl⟩
theorem zcbp_ : There 81 := ⟨Tryz.f81, Tryz.func81, by kernel_rfl, by kernel_rfl⟩
theorem zcbq_ : There 141 := ⟨Tryz.f141, Tryz.func141, by kernel_rfl, by kernel_rfl⟩
theorem zcbr_ : There 169 := ⟨Tryz.f169, Tryz.func169, by kernel_rfl, by kernel_rfl⟩
theorem zcbs_ : There 200 := ⟨Tryz.f200, Tryz.func200, by kernel_rfl, by kernel_rfl⟩
theorem zcbt_ : There 201 := ⟨Tryz.f201, Tryz.func201, by kernel_rfl, by kernel_rfl⟩
theorem zcbu_ : There 202 := ⟨Tryz.f202, Tryz.func202, by kernel_rfl, by kernel_rfl⟩
theorem zcbv_ : There 203 := ⟨Tryz.f203, Tryz.func203, by kernel_rfl, by kernel_rfl⟩
theorem zcbw_ : There 159 := ⟨Tryz.f159, Tryz.func159, by kernel_rfl, by kernel_rfl⟩
theorem zcbx_ : There 156 := ⟨Tryz.f156, Tryz.func156, by kernel_rfl, by kernel_rfl⟩
theorem zcby_ : There 157 := ⟨Tryz.f157, Tryz.func157, by kernel_rfl, by kernel_rfl⟩
theorem zcbz_ : There 158 := ⟨Tryz.f158, Tryz.func158, by kernel_rfl, by kernel_rfl⟩
theorem zcca_ : There 213 := ⟨Tryz.f213, Tryz.func213, by kernel_rfl, by kernel_rfl⟩
theorem zccb_ : There 214 := ⟨Tryz.f214, Tryz.func214, by kernel_rfl, by kernel_rfl⟩
theorem zccc_ : There 211 := ⟨Tryz.f211, Tryz.func211, by kernel_rfl, by kernel_rfl⟩
theorem zccd_ : There 93 := ⟨Tryz.f93, Tryz.func93, by kernel_rfl, by kernel_rfl⟩
theorem zcce_ : There 212 := ⟨Tryz.f212, Tryz.func212, by kernel_rfl, by kernel_rfl⟩
theorem zccf_ : There 264 := ⟨Tryz.f264, Tryz.func264, by kernel_rfl, by kernel_rfl⟩
theorem zccg_ : There 3 := ⟨Tryz.f3, Tryz.func3, by kernel_rfl, by kernel_rfl⟩
theorem zcch_ : There 12 := ⟨Tryz.f12, Tryz.func12, by kernel_rfl, by kernel_rfl⟩
theorem zcci_ : There 13 := ⟨Tryz.f13, Tryz.func13, by kernel_rfl, by kernel_rfl⟩
theorem zccj_ : There 14 := ⟨Tryz.f14, Tryz.func14, by kernel_rfl, by kernel_rfl⟩
theorem zcck_ : There 15 := ⟨Tryz.f15, Tryz.func15, by kernel_rfl, by kernel_rfl⟩
theorem zccl_ : There 16 := ⟨Tryz.f16, Tryz.func16, by kernel_rfl, by kernel_rfl⟩
theorem zccm_ : There 17 := ⟨Tryz.f17, Tryz.func17, by kernel_rfl, by kernel_rfl⟩
theorem zccn_ : There 18 := ⟨Tryz.f18, Tryz.func18, by kernel_rfl, by kernel_rfl⟩
theorem zcco_ : There 19 := ⟨Tryz.f19, Tryz.func19, by kernel_rfl, by kernel_rfl⟩
theorem zccp_ : There 20 := ⟨Tryz.f20, Tryz.func20, by kernel_rfl, by kernel_rfl⟩
theorem zccq_ : There 21 := ⟨Tryz.f21, Tryz.func21, by kernel_rfl, by kernel_rfl⟩
theorem zccr_ : There 22 := ⟨Tryz.f22, Tryz.func22, by kernel_rfl, by kernel_rfl⟩
theorem zccs_ : There 24 := ⟨Tryz.f24, Tryz.func24, by kernel_rfl, by kernel_rfl⟩
theorem zcct_ : There 50 := ⟨Tryz.f50, Tryz.func50, by kernel_rfl, by kernel_rfl⟩
theorem zccu_ : There 54 := ⟨Tryz.f54, Tryz.func54, by kernel_rfl, by kernel_rfl⟩
theorem zccv_ : There 59 := ⟨Tryz.f59, Tryz.func59, by kernel_rfl, by kernel_rfl⟩
theorem zccw_ : There 61 := ⟨Tryz.f61, Tryz.func61, by kernel_rfl, by kernel_rfl⟩
theorem zccx_ : There 62 := ⟨Tryz.f62, Tryz.func62, by kernel_rfl, by kernel_rfl⟩
theorem zccy_ : There 63 := ⟨Tryz.f63, Tryz.func63, by kernel_rfl, by kernel_rfl⟩
theorem zccz_ : There 65 := ⟨Tryz.f65, Tryz.func65, by kernel_rfl, by kernel_rfl⟩
theorem zcda_ : There 66 := ⟨Tryz.f66, Tryz.func66, by kernel_rfl, by kernel_rfl⟩
theorem zcdb_ : There 68 := ⟨Tryz.f68, Tryz.func68, by kernel_rfl, by kernel_rfl⟩
theorem zcdc_ : There 69 := ⟨Tryz.f69, Tryz.func69, by kernel_rfl, by kernel_rfl⟩
theorem zcdd_ : There 72 := ⟨Tryz.f72, Tryz.func72, by kernel_rfl, by kernel_rfl⟩
theorem zcde_ : There 73 := ⟨Tryz.f73, Tryz.func73, by kernel_rfl, by kernel_rfl⟩
theorem zcdf_ : There 76 := ⟨Tryz.f76, Tryz.func76, by kernel_rfl, by kernel_rfl⟩
theorem zcdg_ : There 98 := ⟨Tryz.f98, Tryz.func98, by kernel_rfl, by kernel_rfl⟩
theorem zcdh_ : There 100 := ⟨Tryz.f100, Tryz.func100, by kernel_rfl, by kernel_rfl⟩
theorem zcdi_ : There 101 := ⟨Tryz.f101, Tryz.func101, by kernel_rfl, by kernel_rfl⟩
theorem zcdj_ : There 102 := ⟨Tryz.f102, Tryz.func102, by kernel_rfl, by kernel_rfl⟩
theorem zcdk_ : There 133 := ⟨Tryz.f133, Tryz.func133, by kernel_rfl, by kernel_rfl⟩
theorem zcdl_ : There 134 := ⟨Tryz.f134, Tryz.func134, by kernel_rfl, by kernel_rfl⟩
theorem zcdm_ : There 140 := ⟨Tryz.f140, Tryz.func140, by kernel_rfl, by kernel_rfl⟩
theorem zcdn_ : There 150 := ⟨Tryz.f150, Tryz.func150, by kernel_rfl, by kernel_rfl⟩
theorem zcdo_ : There 151 := ⟨Tryz.f151, Tryz.func151, by kernel_rfl, by kernel_rfl⟩
theorem zcdp_ : There 172 := ⟨Tryz.f172, Tryz.func172, by kernel_rfl, by kernel_rfl⟩
theorem zcdq_ : There 173 := ⟨Tryz.f173, Tryz.func173, by kernel_rfl, by kernel_rfl⟩
theorem zcdr_ : There 196 := ⟨Tryz.f196, Tryz.func196, by kernel_rfl, by kernel_rfl⟩
theorem zcds_ : There 197 := ⟨Tryz.f197, Tryz.func197, by kernel_rfl, by kernel_rfl⟩
theorem zcdt_ : There 198 := ⟨Tryz.f198, Tryz.func198, by kernel_rfl, by kernel_rfl⟩
theorem zcdu_ : There 209 := ⟨Tryz.f209, Tryz.func209, by kernel_rfl, by kernel_rfl⟩
theorem zcdv_ : There 210 := ⟨Tryz.f210, Tryz.func210, by kernel_rfl, by kernel_rfl⟩
theorem zcdw_ : There 261 := ⟨Tryz.f261, Tryz.func261, by kernel_rfl, by kernel_rfl⟩
theorem zcdx_ : There 263 := ⟨Tryz.f263, Tryz.func263, by kernel_rfl, by kernel_rfl⟩
theorem zcdy_ : There 299 := ⟨Tryz.f299, Tryz.func299, by kernel_rfl, by kernel_rfl⟩
theorem zcdz_ : There 314 := ⟨Tryz.f314, Tryz.func314, by kernel_rfl, by kernel_rfl⟩
theorem zcea_ : There 315 := ⟨Tryz.f315, Tryz.func315, by kernel_rfl, by kernel_rfl⟩
theorem zceb_ : There 319 := ⟨Tryz.f319, Tryz.func319, by kernel_rfl, by kernel_rfl⟩
theorem zcec_ : There 320 := ⟨Tryz.f320, Tryz.func320, by kernel_rfl, by kernel_rfl⟩
def FitT (a : Option FuncId) (_ : Option XF) : Prop := ∀ id, a = some id → There id
theorem FitT.of {id : FuncId} {x : Option XF} (t : There id) : FitT (some id) x := fun _ h => by cases h; exact t
theorem FitT.none (x : Option XF) : FitT Option.none x := fun _ h => by cases h
theorem eachT : Each FitT phiL XPL :=
  .cons (.none _) <|
  .cons (.none _) <|
  .cons (.none _) <|
  .cons (.none _) <|
  .cons (.none _) <|
  .cons (.none _) <|
  .cons (.none _) <|
  .cons (.none _) <|
  .cons (.none _) <|
  .cons (.of zcag_) <|
  .cons (.of zcah_) <|
  .cons (.none _) <|
  .cons (.none _) <|
  .cons (.none _) <|
  .cons (.none _) <|
  .cons (.none _) <|
  .cons (.none _) <|
  .cons (.none _) <|
  .cons (.none _) <|
  .cons (.none _) <|
  .cons (.none _) <|
  .cons (.none _) <|
  .cons (.none _) <|
  .cons (.none _) <|
  .cons (.none _) <|
  .cons (.none _) <|
  .cons (.none _) <|
  .cons (.none _) <|
  .cons (.none _) <|
  .cons (.none _) <|
  .cons (.of zcai_) <|
  .cons (.none _) <|
  .cons (.none _) <|
  .cons (.of zcaj_) <|
  .cons (.of zcak_) <|
  .cons (.of zcal_) <|
  .cons (.none _) <|
  .cons (.none _) <|
  .cons (.none _) <|
  .cons (.none _) <|
  .cons (.none _) <|
  .cons (.none _) <|
  .cons (.none _) <|
  .cons (.none _) <|
  .cons (.none _) <|
  .cons (.none _) <|
  .cons (.none _) <|
  .cons (.of zcam_) <|
  .cons (.of zcan_) <|
  .cons (.none _) <|
  .cons (.none _) <|
  .cons (.none _) <|
  .cons (.none _) <|
  .cons (.none _) <|
  .cons (.none _) <|
  .cons (.of zcao_) <|
  .cons (.none _) <|
  .cons (.none _) <|
  .cons (.of zcap_) <|
  .cons (.none _) <|
  .cons (.none _) <|
  .cons (.none _) <|
  .cons (.none _) <|
  .cons (.none _) <|
  .cons (.none _) <|
  .cons (.none _) <|
  .cons (.none _) <|
  .cons (.none _) <|
  .cons (.none _) <|
  .cons (.none _) <|
  .cons (.none _) <|
  .cons (.none _) <|
  .cons (.none _) <|
  .cons (.none _) <|
  .cons (.none _) <|
  .cons (.none _) <|
  .cons (.of zcaq_) <|
  .cons (.none _) <|
  .cons (.none _) <|
  .cons (.of zcar_) <|
  .cons (.of zcas_) <|
  .cons (.none _) <|
  .cons (.none _) <|
  .cons (.none _) <|
  .cons (.none _) <|
  .cons (.none _) <|
  .cons (.none _) <|
  .cons (.none _) <|
  .cons (.none _) <|
  .cons (.none _) <|
  .cons (.none _) <|
  .cons (.none _) <|
  .cons (.none _) <|
  .cons (.none _) <|
  .cons (.none _) <|
  .cons (.none _) <|
  .cons (.none _) <|
  .cons (.none _) <|
  .cons (.none _) <|
  .cons (.none _) <|
  .cons (.none _) <|
  .cons (.none _) <|
  .cons (.none _) <|
  .cons (.none _) <|
  .cons (.none _) <|
  .cons (.none _) <|
  .cons (.none _) <|
  .cons (.none _) <|
  .cons (.none _) <|
  .cons (.none _) <|
  .cons (.none _) <|
  .cons (.none _) <|
  .cons (.none _) <|
  .cons (.none _) <|
  .cons (.none _) <|
  .cons (.none _) <|
  .cons (.none _) <|
  .cons (.none _) <|
  .cons (.none _) <|
  .cons (.none _) <|
  .cons (.none _) <|
  .cons (.none _) <|
  .cons (.none _) <|
  .cons (.none _) <|
  .cons (.none _) <|
  .cons (.none _) <|
  .cons (.none _) <|
  .cons (.none _) <|
  .cons (.none _) <|
  .cons (.none _) <|
  .cons (.none _) <|
  .cons (.none _) <|
  .cons (.none _) <|
  .cons (.none _) <|
  .cons (.none _) <|
  .cons (.none _) <|
  .cons (.none _) <|
  .cons (.none _) <|
  .cons (.none _) <|
  .cons (.none _) <|
  .cons (.none _) <|
  .cons (.none _) <|
  .cons (.none _) <|
  .cons (.none _) <|
  .cons (.none _) <|
  .cons (.none _) <|
  .cons (.none _) <|
  .cons (.none _) <|
  .cons (.none _) <|
  .cons (.none _) <|
  .cons (.none _) <|
  .cons (.none _) <|
  .cons (.none _) <|
  .cons (.none _) <|
  .cons (.none _) <|
  .cons (.none _) <|
  .cons (.none _) <|
  .cons (.of zcat_) <|
  .cons (.none _) <|
  .cons (.none _) <|
  .cons (.of zcau_) <|
  .cons (.none _) <|
  .cons (.of zcav_) <|
  .cons (.none _) <|
  .cons (.of zcaw_) <|
  .cons (.none _) <|
  .cons (.none _) <|
  .cons (.none _) <|
  .cons (.none _) <|
  .cons (.none _) <|
  .cons (.none _) <|
  .cons (.of zcax_) <|
  .cons (.none _) <|
  .cons (.none _) <|
  .cons (.none _) <|
  .cons (.none _) <|
  .cons (.none _) <|
  .cons (.none _) <|
  .cons (.none _) <|
  .cons (.none _) <|
  .cons (.of zcay_) <|
  .cons (.of zcaz_) <|
  .cons (.none _) <|
  .cons (.none _) <|
  .cons (.of zcba_) <|
  .cons (.none _) <|
  .cons (.none _) <|
  .cons (.none _) <|
  .cons (.none _) <|
  .cons (.of zcbb_) <|
  .cons (.of zcbc_) <|
  .cons (.of zcbd_) <|
  .cons (.of zcbe_) <|
  .cons (.of zcbf_) <|
  .cons (.none _) <|
  .cons (.of zcbg_) <|
  .cons (.of zcbh_) <|
  .cons (.of zcbi_) <|
  .cons (.of zcbj_) <|
  .cons (.of zcbk_) <|
  .cons (.of zcbl_) <|
  .cons (.of zcbm_) <|
  .cons (.none _) <|
  .cons (.none _) <|
  .cons (.none _) <|
  .cons (.none _) <|
  .cons (.none _) <|
  .cons (.none _) <|
  .cons (.of zcbn_) <|
  .cons (.none _) <|
  .cons (.none _) <|
  .cons (.none _) <|
  .cons (.of zcbo_) <|
  .cons (.of zcbp_) <|
  .cons (.of zcbq_) <|
  .cons (.none _) <|
  .cons (.none _) <|
  .cons (.of zcbr_) <|
  .cons (.of zcbs_) <|
  .cons (.of zcbt_) <|
  .cons (.of zcbu_) <|
  .cons (.of zcbv_) <|
  .cons (.none _) <|
  .cons (.none _) <|
  .cons (.of zcbw_) <|
  .cons (.of zcbx_) <|
  .cons (.of zcby_) <|
  .cons (.of zcbz_) <|
  .cons (.none _) <|
  .cons (.of zcca_) <|
  .cons (.of zccb_) <|
  .cons (.of zccc_) <|
  .cons (.of zccd_) <|
  .cons (.of zcce_) <|
  .cons (.of zccf_) <|
  .cons (.none _) <|
  .cons (.none _) <|
  .cons (.none _) <|
  .cons (.none _) <|
  .cons (.none _) <|
  .cons (.none _) <|
  .cons (.none _) <|
  .cons (.none _) <|
  .cons (.none _) <|
  .cons (.none _) <|
  .cons (.none _) <|
  .cons (.none _) <|
  .cons (.none _) <|
  .cons (.none _) <|
  .cons (.none _) <|
  .cons (.of zccg_) <|
  .cons (.none _) <|
  .cons (.none _) <|
  .cons (.none _) <|
  .cons (.none _) <|
  .cons (.none _) <|
  .cons (.none _) <|
  .cons (.none _) <|
  .cons (.none _) <|
  .cons (.of zcch_) <|
  .cons (.of zcci_) <|
  .cons (.of zccj_) <|
  .cons (.of zcck_) <|
  .cons (.of zccl_) <|
  .cons (.of zccm_) <|
  .cons (.of zccn_) <|
  .cons (.of zcco_) <|
  .cons (.of zccp_) <|
  .cons (.of zccq_) <|
  .cons (.of zccr_) <|
  .cons (.none _) <|
  .cons (.of zccs_) <|
  .cons (.none _) <|
  .cons (.none _) <|
  .cons (.none _) <|
  .cons (.none _) <|
  .cons (.none _) <|
  .cons (.none _) <|
  .cons (.none _) <|
  .cons (.none _) <|
  .cons (.none _) <|
  .cons (.none _) <|
  .cons (.none _) <|
  .cons (.none _) <|
  .cons (.none _) <|
  .cons (.none _) <|
  .cons (.none _) <|
  .cons (.none _) <|
  .cons (.none _) <|
  .cons (.none _) <|
  .cons (.none _) <|
  .cons (.none _) <|
  .cons (.none _) <|
  .cons (.none _) <|
  .cons (.of zcct_) <|
  .cons (.none _) <|
  .cons (.of zccu_) <|
  .cons (.none _) <|
  .cons (.none _) <|
  .cons (.of zccv_) <|
  .cons (.of zccw_) <|
  .cons (.of zccx_) <|
  .cons (.of zccy_) <|
  .cons (.of zccz_) <|
  .cons (.of zcda_) <|
  .cons (.of zcdb_) <|
  .cons (.of zcdc_) <|
  .cons (.of zcdd_) <|
  .cons (.of zcde_) <|
  .cons (.none _) <|
  .cons (.of zcdf_) <|
  .cons (.none _) <|
  .cons (.none _) <|
  .cons (.none _) <|
  .cons (.none _) <|
  .cons (.none _) <|
  .cons (.none _) <|
  .cons (.none _) <|
  .cons (.none _) <|
  .cons (.none _) <|
  .cons (.none _) <|
  .cons (.none _) <|
  .cons (.none _) <|
  .cons (.none _) <|
  .cons (.none _) <|
  .cons (.of zcdg_) <|
  .cons (.of zcdh_) <|
  .cons (.of zcdi_) <|
  .cons (.of zcdj_) <|
  .cons (.none _) <|
  .cons (.none _) <|
  .cons (.none _) <|
  .cons (.none _) <|
  .cons (.none _) <|
  .cons (.none _) <|
  .cons (.none _) <|
  .cons (.none _) <|
  .cons (.none _) <|
  .cons (.none _) <|
  .cons (.none _) <|
  .cons (.none _) <|
  .cons (.none _) <|
  .cons (.none _) <|
  .cons (.none _) <|
  .cons (.none _) <|
  .cons (.none _) <|
  .cons (.none _) <|
  .cons (.none _) <|
  .cons (.none _) <|
  .cons (.none _) <|
  .cons (.none _) <|
  .cons (.none _) <|
  .cons (.of zcdk_) <|
  .cons (.of zcdl_) <|
  .cons (.of zcdm_) <|
  .cons (.of zcdn_) <|
  .cons (.of zcdo_) <|
  .cons (.none _) <|
  .cons (.none _) <|
  .cons (.none _) <|
  .cons (.none _) <|
  .cons (.none _) <|
  .cons (.none _) <|
  .cons (.none _) <|
  .cons (.none _) <|
  .cons (.none _) <|
  .cons (.none _) <|
  .cons (.none _) <|
  .cons (.of zcdp_) <|
  .cons (.of zcdq_) <|
  .cons (.none _) <|
  .cons (.none _) <|
  .cons (.none _) <|
  .cons (.none _) <|
  .cons (.none _) <|
  .cons (.none _) <|
  .cons (.none _) <|
  .cons (.none _) <|
  .cons (.none _) <|
  .cons (.none _) <|
  .cons (.none _) <|
  .cons (.none _) <|
  .cons (.none _) <|
  .cons (.none _) <|
  .cons (.none _) <|
  .cons (.of zcdr_) <|
  .cons (.of zcds_) <|
  .cons (.of zcdt_) <|
  .cons (.of zcdu_) <|
  .cons (.of zcdv_) <|
  .cons (.none _) <|
  .cons (.none _) <|
  .cons (.none _) <|
  .cons (.none _) <|
  .cons (.none _) <|
  .cons (.none _) <|
  .cons (.none _) <|
  .cons (.none _) <|
  .cons (.none _) <|
  .cons (.none _) <|
  .cons (.none _) <|
  .cons (.none _) <|
  .cons (.none _) <|
  .cons (.none _) <|
  .cons (.none _) <|
  .cons (.none _) <|
  .cons (.none _) <|
  .cons (.none _) <|
  .cons (.none _) <|
  .cons (.none _) <|
  .cons (.none _) <|
  .cons (.none _) <|
  .cons (.none _) <|
  .cons (.none _) <|
  .cons (.none _) <|
  .cons (.none _) <|
  .cons (.none _) <|
  .cons (.none _) <|
  .cons (.none _) <|
  .cons (.of zcdw_) <|
  .cons (.of zcdx_) <|
  .cons (.none _) <|
  .cons (.none _) <|
  .cons (.none _) <|
  .cons (.none _) <|
  .cons (.none _) <|
  .cons (.none _) <|
  .cons (.none _) <|
  .cons (.none _) <|
  .cons (.none _) <|
  .cons (.none _) <|
  .cons (.none _) <|
  .cons (.none _) <|
  .cons (.none _) <|
  .cons (.none _) <|
  .cons (.none _) <|
  .cons (.none _) <|
  .cons (.none _) <|
  .cons (.none _) <|
  .cons (.none _) <|
  .cons (.none _) <|
  .cons (.none _) <|
  .cons (.none _) <|
  .cons (.of zcdy_) <|
  .cons (.none _) <|
  .cons (.none _) <|
  .cons (.none _) <|
  .cons (.none _) <|
  .cons (.none _) <|
  .cons (.none _) <|
  .cons (.none _) <|
  .cons (.of zcdz_) <|
  .cons (.of zcea_) <|
  .cons (.none _) <|
  .cons (.none _) <|
  .cons (.of zceb_) <|
  .cons (.of zcec_) <| .nil
theorem tok : TOk Tryz.prog phi := fun f id h => (eachT.get FitT.none f) id h
end Go.Proofs.Sl
namespace Go.Proofs
open Go.Shelf
shelf_lay_g SlLaysF0.n6 Slsf 6 at Tryz 93 as Tryz.sortSpan
shelf_lay_g Lays8.n4 Nm8 4 at Tryz 153 as Tryz.growSpan
end Go.Proofs
namespace Go.Proofs.Sl
def zSpan : List V := [.s (.int .i64 0), .s (.int .i64 0), .s (.int .i64 0), .s (.int .i64 0), .s (.int .i64 0), .s (.int .i64 0), .s (.string ⟨#[]⟩), .s (.string ⟨#[]⟩), .s (.string ⟨#[]⟩), .s (.int .i64 0), .s (.int .i64 0), .s (.bool false), .s (.slice none 0 0), .s (.slice none 0 0)]
theorem zced_ : plainZ zSpan := by
  intro i x e
  have : ∀ v ∈ zSpan, v.tl = none := by
    intro v hv
    simp only [zSpan, List.mem_cons, List.not_mem_nil, or_false] at hv
    rcases hv with rfl | rfl | rfl | rfl | rfl | rfl | rfl | rfl | rfl | rfl | rfl | rfl | rfl | rfl <;> rfl
  exact this x (List.mem_of_getElem? e)
theorem zcee_ : NatOk Tryz.prog phi 93 (.sort 14) := zbwc_ (zbwd_ Tryz.sortSpan 14 Tryz.isAgg52 Tryz.sizeOf52) (zbwe_ Tryz.sortSpan) tok
theorem zcef_ : NatOk Tryz.prog phi 264 (.seq zcj_ 14 837723144972) :=
  natSeq (φ := phi) (it := zcj_) (vid := 212) (lim := 837723144972) (k := 14) Tryz.func264 Tryz.func212 rfl (by kernel_rfl) (by kernel_rfl) (z := zSpan) rfl zced_ (by decide) tok
theorem zceg_ : chkFun Tryz.prog phi Tryz.f52 zjr_ = true := by kernel_rfl
theorem zceh_ : chkFun Tryz.prog phi Tryz.f58 zhf_ = true := by kernel_rfl
theorem zcei_ : chkFun Tryz.prog phi Tryz.f71 zjs_ = true := by kernel_rfl
theorem zcej_ : chkFun Tryz.prog phi Tryz.f53 zjt_ = true := by kernel_rfl
theorem zcek_ : chkFun Tryz.prog phi Tryz.f55 zhg_ = true := by kernel_rfl
theorem zcel_ : chkFun Tryz.prog phi Tryz.f149 zju_ = true := by kernel_rfl
theorem zcem_ : chkFun Tryz.prog phi Tryz.f99 zhh_ = true := by kernel_rfl
theorem zcen_ : chkFun Tryz.prog phi Tryz.f206 zjv_ = true := by kernel_rfl
theorem zceo_ : chkFun Tryz.prog phi Tryz.f262 zjw_ = true := by kernel_rfl
theorem zcep_ : chkFun Tryz.prog phi Tryz.f208 zjx_ = true := by kernel_rfl
theorem zceq_ : chkFun Tryz.prog phi Tryz.f204 zjz_ = true := by kernel_rfl
theorem zcer_ : chkFun Tryz.prog phi Tryz.f205 zkb_ = true := by kernel_rfl
theorem zces_ : chkFun Tryz.prog phi Tryz.f207 zkd_ = true := by kernel_rfl
theorem zcet_ : chkFun Tryz.prog phi Tryz.f60 zba_ = true := by kernel_rfl
theorem zceu_ : chkFun Tryz.prog phi Tryz.f67 zke_ = true := by kernel_rfl
theorem zcev_ : chkFun Tryz.prog phi Tryz.f70 zkf_ = true := by kernel_rfl
theorem zcew_ : chkFun Tryz.prog phi Tryz.f148 zkg_ = true := by kernel_rfl
theorem zcex_ : chkFun Tryz.prog phi Tryz.f155 zaw_ = true := by kernel_rfl
theorem zcey_ : chkFun Tryz.prog phi Tryz.f32 zkh_ = true := by kernel_rfl
theorem zcez_ : chkFun Tryz.prog phi Tryz.f74 zki_ = true := by kernel_rfl
theorem zcfa_ : chkFun Tryz.prog phi Tryz.f64 zhi_ = true := by kernel_rfl
theorem zcfb_ : chkFun Tryz.prog phi Tryz.f135 zfn_ = true := by kernel_rfl
theorem zcfc_ : chkFun Tryz.prog phi Tryz.f136 zfo_ = true := by kernel_rfl
theorem zcfd_ : chkFun Tryz.prog phi Tryz.f137 zkj_ = true := by kernel_rfl
theorem zcfe_ : chkFun Tryz.prog phi Tryz.f138 zhj_ = true := by kernel_rfl
theorem zcff_ : chkFun Tryz.prog phi Tryz.f139 zhk_ = true := by kernel_rfl
theorem zcfg_ : chkFun Tryz.prog phi Tryz.f142 zkk_ = true := by kernel_rfl
theorem zcfh_ : chkFun Tryz.prog phi Tryz.f143 zkl_ = true := by kernel_rfl
theorem zcfi_ : chkFun Tryz.prog phi Tryz.f92 zfq_ = true := by kernel_rfl
theorem zcfj_ : chkFun Tryz.prog phi Tryz.f144 zhl_ = true := by kernel_rfl
theorem zcfk_ : chkFun Tryz.prog phi Tryz.f145 zkm_ = true := by kernel_rfl
theorem zcfl_ : chkFun Tryz.prog phi Tryz.f146 zkn_ = true := by kernel_rfl
theorem zcfm_ : chkFun Tryz.prog phi Tryz.f147 zko_ = true := by kernel_rfl
theorem zcfn_ : chkFun Tryz.prog phi Tryz.f199 zkq_ = true := by kernel_rfl
theorem zcfo_ : chkFun Tryz.prog phi Tryz.f82 zkr_ = true := by kernel_rfl
theorem zcfp_ : chkFun Tryz.prog phi Tryz.f81 zfr_ = true := by kernel_rfl
theorem zcfq_ : chkFun Tryz.prog phi Tryz.f141 zks_ = true := by kernel_rfl
theorem zcfr_ : chkFun Tryz.prog phi Tryz.f169 zkt_ = true := by kernel_rfl
theorem zcfs_ : chkFun Tryz.prog phi Tryz.f200 zku_ = true := by kernel_rfl
theorem zcft_ : chkFun Tryz.prog phi Tryz.f201 zkv_ = true := by kernel_rfl
theorem zcfu_ : chkFun Tryz.prog phi Tryz.f202 zkw_ = true := by kernel_rfl
theorem zcfv_ : chkFun Tryz.prog phi Tryz.f203 zkx_ = true := by kernel_rfl
theorem zcfw_ : chkFun Tryz.prog phi Tryz.f159 zky_ = true := by kernel_rfl
theorem zcfx_ : chkFun Tryz.prog phi Tryz.f156 zfs_ = true := by kernel_rfl
theorem zcfy_ : chkFun Tryz.prog phi Tryz.f157 zho_ = true := by kernel_rfl
theorem zcfz_ : chkFun Tryz.prog phi Tryz.f158 zhp_ = true := by kernel_rfl
theorem zcga_ : chkFun Tryz.prog phi Tryz.f213 zhq_ = true := by kernel_rfl
theorem zcgb_ : chkFun Tryz.prog phi Tryz.f214 zhr_ = true := by kernel_rfl
theorem zcgc_ : chkFun Tryz.prog phi Tryz.f211 zhs_ = true := by kernel_rfl
theorem zcgd_ : chkFun Tryz.prog phi Tryz.f212 zuk_ = true := by kernel_rfl
theorem zcge_ : chkFun Tryz.prog phi Tryz.f3 zel_ = true := by kernel_rfl
theorem zcgf_ : chkFun Tryz.prog phi Tryz.f12 zlw_ = true := by kernel_rfl
theorem zcgg_ : chkFun Tryz.prog phi Tryz.f13 zle_ = true := by kernel_rfl
theorem zcgh_ : chkFun Tryz.prog phi Tryz.f14 zlx_ = true := by kernel_rfl
theorem zcgi_ : chkFun Tryz.prog phi Tryz.f15 zly_ = true := by kernel_rfl
theorem zcgj_ : chkFun Tryz.prog phi Tryz.f16 zem_ = true := by kernel_rfl
theorem zcgk_ : chkFun Tryz.prog phi Tryz.f17 zic_ = true := by kernel_rfl
theorem zcgl_ : chkFun Tryz.prog phi Tryz.f18 zid_ = true := by kernel_rfl
theorem zcgm_ : chkFun Tryz.prog phi Tryz.f19 zie_ = true := by kernel_rfl
theorem zcgn_ : chkFun Tryz.prog phi Tryz.f20 zfu_ = true := by kernel_rfl
theorem zcgo_ : chkFun Tryz.prog phi Tryz.f21 zma_ = true := by kernel_rfl
theorem zcgp_ : chkFun Tryz.prog phi Tryz.f22 zif_ = true := by kernel_rfl
theorem zcgq_ : chkFun Tryz.prog phi Tryz.f24 zmb_ = true := by kernel_rfl
theorem zcgr_ : chkFun Tryz.prog phi Tryz.f50 zig_ = true := by kernel_rfl
theorem zcgs_ : chkFun Tryz.prog phi Tryz.f54 zht_ = true := by kernel_rfl
theorem zcgt_ : chkFun Tryz.prog phi Tryz.f59 zlf_ = true := by kernel_rfl
theorem zcgu_ : chkFun Tryz.prog phi Tryz.f61 zmc_ = true := by kernel_rfl
theorem zcgv_ : chkFun Tryz.prog phi Tryz.f62 zmd_ = true := by kernel_rfl
theorem zcgw_ : chkFun Tryz.prog phi Tryz.f63 zfv_ = true := by kernel_rfl
theorem zcgx_ : chkFun Tryz.prog phi Tryz.f65 zme_ = true := by kernel_rfl
theorem zcgy_ : chkFun Tryz.prog phi Tryz.f66 zmg_ = true := by kernel_rfl
theorem zcgz_ : chkFun Tryz.prog phi Tryz.f68 zih_ = true := by kernel_rfl
theorem zcha_ : chkFun Tryz.prog phi Tryz.f69 zhy_ = true := by kernel_rfl
theorem zchb_ : chkFun Tryz.prog phi Tryz.f72 zmh_ = true := by kernel_rfl
theorem zchc_ : chkFun Tryz.prog phi Tryz.f73 zmi_ = true := by kernel_rfl
theorem zchd_ : chkFun Tryz.prog phi Tryz.f76 zlb_ = true := by kernel_rfl
theorem zche_ : chkFun Tryz.prog phi Tryz.f98 zld_ = true := by kernel_rfl
theorem zchf_ : chkFun Tryz.prog phi Tryz.f100 zlg_ = true := by kernel_rfl
theorem zchg_ : chkFun Tryz.prog phi Tryz.f101 zlh_ = true := by kernel_rfl
theorem zchh_ : chkFun Tryz.prog phi Tryz.f102 zlj_ = true := by kernel_rfl
theorem zchi_ : chkFun Tryz.prog phi Tryz.f133 zhz_ = true := by kernel_rfl
theorem zchj_ : chkFun Tryz.prog phi Tryz.f134 zll_ = true := by kernel_rfl
theorem zchk_ : chkFun Tryz.prog phi Tryz.f140 zmj_ = true := by kernel_rfl
theorem zchl_ : chkFun Tryz.prog phi Tryz.f150 zmk_ = true := by kernel_rfl
theorem zchm_ : chkFun Tryz.prog phi Tryz.f151 zlc_ = true := by kernel_rfl
theorem zchn_ : chkFun Tryz.prog phi Tryz.f172 zlm_ = true := by kernel_rfl
theorem zcho_ : chkFun Tryz.prog phi Tryz.f173 zlk_ = true := by kernel_rfl
theorem zchp_ : chkFun Tryz.prog phi Tryz.f196 zln_ = true := by kernel_rfl
theorem zchq_ : chkFun Tryz.prog phi Tryz.f197 zlo_ = true := by kernel_rfl
theorem zchr_ : chkFun Tryz.prog phi Tryz.f198 zlp_ = true := by kernel_rfl
theorem zchs_ : chkFun Tryz.prog phi Tryz.f209 zml_ = true := by kernel_rfl
theorem zcht_ : chkFun Tryz.prog phi Tryz.f210 zmm_ = true := by kernel_rfl
theorem zchu_ : chkFun Tryz.prog phi Tryz.f261 zlr_ = true := by kernel_rfl
theorem zchv_ : chkFun Tryz.prog phi Tryz.f263 zii_ = true := by kernel_rfl
theorem zchw_ : chkFun Tryz.prog phi Tryz.f299 zls_ = true := by kernel_rfl
theorem zchx_ : chkFun Tryz.prog phi Tryz.f314 zlt_ = true := by kernel_rfl
theorem zchy_ : chkFun Tryz.prog phi Tryz.f315 zcu_ = true := by kernel_rfl
theorem zchz_ : chkFun Tryz.prog phi Tryz.f319 zlu_ = true := by kernel_rfl
theorem zcia_ : chkFun Tryz.prog phi Tryz.f320 zlv_ = true := by kernel_rfl
def Entry (id : FuncId) (X : XF) : Prop := ∃ fn, Tryz.prog.funcs[id]? = some fn ∧ FunOk Tryz.prog phi id fn X
theorem zcib_ : Entry 52 zjr_ := ⟨Tryz.f52, Tryz.func52, zceg_⟩
theorem zcic_ : Entry 58 zhf_ := ⟨Tryz.f58, Tryz.func58, zceh_⟩
theorem zcid_ : Entry 71 zjs_ := ⟨Tryz.f71, Tryz.func71, zcei_⟩
theorem zcie_ : Entry 53 zjt_ := ⟨Tryz.f53, Tryz.func53, zcej_⟩
theorem zcif_ : Entry 55 zhg_ := ⟨Tryz.f55, Tryz.func55, zcek_⟩
theorem zcig_ : Entry 149 zju_ := ⟨Tryz.f149, Tryz.func149, zcel_⟩
theorem zcih_ : Entry 99 zhh_ := ⟨Tryz.f99, Tryz.func99, zcem_⟩
theorem zcii_ : Entry 206 zjv_ := ⟨Tryz.f206, Tryz.func206, zcen_⟩
theorem zcij_ : Entry 262 zjw_ := ⟨Tryz.f262, Tryz.func262, zceo_⟩
theorem zcik_ : Entry 208 zjx_ := ⟨Tryz.f208, Tryz.func208, zcep_⟩
theorem zcil_ : Entry 204 zjz_ := ⟨Tryz.f204, Tryz.func204, zceq_⟩
theorem zcim_ : Entry 205 zkb_ := ⟨Tryz.f205, Tryz.func205, zcer_⟩
theorem zcin_ : Entry 207 zkd_ := ⟨Tryz.f207, Tryz.func207, zces_⟩
theorem zcio_ : Entry 60 zba_ := ⟨Tryz.f60, Tryz.func60, zcet_⟩
theorem zcip_ : Entry 67 zke_ := ⟨Tryz.f67, Tryz.func67, zceu_⟩
theorem zciq_ : Entry 70 zkf_ := ⟨Tryz.f70, Tryz.func70, zcev_⟩
theorem zcir_ : Entry 148 zkg_ := ⟨Tryz.f148, Tryz.func148, zcew_⟩
theorem zcis_ : Entry 155 zaw_ := ⟨Tryz.f155, Tryz.func155, zcex_⟩
theorem zcit_ : Entry 32 zkh_ := ⟨Tryz.f32, Tryz.func32, zcey_⟩
theorem zciu_ : Entry 74 zki_ := ⟨Tryz.f74, Tryz.func74, zcez_⟩
theorem zciv_ : Entry 64 zhi_ := ⟨Tryz.f64, Tryz.func64, zcfa_⟩
theorem zciw_ : Entry 135 zfn_ := ⟨Tryz.f135, Tryz.func135, zcfb_⟩
theorem zcix_ : Entry 136 zfo_ := ⟨Tryz.f136, Tryz.func136, zcfc_⟩
theorem zciy_ : Entry 137 zkj_ := ⟨Tryz.f137, Tryz.func137, zcfd_⟩
theorem zciz_ : Entry 138 zhj_ := ⟨Tryz.f138, Tryz.func138, zcfe_⟩
theorem zcja_ : Entry 139 zhk_ := ⟨Tryz.f139, Tryz.func139, zcff_⟩
theorem zcjb_ : Entry 142 zkk_ := ⟨Tryz.f142, Tryz.func142, zcfg_⟩
theorem zcjc_ : Entry 143 zkl_ := ⟨Tryz.f143, Tryz.func143, zcfh_⟩
theorem zcjd_ : Entry 92 zfq_ := ⟨Tryz.f92, Tryz.func92, zcfi_⟩
theorem zcje_ : Entry 144 zhl_ := ⟨Tryz.f144, Tryz.func144, zcfj_⟩
theorem zcjf_ : Entry 145 zkm_ := ⟨Tryz.f145, Tryz.func145, zcfk_⟩
theorem zcjg_ : Entry 146 zkn_ := ⟨Tryz.f146, Tryz.func146, zcfl_⟩
theorem zcjh_ : Entry 147 zko_ := ⟨Tryz.f147, Tryz.func147, zcfm_⟩
theorem zcji_ : Entry 199 zkq_ := ⟨Tryz.f199, Tryz.func199, zcfn_⟩
theorem zcjj_ : Entry 82 zkr_ := ⟨Tryz.f82, Tryz.func82, zcfo_⟩
theorem zcjk_ : Entry 81 zfr_ := ⟨Tryz.f81, Tryz.func81, zcfp_⟩
theorem zcjl_ : Entry 141 zks_ := ⟨Tryz.f141, Tryz.func141, zcfq_⟩
theorem zcjm_ : Entry 169 zkt_ := ⟨Tryz.f169, Tryz.func169, zcfr_⟩
theorem zcjn_ : Entry 200 zku_ := ⟨Tryz.f200, Tryz.func200, zcfs_⟩
theorem zcjo_ : Entry 201 zkv_ := ⟨Tryz.f201, Tryz.func201, zcft_⟩
theorem zcjp_ : Entry 202 zkw_ := ⟨Tryz.f202, Tryz.func202, zcfu_⟩
theorem zcjq_ : Entry 203 zkx_ := ⟨Tryz.f203, Tryz.func203, zcfv_⟩
theorem zcjr_ : Entry 159 zky_ := ⟨Tryz.f159, Tryz.func159, zcfw_⟩
theorem zcjs_ : Entry 156 zfs_ := ⟨Tryz.f156, Tryz.func156, zcfx_⟩
theorem zcjt_ : Entry 157 zho_ := ⟨Tryz.f157, Tryz.func157, zcfy_⟩
theorem zcju_ : Entry 158 zhp_ := ⟨Tryz.f158, Tryz.func158, zcfz_⟩
theorem zcjv_ : Entry 213 zhq_ := ⟨Tryz.f213, Tryz.func213, zcga_⟩
theorem zcjw_ : Entry 214 zhr_ := ⟨Tryz.f214, Tryz.func214, zcgb_⟩
theorem zcjx_ : Entry 211 zhs_ := ⟨Tryz.f211, Tryz.func211, zcgc_⟩
theorem zcjy_ : Entry 93 zuj_ := ⟨Tryz.f93, Tryz.func93, zcee_⟩
theorem zcjz_ : Entry 212 zuk_ := ⟨Tryz.f212, Tryz.func212, zcgd_⟩
theorem zcka_ : Entry 264 zul_ := ⟨Tryz.f264, Tryz.func264, zcef_⟩
theorem zckb_ : Entry 3 zel_ := ⟨Tryz.f3, Tryz.func3, zcge_⟩
theorem zckc_ : Entry 12 zlw_ := ⟨Tryz.f12, Tryz.func12, zcgf_⟩
theorem zckd_ : Entry 13 zle_ := ⟨Tryz.f13, Tryz.func13, zcgg_⟩
theorem zcke_ : Entry 14 zlx_ := ⟨Tryz.f14, Tryz.func14, zcgh_⟩
theorem zckf_ : Entry 15 zly_ := ⟨Tryz.f15, Tryz.func15, zcgi_⟩
theorem zckg_ : Entry 16 zem_ := ⟨Tryz.f16, Tryz.func16, zcgj_⟩
theorem zckh_ : Entry 17 zic_ := ⟨Tryz.f17, Tryz.func17, zcgk_⟩
theorem zcki_ : Entry 18 zid_ := ⟨Tryz.f18, Tryz.func18, zcgl_⟩
theorem zckj_ : Entry 19 zie_ := ⟨Tryz.f19, Tryz.func19, zcgm_⟩
theorem zckk_ : Entry 20 zfu_ := ⟨Tryz.f20, Tryz.func20, zcgn_⟩
theorem zckl_ : Entry 21 zma_ := ⟨Tryz.f21, Tryz.func21, zcgo_⟩
theorem zckm_ : Entry 22 zif_ := ⟨Tryz.f22, Tryz.func22, zcgp_⟩
theorem zckn_ : Entry 24 zmb_ := ⟨Tryz.f24, Tryz.func24, zcgq_⟩
theorem zcko_ : Entry 50 zig_ := ⟨Tryz.f50, Tryz.func50, zcgr_⟩
theorem zckp_ : Entry 54 zht_ := ⟨Tryz.f54, Tryz.func54, zcgs_⟩
theorem zckq_ : Entry 59 zlf_ := ⟨Tryz.f59, Tryz.func59, zcgt_⟩
theorem zckr_ : Entry 61 zmc_ := ⟨Tryz.f61, Tryz.func61, zcgu_⟩
theorem zcks_ : Entry 62 zmd_ := ⟨Tryz.f62, Tryz.func62, zcgv_⟩
theorem zckt_ : Entry 63 zfv_ := ⟨Tryz.f63, Tryz.func63, zcgw_⟩
theorem zcku_ : Entry 65 zme_ := ⟨Tryz.f65, Tryz.func65, zcgx_⟩
theorem zckv_ : Entry 66 zmg_ := ⟨Tryz.f66, Tryz.func66, zcgy_⟩
theorem zckw_ : Entry 68 zih_ := ⟨Tryz.f68, Tryz.func68, zcgz_⟩
theorem zckx_ : Entry 69 zhy_ := ⟨Tryz.f69, Tryz.func69, zcha_⟩
theorem zcky_ : Entry 72 zmh_ := ⟨Tryz.f72, Tryz.func72, zchb_⟩
theorem zckz_ : Entry 73 zmi_ := ⟨Tryz.f73, Tryz.func73, zchc_⟩
theorem zcla_ : Entry 76 zlb_ := ⟨Tryz.f76, Tryz.func76, zchd_⟩
theorem zclb_ : Entry 98 zld_ := ⟨Tryz.f98, Tryz.func98, zche_⟩
theorem zclc_ : Entry 100 zlg_ := ⟨Tryz.f100, Tryz.func100, zchf_⟩
theorem zcld_ : Entry 101 zlh_ := ⟨Tryz.f101, Tryz.func101, zchg_⟩
theorem zcle_ : Entry 102 zlj_ := ⟨Tryz.f102, Tryz.func102, zchh_⟩
theorem zclf_ : Entry 133 zhz_ := ⟨Tryz.f133, Tryz.func133, zchi_⟩
theorem zclg_ : Entry 134 zll_ := ⟨Tryz.f134, Tryz.func134, zchj_⟩
theorem zclh_ : Entry 140 zmj_ := ⟨Tryz.f140, Tryz.func140, zchk_⟩
theorem zcli_ : Entry 150 zmk_ := ⟨Tryz.f150, Tryz.func150, zchl_⟩
theorem zclj_ : Entry 151 zlc_ := ⟨Tryz.f151, Tryz.func151, zchm_⟩
theorem zclk_ : Entry 172 zlm_ := ⟨Tryz.f172, Tryz.func172, zchn_⟩
theorem zcll_ : Entry 173 zlk_ := ⟨Tryz.f173, Tryz.func173, zcho_⟩
theorem zclm_ : Entry 196 zln_ := ⟨Tryz.f196, Tryz.func196, zchp_⟩
theorem zcln_ : Entry 197 zlo_ := ⟨Tryz.f197, Tryz.func197, zchq_⟩
theorem zclo_ : Entry 198 zlp_ := ⟨Tryz.f198, Tryz.func198, zchr_⟩
theorem zclp_ : Entry 209 zml_ := ⟨Tryz.f209, Tryz.func209, zchs_⟩
theorem zclq_ : Entry 210 zmm_ := ⟨Tryz.f210, Tryz.func210, zcht_⟩
theorem zclr_ : Entry 261 zlr_ := ⟨Tryz.f261, Tryz.func261, zchu_⟩
theorem zcls_ : Entry 263 zii_ := ⟨Tryz.f263, Tryz.func263, zchv_⟩
theorem zclt_ : Entry 299 zls_ := ⟨Tryz.f299, Tryz.func299, zchw_⟩
theorem zclu_ : Entry 314 zlt_ := ⟨Tryz.f314, Tryz.func314, zchx_⟩
theorem zclv_ : Entry 315 zcu_ := ⟨Tryz.f315, Tryz.func315, zchy_⟩
theorem zclw_ : Entry 319 zlu_ := ⟨Tryz.f319, Tryz.func319, zchz_⟩
theorem zclx_ : Entry 320 zlv_ := ⟨Tryz.f320, Tryz.func320, zcia_⟩
def Fit (a : Option FuncId) (x : Option XF) : Prop := ∀ id, a = some id → ∃ X, x = some X ∧ Entry id X
theorem Fit.of {id : FuncId} {X : XF} (t : Entry id X) : Fit (some id) (some X) := fun _ h => by cases h; exact ⟨X, rfl, t⟩
theorem Fit.none (x : Option XF) : Fit Option.none x := fun _ h => by cases h
theorem each : Each Fit phiL XPL :=
  .cons (.none _) <|
  .cons (.none _) <|
  .cons (.none _) <|
  .cons (.none _) <|
  .cons (.none _) <|
  .cons (.none _) <|
  .cons (.none _) <|
  .cons (.none _) <|
  .cons (.none _) <|
  .cons (.of zcib_) <|
  .cons (.of zcic_) <|
  .cons (.none _) <|
  .cons (.none _) <|
  .cons (.none _) <|
  .cons (.none _) <|
  .cons (.none _) <|
  .cons (.none _) <|
  .cons (.none _) <|
  .cons (.none _) <|
  .cons (.none _) <|
  .cons (.none _) <|
  .cons (.none _) <|
  .cons (.none _) <|
  .cons (.none _) <|
  .cons (.none _) <|
  .cons (.none _) <|
  .cons (.none _) <|
  .cons (.none _) <|
  .cons (.none _) <|
  .cons (.none _) <|
  .cons (.of zcid_) <|
  .cons (.none _) <|
  .cons (.none _) <|
  .cons (.of zcie_) <|
  .cons (.of zcif_) <|
  .cons (.of zcig_) <|
  .cons (.none _) <|
  .cons (.none _) <|
  .cons (.none _) <|
  .cons (.none _) <|
  .cons (.none _) <|
  .cons (.none _) <|
  .cons (.none _) <|
  .cons (.none _) <|
  .cons (.none _) <|
  .cons (.none _) <|
  .cons (.none _) <|
  .cons (.of zcih_) <|
  .cons (.of zcii_) <|
  .cons (.none _) <|
  .cons (.none _) <|
  .cons (.none _) <|
  .cons (.none _) <|
  .cons (.none _) <|
  .cons (.none _) <|
  .cons (.of zcij_) <|
  .cons (.none _) <|
  .cons (.none _) <|
  .cons (.of zcik_) <|
  .cons (.none _) <|
  .cons (.none _) <|
  .cons (.none _) <|
  .cons (.none _) <|
  .cons (.none _) <|
  .cons (.none _) <|
  .cons (.none _) <|
  .cons (.none _) <|
  .cons (.none _) <|
  .cons (.none _) <|
  .cons (.none _) <|
  .cons (.none _) <|
  .cons (.none _) <|
  .cons (.none _) <|
  .cons (.none _) <|
  .cons (.none _) <|
  .cons (.none _) <|
  .cons (.of zcil_) <|
  .cons (.none _) <|
  .cons (.none _) <|
  .cons (.of zcim_) <|
  .cons (.of zcin_) <|
  .cons (.none _) <|
  .cons (.none _) <|
  .cons (.none _) <|
  .cons (.none _) <|
  .cons (.none _) <|
  .cons (.none _) <|
  .cons (.none _) <|
  .cons (.none _) <|
  .cons (.none _) <|
  .cons (.none _) <|
  .cons (.none _) <|
  .cons (.none _) <|
  .cons (.none _) <|
  .cons (.none _) <|
  .cons (.none _) <|
  .cons (.none _) <|
  .cons (.none _) <|
  .cons (.none _) <|
  .cons (.none _) <|
  .cons (.none _) <|
  .cons (.none _) <|
  .cons (.none _) <|
  .cons (.none _) <|
  .cons (.none _) <|
  .cons (.none _) <|
  .cons (.none _) <|
  .cons (.none _) <|
  .cons (.none _) <|
  .cons (.none _) <|
  .cons (.none _) <|
  .cons (.none _) <|
  .cons (.none _) <|
  .cons (.none _) <|
  .cons (.none _) <|
  .cons (.none _) <|
  .cons (.none _) <|
  .cons (.none _) <|
  .cons (.none _) <|
  .cons (.none _) <|
  .cons (.none _) <|
  .cons (.none _) <|
  .cons (.none _) <|
  .cons (.none _) <|
  .cons (.none _) <|
  .cons (.none _) <|
  .cons (.none _) <|
  .cons (.none _) <|
  .cons (.none _) <|
  .cons (.none _) <|
  .cons (.none _) <|
  .cons (.none _) <|
  .cons (.none _) <|
  .cons (.none _) <|
  .cons (.none _) <|
  .cons (.none _) <|
  .cons (.none _) <|
  .cons (.none _) <|
  .cons (.none _) <|
  .cons (.none _) <|
  .cons (.none _) <|
  .cons (.none _) <|
  .cons (.none _) <|
  .cons (.none _) <|
  .cons (.none _) <|
  .cons (.none _) <|
  .cons (.none _) <|
  .cons (.none _) <|
  .cons (.none _) <|
  .cons (.none _) <|
  .cons (.none _) <|
  .cons (.none _) <|
  .cons (.none _) <|
  .cons (.none _) <|
  .cons (.none _) <|
  .cons (.none _) <|
  .cons (.none _) <|
  .cons (.of zcio_) <|
  .cons (.none _) <|
  .cons (.none _) <|
  .cons (.of zcip_) <|
  .cons (.none _) <|
  .cons (.of zciq_) <|
  .cons (.none _) <|
  .cons (.of zcir_) <|
  .cons (.none _) <|
  .cons (.none _) <|
  .cons (.none _) <|
  .cons (.none _) <|
  .cons (.none _) <|
  .cons (.none _) <|
  .cons (.of zcis_) <|
  .cons (.none _) <|
  .cons (.none _) <|
  .cons (.none _) <|
  .cons (.none _) <|
  .cons (.none _) <|
  .cons (.none _) <|
  .cons (.none _) <|
  .cons (.none _) <|
  .cons (.of zcit_) <|
  .cons (.of zciu_) <|
  .cons (.none _) <|
  .cons (.none _) <|
  .cons (.of zciv_) <|
  .cons (.none _) <|
  .cons (.none _) <|
  .cons (.none _) <|
  .cons (.none _) <|
  .cons (.of zciw_) <|
  .cons (.of zcix_) <|
  .cons (.of zciy_) <|
  .cons (.of zciz_) <|
  .cons (.of zcja_) <|
  .cons (.none _) <|
  .cons (.of zcjb_) <|
  .cons (.of zcjc_) <|
  .cons (.of zcjd_) <|
  .cons (.of zcje_) <|
  .cons (.of zcjf_) <|
  .cons (.of zcjg_) <|
  .cons (.of zcjh_) <|
  .cons (.none _) <|
  .cons (.none _) <|
  .cons (.none _) <|
  .cons (.none _) <|
  .cons (.none _) <|
  .cons (.none _) <|
  .cons (.of zcji_) <|
  .cons (.none _) <|
  .cons (.none _) <|
  .cons (.none _) <|
  .cons (.of zcjj_) <|
  .cons (.of zcjk_) <|
  .cons (.of zcjl_) <|
  .cons (.none _) <|
  .cons (.none _) <|
  .cons (.of zcjm_) <|
  .cons (.of zcjn_) <|
  .cons (.of zcjo_) <|
  .cons (.of zcjp_) <|
  .cons (.of zcjq_) <|
  .cons (.none _) <|
  .cons (.none _) <|
  .cons (.of zcjr_) <|
  .cons (.of zcjs_) <|
  .cons (.of zcjt_) <|
  .cons (.of zcju_) <|
  .cons (.none _) <|
  .cons (.of zcjv_) <|
  .cons (.of zcjw_) <|
  .cons (.of zcjx_) <|
  .cons (.of zcjy_) <|
  .cons (.of zcjz_) <|
  .cons (.of zcka_) <|
  .cons (.none _) <|
  .cons (.none _) <|
  .cons (.none _) <|
  .cons (.none _) <|
  .cons (.none _) <|
  .cons (.none _) <|
  .cons (.none _) <|
  .cons (.none _) <|
  .cons (.none _) <|
  .cons (.none _) <|
  .cons (.none _) <|
  .cons (.none _) <|
  .cons (.none _) <|
  .cons (.none _) <|
  .cons (.none _) <|
  .cons (.of zckb_) <|
  .cons (.none _) <|
  .cons (.none _) <|
  .cons (.none _) <|
  .cons (.none _) <|
  .cons (.none _) <|
  .cons (.none _) <|
  .cons (.none _) <|
  .cons (.none _) <|
  .cons (.of zckc_) <|
  .cons (.of zckd_) <|
  .cons (.of zcke_) <|
  .cons (.of zckf_) <|
  .cons (.of zckg_) <|
  .cons (.of zckh_) <|
  .cons (.of zcki_) <|
  .cons (.of zckj_) <|
  .cons (.of zckk_) <|
  .cons (.of zckl_) <|
  .cons (.of zckm_) <|
  .cons (.none _) <|
  .cons (.of zckn_) <|
  .cons (.none _) <|
  .cons (.none _) <|
  .cons (.none _) <|
  .cons (.none _) <|
  .cons (.none _) <|
  .cons (.none _) <|
  .cons (.none _) <|
  .cons (.none _) <|
  .cons (.none _) <|
  .cons (.none _) <|
  .cons (.none _) <|
  .cons (.none _) <|
  .cons (.none _) <|
  .cons (.none _) <|
  .cons (.none _) <|
  .cons (.none _) <|
  .cons (.none _) <|
  .cons (.none _) <|
  .cons (.none _) <|
  .cons (.none _) <|
  .cons (.none _) <|
  .cons (.none _) <|
  .cons (.of zcko_) <|
  .cons (.none _) <|
  .cons (.of zckp_) <|
  .cons (.none _) <|
  .cons (.none _) <|
  .cons (.of zckq_) <|
  .cons (.of zckr_) <|
  .cons (.of zcks_) <|
  .cons (.of zckt_) <|
  .cons (.of zcku_) <|
  .cons (.of zckv_) <|
  .cons (.of zckw_) <|
  .cons (.of zckx_) <|
  .cons (.of zcky_) <|
  .cons (.of zckz_) <|
  .cons (.none _) <|
  .cons (.of zcla_) <|
  .cons (.none _) <|
  .cons (.none _) <|
  .cons (.none _) <|
  .cons (.none _) <|
  .cons (.none _) <|
  .cons (.none _) <|
  .cons (.none _) <|
  .cons (.none _) <|
  .cons (.none _) <|
  .cons (.none _) <|
  .cons (.none _) <|
  .cons (.none _) <|
  .cons (.none _) <|
  .cons (.none _) <|
  .cons (.of zclb_) <|
  .cons (.of zclc_) <|
  .cons (.of zcld_) <|
  .cons (.of zcle_) <|
  .cons (.none _) <|
  .cons (.none _) <|
  .cons (.none _) <|
  .cons (.none _) <|
  .cons (.none _) <|
  .cons (.none _) <|
  .cons (.none _) <|
  .cons (.none _) <|
  .cons (.none _) <|
  .cons (.none _) <|
  .cons (.none _) <|
  .cons (.none _) <|
  .cons (.none _) <|
  .cons (.none _) <|
  .cons (.none _) <|
  .cons (.none _) <|
  .cons (.none _) <|
  .cons (.none _) <|
  .cons (.none _) <|
  .cons (.none _) <|
  .cons (.none _) <|
  .cons (.none _) <|
  .cons (.none _) <|
  .cons (.of zclf_) <|
  .cons (.of zclg_) <|
  .cons (.of zclh_) <|
  .cons (.of zcli_) <|
  .cons (.of zclj_) <|
  .cons (.none _) <|
  .cons (.none _) <|
  .cons (.none _) <|
  .cons (.none _) <|
  .cons (.none _) <|
  .cons (.none _) <|
  .cons (.none _) <|
  .cons (.none _) <|
  .cons (.none _) <|
  .cons (.none _) <|
  .cons (.none _) <|
  .cons (.of zclk_) <|
  .cons (.of zcll_) <|
  .cons (.none _) <|
  .cons (.none _) <|
  .cons (.none _) <|
  .cons (.none _) <|
  .cons (.none _) <|
  .cons (.none _) <|
  .cons (.none _) <|
  .cons (.none _) <|
  .cons (.none _) <|
  .cons (.none _) <|
  .cons (.none _) <|
  .cons (.none _) <|
  .cons (.none _) <|
  .cons (.none _) <|
  .cons (.none _) <|
  .cons (.of zclm_) <|
  .cons (.of zcln_) <|
  .cons (.of zclo_) <|
  .cons (.of zclp_) <|
  .cons (.of zclq_) <|
  .cons (.none _) <|
  .cons (.none _) <|
  .cons (.none _) <|
  .cons (.none _) <|
  .cons (.none _) <|
  .cons (.none _) <|
  .cons (.none _) <|
  .cons (.none _) <|
  .cons (.none _) <|
  .cons (.none _) <|
  .cons (.none _) <|
  .cons (.none _) <|
  .cons (.none _) <|
  .cons (.none _) <|
  .cons (.none _) <|
  .cons (.none _) <|
  .cons (.none _) <|
  .cons (.none _) <|
  .cons (.none _) <|
  .cons (.none _) <|
  .cons (.none _) <|
  .cons (.none _) <|
  .cons (.none _) <|
  .cons (.none _) <|
  .cons (.none _) <|
  .cons (.none _) <|
  .cons (.none _) <|
  .cons (.none _) <|
  .cons (.none _) <|
  .cons (.of zclr_) <|
  .cons (.of zcls_) <|
  .cons (.none _) <|
  .cons (.none _) <|
  .cons (.none _) <|
  .cons (.none _) <|
  .cons (.none _) <|
  .cons (.none _) <|
  .cons (.none _) <|
  .cons (.none _) <|
  .cons (.none _) <|
  .cons (.none _) <|
  .cons (.none _) <|
  .cons (.none _) <|
  .cons (.none _) <|
  .cons (.none _) <|
  .cons (.none _) <|
  .cons (.none _) <|
  .cons (.none _) <|
  .cons (.none _) <|
  .cons (.none _) <|
  .cons (.none _) <|
  .cons (.none _) <|
  .cons (.none _) <|
  .cons (.of zclt_) <|
  .cons (.none _) <|
  .cons (.none _) <|
  .cons (.none _) <|
  .cons (.none _) <|
  .cons (.none _) <|
  .cons (.none _) <|
  .cons (.none _) <|
  .cons (.of zclu_) <|
  .cons (.of zclv_) <|
  .cons (.none _) <|
  .cons (.none _) <|
  .cons (.of zclw_) <|
  .cons (.of zclx_) <| .nil
theorem zcly_ (f : Nat) (id : FuncId) (X : XF) (h1 : phi f = some id) (h2 : XP f = some X) : Entry id X := by
  obtain ⟨Y, h3, h4⟩ := (each.get Fit.none f : Fit (phi f) (XP f)) id h1
  have h3 : XP f = some Y := h3
  rw [h2] at h3
  cases h3
  exact h4
theorem table : Table Tryz.prog phi XP where
  follows := by kernel_rfl
  there := tok
  code := fun f id X h hx => zcly_ f id X h hx
theorem zclz_ : ownKnob Tryz.prog.godebug = none := by kernel_rfl
theorem zcma_ : laidOutB Tryz.prog = true := by kernel_rfl
end Go.Proofs.Sl
