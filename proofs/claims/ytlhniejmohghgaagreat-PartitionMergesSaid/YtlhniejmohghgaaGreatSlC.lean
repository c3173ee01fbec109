/- The functions of the program are what the evaluator has for them. -/
import Derived.Test.YtlhniejmohghgaaGreatProg
import Derived.Test.YtlhniejmohghgaaGreatSlB
import Derived.Test.YtlhniejmohghgaaGreatSlP
import Derived.Test.YtlhniejmohghgaaGreatSlN
import Derived.Shelf.SlGeneric
import Derived.Ground.SlsfProg
import Derived.Ground.Names8Prog
set_option linter.unusedVariables false
set_option linter.unusedSimpArgs false
set_option linter.unnecessarySimpa false
set_option maxRecDepth 100000
namespace Go.Proofs.Sl
def phiL : List (Option FuncId) := [none, none, none, none, none, none, none, none, none, some 52, some 58, none, none, none, none, none, none, none, none, none, none, none, none, none, none, none, none, none, none, none, some 71, none, none, some 53, some 55, some 149, none, none, none, none, none, none, none, none, none, none, none, some 99, some 206, none, none, none, none, none, none, some 262, none, none, some 208, none, none, none, none, none, none, none, none, none, none, none, none, none, none, none, none, none, some 204, none, none, some 205, some 207, none, none, none, none, none, none, none, none, none, none, none, none, none, none, none, none, none, none, none, none, none, none, none, none, none, none, none, none, none, none, none, none, none, none, none, none, none, none, none, none, none, none, none, none, none, none, none, none, none, none, none, none, none, none, none, none, none, none, none, none, none, none, none, none, none, none, none, none, none, none, none, none, none, none, none, none, some 60, none, none, some 67, none, some 70, none, some 148, none, none, none, none, none, none, some 155, none, none, none, none, none, none, none, none, some 32, some 74, none, none, some 64, none, some 27, none, none, some 135, some 136, some 137, some 138, some 139, none, some 142, some 143, some 92, some 144, some 145, some 146, some 147, none, none, none, none, none, none, some 199, none, none, none, some 82, some 81, some 141, some 78, none, some 169, some 200, some 201, some 202, some 203, none, none, some 159, some 156, some 157, some 158, some 153, some 213, some 214, some 211, some 93, some 212, some 264, none, none, none, none, none, none, none, none, none, none, none, none, none, none, none, none, none, none, some 6, none, none, none, none, none, some 12, some 13, some 14, some 15, some 16, some 17, some 18, some 19, some 20, some 21, some 22, none, some 24, none, none, some 28, none, none, none, none, none, none, none, none, none, none, none, none, none, none, none, none, none, none, none, some 50, none, some 54, none, none, some 59, some 61, some 62, some 63, some 65, some 66, some 68, some 69, some 72, some 73, none, some 76, none, none, none, none, none, none, none, none, none, none, none, none, none, none, some 98, some 100, some 101, some 102, none, none, none, none, none, none, none, none, none, none, none, none, none, none, none, none, none, none, none, none, none, none, none, some 133, some 134, some 140, some 150, some 151, none, none, none, none, none, none, none, none, none, none, none, some 172, some 173, none, none, none, none, none, none, none, none, none, none, none, none, none, none, none, some 196, some 197, some 198, some 209, some 210, none, none, none, none, none, none, none, none, none, none, none, none, none, none, none, none, none, none, none, none, none, none, none, none, none, none, none, none, none, some 261, some 263, none, none, none, none, none, none, none, none, none, none, none, none, none, none, none, none, none, none, none, none, none, none, some 299, none, none, none, none, none, none, none, some 314, some 315, none, none, some 319, some 320]
def phi : Nat → Option FuncId := fun n => phiL.getD n none
inductive Each (p : Option FuncId → Option XF → Prop) : List (Option FuncId) → List (Option XF) → Prop
  | nil {l : List (Option XF)} : Each p [] l
  | cons {a : Option FuncId} {x : Option XF} {r : List (Option FuncId)} {l : List (Option XF)} (h : p a x) (k : Each p r l) : Each p (a :: r) (x :: l)
theorem Each.get {p : Option FuncId → Option XF → Prop} (h0 : ∀ x, p none x) : ∀ {r : List (Option FuncId)} {l : List (Option XF)}, Each p r l → ∀ f, p (r.getD f none) (l.getD f none)
  | _, _, .nil, f => by simpa using h0 _
  | _, _, .cons h k, 0 => by simpa using h
  | _, _, .cons h k, f + 1 => by simpa using k.get h0 f
def There (id : FuncId) : Prop := ∃ fn : Func, Tryz.prog.funcs[id]? = some fn ∧ (fn.name == "runtime.NumGoroutine") = false ∧ fn.body.isNone = false
theorem zcas_ : There 52 := ⟨Tryz.f52, Tryz.func52, by kernel_rfl, by kernel_rfl⟩
theorem zcat_ : There 58 := ⟨Tryz.f58, Tryz.func58, by kernel_rfl, by kernel_rfl⟩
theorem zcau_ : There 71 := ⟨Tryz.f71, Tryz.func71, by kernel_rfl, by kernel_rfl⟩
theorem zcav_ : There 53 := ⟨Tryz.f53, Tryz.func53, by kernel_rfl, by kernel_rfl⟩
theorem zcaw_ : There 55 := ⟨Tryz.f55, Tryz.func55, by kernel_rfl, by kernel_rfl⟩
theorem zcax_ : There 149 := ⟨Tryz.f149, Tryz.func149, by kernel_rfl, by kernel_rfl⟩
theorem zcay_ : There 99 := ⟨Tryz.f99, Tryz.func99, by kernel_rfl, by kernel_rfl⟩
theorem zcaz_ : There 206 := ⟨Tryz.f206, Tryz.func206, by kernel_rfl, by kernel_rfl⟩
theorem zcba_ : There 262 := ⟨Tryz.f262, Tryz.func262, by kernel_rfl, by kernel_rfl⟩
theorem zcbb_ : There 208 := ⟨Tryz.f208, Tryz.func208, by kernel_rfl, by kernel_rfl⟩
theorem zcbc_ : There 204 := ⟨Tryz.f204, Tryz.func204, by kernel_rfl, by kernel_rfl⟩
theorem zcbd_ : There 205 := ⟨Tryz.f205, Tryz.func205, by kernel_rfl, by kernel_rfl⟩
theorem zcbe_ : There 207 := ⟨Tryz.f207, Tryz.func207, by kernel_rfl, by kernel_rfl⟩
theorem zcbf_ : There 60 := ⟨Tryz.f60, Tryz.func60, by kernel_rfl, by kernel_rfl⟩
theorem zcbg_ : There 67 := ⟨Tryz.f67, Tryz.func67, by kernel_rfl, by kernel_rfl⟩
theorem zcbh_ : There 70 := ⟨Tryz.f70, Tryz.func70, by kernel_rfl, by kernel_rfl⟩
theorem zcbi_ : There 148 := ⟨Tryz.f148, Tryz.func148, by kernel_rfl, by kernel_rfl⟩
theorem zcbj_ : There 155 := ⟨Tryz.f155, Tryz.func155, by kernel_rfl, by kernel_rfl⟩
theorem zcbk_ : There 32 := ⟨Tryz.f32, Tryz.func32, by kernel_rfl, by kernel_rfl⟩
theorem zcbl_ : There 74 := ⟨Tryz.f74, Tryz.func74, by kernel_rfl, by kernel_rfl⟩
theorem zcbm_ : There 64 := ⟨Tryz.f64, Tryz.func64, by kernel_rfl, by kernel_rfl⟩
theorem zcbn_ : There 27 := ⟨Tryz.f27, Tryz.func27, by kernel_rfl, by kernel_rfl⟩
theorem zcbo_ : There 135 := ⟨Tryz.f135, Tryz.func135, by kernel_rfl, by kernel_rfl⟩
theorem zcbp_ : There 136 := ⟨Tryz.f136, Tryz.func136, by kernel_rfl, by kernel_rfl⟩
theorem zcbq_ : There 137 := ⟨Tryz.f137, Tryz.func137, by kernel_rfl, by kernel_rfl⟩
theorem zcbr_ : There 138 := ⟨Tryz.f138, Tryz.func138, by kernel_rfl, by kernel_rfl⟩
theorem zcbs_ : There 139 := ⟨Tryz.f139, Tryz.func139, by kernel_rfl, by kernel_rfl⟩
theorem zcbt_ : There 142 := ⟨Tryz.f142, Tryz.func142, by kernel_rfl, by kernel_rfl⟩
theorem zcbu_ : There 143 := ⟨Tryz.f143, Tryz.func143, by kernel_rfl, by kernel_rfl⟩
theorem zcbv_ : There 92 := ⟨Tryz.f92, Tryz.func92, by kernel_rfl, by kernel_rfl⟩
theorem zcbw_ : There 144 := ⟨Tryz.f144, Tryz.func144, by kernel_rfl, by kernel_rfl⟩
theorem zcbx_ : There 145 := ⟨Tryz.f145, Tryz.func145, by kernel_rfl, by kernel_rfl⟩
theorem zcby_ : There 146 := ⟨Tryz.f146, Tryz.func146, by kernel_rfl, by kernel_rfl⟩
theorem zcbz_ : There 147 := ⟨Tryz.f147, Tryz.func147, by kernel_rfl, by kernel_rfl⟩
theorem zcca_ : There 199 := ⟨Tryz.f199, Tryz.func199, by kernel_rfl, by kernel_rfl⟩
theorem zccb_ : There 82 := ⟨Tryz.f82, Tryz.func82, by kernel_rfl, by kernel_rfl⟩
theorem zccc_ : There 81 := ⟨Tryz.f81, Tryz.func81, by kernel_rfl, by kernel_rfl⟩
theorem zccd_ : There 141 := ⟨Tryz.f141, Tryz.func141, by kernel_rfl, by kernel_rfl⟩
theorem zcce_ : There 78 := ⟨Tryz.f78, Tryz.func78, by kernel_rfl, by kernel_rfl⟩
theorem zccf_ : There 169 := ⟨Tryz.f169, Tryz.func169, by kernel_rfl, by kernel_rfl⟩
theorem zccg_ : There 200 := ⟨Tryz.f200, Tryz.func200, by kernel_rfl, by kernel_rfl⟩
theorem zcch_ : There 201 := ⟨Tryz.f201, Tryz.func201, by kernel_rfl, by kernel_rfl⟩
theorem zcci_ : There 202 := ⟨Tryz.f202, Tryz.func202, by kernel_rfl, by kernel_rfl⟩
theorem zccj_ : There 203 := ⟨Tryz.f203, Tryz.func203, by kernel_rfl, by kernel_rfl⟩
theorem zcck_ : There 159 := ⟨Tryz.f159, Tryz.func159, by kernel_rfl, by kernel_rfl⟩
theorem zccl_ : There 156 := ⟨Tryz.f156, Tryz.func156, by kernel_rfl, by kernel_rfl⟩
theorem zccm_ : There 157 := ⟨Tryz.f157, Tryz.func157, by kernel_rfl, by kernel_rfl⟩
theorem zccn_ : There 158 := ⟨Tryz.f158, Tryz.func158, by kernel_rfl, by kernel_rfl⟩
theorem zcco_ : There 153 := ⟨Tryz.f153, Tryz.func153, by kernel_rfl, by kernel_rfl⟩
theorem zccp_ : There 213 := ⟨Tryz.f213, Tryz.func213, by kernel_rfl, by kernel_rfl⟩
theorem zccq_ : There 214 := ⟨Tryz.f214, Tryz.func214, by kernel_rfl, by kernel_rfl⟩
theorem zccr_ : There 211 := ⟨Tryz.f211, Tryz.func211, by kernel_rfl, by kernel_rfl⟩
theorem zccs_ : There 93 := ⟨Tryz.f93, Tryz.func93, by kernel_rfl, by kernel_rfl⟩
theorem zcct_ : There 212 := ⟨Tryz.f212, Tryz.func212, by kernel_rfl, by kernel_rfl⟩
theorem zccu_ : There 264 := ⟨Tryz.f264, Tryz.func264, by kernel_rfl, by kernel_rfl⟩
theorem zccv_ : There 6 := ⟨Tryz.f6, Tryz.func6, by kernel_rfl, by kernel_rfl⟩
theorem zccw_ : There 12 := ⟨Tryz.f12, Tryz.func12, by kernel_rfl, by kernel_rfl⟩
theorem zccx_ : There 13 := ⟨Tryz.f13, Tryz.func13, by kernel_rfl, by kernel_rfl⟩
theorem zccy_ : There 14 := ⟨Tryz.f14, Tryz.func14, by kernel_rfl, by kernel_rfl⟩
theorem zccz_ : There 15 := ⟨Tryz.f15, Tryz.func15, by kernel_rfl, by kernel_rfl⟩
theorem zcda_ : There 16 := ⟨Tryz.f16, Tryz.func16, by kernel_rfl, by kernel_rfl⟩
theorem zcdb_ : There 17 := ⟨Tryz.f17, Tryz.func17, by kernel_rfl, by kernel_rfl⟩
theorem zcdc_ : There 18 := ⟨Tryz.f18, Tryz.func18, by kernel_rfl, by kernel_rfl⟩
theorem zcdd_ : There 19 := ⟨Tryz.f19, Tryz.func19, by kernel_rfl, by kernel_rfl⟩
theorem zcde_ : There 20 := ⟨Tryz.f20, Tryz.func20, by kernel_rfl, by kernel_rfl⟩
theorem zcdf_ : There 21 := ⟨Tryz.f21, Tryz.func21, by kernel_rfl, by kernel_rfl⟩
theorem zcdg_ : There 22 := ⟨Tryz.f22, Tryz.func22, by kernel_rfl, by kernel_rfl⟩
theorem zcdh_ : There 24 := ⟨Tryz.f24, Tryz.func24, by kernel_rfl, by kernel_rfl⟩
theorem zcdi_ : There 28 := ⟨Tryz.f28, Tryz.func28, by kernel_rfl, by kernel_rfl⟩
theorem zcdj_ : There 50 := ⟨Tryz.f50, Tryz.func50, by kernel_rfl, by kernel_rfl⟩
theorem zcdk_ : There 54 := ⟨Tryz.f54, Tryz.func54, by kernel_rfl, by kernel_rfl⟩
theorem zcdl_ : There 59 := ⟨Tryz.f59, Tryz.func59, by kernel_rfl, by kernel_rfl⟩
theorem zcdm_ : There 61 := ⟨Tryz.f61, Tryz.func61, by kernel_rfl, by kernel_rfl⟩
theorem zcdn_ : There 62 := ⟨Tryz.f62, Tryz.func62, by kernel_rfl, by kernel_rfl⟩
theorem zcdo_ : There 63 := ⟨Tryz.f63, Tryz.func63, by kernel_rfl, by kernel_rfl⟩
theorem zcdp_ : There 65 := ⟨Tryz.f65, Tryz.func65, by kernel_rfl, by kernel_rfl⟩
theorem zcdq_ : There 66 := ⟨Tryz.f66, Tryz.func66, by kernel_rfl, by kernel_rfl⟩
theorem zcdr_ : There 68 := ⟨Tryz.f68, Tryz.func68, by kernel_rfl, by kernel_rfl⟩
theorem zcds_ : There 69 := ⟨Tryz.f69, Tryz.func69, by kernel_rfl, by kernel_rfl⟩
theorem zcdt_ : There 72 := ⟨Tryz.f72, Tryz.func72, by kernel_rfl, by kernel_rfl⟩
theorem zcdu_ : There 73 := ⟨Tryz.f73, Tryz.func73, by kernel_rfl, by kernel_rfl⟩
theorem zcdv_ : There 76 := ⟨Tryz.f76, Tryz.func76, by kernel_rfl, by kernel_rfl⟩
theorem zcdw_ : There 98 := ⟨Tryz.f98, Tryz.func98, by kernel_rfl, by kernel_rfl⟩
theorem zcdx_ : There 100 := ⟨Tryz.f100, Tryz.func100, by kernel_rfl, by kernel_rfl⟩
theorem zcdy_ : There 101 := ⟨Tryz.f101, Tryz.func101, by kernel_rfl, by kernel_rfl⟩
theorem zcdz_ : There 102 := ⟨Tryz.f102, Tryz.func102, by kernel_rfl, by kernel_rfl⟩
theorem zcea_ : There 133 := ⟨Tryz.f133, Tryz.func133, by kernel_rfl, by kernel_rfl⟩
theorem zceb_ : There 134 := ⟨Tryz.f134, Tryz.func134, by kernel_rfl, by kernel_rfl⟩
theorem zcec_ : There 140 := ⟨Tryz.f140, Tryz.func140, by kernel_rfl, by kernel_rfl⟩
theorem zced_ : There 150 := ⟨Tryz.f150, Tryz.func150, by kernel_rfl, by kernel_rfl⟩
theorem zcee_ : There 151 := ⟨Tryz.f151, Tryz.func151, by kernel_rfl, by kernel_rfl⟩
theorem zcef_ : There 172 := ⟨Tryz.f172, Tryz.func172, by kernel_rfl, by kernel_rfl⟩
theorem zceg_ : There 173 := ⟨Tryz.f173, Tryz.func173, by kernel_rfl, by kernel_rfl⟩
theorem zceh_ : There 196 := ⟨Tryz.f196, Tryz.func196, by kernel_rfl, by kernel_rfl⟩
theorem zcei_ : There 197 := ⟨Tryz.f197, Tryz.func197, by kernel_rfl, by kernel_rfl⟩
theorem zcej_ : There 198 := ⟨Tryz.f198, Tryz.func198, by kernel_rfl, by kernel_rfl⟩
theorem zcek_ : There 209 := ⟨Tryz.f209, Tryz.func209, by kernel_rfl, by kernel_rfl⟩
theorem zcel_ : There 210 := ⟨Tryz.f210, Tryz.func210, by kernel_rfl, by kernel_rfl⟩
theorem zcem_ : There 261 := ⟨Tryz.f261, Tryz.func261, by kernel_rfl, by kernel_rfl⟩
theorem zcen_ : There 263 := ⟨Tryz.f263, Tryz.func263, by kernel_rfl, by kernel_rfl⟩
theorem zceo_ : There 299 := ⟨Tryz.f299, Tryz.func299, by kernel_rfl, by kernel_rfl⟩
theorem zcep_ : There 314 := ⟨Tryz.f314, Tryz.func314, by kernel_rfl, by kernel_rfl⟩
theorem zceq_ : There 315 := ⟨Tryz.f315, Tryz.func315, by kernel_rfl, by kernel_rfl⟩
theorem zcer_ : There 319 := ⟨Tryz.f319, Tryz.func319, by kernel_rfl, by kernel_rfl⟩
theorem zces_ : There 320 := ⟨Tryz.f320, Tryz.func320, by kernel_rfl, by kernel_rfl⟩
def FitT (a : Option FuncId) (_ : Option XF) : Prop := ∀ id, a = some id → There id
theorem FitT.of {id : FuncId} {x : Option XF} (t : There id) : FitT (some id) x := fun _ h => by cases h; exact t
theorem FitT.none (x : Option XF) : FitT Option.none x := fun _ h => by cases h
theorem eachT : Each FitT phiL XPL :=
  .cons (.none _) <|
  .cons (.none _) <|
  .cons (.none _) <|
  .cons (.none _) <|
  .cons (.none _) <|
  .cons (.none _) <|
  .cons (.none _) <|
  .cons (.none _) <|
  .cons (.none _) <|
  .cons (.of zcas_) <|
  .cons (.of zcat_) <|
  .cons (.none _) <|
  .cons (.none _) <|
  .cons (.none _) <|
  .cons (.none _) <|
  .cons (.none _) <|
  .cons (.none _) <|
  .cons (.none _) <|
  .cons (.none _) <|
  .cons (.none _) <|
  .cons (.none _) <|
  .cons (.none _) <|
  .cons (.none _) <|
  .cons (.none _) <|
  .cons (.none _) <|
  .cons (.none _) <|
  .cons (.none _) <|
  .cons (.none _) <|
  .cons (.none _) <|
  .cons (.none _) <|
  .cons (.of zcau_) <|
  .cons (.none _) <|
  .cons (.none _) <|
  .cons (.of zcav_) <|
  .cons (.of zcaw_) <|
  .cons (.of zcax_) <|
  .cons (.none _) <|
  .cons (.none _) <|
  .cons (.none _) <|
  .cons (.none _) <|
  .cons (.none _) <|
  .cons (.none _) <|
  .cons (.none _) <|
  .cons (.none _) <|
  .cons (.none _) <|
  .cons (.none _) <|
  .cons (.none _) <|
  .cons (.of zcay_) <|
  .cons (.of zcaz_) <|
  .cons (.none _) <|
  .cons (.none _) <|
  .cons (.none _) <|
  .cons (.none _) <|
  .cons (.none _) <|
  .cons (.none _) <|
  .cons (.of zcba_) <|
  .cons (.none _) <|
  .cons (.none _) <|
  .cons (.of zcbb_) <|
  .cons (.none _) <|
  .cons (.none _) <|
  .cons (.none _) <|
  .cons (.none _) <|
  .cons (.none _) <|
  .cons (.none _) <|
  .cons (.none _) <|
  .cons (.none _) <|
  .cons (.none _) <|
  .cons (.none _) <|
  .cons (.none _) <|
  .cons (.none _) <|
  .cons (.none _) <|
  .cons (.none _) <|
  .cons (.none _) <|
  .cons (.none _) <|
  .cons (.none _) <|
  .cons (.of zcbc_) <|
  .cons (.none _) <|
  .cons (.none _) <|
  .cons (.of zcbd_) <|
  .cons (.of zcbe_) <|
  .cons (.none _) <|
  .cons (.none _) <|
  .cons (.none _) <|
  .cons (.none _) <|
  .cons (.none _) <|
  .cons (.none _) <|
  .cons (.none _) <|
  .cons (.none _) <|
  .cons (.none _) <|
  .cons (.none _) <|
  .cons (.none _) <|
  .cons (.none _) <|
  .cons (.none _) <|
  .cons (.none _) <|
  .cons (.none _) <|
  .cons (.none _) <|
  .cons (.none _) <|
  .cons (.none _) <|
  .cons (.none _) <|
  .cons (.none _) <|
  .cons (.none _) <|
  .cons (.none _) <|
  .cons (.none _) <|
  .cons (.none _) <|
  .cons (.none _) <|
  .cons (.none _) <|
  .cons (.none _) <|
  .cons (.none _) <|
  .cons (.none _) <|
  .cons (.none _) <|
  .cons (.none _) <|
  .cons (.none _) <|
  .cons (.none _) <|
  .cons (.none _) <|
  .cons (.none _) <|
  .cons (.none _) <|
  .cons (.none _) <|
  .cons (.none _) <|
  .cons (.none _) <|
  .cons (.none _) <|
  .cons (.none _) <|
  .cons (.none _) <|
  .cons (.none _) <|
  .cons (.none _) <|
  .cons (.none _) <|
  .cons (.none _) <|
  .cons (.none _) <|
  .cons (.none _) <|
  .cons (.none _) <|
  .cons (.none _) <|
  .cons (.none _) <|
  .cons (.none _) <|
  .cons (.none _) <|
  .cons (.none _) <|
  .cons (.none _) <|
  .cons (.none _) <|
  .cons (.none _) <|
  .cons (.none _) <|
  .cons (.none _) <|
  .cons (.none _) <|
  .cons (.none _) <|
  .cons (.none _) <|
  .cons (.none _) <|
  .cons (.none _) <|
  .cons (.none _) <|
  .cons (.none _) <|
  .cons (.none _) <|
  .cons (.none _) <|
  .cons (.none _) <|
  .cons (.none _) <|
  .cons (.none _) <|
  .cons (.none _) <|
  .cons (.none _) <|
  .cons (.none _) <|
  .cons (.none _) <|
  .cons (.none _) <|
  .cons (.of zcbf_) <|
  .cons (.none _) <|
  .cons (.none _) <|
  .cons (.of zcbg_) <|
  .cons (.none _) <|
  .cons (.of zcbh_) <|
  .cons (.none _) <|
  .cons (.of zcbi_) <|
  .cons (.none _) <|
  .cons (.none _) <|
  .cons (.none _) <|
  .cons (.none _) <|
  .cons (.none _) <|
  .cons (.none _) <|
  .cons (.of zcbj_) <|
  .cons (.none _) <|
  .cons (.none _) <|
  .cons (.none _) <|
  .cons (.none _) <|
  .cons (.none _) <|
  .cons (.none _) <|
  .cons (.none _) <|
  .cons (.none _) <|
  .cons (.of zcbk_) <|
  .cons (.of zcbl_) <|
  .cons (.none _) <|
  .cons (.none _) <|
  .cons (.of zcbm_) <|
  .cons (.none _) <|
  .cons (.of zcbn_) <|
  .cons (.none _) <|
  .cons (.none _) <|
  .cons (.of zcbo_) <|
  .cons (.of zcbp_) <|
  .cons (.of zcbq_) <|
  .cons (.of zcbr_) <|
  .cons (.of zcbs_) <|
  .cons (.none _) <|
  .cons (.of zcbt_) <|
  .cons (.of zcbu_) <|
  .cons (.of zcbv_) <|
  .cons (.of zcbw_) <|
  .cons (.of zcbx_) <|
  .cons (.of zcby_) <|
  .cons (.of zcbz_) <|
  .cons (.none _) <|
  .cons (.none _) <|
  .cons (.none _) <|
  .cons (.none _) <|
  .cons (.none _) <|
  .cons (.none _) <|
  .cons (.of zcca_) <|
  .cons (.none _) <|
  .cons (.none _) <|
  .cons (.none _) <|
  .cons (.of zccb_) <|
  .cons (.of zccc_) <|
  .cons (.of zccd_) <|
  .cons (.of zcce_) <|
  .cons (.none _) <|
  .cons (.of zccf_) <|
  .cons (.of zccg_) <|
  .cons (.of zcch_) <|
  .cons (.of zcci_) <|
  .cons (.of zccj_) <|
  .cons (.none _) <|
  .cons (.none _) <|
  .cons (.of zcck_) <|
  .cons (.of zccl_) <|
  .cons (.of zccm_) <|
  .cons (.of zccn_) <|
  .cons (.of zcco_) <|
  .cons (.of zccp_) <|
  .cons (.of zccq_) <|
  .cons (.of zccr_) <|
  .cons (.of zccs_) <|
  .cons (.of zcct_) <|
  .cons (.of zccu_) <|
  .cons (.none _) <|
  .cons (.none _) <|
  .cons (.none _) <|
  .cons (.none _) <|
  .cons (.none _) <|
  .cons (.none _) <|
  .cons (.none _) <|
  .cons (.none _) <|
  .cons (.none _) <|
  .cons (.none _) <|
  .cons (.none _) <|
  .cons (.none _) <|
  .cons (.none _) <|
  .cons (.none _) <|
  .cons (.none _) <|
  .cons (.none _) <|
  .cons (.none _) <|
  .cons (.none _) <|
  .cons (.of zccv_) <|
  .cons (.none _) <|
  .cons (.none _) <|
  .cons (.none _) <|
  .cons (.none _) <|
  .cons (.none _) <|
  .cons (.of zccw_) <|
  .cons (.of zccx_) <|
  .cons (.of zccy_) <|
  .cons (.of zccz_) <|
  .cons (.of zcda_) <|
  .cons (.of zcdb_) <|
  .cons (.of zcdc_) <|
  .cons (.of zcdd_) <|
  .cons (.of zcde_) <|
  .cons (.of zcdf_) <|
  .cons (.of zcdg_) <|
  .cons (.none _) <|
  .cons (.of zcdh_) <|
  .cons (.none _) <|
  .cons (.none _) <|
  .cons (.of zcdi_) <|
  .cons (.none _) <|
  .cons (.none _) <|
  .cons (.none _) <|
  .cons (.none _) <|
  .cons (.none _) <|
  .cons (.none _) <|
  .cons (.none _) <|
  .cons (.none _) <|
  .cons (.none _) <|
  .cons (.none _) <|
  .cons (.none _) <|
  .cons (.none _) <|
  .cons (.none _) <|
  .cons (.none _) <|
  .cons (.none _) <|
  .cons (.none _) <|
  .cons (.none _) <|
  .cons (.none _) <|
  .cons (.none _) <|
  .cons (.of zcdj_) <|
  .cons (.none _) <|
  .cons (.of zcdk_) <|
  .cons (.none _) <|
  .cons (.none _) <|
  .cons (.of zcdl_) <|
  .cons (.of zcdm_) <|
  .cons (.of zcdn_) <|
  .cons (.of zcdo_) <|
  .cons (.of zcdp_) <|
  .cons (.of zcdq_) <|
  .cons (.of zcdr_) <|
  .cons (.of zcds_) <|
  .cons (.of zcdt_) <|
  .cons (.of zcdu_) <|
  .cons (.none _) <|
  .cons (.of zcdv_) <|
  .cons (.none _) <|
  .cons (.none _) <|
  .cons (.none _) <|
  .cons (.none _) <|
  .cons (.none _) <|
  .cons (.none _) <|
  .cons (.none _) <|
  .cons (.none _) <|
  .cons (.none _) <|
  .cons (.none _) <|
  .cons (.none _) <|
  .cons (.none _) <|
  .cons (.none _) <|
  .cons (.none _) <|
  .cons (.of zcdw_) <|
  .cons (.of zcdx_) <|
  .cons (.of zcdy_) <|
  .cons (.of zcdz_) <|
  .cons (.none _) <|
  .cons (.none _) <|
  .cons (.none _) <|
  .cons (.none _) <|
  .cons (.none _) <|
  .cons (.none _) <|
  .cons (.none _) <|
  .cons (.none _) <|
  .cons (.none _) <|
  .cons (.none _) <|
  .cons (.none _) <|
  .cons (.none _) <|
  .cons (.none _) <|
  .cons (.none _) <|
  .cons (.none _) <|
  .cons (.none _) <|
  .cons (.none _) <|
  .cons (.none _) <|
  .cons (.none _) <|
  .cons (.none _) <|
  .cons (.none _) <|
  .cons (.none _) <|
  .cons (.none _) <|
  .cons (.of zcea_) <|
  .cons (.of zceb_) <|
  .cons (.of zcec_) <|
  .cons (.of zced_) <|
  .cons (.of zcee_) <|
  .cons (.none _) <|
  .cons (.none _) <|
  .cons (.none _) <|
  .cons (.none _) <|
  .cons (.none _) <|
  .cons (.none _) <|
  .cons (.none _) <|
  .cons (.none _) <|
  .cons (.none _) <|
  .cons (.none _) <|
  .cons (.none _) <|
  .cons (.of zcef_) <|
  .cons (.of zceg_) <|
  .cons (.none _) <|
  .cons (.none _) <|
  .cons (.none _) <|
  .cons (.none _) <|
  .cons (.none _) <|
  .cons (.none _) <|
  .cons (.none _) <|
  .cons (.none _) <|
  .cons (.none _) <|
  .cons (.none _) <|
  .cons (.none _) <|
  .cons (.none _) <|
  .cons (.none _) <|
  .cons (.none _) <|
  .cons (.none _) <|
  .cons (.of zceh_) <|
  .cons (.of zcei_) <|
  .cons (.of zcej_) <|
  .cons (.of zcek_) <|
  .cons (.of zcel_) <|
  .cons (.none _) <|
  .cons (.none _) <|
  .cons (.none _) <|
  .cons (.none _) <|
  .cons (.none _) <|
  .cons (.none _) <|
  .cons (.none _) <|
  .cons (.none _) <|
  .cons (.none _) <|
  .cons (.none _) <|
  .cons (.none _) <|
  .cons (.none _) <|
  .cons (.none _) <|
  .cons (.none _) <|
  .cons (.none _) <|
  .cons (.none _) <|
  .cons (.none _) <|
  .cons (.none _) <|
  .cons (.none _) <|
  .cons (.none _) <|
  .cons (.none _) <|
  .cons (.none _) <|
  .cons (.none _) <|
  .cons (.none _) <|
  .cons (.none _) <|
  .cons (.none _) <|
  .cons (.none _) <|
  .cons (.none _) <|
  .cons (.none _) <|
  .cons (.of zcem_) <|
  .cons (.of zcen_) <|
  .cons (.none _) <|
  .cons (.none _) <|
  .cons (.none _) <|
  .cons (.none _) <|
  .cons (.none _) <|
  .cons (.none _) <|
  .cons (.none _) <|
  .cons (.none _) <|
  .cons (.none _) <|
  .cons (.none _) <|
  .cons (.none _) <|
  .cons (.none _) <|
  .cons (.none _) <|
  .cons (.none _) <|
  .cons (.none _) <|
  .cons (.none _) <|
  .cons (.none _) <|
  .cons (.none _) <|
  .cons (.none _) <|
  .cons (.none _) <|
  .cons (.none _) <|
  .cons (.none _) <|
  .cons (.of zceo_) <|
  .cons (.none _) <|
  .cons (.none _) <|
  .cons (.none _) <|
  .cons (.none _) <|
  .cons (.none _) <|
  .cons (.none _) <|
  .cons (.none _) <|
  .cons (.of zcep_) <|
  .cons (.of zceq_) <|
  .cons (.none _) <|
  .cons (.none _) <|
  .cons (.of zcer_) <|
  .cons (.of zces_) <| .nil
theorem tok : TOk Tryz.prog phi := fun f id h => (eachT.get FitT.none f) id h
end Go.Proofs.Sl
namespace Go.Proofs
open Go.Shelf
shelf_lay_g SlLaysF0.n6 Slsf 6 at Tryz 93 as Tryz.sortSpan
shelf_lay_g Lays8.n4 Nm8 4 at Tryz 153 as Tryz.growSpan
end Go.Proofs
namespace Go.Proofs.Sl
def zSpan : List V := [.s (.int .i64 0), .s (.int .i64 0), .s (.int .i64 0), .s (.int .i64 0), .s (.int .i64 0), .s (.int .i64 0), .s (.string ⟨#[]⟩), .s (.string ⟨#[]⟩), .s (.string ⟨#[]⟩), .s (.int .i64 0), .s (.int .i64 0), .s (.bool false), .s (.slice none 0 0), .s (.slice none 0 0)]
theorem zcet_ : plainZ zSpan := by
  intro i x e
  have : ∀ v ∈ zSpan, v.tl = none := by
    intro v hv
    simp only [zSpan, List.mem_cons, List.not_mem_nil, or_false] at hv
    rcases hv with rfl | rfl | rfl | rfl | rfl | rfl | rfl | rfl | rfl | rfl | rfl | rfl | rfl | rfl <;> rfl
  exact this x (List.mem_of_getElem? e)
theorem zceu_ : NatOk Tryz.prog phi 93 (.sort 14) := zbwj_ (zbwk_ Tryz.sortSpan 14 Tryz.isAgg52 Tryz.sizeOf52) (zbwl_ Tryz.sortSpan) tok
theorem zcev_ : NatOk Tryz.prog phi 264 (.seq zcl_ 14 837723144972) :=
  natSeq (φ := phi) (it := zcl_) (vid := 212) (lim := 837723144972) (k := 14) Tryz.func264 Tryz.func212 rfl (by kernel_rfl) (by kernel_rfl) (z := zSpan) rfl zcet_ (by decide) tok
def zSpanM : Value := .agg #[.int .i64 0, .int .i64 0, .int .i64 0, .int .i64 0, .int .i64 0, .int .i64 0, .string ⟨#[]⟩, .string ⟨#[]⟩, .string ⟨#[]⟩, .int .i64 0, .int .i64 0, .bool false, .slice none 0 0, .slice none 0 0]
theorem zcew_ : (Tryz.prog.info? 52).map (fun i => (i.zero, i.size, i.bytes)) = some (some zSpanM, 14, 168) := by kernel_rfl
theorem zcex_ : NatOk Tryz.prog phi 153 (.grow 14 837723144972) := by
  obtain ⟨i0, hi, hz0, hz1, hz2⟩ := info_parts zcew_
  exact zbxc_ (zbxd_ Tryz.growSpan i0 zSpanM hi hz0 hz1 rfl (by decide) (by rw [hz2]; decide) (by decide))
theorem zcey_ : chkFun Tryz.prog phi Tryz.f52 zju_ = true := by kernel_rfl
theorem zcez_ : chkFun Tryz.prog phi Tryz.f58 zhc_ = true := by kernel_rfl
theorem zcfa_ : chkFun Tryz.prog phi Tryz.f71 zjv_ = true := by kernel_rfl
theorem zcfb_ : chkFun Tryz.prog phi Tryz.f53 zjw_ = true := by kernel_rfl
theorem zcfc_ : chkFun Tryz.prog phi Tryz.f55 zhd_ = true := by kernel_rfl
theorem zcfd_ : chkFun Tryz.prog phi Tryz.f149 zjx_ = true := by kernel_rfl
theorem zcfe_ : chkFun Tryz.prog phi Tryz.f99 zhe_ = true := by kernel_rfl
theorem zcff_ : chkFun Tryz.prog phi Tryz.f206 zjy_ = true := by kernel_rfl
theorem zcfg_ : chkFun Tryz.prog phi Tryz.f262 zjz_ = true := by kernel_rfl
theorem zcfh_ : chkFun Tryz.prog phi Tryz.f208 zka_ = true := by kernel_rfl
theorem zcfi_ : chkFun Tryz.prog phi Tryz.f204 zkc_ = true := by kernel_rfl
theorem zcfj_ : chkFun Tryz.prog phi Tryz.f205 zke_ = true := by kernel_rfl
theorem zcfk_ : chkFun Tryz.prog phi Tryz.f207 zkg_ = true := by kernel_rfl
theorem zcfl_ : chkFun Tryz.prog phi Tryz.f60 zba_ = true := by kernel_rfl
theorem zcfm_ : chkFun Tryz.prog phi Tryz.f67 zkh_ = true := by kernel_rfl
theorem zcfn_ : chkFun Tryz.prog phi Tryz.f70 zki_ = true := by kernel_rfl
theorem zcfo_ : chkFun Tryz.prog phi Tryz.f148 zkj_ = true := by kernel_rfl
theorem zcfp_ : chkFun Tryz.prog phi Tryz.f155 zax_ = true := by kernel_rfl
theorem zcfq_ : chkFun Tryz.prog phi Tryz.f32 zkk_ = true := by kernel_rfl
theorem zcfr_ : chkFun Tryz.prog phi Tryz.f74 zkl_ = true := by kernel_rfl
theorem zcfs_ : chkFun Tryz.prog phi Tryz.f64 zhf_ = true := by kernel_rfl
theorem zcft_ : chkFun Tryz.prog phi Tryz.f27 zkm_ = true := by kernel_rfl
theorem zcfu_ : chkFun Tryz.prog phi Tryz.f135 zfm_ = true := by kernel_rfl
theorem zcfv_ : chkFun Tryz.prog phi Tryz.f136 zfn_ = true := by kernel_rfl
theorem zcfw_ : chkFun Tryz.prog phi Tryz.f137 zkn_ = true := by kernel_rfl
theorem zcfx_ : chkFun Tryz.prog phi Tryz.f138 zhg_ = true := by kernel_rfl
theorem zcfy_ : chkFun Tryz.prog phi Tryz.f139 zhh_ = true := by kernel_rfl
theorem zcfz_ : chkFun Tryz.prog phi Tryz.f142 zko_ = true := by kernel_rfl
theorem zcga_ : chkFun Tryz.prog phi Tryz.f143 zkp_ = true := by kernel_rfl
theorem zcgb_ : chkFun Tryz.prog phi Tryz.f92 zfp_ = true := by kernel_rfl
theorem zcgc_ : chkFun Tryz.prog phi Tryz.f144 zhi_ = true := by kernel_rfl
theorem zcgd_ : chkFun Tryz.prog phi Tryz.f145 zkq_ = true := by kernel_rfl
theorem zcge_ : chkFun Tryz.prog phi Tryz.f146 zkr_ = true := by kernel_rfl
theorem zcgf_ : chkFun Tryz.prog phi Tryz.f147 zks_ = true := by kernel_rfl
theorem zcgg_ : chkFun Tryz.prog phi Tryz.f199 zku_ = true := by kernel_rfl
theorem zcgh_ : chkFun Tryz.prog phi Tryz.f82 zkv_ = true := by kernel_rfl
theorem zcgi_ : chkFun Tryz.prog phi Tryz.f81 zfq_ = true := by kernel_rfl
theorem zcgj_ : chkFun Tryz.prog phi Tryz.f141 zkw_ = true := by kernel_rfl
theorem zcgk_ : chkFun Tryz.prog phi Tryz.f78 zky_ = true := by kernel_rfl
theorem zcgl_ : chkFun Tryz.prog phi Tryz.f169 zkz_ = true := by kernel_rfl
theorem zcgm_ : chkFun Tryz.prog phi Tryz.f200 zla_ = true := by kernel_rfl
theorem zcgn_ : chkFun Tryz.prog phi Tryz.f201 zlb_ = true := by kernel_rfl
theorem zcgo_ : chkFun Tryz.prog phi Tryz.f202 zlc_ = true := by kernel_rfl
theorem zcgp_ : chkFun Tryz.prog phi Tryz.f203 zld_ = true := by kernel_rfl
theorem zcgq_ : chkFun Tryz.prog phi Tryz.f159 zle_ = true := by kernel_rfl
theorem zcgr_ : chkFun Tryz.prog phi Tryz.f156 zfr_ = true := by kernel_rfl
theorem zcgs_ : chkFun Tryz.prog phi Tryz.f157 zhl_ = true := by kernel_rfl
theorem zcgt_ : chkFun Tryz.prog phi Tryz.f158 zhm_ = true := by kernel_rfl
theorem zcgu_ : chkFun Tryz.prog phi Tryz.f213 zhn_ = true := by kernel_rfl
theorem zcgv_ : chkFun Tryz.prog phi Tryz.f214 zho_ = true := by kernel_rfl
theorem zcgw_ : chkFun Tryz.prog phi Tryz.f211 zhp_ = true := by kernel_rfl
theorem zcgx_ : chkFun Tryz.prog phi Tryz.f212 zuq_ = true := by kernel_rfl
theorem zcgy_ : chkFun Tryz.prog phi Tryz.f6 zem_ = true := by kernel_rfl
theorem zcgz_ : chkFun Tryz.prog phi Tryz.f12 zmc_ = true := by kernel_rfl
theorem zcha_ : chkFun Tryz.prog phi Tryz.f13 zlk_ = true := by kernel_rfl
theorem zchb_ : chkFun Tryz.prog phi Tryz.f14 zmd_ = true := by kernel_rfl
theorem zchc_ : chkFun Tryz.prog phi Tryz.f15 zme_ = true := by kernel_rfl
theorem zchd_ : chkFun Tryz.prog phi Tryz.f16 zen_ = true := by kernel_rfl
theorem zche_ : chkFun Tryz.prog phi Tryz.f17 zhz_ = true := by kernel_rfl
theorem zchf_ : chkFun Tryz.prog phi Tryz.f18 zia_ = true := by kernel_rfl
theorem zchg_ : chkFun Tryz.prog phi Tryz.f19 zib_ = true := by kernel_rfl
theorem zchh_ : chkFun Tryz.prog phi Tryz.f20 zft_ = true := by kernel_rfl
theorem zchi_ : chkFun Tryz.prog phi Tryz.f21 zmg_ = true := by kernel_rfl
theorem zchj_ : chkFun Tryz.prog phi Tryz.f22 zic_ = true := by kernel_rfl
theorem zchk_ : chkFun Tryz.prog phi Tryz.f24 zmh_ = true := by kernel_rfl
theorem zchl_ : chkFun Tryz.prog phi Tryz.f28 zid_ = true := by kernel_rfl
theorem zchm_ : chkFun Tryz.prog phi Tryz.f50 zie_ = true := by kernel_rfl
theorem zchn_ : chkFun Tryz.prog phi Tryz.f54 zhq_ = true := by kernel_rfl
theorem zcho_ : chkFun Tryz.prog phi Tryz.f59 zll_ = true := by kernel_rfl
theorem zchp_ : chkFun Tryz.prog phi Tryz.f61 zmi_ = true := by kernel_rfl
theorem zchq_ : chkFun Tryz.prog phi Tryz.f62 zmj_ = true := by kernel_rfl
theorem zchr_ : chkFun Tryz.prog phi Tryz.f63 zfu_ = true := by kernel_rfl
theorem zchs_ : chkFun Tryz.prog phi Tryz.f65 zmk_ = true := by kernel_rfl
theorem zcht_ : chkFun Tryz.prog phi Tryz.f66 zmm_ = true := by kernel_rfl
theorem zchu_ : chkFun Tryz.prog phi Tryz.f68 zif_ = true := by kernel_rfl
theorem zchv_ : chkFun Tryz.prog phi Tryz.f69 zhv_ = true := by kernel_rfl
theorem zchw_ : chkFun Tryz.prog phi Tryz.f72 zmn_ = true := by kernel_rfl
theorem zchx_ : chkFun Tryz.prog phi Tryz.f73 zmo_ = true := by kernel_rfl
theorem zchy_ : chkFun Tryz.prog phi Tryz.f76 zlh_ = true := by kernel_rfl
theorem zchz_ : chkFun Tryz.prog phi Tryz.f98 zlj_ = true := by kernel_rfl
theorem zcia_ : chkFun Tryz.prog phi Tryz.f100 zlm_ = true := by kernel_rfl
theorem zcib_ : chkFun Tryz.prog phi Tryz.f101 zln_ = true := by kernel_rfl
theorem zcic_ : chkFun Tryz.prog phi Tryz.f102 zlp_ = true := by kernel_rfl
theorem zcid_ : chkFun Tryz.prog phi Tryz.f133 zhw_ = true := by kernel_rfl
theorem zcie_ : chkFun Tryz.prog phi Tryz.f134 zlr_ = true := by kernel_rfl
theorem zcif_ : chkFun Tryz.prog phi Tryz.f140 zmp_ = true := by kernel_rfl
theorem zcig_ : chkFun Tryz.prog phi Tryz.f150 zmq_ = true := by kernel_rfl
theorem zcih_ : chkFun Tryz.prog phi Tryz.f151 zli_ = true := by kernel_rfl
theorem zcii_ : chkFun Tryz.prog phi Tryz.f172 zls_ = true := by kernel_rfl
theorem zcij_ : chkFun Tryz.prog phi Tryz.f173 zlq_ = true := by kernel_rfl
theorem zcik_ : chkFun Tryz.prog phi Tryz.f196 zlt_ = true := by kernel_rfl
theorem zcil_ : chkFun Tryz.prog phi Tryz.f197 zlu_ = true := by kernel_rfl
theorem zcim_ : chkFun Tryz.prog phi Tryz.f198 zlv_ = true := by kernel_rfl
theorem zcin_ : chkFun Tryz.prog phi Tryz.f209 zmr_ = true := by kernel_rfl
theorem zcio_ : chkFun Tryz.prog phi Tryz.f210 zms_ = true := by kernel_rfl
theorem zcip_ : chkFun Tryz.prog phi Tryz.f261 zlx_ = true := by kernel_rfl
theorem zciq_ : chkFun Tryz.prog phi Tryz.f263 zig_ = true := by kernel_rfl
theorem zcir_ : chkFun Tryz.prog phi Tryz.f299 zly_ = true := by kernel_rfl
theorem zcis_ : chkFun Tryz.prog phi Tryz.f314 zlz_ = true := by kernel_rfl
theorem zcit_ : chkFun Tryz.prog phi Tryz.f315 zct_ = true := by kernel_rfl
theorem zciu_ : chkFun Tryz.prog phi Tryz.f319 zma_ = true := by kernel_rfl
theorem zciv_ : chkFun Tryz.prog phi Tryz.f320 zmb_ = true := by kernel_rfl
def Entry (id : FuncId) (X : XF) : Prop := ∃ fn, Tryz.prog.funcs[id]? = some fn ∧ FunOk Tryz.prog phi id fn X
theorem zciw_ : Entry 52 zju_ := ⟨Tryz.f52, Tryz.func52, zcey_⟩
theorem zcix_ : Entry 58 zhc_ := ⟨Tryz.f58, Tryz.func58, zcez_⟩
theorem zciy_ : Entry 71 zjv_ := ⟨Tryz.f71, Tryz.func71, zcfa_⟩
theorem zciz_ : Entry 53 zjw_ := ⟨Tryz.f53, Tryz.func53, zcfb_⟩
theorem zcja_ : Entry 55 zhd_ := ⟨Tryz.f55, Tryz.func55, zcfc_⟩
theorem zcjb_ : Entry 149 zjx_ := ⟨Tryz.f149, Tryz.func149, zcfd_⟩
theorem zcjc_ : Entry 99 zhe_ := ⟨Tryz.f99, Tryz.func99, zcfe_⟩
theorem zcjd_ : Entry 206 zjy_ := ⟨Tryz.f206, Tryz.func206, zcff_⟩
theorem zcje_ : Entry 262 zjz_ := ⟨Tryz.f262, Tryz.func262, zcfg_⟩
theorem zcjf_ : Entry 208 zka_ := ⟨Tryz.f208, Tryz.func208, zcfh_⟩
theorem zcjg_ : Entry 204 zkc_ := ⟨Tryz.f204, Tryz.func204, zcfi_⟩
theorem zcjh_ : Entry 205 zke_ := ⟨Tryz.f205, Tryz.func205, zcfj_⟩
theorem zcji_ : Entry 207 zkg_ := ⟨Tryz.f207, Tryz.func207, zcfk_⟩
theorem zcjj_ : Entry 60 zba_ := ⟨Tryz.f60, Tryz.func60, zcfl_⟩
theorem zcjk_ : Entry 67 zkh_ := ⟨Tryz.f67, Tryz.func67, zcfm_⟩
theorem zcjl_ : Entry 70 zki_ := ⟨Tryz.f70, Tryz.func70, zcfn_⟩
theorem zcjm_ : Entry 148 zkj_ := ⟨Tryz.f148, Tryz.func148, zcfo_⟩
theorem zcjn_ : Entry 155 zax_ := ⟨Tryz.f155, Tryz.func155, zcfp_⟩
theorem zcjo_ : Entry 32 zkk_ := ⟨Tryz.f32, Tryz.func32, zcfq_⟩
theorem zcjp_ : Entry 74 zkl_ := ⟨Tryz.f74, Tryz.func74, zcfr_⟩
theorem zcjq_ : Entry 64 zhf_ := ⟨Tryz.f64, Tryz.func64, zcfs_⟩
theorem zcjr_ : Entry 27 zkm_ := ⟨Tryz.f27, Tryz.func27, zcft_⟩
theorem zcjs_ : Entry 135 zfm_ := ⟨Tryz.f135, Tryz.func135, zcfu_⟩
theorem zcjt_ : Entry 136 zfn_ := ⟨Tryz.f136, Tryz.func136, zcfv_⟩
theorem zcju_ : Entry 137 zkn_ := ⟨Tryz.f137, Tryz.func137, zcfw_⟩
theorem zcjv_ : Entry 138 zhg_ := ⟨Tryz.f138, Tryz.func138, zcfx_⟩
theorem zcjw_ : Entry 139 zhh_ := ⟨Tryz.f139, Tryz.func139, zcfy_⟩
theorem zcjx_ : Entry 142 zko_ := ⟨Tryz.f142, Tryz.func142, zcfz_⟩
theorem zcjy_ : Entry 143 zkp_ := ⟨Tryz.f143, Tryz.func143, zcga_⟩
theorem zcjz_ : Entry 92 zfp_ := ⟨Tryz.f92, Tryz.func92, zcgb_⟩
theorem zcka_ : Entry 144 zhi_ := ⟨Tryz.f144, Tryz.func144, zcgc_⟩
theorem zckb_ : Entry 145 zkq_ := ⟨Tryz.f145, Tryz.func145, zcgd_⟩
theorem zckc_ : Entry 146 zkr_ := ⟨Tryz.f146, Tryz.func146, zcge_⟩
theorem zckd_ : Entry 147 zks_ := ⟨Tryz.f147, Tryz.func147, zcgf_⟩
theorem zcke_ : Entry 199 zku_ := ⟨Tryz.f199, Tryz.func199, zcgg_⟩
theorem zckf_ : Entry 82 zkv_ := ⟨Tryz.f82, Tryz.func82, zcgh_⟩
theorem zckg_ : Entry 81 zfq_ := ⟨Tryz.f81, Tryz.func81, zcgi_⟩
theorem zckh_ : Entry 141 zkw_ := ⟨Tryz.f141, Tryz.func141, zcgj_⟩
theorem zcki_ : Entry 78 zky_ := ⟨Tryz.f78, Tryz.func78, zcgk_⟩
theorem zckj_ : Entry 169 zkz_ := ⟨Tryz.f169, Tryz.func169, zcgl_⟩
theorem zckk_ : Entry 200 zla_ := ⟨Tryz.f200, Tryz.func200, zcgm_⟩
theorem zckl_ : Entry 201 zlb_ := ⟨Tryz.f201, Tryz.func201, zcgn_⟩
theorem zckm_ : Entry 202 zlc_ := ⟨Tryz.f202, Tryz.func202, zcgo_⟩
theorem zckn_ : Entry 203 zld_ := ⟨Tryz.f203, Tryz.func203, zcgp_⟩
theorem zcko_ : Entry 159 zle_ := ⟨Tryz.f159, Tryz.func159, zcgq_⟩
theorem zckp_ : Entry 156 zfr_ := ⟨Tryz.f156, Tryz.func156, zcgr_⟩
theorem zckq_ : Entry 157 zhl_ := ⟨Tryz.f157, Tryz.func157, zcgs_⟩
theorem zckr_ : Entry 158 zhm_ := ⟨Tryz.f158, Tryz.func158, zcgt_⟩
theorem zcks_ : Entry 153 zuo_ := ⟨Tryz.f153, Tryz.func153, zcex_⟩
theorem zckt_ : Entry 213 zhn_ := ⟨Tryz.f213, Tryz.func213, zcgu_⟩
theorem zcku_ : Entry 214 zho_ := ⟨Tryz.f214, Tryz.func214, zcgv_⟩
theorem zckv_ : Entry 211 zhp_ := ⟨Tryz.f211, Tryz.func211, zcgw_⟩
theorem zckw_ : Entry 93 zup_ := ⟨Tryz.f93, Tryz.func93, zceu_⟩
theorem zckx_ : Entry 212 zuq_ := ⟨Tryz.f212, Tryz.func212, zcgx_⟩
theorem zcky_ : Entry 264 zur_ := ⟨Tryz.f264, Tryz.func264, zcev_⟩
theorem zckz_ : Entry 6 zem_ := ⟨Tryz.f6, Tryz.func6, zcgy_⟩
theorem zcla_ : Entry 12 zmc_ := ⟨Tryz.f12, Tryz.func12, zcgz_⟩
theorem zclb_ : Entry 13 zlk_ := ⟨Tryz.f13, Tryz.func13, zcha_⟩
theorem zclc_ : Entry 14 zmd_ := ⟨Tryz.f14, Tryz.func14, zchb_⟩
theorem zcld_ : Entry 15 zme_ := ⟨Tryz.f15, Tryz.func15, zchc_⟩
theorem zcle_ : Entry 16 zen_ := ⟨Tryz.f16, Tryz.func16, zchd_⟩
theorem zclf_ : Entry 17 zhz_ := ⟨Tryz.f17, Tryz.func17, zche_⟩
theorem zclg_ : Entry 18 zia_ := ⟨Tryz.f18, Tryz.func18, zchf_⟩
theorem zclh_ : Entry 19 zib_ := ⟨Tryz.f19, Tryz.func19, zchg_⟩
theorem zcli_ : Entry 20 zft_ := ⟨Tryz.f20, Tryz.func20, zchh_⟩
theorem zclj_ : Entry 21 zmg_ := ⟨Tryz.f21, Tryz.func21, zchi_⟩
theorem zclk_ : Entry 22 zic_ := ⟨Tryz.f22, Tryz.func22, zchj_⟩
theorem zcll_ : Entry 24 zmh_ := ⟨Tryz.f24, Tryz.func24, zchk_⟩
theorem zclm_ : Entry 28 zid_ := ⟨Tryz.f28, Tryz.func28, zchl_⟩
theorem zcln_ : Entry 50 zie_ := ⟨Tryz.f50, Tryz.func50, zchm_⟩
theorem zclo_ : Entry 54 zhq_ := ⟨Tryz.f54, Tryz.func54, zchn_⟩
theorem zclp_ : Entry 59 zll_ := ⟨Tryz.f59, Tryz.func59, zcho_⟩
theorem zclq_ : Entry 61 zmi_ := ⟨Tryz.f61, Tryz.func61, zchp_⟩
theorem zclr_ : Entry 62 zmj_ := ⟨Tryz.f62, Tryz.func62, zchq_⟩
theorem zcls_ : Entry 63 zfu_ := ⟨Tryz.f63, Tryz.func63, zchr_⟩
theorem zclt_ : Entry 65 zmk_ := ⟨Tryz.f65, Tryz.func65, zchs_⟩
theorem zclu_ : Entry 66 zmm_ := ⟨Tryz.f66, Tryz.func66, zcht_⟩
theorem zclv_ : Entry 68 zif_ := ⟨Tryz.f68, Tryz.func68, zchu_⟩
theorem zclw_ : Entry 69 zhv_ := ⟨Tryz.f69, Tryz.func69, zchv_⟩
theorem zclx_ : Entry 72 zmn_ := ⟨Tryz.f72, Tryz.func72, zchw_⟩
theorem zcly_ : Entry 73 zmo_ := ⟨Tryz.f73, Tryz.func73, zchx_⟩
theorem zclz_ : Entry 76 zlh_ := ⟨Tryz.f76, Tryz.func76, zchy_⟩
theorem zcma_ : Entry 98 zlj_ := ⟨Tryz.f98, Tryz.func98, zchz_⟩
theorem zcmb_ : Entry 100 zlm_ := ⟨Tryz.f100, Tryz.func100, zcia_⟩
theorem zcmc_ : Entry 101 zln_ := ⟨Tryz.f101, Tryz.func101, zcib_⟩
theorem zcmd_ : Entry 102 zlp_ := ⟨Tryz.f102, Tryz.func102, zcic_⟩
theorem zcme_ : Entry 133 zhw_ := ⟨Tryz.f133, Tryz.func133, zcid_⟩
theorem zcmf_ : Entry 134 zlr_ := ⟨Tryz.f134, Tryz.func134, zcie_⟩
theorem zcmg_ : Entry 140 zmp_ := ⟨Tryz.f140, Tryz.func140, zcif_⟩
theorem zcmh_ : Entry 150 zmq_ := ⟨Tryz.f150, Tryz.func150, zcig_⟩
theorem zcmi_ : Entry 151 zli_ := ⟨Tryz.f151, Tryz.func151, zcih_⟩
theorem zcmj_ : Entry 172 zls_ := ⟨Tryz.f172, Tryz.func172, zcii_⟩
theorem zcmk_ : Entry 173 zlq_ := ⟨Tryz.f173, Tryz.func173, zcij_⟩
theorem zcml_ : Entry 196 zlt_ := ⟨Tryz.f196, Tryz.func196, zcik_⟩
theorem zcmm_ : Entry 197 zlu_ := ⟨Tryz.f197, Tryz.func197, zcil_⟩
theorem zcmn_ : Entry 198 zlv_ := ⟨Tryz.f198, Tryz.func198, zcim_⟩
theorem zcmo_ : Entry 209 zmr_ := ⟨Tryz.f209, Tryz.func209, zcin_⟩
theorem zcmp_ : Entry 210 zms_ := ⟨Tryz.f210, Tryz.func210, zcio_⟩
theorem zcmq_ : Entry 261 zlx_ := ⟨Tryz.f261, Tryz.func261, zcip_⟩
theorem zcmr_ : Entry 263 zig_ := ⟨Tryz.f263, Tryz.func263, zciq_⟩
theorem zcms_ : Entry 299 zly_ := ⟨Tryz.f299, Tryz.func299, zcir_⟩
theorem zcmt_ : Entry 314 zlz_ := ⟨Tryz.f314, Tryz.func314, zcis_⟩
theorem zcmu_ : Entry 315 zct_ := ⟨Tryz.f315, Tryz.func315, zcit_⟩
theorem zcmv_ : Entry 319 zma_ := ⟨Tryz.f319, Tryz.func319, zciu_⟩
theorem zcmw_ : Entry 320 zmb_ := ⟨Tryz.f320, Tryz.func320, zciv_⟩
def Fit (a : Option FuncId) (x : Option XF) : Prop := ∀ id, a = some id → ∃ X, x = some X ∧ Entry id X
theorem Fit.of {id : FuncId} {X : XF} (t : Entry id X) : Fit (some id) (some X) := fun _ h => by cases h; exact ⟨X, rfl, t⟩
theorem Fit.none (x : Option XF) : Fit Option.none x := fun _ h => by cases h
theorem each : Each Fit phiL XPL :=
  .cons (.none _) <|
  .cons (.none _) <|
  .cons (.none _) <|
  .cons (.none _) <|
  .cons (.none _) <|
  .cons (.none _) <|
  .cons (.none _) <|
  .cons (.none _) <|
  .cons (.none _) <|
  .cons (.of zciw_) <|
  .cons (.of zcix_) <|
  .cons (.none _) <|
  .cons (.none _) <|
  .cons (.none _) <|
  .cons (.none _) <|
  .cons (.none _) <|
  .cons (.none _) <|
  .cons (.none _) <|
  .cons (.none _) <|
  .cons (.none _) <|
  .cons (.none _) <|
  .cons (.none _) <|
  .cons (.none _) <|
  .cons (.none _) <|
  .cons (.none _) <|
  .cons (.none _) <|
  .cons (.none _) <|
  .cons (.none _) <|
  .cons (.none _) <|
  .cons (.none _) <|
  .cons (.of zciy_) <|
  .cons (.none _) <|
  .cons (.none _) <|
  .cons (.of zciz_) <|
  .cons (.of zcja_) <|
  .cons (.of zcjb_) <|
  .cons (.none _) <|
  .cons (.none _) <|
  .cons (.none _) <|
  .cons (.none _) <|
  .cons (.none _) <|
  .cons (.none _) <|
  .cons (.none _) <|
  .cons (.none _) <|
  .cons (.none _) <|
  .cons (.none _) <|
  .cons (.none _) <|
  .cons (.of zcjc_) <|
  .cons (.of zcjd_) <|
  .cons (.none _) <|
  .cons (.none _) <|
  .cons (.none _) <|
  .cons (.none _) <|
  .cons (.none _) <|
  .cons (.none _) <|
  .cons (.of zcje_) <|
  .cons (.none _) <|
  .cons (.none _) <|
  .cons (.of zcjf_) <|
  .cons (.none _) <|
  .cons (.none _) <|
  .cons (.none _) <|
  .cons (.none _) <|
  .cons (.none _) <|
  .cons (.none _) <|
  .cons (.none _) <|
  .cons (.none _) <|
  .cons (.none _) <|
  .cons (.none _) <|
  .cons (.none _) <|
  .cons (.none _) <|
  .cons (.none _) <|
  .cons (.none _) <|
  .cons (.none _) <|
  .cons (.none _) <|
  .cons (.none _) <|
  .cons (.of zcjg_) <|
  .cons (.none _) <|
  .cons (.none _) <|
  .cons (.of zcjh_) <|
  .cons (.of zcji_) <|
  .cons (.none _) <|
  .cons (.none _) <|
  .cons (.none _) <|
  .cons (.none _) <|
  .cons (.none _) <|
  .cons (.none _) <|
  .cons (.none _) <|
  .cons (.none _) <|
  .cons (.none _) <|
  .cons (.none _) <|
  .cons (.none _) <|
  .cons (.none _) <|
  .cons (.none _) <|
  .cons (.none _) <|
  .cons (.none _) <|
  .cons (.none _) <|
  .cons (.none _) <|
  .cons (.none _) <|
  .cons (.none _) <|
  .cons (.none _) <|
  .cons (.none _) <|
  .cons (.none _) <|
  .cons (.none _) <|
  .cons (.none _) <|
  .cons (.none _) <|
  .cons (.none _) <|
  .cons (.none _) <|
  .cons (.none _) <|
  .cons (.none _) <|
  .cons (.none _) <|
  .cons (.none _) <|
  .cons (.none _) <|
  .cons (.none _) <|
  .cons (.none _) <|
  .cons (.none _) <|
  .cons (.none _) <|
  .cons (.none _) <|
  .cons (.none _) <|
  .cons (.none _) <|
  .cons (.none _) <|
  .cons (.none _) <|
  .cons (.none _) <|
  .cons (.none _) <|
  .cons (.none _) <|
  .cons (.none _) <|
  .cons (.none _) <|
  .cons (.none _) <|
  .cons (.none _) <|
  .cons (.none _) <|
  .cons (.none _) <|
  .cons (.none _) <|
  .cons (.none _) <|
  .cons (.none _) <|
  .cons (.none _) <|
  .cons (.none _) <|
  .cons (.none _) <|
  .cons (.none _) <|
  .cons (.none _) <|
  .cons (.none _) <|
  .cons (.none _) <|
  .cons (.none _) <|
  .cons (.none _) <|
  .cons (.none _) <|
  .cons (.none _) <|
  .cons (.none _) <|
  .cons (.none _) <|
  .cons (.none _) <|
  .cons (.none _) <|
  .cons (.none _) <|
  .cons (.none _) <|
  .cons (.none _) <|
  .cons (.none _) <|
  .cons (.none _) <|
  .cons (.none _) <|
  .cons (.none _) <|
  .cons (.none _) <|
  .cons (.of zcjj_) <|
  .cons (.none _) <|
  .cons (.none _) <|
  .cons (.of zcjk_) <|
  .cons (.none _) <|
  .cons (.of zcjl_) <|
  .cons (.none _) <|
  .cons (.of zcjm_) <|
  .cons (.none _) <|
  .cons (.none _) <|
  .cons (.none _) <|
  .cons (.none _) <|
  .cons (.none _) <|
  .cons (.none _) <|
  .cons (.of zcjn_) <|
  .cons (.none _) <|
  .cons (.none _) <|
  .cons (.none _) <|
  .cons (.none _) <|
  .cons (.none _) <|
  .cons (.none _) <|
  .cons (.none _) <|
  .cons (.none _) <|
  .cons (.of zcjo_) <|
  .cons (.of zcjp_) <|
  .cons (.none _) <|
  .cons (.none _) <|
  .cons (.of zcjq_) <|
  .cons (.none _) <|
  .cons (.of zcjr_) <|
  .cons (.none _) <|
  .cons (.none _) <|
  .cons (.of zcjs_) <|
  .cons (.of zcjt_) <|
  .cons (.of zcju_) <|
  .cons (.of zcjv_) <|
  .cons (.of zcjw_) <|
  .cons (.none _) <|
  .cons (.of zcjx_) <|
  .cons (.of zcjy_) <|
  .cons (.of zcjz_) <|
  .cons (.of zcka_) <|
  .cons (.of zckb_) <|
  .cons (.of zckc_) <|
  .cons (.of zckd_) <|
  .cons (.none _) <|
  .cons (.none _) <|
  .cons (.none _) <|
  .cons (.none _) <|
  .cons (.none _) <|
  .cons (.none _) <|
  .cons (.of zcke_) <|
  .cons (.none _) <|
  .cons (.none _) <|
  .cons (.none _) <|
  .cons (.of zckf_) <|
  .cons (.of zckg_) <|
  .cons (.of zckh_) <|
  .cons (.of zcki_) <|
  .cons (.none _) <|
  .cons (.of zckj_) <|
  .cons (.of zckk_) <|
  .cons (.of zckl_) <|
  .cons (.of zckm_) <|
  .cons (.of zckn_) <|
  .cons (.none _) <|
  .cons (.none _) <|
  .cons (.of zcko_) <|
  .cons (.of zckp_) <|
  .cons (.of zckq_) <|
  .cons (.of zckr_) <|
  .cons (.of zcks_) <|
  .cons (.of zckt_) <|
  .cons (.of zcku_) <|
  .cons (.of zckv_) <|
  .cons (.of zckw_) <|
  .cons (.of zckx_) <|
  .cons (.of zcky_) <|
  .cons (.none _) <|
  .cons (.none _) <|
  .cons (.none _) <|
  .cons (.none _) <|
  .cons (.none _) <|
  .cons (.none _) <|
  .cons (.none _) <|
  .cons (.none _) <|
  .cons (.none _) <|
  .cons (.none _) <|
  .cons (.none _) <|
  .cons (.none _) <|
  .cons (.none _) <|
  .cons (.none _) <|
  .cons (.none _) <|
  .cons (.none _) <|
  .cons (.none _) <|
  .cons (.none _) <|
  .cons (.of zckz_) <|
  .cons (.none _) <|
  .cons (.none _) <|
  .cons (.none _) <|
  .cons (.none _) <|
  .cons (.none _) <|
  .cons (.of zcla_) <|
  .cons (.of zclb_) <|
  .cons (.of zclc_) <|
  .cons (.of zcld_) <|
  .cons (.of zcle_) <|
  .cons (.of zclf_) <|
  .cons (.of zclg_) <|
  .cons (.of zclh_) <|
  .cons (.of zcli_) <|
  .cons (.of zclj_) <|
  .cons (.of zclk_) <|
  .cons (.none _) <|
  .cons (.of zcll_) <|
  .cons (.none _) <|
  .cons (.none _) <|
  .cons (.of zclm_) <|
  .cons (.none _) <|
  .cons (.none _) <|
  .cons (.none _) <|
  .cons (.none _) <|
  .cons (.none _) <|
  .cons (.none _) <|
  .cons (.none _) <|
  .cons (.none _) <|
  .cons (.none _) <|
  .cons (.none _) <|
  .cons (.none _) <|
  .cons (.none _) <|
  .cons (.none _) <|
  .cons (.none _) <|
  .cons (.none _) <|
  .cons (.none _) <|
  .cons (.none _) <|
  .cons (.none _) <|
  .cons (.none _) <|
  .cons (.of zcln_) <|
  .cons (.none _) <|
  .cons (.of zclo_) <|
  .cons (.none _) <|
  .cons (.none _) <|
  .cons (.of zclp_) <|
  .cons (.of zclq_) <|
  .cons (.of zclr_) <|
  .cons (.of zcls_) <|
  .cons (.of zclt_) <|
  .cons (.of zclu_) <|
  .cons (.of zclv_) <|
  .cons (.of zclw_) <|
  .cons (.of zclx_) <|
  .cons (.of zcly_) <|
  .cons (.none _) <|
  .cons (.of zclz_) <|
  .cons (.none _) <|
  .cons (.none _) <|
  .cons (.none _) <|
  .cons (.none _) <|
  .cons (.none _) <|
  .cons (.none _) <|
  .cons (.none _) <|
  .cons (.none _) <|
  .cons (.none _) <|
  .cons (.none _) <|
  .cons (.none _) <|
  .cons (.none _) <|
  .cons (.none _) <|
  .cons (.none _) <|
  .cons (.of zcma_) <|
  .cons (.of zcmb_) <|
  .cons (.of zcmc_) <|
  .cons (.of zcmd_) <|
  .cons (.none _) <|
  .cons (.none _) <|
  .cons (.none _) <|
  .cons (.none _) <|
  .cons (.none _) <|
  .cons (.none _) <|
  .cons (.none _) <|
  .cons (.none _) <|
  .cons (.none _) <|
  .cons (.none _) <|
  .cons (.none _) <|
  .cons (.none _) <|
  .cons (.none _) <|
  .cons (.none _) <|
  .cons (.none _) <|
  .cons (.none _) <|
  .cons (.none _) <|
  .cons (.none _) <|
  .cons (.none _) <|
  .cons (.none _) <|
  .cons (.none _) <|
  .cons (.none _) <|
  .cons (.none _) <|
  .cons (.of zcme_) <|
  .cons (.of zcmf_) <|
  .cons (.of zcmg_) <|
  .cons (.of zcmh_) <|
  .cons (.of zcmi_) <|
  .cons (.none _) <|
  .cons (.none _) <|
  .cons (.none _) <|
  .cons (.none _) <|
  .cons (.none _) <|
  .cons (.none _) <|
  .cons (.none _) <|
  .cons (.none _) <|
  .cons (.none _) <|
  .cons (.none _) <|
  .cons (.none _) <|
  .cons (.of zcmj_) <|
  .cons (.of zcmk_) <|
  .cons (.none _) <|
  .cons (.none _) <|
  .cons (.none _) <|
  .cons (.none _) <|
  .cons (.none _) <|
  .cons (.none _) <|
  .cons (.none _) <|
  .cons (.none _) <|
  .cons (.none _) <|
  .cons (.none _) <|
  .cons (.none _) <|
  .cons (.none _) <|
  .cons (.none _) <|
  .cons (.none _) <|
  .cons (.none _) <|
  .cons (.of zcml_) <|
  .cons (.of zcmm_) <|
  .cons (.of zcmn_) <|
  .cons (.of zcmo_) <|
  .cons (.of zcmp_) <|
  .cons (.none _) <|
  .cons (.none _) <|
  .cons (.none _) <|
  .cons (.none _) <|
  .cons (.none _) <|
  .cons (.none _) <|
  .cons (.none _) <|
  .cons (.none _) <|
  .cons (.none _) <|
  .cons (.none _) <|
  .cons (.none _) <|
  .cons (.none _) <|
  .cons (.none _) <|
  .cons (.none _) <|
  .cons (.none _) <|
  .cons (.none _) <|
  .cons (.none _) <|
  .cons (.none _) <|
  .cons (.none _) <|
  .cons (.none _) <|
  .cons (.none _) <|
  .cons (.none _) <|
  .cons (.none _) <|
  .cons (.none _) <|
  .cons (.none _) <|
  .cons (.none _) <|
  .cons (.none _) <|
  .cons (.none _) <|
  .cons (.none _) <|
  .cons (.of zcmq_) <|
  .cons (.of zcmr_) <|
  .cons (.none _) <|
  .cons (.none _) <|
  .cons (.none _) <|
  .cons (.none _) <|
  .cons (.none _) <|
  .cons (.none _) <|
  .cons (.none _) <|
  .cons (.none _) <|
  .cons (.none _) <|
  .cons (.none _) <|
  .cons (.none _) <|
  .cons (.none _) <|
  .cons (.none _) <|
  .cons (.none _) <|
  .cons (.none _) <|
  .cons (.none _) <|
  .cons (.none _) <|
  .cons (.none _) <|
  .cons (.none _) <|
  .cons (.none _) <|
  .cons (.none _) <|
  .cons (.none _) <|
  .cons (.of zcms_) <|
  .cons (.none _) <|
  .cons (.none _) <|
  .cons (.none _) <|
  .cons (.none _) <|
  .cons (.none _) <|
  .cons (.none _) <|
  .cons (.none _) <|
  .cons (.of zcmt_) <|
  .cons (.of zcmu_) <|
  .cons (.none _) <|
  .cons (.none _) <|
  .cons (.of zcmv_) <|
  .cons (.of zcmw_) <| .nil
theorem zcmx_ (f : Nat) (id : FuncId) (X : XF) (h1 : phi f = some id) (h2 : XP f = some X) : Entry id X := by
  obtain ⟨Y, h3, h4⟩ := (each.get Fit.none f : Fit (phi f) (XP f)) id h1
  have h3 : XP f = some Y := h3
  rw [h2] at h3
  cases h3
  exact h4
theorem table : Table Tryz.prog phi XP where
  follows := by kernel_rfl
  there := tok
  code := fun f id X h hx => zcmx_ f id X h hx
theorem zcmy_ : ownKnob Tryz.prog.godebug = none := by kernel_rfl
theorem zcmz_ : laidOutB Tryz.prog = true := by kernel_rfl
end Go.Proofs.Sl
