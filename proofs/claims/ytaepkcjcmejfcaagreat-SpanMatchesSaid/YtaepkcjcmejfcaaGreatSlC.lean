/- The functions of the program are what the evaluator has for them. -/
import Derived.Test.YtaepkcjcmejfcaaGreatProg
import Derived.Test.YtaepkcjcmejfcaaGreatSlB
import Derived.Test.YtaepkcjcmejfcaaGreatSlP
import Derived.Test.YtaepkcjcmejfcaaGreatSlN
import Derived.Shelf.SlGeneric
import Derived.Ground.SlsfProg
set_option linter.unusedVariables false
set_option linter.unusedSimpArgs false
set_option linter.unnecessarySimpa false
set_option maxRecDepth 100000
namespace Go.Proofs.Sl
def phiL : List (Option FuncId) := [none, none, none, none, none, none, none, none, none, none, none, none, none, none, none, none, none, none, none, none, none, none, none, none, none, none, none, none, none, none, none, none, none, none, none, none, none, none, none, none, none, none, none, none, none, none, none, none, none, none, none, none, none, none, none, none, none, none, none, none, none, none, none, none, none, none, none, none, none, none, none, none, none, none, none, none, none, none, none, none, none, none, none, none, none, none, none, none, none, none, none, none, none, none, none, none, none, none, none, none, none, none, none, none, none, none, none, none, none, none, none, none, none, none, none, none, none, none, none, none, none, none, none, none, none, none, none, none, none, none, none, none, none, none, none, none, none, none, none, none, none, none, none, none, none, none, none, none, none, none, none, none, none, none, none, none, some 5, some 22, none, some 27, some 38, some 17, some 82, some 37, some 72, some 42, some 24, some 9, some 21, some 51, some 10, some 62, none, some 50, some 85, none, some 28, some 86, none, none, some 60, some 23, some 8, some 13, none, none, none, some 20, none, some 55, some 56, some 57, some 58, some 59, none, some 66, some 67, some 68, some 69, some 54, some 70, some 71, some 40, some 41, some 29, some 52, some 53, some 84, some 87, some 83, some 102, some 101, some 34, some 48, none, none, some 49, some 89, some 90, some 91, some 92, some 64, some 99, some 100, some 39, some 79, some 80, some 81, none, some 73, some 74, some 96, some 97, some 98, some 114, none, none, none, none, none, none, none, none, none, none, none, none, none, none, none, none, none, none, none, none, none, none, none, none, none, none, none, none, none, none, none, none, none, none, none, none, none, none, none, none, some 6, some 7, none, none, none, none, none, none, none, none, none, none, none, none, none, none, none, none, none, none, none, none, none, none, none, none, none, none, none, none, none, none, none, none, none, none, none, some 25, some 26, some 11, none, some 12, none, none, none, none, none, none, none, none, none, none, none, none, none, none, none, none, none, none, none, none, none, none, none, none, none, none, none, none, none, none, none, none, none, none, none, none, none, none, none, none, none, some 61, some 30, some 31, some 32, some 33, none, none, none, none, none, some 150, none, none, none, none, none, none, none, none, none, none, none, none, none, none, none, none, none, none, none, none, none, some 63, some 65, none, none, none, none, none, none, none, none, none, none, none, none, none, none, none, none, none, none, none, none, none, none, none, none, none, none, none, none, none, some 88, none, none, none, none, none, none, none, none, none, none, none, none, none, none, none, none, none, none, none, none, none, none, none, none, none, none, none, none, none, none, none, none, none, none, none, none, none, none, none, none, none, none, none, none, none, none, none, none, none, none, none, none, none, none, none, none, none, none, none, none, none, none, none, none, none, none, none, none, none, none, none, none, none, none, none, none, none, none, none, none, none, none, none, none, none, none, none, none, none, none, none, none, none, none, none, none, none, none, some 3, none, some 14, none, some 35, some 149, some 151]
def phi : Nat → Option FuncId := fun n => phiL.getD n none
inductive Each (p : Option FuncId → Option XF → Prop) : List (Option FuncId) → List (Option XF) → Prop
  | nil {l : List (Option XF)} : Each p [] l
  | cons {a : Option FuncId} {x : Option XF} {r : List (Option FuncId)} {l : List (Option XF)} (h : p a x) (k : Each p r l) : Each p (a :: r) (x :: l)
theorem Each.get {p : Option FuncId → Option XF → Prop} (h0 : ∀ x, p none x) : ∀ {r : List (Option FuncId)} {l : List (Option XF)}, Each p r l → ∀ f, p (r.getD f none) (l.getD f none)
  | _, _, .nil, f => by simpa using h0 _
  | _, _, .cons h k, 0 => by simpa using h
  | _, _, .cons h k, f + 1 => by simpa using k.get h0 f
def There (id : FuncId) : Prop := ∃ fn : Func, Tryz.prog.funcs[id]? = some fn ∧ (fn.name == "runtime.NumGoroutine") = false ∧ fn.body.isNone = false
theorem zbxd_ : There 5 := ⟨Tryz.f5, Tryz.func5, by kernel_rfl, by kernel_rfl⟩
theorem zbxe_ : There 22 := ⟨Tryz.f22, Tryz.func22, by kernel_rfl, by kernel_rfl⟩
theorem zbxf_ : There 27 := ⟨Tryz.f27, Tryz.func27, by kernel_rfl, by kernel_rfl⟩
theorem zbxg_ : There 38 := ⟨Tryz.f38, Tryz.func38, by kernel_rfl, by kernel_rfl⟩
theorem zbxh_ : There 17 := ⟨Tryz.f17, Tryz.func17, by kernel_rfl, by kernel_rfl⟩
theorem zbxi_ : There 82 := ⟨Tryz.f82, Tryz.func82, by kernel_rfl, by kernel_rfl⟩
theorem zbxj_ : There 37 := ⟨Tryz.f37, Tryz.func37, by kernel_rfl, by kernel_rfl⟩
theorem zbxk_ : There 72 := ⟨Tryz.f72, Tryz.func72, by kernel_rfl, by kernel_rfl⟩
theorem zbxl_ : There 42 := ⟨Tryz.f42, Tryz.func42, by kernel_rfl, by kernel_rfl⟩
theorem zbxm_ : There 24 := ⟨Tryz.f24, Tryz.func24, by kernel_rfl, by kernel_rfl⟩
theorem zbxn_ : There 9 := ⟨Tryz.f9, Tryz.func9, by kernel_rfl, by kernel_rfl⟩
theorem zbxo_ : There 21 := ⟨Tryz.f21, Tryz.func21, by kernel_rfl, by kernel_rfl⟩
theorem zbxp_ : There 51 := ⟨Tryz.f51, Tryz.func51, by kernel_rfl, by kernel_rfl⟩
theorem zbxq_ : There 10 := ⟨Tryz.f10, Tryz.func10, by kernel_rfl, by kernel_rfl⟩
theorem zbxr_ : There 62 := ⟨Tryz.f62, Tryz.func62, by kernel_rfl, by kernel_rfl⟩
theorem zbxs_ : There 50 := ⟨Tryz.f50, Tryz.func50, by kernel_rfl, by kernel_rfl⟩
theorem zbxt_ : There 85 := ⟨Tryz.f85, Tryz.func85, by kernel_rfl, by kernel_rfl⟩
theorem zbxu_ : There 28 := ⟨Tryz.f28, Tryz.func28, by kernel_rfl, by kernel_rfl⟩
theorem zbxv_ : There 86 := ⟨Tryz.f86, Tryz.func86, by kernel_rfl, by kernel_rfl⟩
theorem zbxw_ : There 60 := ⟨Tryz.f60, Tryz.func60, by kernel_rfl, by kernel_rfl⟩
theorem zbxx_ : There 23 := ⟨Tryz.f23, Tryz.func23, by kernel_rfl, by kernel_rfl⟩
theorem zbxy_ : There 8 := ⟨Tryz.f8, Tryz.func8, by kernel_rfl, by kernel_rfl⟩
theorem zbxz_ : There 13 := ⟨Tryz.f13, Tryz.func13, by kernel_rfl, by kernel_rfl⟩
theorem zbya_ : There 20 := ⟨Tryz.f20, Tryz.func20, by kernel_rfl, by kernel_rfl⟩
theorem zbyb_ : There 55 := ⟨Tryz.f55, Tryz.func55, by kernel_rfl, by kernel_rfl⟩
theorem zbyc_ : There 56 := ⟨Tryz.f56, Tryz.func56, by kernel_rfl, by kernel_rfl⟩
theorem zbyd_ : There 57 := ⟨Tryz.f57, Tryz.func57, by kernel_rfl, by kernel_rfl⟩
theorem zbye_ : There 58 := ⟨Tryz.f58, Tryz.func58, by kernel_rfl, by kernel_rfl⟩
theorem zbyf_ : There 59 := ⟨Tryz.f59, Tryz.func59, by kernel_rfl, by kernel_rfl⟩
theorem zbyg_ : There 66 := ⟨Tryz.f66, Tryz.func66, by kernel_rfl, by kernel_rfl⟩
theorem zbyh_ : There 67 := ⟨Tryz.f67, Tryz.func67, by kernel_rfl, by kernel_rfl⟩
theorem zbyi_ : There 68 := ⟨Tryz.f68, Tryz.func68, by kernel_rfl, by kernel_rfl⟩
theorem zbyj_ : There 69 := ⟨Tryz.f69, Tryz.func69, by kernel_rfl, by kernel_rfl⟩
theorem zbyk_ : There 54 := ⟨Tryz.f54, Tryz.func54, by kernel_rfl, by kernel_rfl⟩
theorem zbyl_ : There 70 := ⟨Tryz.f70, Tryz.func70, by kernel_rfl, by kernel_rfl⟩
theorem zbym_ : There 71 := ⟨Tryz.f71, Tryz.func71, by kernel_rfl, by kernel_rfl⟩
theorem zbyn_ : There 40 := ⟨Tryz.f40, Tryz.func40, by kernel_rfl, by kernel_rfl⟩
theorem zbyo_ : There 41 := ⟨Tryz.f41, Tryz.func41, by kernel_rfl, by kernel_rfl⟩
theorem zbyp_ : There 29 := ⟨Tryz.f29, Tryz.func29, by kernel_rfl, by kernel_rfl⟩
theorem zbyq_ : There 52 := ⟨Tryz.f52, Tryz.func52, by kernel_rfl, by kernel_rfl⟩
theorem zbyr_ : There 53 := ⟨Tryz.f53, Tryz.func53, by kernel_rfl, by kernel_rfl⟩
theorem zbys_ : There 84 := ⟨Tryz.f84, Tryz.func84, by kernel_rfl, by kernel_rfl⟩
theorem zbyt_ : There 87 := ⟨Tryz.f87, Tryz.func87, by kernel_rfl, by kernel_rfl⟩
theorem zbyu_ : There 83 := ⟨Tryz.f83, Tryz.func83, by kernel_rfl, by kernel_rfl⟩
theorem zbyv_ : There 102 := ⟨Tryz.f102, Tryz.func102, by kernel_rfl, by kernel_rfl⟩
theorem zbyw_ : There 101 := ⟨Tryz.f101, Tryz.func101, by kernel_rfl, by kernel_rfl⟩
theorem zbyx_ : There 34 := ⟨Tryz.f34, Tryz.func34, by kernel_rfl, by kernel_rfl⟩
theorem zbyy_ : There 48 := ⟨Tryz.f48, Tryz.func48, by kernel_rfl, by kernel_rfl⟩
theorem zbyz_ : There 49 := ⟨Tryz.f49, Tryz.func49, by kernel_rfl, by kernel_rfl⟩
theorem zbza_ : There 89 := ⟨Tryz.f89, Tryz.func89, by kernel_rfl, by kernel_rfl⟩
theorem zbzb_ : There 90 := ⟨Tryz.f90, Tryz.func90, by kernel_rfl, by kernel_rfl⟩
theorem zbzc_ : There 91 := ⟨Tryz.f91, Tryz.func91, by kernel_rfl, by kernel_rfl⟩
theorem zbzd_ : There 92 := ⟨Tryz.f92, Tryz.func92, by kernel_rfl, by kernel_rfl⟩
theorem zbze_ : There 64 := ⟨Tryz.f64, Tryz.func64, by kernel_rfl, by kernel_rfl⟩
theorem zbzf_ : There 99 := ⟨Tryz.f99, Tryz.func99, by kernel_rfl, by kernel_rfl⟩
theorem zbzg_ : There 100 := ⟨Tryz.f100, Tryz.func100, by kernel_rfl, by kernel_rfl⟩
theorem zbzh_ : There 39 := ⟨Tryz.f39, Tryz.func39, by kernel_rfl, by kernel_rfl⟩
theorem zbzi_ : There 79 := ⟨Tryz.f79, Tryz.func79, by kernel_rfl, by kernel_rfl⟩
theorem zbzj_ : There 80 := ⟨Tryz.f80, Tryz.func80, by kernel_rfl, by kernel_rfl⟩
theorem zbzk_ : There 81 := ⟨Tryz.f81, Tryz.func81, by kernel_rfl, by kernel_rfl⟩
theorem zbzl_ : There 73 := ⟨Tryz.f73, Tryz.func73, by kernel_rfl, by kernel_rfl⟩
theorem zbzm_ : There 74 := ⟨Tryz.f74, Tryz.func74, by kernel_rfl, by kernel_rfl⟩
theorem zbzn_ : There 96 := ⟨Tryz.f96, Tryz.func96, by kernel_rfl, by kernel_rfl⟩
theorem zbzo_ : There 97 := ⟨Tryz.f97, Tryz.func97, by kernel_rfl, by kernel_rfl⟩
theorem zbzp_ : There 98 := ⟨Tryz.f98, Tryz.func98, by kernel_rfl, by kernel_rfl⟩
theorem zbzq_ : There 114 := ⟨Tryz.f114, Tryz.func114, by kernel_rfl, by kernel_rfl⟩
theorem zbzr_ : There 6 := ⟨Tryz.f6, Tryz.func6, by kernel_rfl, by kernel_rfl⟩
theorem zbzs_ : There 7 := ⟨Tryz.f7, Tryz.func7, by kernel_rfl, by kernel_rfl⟩
theorem zbzt_ : There 25 := ⟨Tryz.f25, Tryz.func25, by kernel_rfl, by kernel_rfl⟩
theorem zbzu_ : There 26 := ⟨Tryz.f26, Tryz.func26, by kernel_rfl, by kernel_rfl⟩
theorem zbzv_ : There 11 := ⟨Tryz.f11, Tryz.func11, by kernel_rfl, by kernel_rfl⟩
theorem zbzw_ : There 12 := ⟨Tryz.f12, Tryz.func12, by kernel_rfl, by kernel_rfl⟩
theorem zbzx_ : There 61 := ⟨Tryz.f61, Tryz.func61, by kernel_rfl, by kernel_rfl⟩
theorem zbzy_ : There 30 := ⟨Tryz.f30, Tryz.func30, by kernel_rfl, by kernel_rfl⟩
theorem zbzz_ : There 31 := ⟨Tryz.f31, Tryz.func31, by kernel_rfl, by kernel_rfl⟩
theorem zcaa_ : There 32 := ⟨Tryz.f32, Tryz.func32, by kernel_rfl, by kernel_rfl⟩
theorem zcab_ : There 33 := ⟨Tryz.f33, Tryz.func33, by kernel_rfl, by kernel_rfl⟩
theorem zcac_ : There 150 := ⟨Tryz.f150, Tryz.func150, by kernel_rfl, by kernel_rfl⟩
theorem zcad_ : There 63 := ⟨Tryz.f63, Tryz.func63, by kernel_rfl, by kernel_rfl⟩
theorem zcae_ : There 65 := ⟨Tryz.f65, Tryz.func65, by kernel_rfl, by kernel_rfl⟩
theorem zcaf_ : There 88 := ⟨Tryz.f88, Tryz.func88, by kernel_rfl, by kernel_rfl⟩
theorem zcag_ : There 3 := ⟨Tryz.f3, Tryz.func3, by kernel_rfl, by kernel_rfl⟩
theorem zcah_ : There 14 := ⟨Tryz.f14, Tryz.func14, by kernel_rfl, by kernel_rfl⟩
theorem zcai_ : There 35 := ⟨Tryz.f35, Tryz.func35, by kernel_rfl, by kernel_rfl⟩
theorem zcaj_ : There 149 := ⟨Tryz.f149, Tryz.func149, by kernel_rfl, by kernel_rfl⟩
theorem zcak_ : There 151 := ⟨Tryz.f151, Tryz.func151, by kernel_rfl, by kernel_rfl⟩
def FitT (a : Option FuncId) (_ : Option XF) : Prop := ∀ id, a = some id → There id
theorem FitT.of {id : FuncId} {x : Option XF} (t : There id) : FitT (some id) x := fun _ h => by cases h; exact t
theorem FitT.none (x : Option XF) : FitT Option.none x := fun _ h => by cases h
theorem eachT : Each FitT phiL XPL :=
  .cons (.none _) <|
  .cons (.none _) <|
  .cons (.none _) <|
  .cons (.none _) <|
  .cons (.none _) <|
  .cons (.none _) <|
  .cons (.none _) <|
  .cons (.none _) <|
  .cons (.none _) <|
  .cons (.none _) <|
  .cons (.none _) <|
  .cons (.none _) <|
  .cons (.none _) <|
  .cons (.none _) <|
  .cons (.none _) <|
  .cons (.none _) <|
  .cons (.none _) <|
  .cons (.none _) <|
  .cons (.none _) <|
  .cons (.none _) <|
  .cons (.none _) <|
  .cons (.none _) <|
  .cons (.none _) <|
  .cons (.none _) <|
  .cons (.none _) <|
  .cons (.none _) <|
  .cons (.none _) <|
  .cons (.none _) <|
  .cons (.none _) <|
  .cons (.none _) <|
  .cons (.none _) <|
  .cons (.none _) <|
  .cons (.none _) <|
  .cons (.none _) <|
  .cons (.none _) <|
  .cons (.none _) <|
  .cons (.none _) <|
  .cons (.none _) <|
  .cons (.none _) <|
  .cons (.none _) <|
  .cons (.none _) <|
  .cons (.none _) <|
  .cons (.none _) <|
  .cons (.none _) <|
  .cons (.none _) <|
  .cons (.none _) <|
  .cons (.none _) <|
  .cons (.none _) <|
  .cons (.none _) <|
  .cons (.none _) <|
  .cons (.none _) <|
  .cons (.none _) <|
  .cons (.none _) <|
  .cons (.none _) <|
  .cons (.none _) <|
  .cons (.none _) <|
  .cons (.none _) <|
  .cons (.none _) <|
  .cons (.none _) <|
  .cons (.none _) <|
  .cons (.none _) <|
  .cons (.none _) <|
  .cons (.none _) <|
  .cons (.none _) <|
  .cons (.none _) <|
  .cons (.none _) <|
  .cons (.none _) <|
  .cons (.none _) <|
  .cons (.none _) <|
  .cons (.none _) <|
  .cons (.none _) <|
  .cons (.none _) <|
  .cons (.none _) <|
  .cons (.none _) <|
  .cons (.none _) <|
  .cons (.none _) <|
  .cons (.none _) <|
  .cons (.none _) <|
  .cons (.none _) <|
  .cons (.none _) <|
  .cons (.none _) <|
  .cons (.none _) <|
  .cons (.none _) <|
  .cons (.none _) <|
  .cons (.none _) <|
  .cons (.none _) <|
  .cons (.none _) <|
  .cons (.none _) <|
  .cons (.none _) <|
  .cons (.none _) <|
  .cons (.none _) <|
  .cons (.none _) <|
  .cons (.none _) <|
  .cons (.none _) <|
  .cons (.none _) <|
  .cons (.none _) <|
  .cons (.none _) <|
  .cons (.none _) <|
  .cons (.none _) <|
  .cons (.none _) <|
  .cons (.none _) <|
  .cons (.none _) <|
  .cons (.none _) <|
  .cons (.none _) <|
  .cons (.none _) <|
  .cons (.none _) <|
  .cons (.none _) <|
  .cons (.none _) <|
  .cons (.none _) <|
  .cons (.none _) <|
  .cons (.none _) <|
  .cons (.none _) <|
  .cons (.none _) <|
  .cons (.none _) <|
  .cons (.none _) <|
  .cons (.none _) <|
  .cons (.none _) <|
  .cons (.none _) <|
  .cons (.none _) <|
  .cons (.none _) <|
  .cons (.none _) <|
  .cons (.none _) <|
  .cons (.none _) <|
  .cons (.none _) <|
  .cons (.none _) <|
  .cons (.none _) <|
  .cons (.none _) <|
  .cons (.none _) <|
  .cons (.none _) <|
  .cons (.none _) <|
  .cons (.none _) <|
  .cons (.none _) <|
  .cons (.none _) <|
  .cons (.none _) <|
  .cons (.none _) <|
  .cons (.none _) <|
  .cons (.none _) <|
  .cons (.none _) <|
  .cons (.none _) <|
  .cons (.none _) <|
  .cons (.none _) <|
  .cons (.none _) <|
  .cons (.none _) <|
  .cons (.none _) <|
  .cons (.none _) <|
  .cons (.none _) <|
  .cons (.none _) <|
  .cons (.none _) <|
  .cons (.none _) <|
  .cons (.none _) <|
  .cons (.none _) <|
  .cons (.none _) <|
  .cons (.none _) <|
  .cons (.none _) <|
  .cons (.none _) <|
  .cons (.none _) <|
  .cons (.of zbxd_) <|
  .cons (.of zbxe_) <|
  .cons (.none _) <|
  .cons (.of zbxf_) <|
  .cons (.of zbxg_) <|
  .cons (.of zbxh_) <|
  .cons (.of zbxi_) <|
  .cons (.of zbxj_) <|
  .cons (.of zbxk_) <|
  .cons (.of zbxl_) <|
  .cons (.of zbxm_) <|
  .cons (.of zbxn_) <|
  .cons (.of zbxo_) <|
  .cons (.of zbxp_) <|
  .cons (.of zbxq_) <|
  .cons (.of zbxr_) <|
  .cons (.none _) <|
  .cons (.of zbxs_) <|
  .cons (.of zbxt_) <|
  .cons (.none _) <|
  .cons (.of zbxu_) <|
  .cons (.of zbxv_) <|
  .cons (.none _) <|
  .cons (.none _) <|
  .cons (.of zbxw_) <|
  .cons (.of zbxx_) <|
  .cons (.of zbxy_) <|
  .cons (.of zbxz_) <|
  .cons (.none _) <|
  .cons (.none _) <|
  .cons (.none _) <|
  .cons (.of zbya_) <|
  .cons (.none _) <|
  .cons (.of zbyb_) <|
  .cons (.of zbyc_) <|
  .cons (.of zbyd_) <|
  .cons (.of zbye_) <|
  .cons (.of zbyf_) <|
  .cons (.none _) <|
  .cons (.of zbyg_) <|
  .cons (.of zbyh_) <|
  .cons (.of zbyi_) <|
  .cons (.of zbyj_) <|
  .cons (.of zbyk_) <|
  .cons (.of zbyl_) <|
  .cons (.of zbym_) <|
  .cons (.of zbyn_) <|
  .cons (.of zbyo_) <|
  .cons (.of zbyp_) <|
  .cons (.of zbyq_) <|
  .cons (.of zbyr_) <|
  .cons (.of zbys_) <|
  .cons (.of zbyt_) <|
  .cons (.of zbyu_) <|
  .cons (.of zbyv_) <|
  .cons (.of zbyw_) <|
  .cons (.of zbyx_) <|
  .cons (.of zbyy_) <|
  .cons (.none _) <|
  .cons (.none _) <|
  .cons (.of zbyz_) <|
  .cons (.of zbza_) <|
  .cons (.of zbzb_) <|
  .cons (.of zbzc_) <|
  .cons (.of zbzd_) <|
  .cons (.of zbze_) <|
  .cons (.of zbzf_) <|
  .cons (.of zbzg_) <|
  .cons (.of zbzh_) <|
  .cons (.of zbzi_) <|
  .cons (.of zbzj_) <|
  .cons (.of zbzk_) <|
  .cons (.none _) <|
  .cons (.of zbzl_) <|
  .cons (.of zbzm_) <|
  .cons (.of zbzn_) <|
  .cons (.of zbzo_) <|
  .cons (.of zbzp_) <|
  .cons (.of zbzq_) <|
  .cons (.none _) <|
  .cons (.none _) <|
  .cons (.none _) <|
  .cons (.none _) <|
  .cons (.none _) <|
  .cons (.none _) <|
  .cons (.none _) <|
  .cons (.none _) <|
  .cons (.none _) <|
  .cons (.none _) <|
  .cons (.none _) <|
  .cons (.none _) <|
  .cons (.none _) <|
  .cons (.none _) <|
  .cons (.none _) <|
  .cons (.none _) <|
  .cons (.none _) <|
  .cons (.none _) <|
  .cons (.none _) <|
  .cons (.none _) <|
  .cons (.none _) <|
  .cons (.none _) <|
  .cons (.none _) <|
  .cons (.none _) <|
  .cons (.none _) <|
  .cons (.none _) <|
  .cons (.none _) <|
  .cons (.none _) <|
  .cons (.none _) <|
  .cons (.none _) <|
  .cons (.none _) <|
  .cons (.none _) <|
  .cons (.none _) <|
  .cons (.none _) <|
  .cons (.none _) <|
  .cons (.none _) <|
  .cons (.none _) <|
  .cons (.none _) <|
  .cons (.none _) <|
  .cons (.none _) <|
  .cons (.of zbzr_) <|
  .cons (.of zbzs_) <|
  .cons (.none _) <|
  .cons (.none _) <|
  .cons (.none _) <|
  .cons (.none _) <|
  .cons (.none _) <|
  .cons (.none _) <|
  .cons (.none _) <|
  .cons (.none _) <|
  .cons (.none _) <|
  .cons (.none _) <|
  .cons (.none _) <|
  .cons (.none _) <|
  .cons (.none _) <|
  .cons (.none _) <|
  .cons (.none _) <|
  .cons (.none _) <|
  .cons (.none _) <|
  .cons (.none _) <|
  .cons (.none _) <|
  .cons (.none _) <|
  .cons (.none _) <|
  .cons (.none _) <|
  .cons (.none _) <|
  .cons (.none _) <|
  .cons (.none _) <|
  .cons (.none _) <|
  .cons (.none _) <|
  .cons (.none _) <|
  .cons (.none _) <|
  .cons (.none _) <|
  .cons (.none _) <|
  .cons (.none _) <|
  .cons (.none _) <|
  .cons (.none _) <|
  .cons (.none _) <|
  .cons (.of zbzt_) <|
  .cons (.of zbzu_) <|
  .cons (.of zbzv_) <|
  .cons (.none _) <|
  .cons (.of zbzw_) <|
  .cons (.none _) <|
  .cons (.none _) <|
  .cons (.none _) <|
  .cons (.none _) <|
  .cons (.none _) <|
  .cons (.none _) <|
  .cons (.none _) <|
  .cons (.none _) <|
  .cons (.none _) <|
  .cons (.none _) <|
  .cons (.none _) <|
  .cons (.none _) <|
  .cons (.none _) <|
  .cons (.none _) <|
  .cons (.none _) <|
  .cons (.none _) <|
  .cons (.none _) <|
  .cons (.none _) <|
  .cons (.none _) <|
  .cons (.none _) <|
  .cons (.none _) <|
  .cons (.none _) <|
  .cons (.none _) <|
  .cons (.none _) <|
  .cons (.none _) <|
  .cons (.none _) <|
  .cons (.none _) <|
  .cons (.none _) <|
  .cons (.none _) <|
  .cons (.none _) <|
  .cons (.none _) <|
  .cons (.none _) <|
  .cons (.none _) <|
  .cons (.none _) <|
  .cons (.none _) <|
  .cons (.none _) <|
  .cons (.none _) <|
  .cons (.none _) <|
  .cons (.none _) <|
  .cons (.none _) <|
  .cons (.none _) <|
  .cons (.of zbzx_) <|
  .cons (.of zbzy_) <|
  .cons (.of zbzz_) <|
  .cons (.of zcaa_) <|
  .cons (.of zcab_) <|
  .cons (.none _) <|
  .cons (.none _) <|
  .cons (.none _) <|
  .cons (.none _) <|
  .cons (.none _) <|
  .cons (.of zcac_) <|
  .cons (.none _) <|
  .cons (.none _) <|
  .cons (.none _) <|
  .cons (.none _) <|
  .cons (.none _) <|
  .cons (.none _) <|
  .cons (.none _) <|
  .cons (.none _) <|
  .cons (.none _) <|
  .cons (.none _) <|
  .cons (.none _) <|
  .cons (.none _) <|
  .cons (.none _) <|
  .cons (.none _) <|
  .cons (.none _) <|
  .cons (.none _) <|
  .cons (.none _) <|
  .cons (.none _) <|
  .cons (.none _) <|
  .cons (.none _) <|
  .cons (.none _) <|
  .cons (.of zcad_) <|
  .cons (.of zcae_) <|
  .cons (.none _) <|
  .cons (.none _) <|
  .cons (.none _) <|
  .cons (.none _) <|
  .cons (.none _) <|
  .cons (.none _) <|
  .cons (.none _) <|
  .cons (.none _) <|
  .cons (.none _) <|
  .cons (.none _) <|
  .cons (.none _) <|
  .cons (.none _) <|
  .cons (.none _) <|
  .cons (.none _) <|
  .cons (.none _) <|
  .cons (.none _) <|
  .cons (.none _) <|
  .cons (.none _) <|
  .cons (.none _) <|
  .cons (.none _) <|
  .cons (.none _) <|
  .cons (.none _) <|
  .cons (.none _) <|
  .cons (.none _) <|
  .cons (.none _) <|
  .cons (.none _) <|
  .cons (.none _) <|
  .cons (.none _) <|
  .cons (.none _) <|
  .cons (.of zcaf_) <|
  .cons (.none _) <|
  .cons (.none _) <|
  .cons (.none _) <|
  .cons (.none _) <|
  .cons (.none _) <|
  .cons (.none _) <|
  .cons (.none _) <|
  .cons (.none _) <|
  .cons (.none _) <|
  .cons (.none _) <|
  .cons (.none _) <|
  .cons (.none _) <|
  .cons (.none _) <|
  .cons (.none _) <|
  .cons (.none _) <|
  .cons (.none _) <|
  .cons (.none _) <|
  .cons (.none _) <|
  .cons (.none _) <|
  .cons (.none _) <|
  .cons (.none _) <|
  .cons (.none _) <|
  .cons (.none _) <|
  .cons (.none _) <|
  .cons (.none _) <|
  .cons (.none _) <|
  .cons (.none _) <|
  .cons (.none _) <|
  .cons (.none _) <|
  .cons (.none _) <|
  .cons (.none _) <|
  .cons (.none _) <|
  .cons (.none _) <|
  .cons (.none _) <|
  .cons (.none _) <|
  .cons (.none _) <|
  .cons (.none _) <|
  .cons (.none _) <|
  .cons (.none _) <|
  .cons (.none _) <|
  .cons (.none _) <|
  .cons (.none _) <|
  .cons (.none _) <|
  .cons (.none _) <|
  .cons (.none _) <|
  .cons (.none _) <|
  .cons (.none _) <|
  .cons (.none _) <|
  .cons (.none _) <|
  .cons (.none _) <|
  .cons (.none _) <|
  .cons (.none _) <|
  .cons (.none _) <|
  .cons (.none _) <|
  .cons (.none _) <|
  .cons (.none _) <|
  .cons (.none _) <|
  .cons (.none _) <|
  .cons (.none _) <|
  .cons (.none _) <|
  .cons (.none _) <|
  .cons (.none _) <|
  .cons (.none _) <|
  .cons (.none _) <|
  .cons (.none _) <|
  .cons (.none _) <|
  .cons (.none _) <|
  .cons (.none _) <|
  .cons (.none _) <|
  .cons (.none _) <|
  .cons (.none _) <|
  .cons (.none _) <|
  .cons (.none _) <|
  .cons (.none _) <|
  .cons (.none _) <|
  .cons (.none _) <|
  .cons (.none _) <|
  .cons (.none _) <|
  .cons (.none _) <|
  .cons (.none _) <|
  .cons (.none _) <|
  .cons (.none _) <|
  .cons (.none _) <|
  .cons (.none _) <|
  .cons (.none _) <|
  .cons (.none _) <|
  .cons (.none _) <|
  .cons (.none _) <|
  .cons (.none _) <|
  .cons (.none _) <|
  .cons (.none _) <|
  .cons (.none _) <|
  .cons (.none _) <|
  .cons (.none _) <|
  .cons (.none _) <|
  .cons (.none _) <|
  .cons (.none _) <|
  .cons (.none _) <|
  .cons (.of zcag_) <|
  .cons (.none _) <|
  .cons (.of zcah_) <|
  .cons (.none _) <|
  .cons (.of zcai_) <|
  .cons (.of zcaj_) <|
  .cons (.of zcak_) <| .nil
theorem tok : TOk Tryz.prog phi := fun f id h => (eachT.get FitT.none f) id h
end Go.Proofs.Sl
namespace Go.Proofs
open Go.Shelf
shelf_lay_g SlLaysF0.n6 Slsf 6 at Tryz 97 as Tryz.sortSpan
end Go.Proofs
namespace Go.Proofs.Sl
def zSpan : List V := [.s (.int .i64 0), .s (.int .i64 0), .s (.int .i64 0), .s (.int .i64 0), .s (.int .i64 0), .s (.int .i64 0), .s (.string ⟨#[]⟩), .s (.string ⟨#[]⟩), .s (.string ⟨#[]⟩), .s (.int .i64 0), .s (.int .i64 0), .s (.bool false), .s (.slice none 0 0), .s (.slice none 0 0)]
theorem zcal_ : plainZ zSpan := by
  intro i x e
  have : ∀ v ∈ zSpan, v.tl = none := by
    intro v hv
    simp only [zSpan, List.mem_cons, List.not_mem_nil, or_false] at hv
    rcases hv with rfl | rfl | rfl | rfl | rfl | rfl | rfl | rfl | rfl | rfl | rfl | rfl | rfl | rfl <;> rfl
  exact this x (List.mem_of_getElem? e)
theorem zcam_ : NatOk Tryz.prog phi 97 (.sort 14) := zbtq_ (zbtr_ Tryz.sortSpan 14 Tryz.isAgg40 Tryz.sizeOf40) (zbts_ Tryz.sortSpan) tok
theorem zcan_ : NatOk Tryz.prog phi 114 (.seq zcw_ 14 837723144972) :=
  natSeq (φ := phi) (it := zcw_) (vid := 98) (lim := 837723144972) (k := 14) Tryz.func114 Tryz.func98 rfl (by kernel_rfl) (by kernel_rfl) (z := zSpan) rfl zcal_ (by decide) tok
theorem zcao_ : chkFun Tryz.prog phi Tryz.f5 zkr_ = true := by kernel_rfl
theorem zcap_ : chkFun Tryz.prog phi Tryz.f22 zbb_ = true := by kernel_rfl
theorem zcaq_ : chkFun Tryz.prog phi Tryz.f27 zle_ = true := by kernel_rfl
theorem zcar_ : chkFun Tryz.prog phi Tryz.f38 zln_ = true := by kernel_rfl
theorem zcas_ : chkFun Tryz.prog phi Tryz.f17 zla_ = true := by kernel_rfl
theorem zcat_ : chkFun Tryz.prog phi Tryz.f82 zlz_ = true := by kernel_rfl
theorem zcau_ : chkFun Tryz.prog phi Tryz.f37 zlm_ = true := by kernel_rfl
theorem zcav_ : chkFun Tryz.prog phi Tryz.f72 zly_ = true := by kernel_rfl
theorem zcaw_ : chkFun Tryz.prog phi Tryz.f42 zjb_ = true := by kernel_rfl
theorem zcax_ : chkFun Tryz.prog phi Tryz.f24 zld_ = true := by kernel_rfl
theorem zcay_ : chkFun Tryz.prog phi Tryz.f9 zkv_ = true := by kernel_rfl
theorem zcaz_ : chkFun Tryz.prog phi Tryz.f21 zbc_ = true := by kernel_rfl
theorem zcba_ : chkFun Tryz.prog phi Tryz.f51 zbi_ = true := by kernel_rfl
theorem zcbb_ : chkFun Tryz.prog phi Tryz.f10 zbp_ = true := by kernel_rfl
theorem zcbc_ : chkFun Tryz.prog phi Tryz.f62 zaw_ = true := by kernel_rfl
theorem zcbd_ : chkFun Tryz.prog phi Tryz.f50 zjd_ = true := by kernel_rfl
theorem zcbe_ : chkFun Tryz.prog phi Tryz.f85 zmc_ = true := by kernel_rfl
theorem zcbf_ : chkFun Tryz.prog phi Tryz.f28 zlf_ = true := by kernel_rfl
theorem zcbg_ : chkFun Tryz.prog phi Tryz.f86 zmd_ = true := by kernel_rfl
theorem zcbh_ : chkFun Tryz.prog phi Tryz.f60 zlr_ = true := by kernel_rfl
theorem zcbi_ : chkFun Tryz.prog phi Tryz.f23 zlc_ = true := by kernel_rfl
theorem zcbj_ : chkFun Tryz.prog phi Tryz.f8 zku_ = true := by kernel_rfl
theorem zcbk_ : chkFun Tryz.prog phi Tryz.f13 ziy_ = true := by kernel_rfl
theorem zcbl_ : chkFun Tryz.prog phi Tryz.f20 zlb_ = true := by kernel_rfl
theorem zcbm_ : chkFun Tryz.prog phi Tryz.f55 zhr_ = true := by kernel_rfl
theorem zcbn_ : chkFun Tryz.prog phi Tryz.f56 zhs_ = true := by kernel_rfl
theorem zcbo_ : chkFun Tryz.prog phi Tryz.f57 zlq_ = true := by kernel_rfl
theorem zcbp_ : chkFun Tryz.prog phi Tryz.f58 zje_ = true := by kernel_rfl
theorem zcbq_ : chkFun Tryz.prog phi Tryz.f59 zjf_ = true := by kernel_rfl
theorem zcbr_ : chkFun Tryz.prog phi Tryz.f66 zlu_ = true := by kernel_rfl
theorem zcbs_ : chkFun Tryz.prog phi Tryz.f67 zlv_ = true := by kernel_rfl
theorem zcbt_ : chkFun Tryz.prog phi Tryz.f68 zhu_ = true := by kernel_rfl
theorem zcbu_ : chkFun Tryz.prog phi Tryz.f69 zjh_ = true := by kernel_rfl
theorem zcbv_ : chkFun Tryz.prog phi Tryz.f54 zlp_ = true := by kernel_rfl
theorem zcbw_ : chkFun Tryz.prog phi Tryz.f70 zlw_ = true := by kernel_rfl
theorem zcbx_ : chkFun Tryz.prog phi Tryz.f71 zlx_ = true := by kernel_rfl
theorem zcby_ : chkFun Tryz.prog phi Tryz.f40 zja_ = true := by kernel_rfl
theorem zcbz_ : chkFun Tryz.prog phi Tryz.f41 zhp_ = true := by kernel_rfl
theorem zcca_ : chkFun Tryz.prog phi Tryz.f29 zlg_ = true := by kernel_rfl
theorem zccb_ : chkFun Tryz.prog phi Tryz.f52 zgo_ = true := by kernel_rfl
theorem zccc_ : chkFun Tryz.prog phi Tryz.f53 zcs_ = true := by kernel_rfl
theorem zccd_ : chkFun Tryz.prog phi Tryz.f84 zmb_ = true := by kernel_rfl
theorem zcce_ : chkFun Tryz.prog phi Tryz.f87 zmf_ = true := by kernel_rfl
theorem zccf_ : chkFun Tryz.prog phi Tryz.f83 zma_ = true := by kernel_rfl
theorem zccg_ : chkFun Tryz.prog phi Tryz.f102 zmo_ = true := by kernel_rfl
theorem zcch_ : chkFun Tryz.prog phi Tryz.f101 zmn_ = true := by kernel_rfl
theorem zcci_ : chkFun Tryz.prog phi Tryz.f34 zlk_ = true := by kernel_rfl
theorem zccj_ : chkFun Tryz.prog phi Tryz.f48 zhq_ = true := by kernel_rfl
theorem zcck_ : chkFun Tryz.prog phi Tryz.f49 zjc_ = true := by kernel_rfl
theorem zccl_ : chkFun Tryz.prog phi Tryz.f89 zmg_ = true := by kernel_rfl
theorem zccm_ : chkFun Tryz.prog phi Tryz.f90 zmh_ = true := by kernel_rfl
theorem zccn_ : chkFun Tryz.prog phi Tryz.f91 zmi_ = true := by kernel_rfl
theorem zcco_ : chkFun Tryz.prog phi Tryz.f92 zmj_ = true := by kernel_rfl
theorem zccp_ : chkFun Tryz.prog phi Tryz.f64 zlt_ = true := by kernel_rfl
theorem zccq_ : chkFun Tryz.prog phi Tryz.f99 zml_ = true := by kernel_rfl
theorem zccr_ : chkFun Tryz.prog phi Tryz.f100 zmm_ = true := by kernel_rfl
theorem zccs_ : chkFun Tryz.prog phi Tryz.f39 zlo_ = true := by kernel_rfl
theorem zcct_ : chkFun Tryz.prog phi Tryz.f79 zhv_ = true := by kernel_rfl
theorem zccu_ : chkFun Tryz.prog phi Tryz.f80 zjl_ = true := by kernel_rfl
theorem zccv_ : chkFun Tryz.prog phi Tryz.f81 zjm_ = true := by kernel_rfl
theorem zccw_ : chkFun Tryz.prog phi Tryz.f73 zjj_ = true := by kernel_rfl
theorem zccx_ : chkFun Tryz.prog phi Tryz.f74 zjk_ = true := by kernel_rfl
theorem zccy_ : chkFun Tryz.prog phi Tryz.f96 zjp_ = true := by kernel_rfl
theorem zccz_ : chkFun Tryz.prog phi Tryz.f98 ztk_ = true := by kernel_rfl
theorem zcda_ : chkFun Tryz.prog phi Tryz.f6 zks_ = true := by kernel_rfl
theorem zcdb_ : chkFun Tryz.prog phi Tryz.f7 zkt_ = true := by kernel_rfl
theorem zcdc_ : chkFun Tryz.prog phi Tryz.f25 zgm_ = true := by kernel_rfl
theorem zcdd_ : chkFun Tryz.prog phi Tryz.f26 zac_ = true := by kernel_rfl
theorem zcde_ : chkFun Tryz.prog phi Tryz.f11 zdr_ = true := by kernel_rfl
theorem zcdf_ : chkFun Tryz.prog phi Tryz.f12 zkw_ = true := by kernel_rfl
theorem zcdg_ : chkFun Tryz.prog phi Tryz.f61 zgq_ = true := by kernel_rfl
theorem zcdh_ : chkFun Tryz.prog phi Tryz.f30 zlh_ = true := by kernel_rfl
theorem zcdi_ : chkFun Tryz.prog phi Tryz.f31 zli_ = true := by kernel_rfl
theorem zcdj_ : chkFun Tryz.prog phi Tryz.f32 zlj_ = true := by kernel_rfl
theorem zcdk_ : chkFun Tryz.prog phi Tryz.f33 zgn_ = true := by kernel_rfl
theorem zcdl_ : chkFun Tryz.prog phi Tryz.f150 zmp_ = true := by kernel_rfl
theorem zcdm_ : chkFun Tryz.prog phi Tryz.f63 zls_ = true := by kernel_rfl
theorem zcdn_ : chkFun Tryz.prog phi Tryz.f65 zjg_ = true := by kernel_rfl
theorem zcdo_ : chkFun Tryz.prog phi Tryz.f88 zjn_ = true := by kernel_rfl
theorem zcdp_ : chkFun Tryz.prog phi Tryz.f3 zho_ = true := by kernel_rfl
theorem zcdq_ : chkFun Tryz.prog phi Tryz.f14 ziz_ = true := by kernel_rfl
theorem zcdr_ : chkFun Tryz.prog phi Tryz.f35 zll_ = true := by kernel_rfl
theorem zcds_ : chkFun Tryz.prog phi Tryz.f149 zee_ = true := by kernel_rfl
theorem zcdt_ : chkFun Tryz.prog phi Tryz.f151 zmq_ = true := by kernel_rfl
def Entry (id : FuncId) (X : XF) : Prop := ∃ fn, Tryz.prog.funcs[id]? = some fn ∧ FunOk Tryz.prog phi id fn X
theorem zcdu_ : Entry 5 zkr_ := ⟨Tryz.f5, Tryz.func5, zcao_⟩
theorem zcdv_ : Entry 22 zbb_ := ⟨Tryz.f22, Tryz.func22, zcap_⟩
theorem zcdw_ : Entry 27 zle_ := ⟨Tryz.f27, Tryz.func27, zcaq_⟩
theorem zcdx_ : Entry 38 zln_ := ⟨Tryz.f38, Tryz.func38, zcar_⟩
theorem zcdy_ : Entry 17 zla_ := ⟨Tryz.f17, Tryz.func17, zcas_⟩
theorem zcdz_ : Entry 82 zlz_ := ⟨Tryz.f82, Tryz.func82, zcat_⟩
theorem zcea_ : Entry 37 zlm_ := ⟨Tryz.f37, Tryz.func37, zcau_⟩
theorem zceb_ : Entry 72 zly_ := ⟨Tryz.f72, Tryz.func72, zcav_⟩
theorem zcec_ : Entry 42 zjb_ := ⟨Tryz.f42, Tryz.func42, zcaw_⟩
theorem zced_ : Entry 24 zld_ := ⟨Tryz.f24, Tryz.func24, zcax_⟩
theorem zcee_ : Entry 9 zkv_ := ⟨Tryz.f9, Tryz.func9, zcay_⟩
theorem zcef_ : Entry 21 zbc_ := ⟨Tryz.f21, Tryz.func21, zcaz_⟩
theorem zceg_ : Entry 51 zbi_ := ⟨Tryz.f51, Tryz.func51, zcba_⟩
theorem zceh_ : Entry 10 zbp_ := ⟨Tryz.f10, Tryz.func10, zcbb_⟩
theorem zcei_ : Entry 62 zaw_ := ⟨Tryz.f62, Tryz.func62, zcbc_⟩
theorem zcej_ : Entry 50 zjd_ := ⟨Tryz.f50, Tryz.func50, zcbd_⟩
theorem zcek_ : Entry 85 zmc_ := ⟨Tryz.f85, Tryz.func85, zcbe_⟩
theorem zcel_ : Entry 28 zlf_ := ⟨Tryz.f28, Tryz.func28, zcbf_⟩
theorem zcem_ : Entry 86 zmd_ := ⟨Tryz.f86, Tryz.func86, zcbg_⟩
theorem zcen_ : Entry 60 zlr_ := ⟨Tryz.f60, Tryz.func60, zcbh_⟩
theorem zceo_ : Entry 23 zlc_ := ⟨Tryz.f23, Tryz.func23, zcbi_⟩
theorem zcep_ : Entry 8 zku_ := ⟨Tryz.f8, Tryz.func8, zcbj_⟩
theorem zceq_ : Entry 13 ziy_ := ⟨Tryz.f13, Tryz.func13, zcbk_⟩
theorem zcer_ : Entry 20 zlb_ := ⟨Tryz.f20, Tryz.func20, zcbl_⟩
theorem zces_ : Entry 55 zhr_ := ⟨Tryz.f55, Tryz.func55, zcbm_⟩
theorem zcet_ : Entry 56 zhs_ := ⟨Tryz.f56, Tryz.func56, zcbn_⟩
theorem zceu_ : Entry 57 zlq_ := ⟨Tryz.f57, Tryz.func57, zcbo_⟩
theorem zcev_ : Entry 58 zje_ := ⟨Tryz.f58, Tryz.func58, zcbp_⟩
theorem zcew_ : Entry 59 zjf_ := ⟨Tryz.f59, Tryz.func59, zcbq_⟩
theorem zcex_ : Entry 66 zlu_ := ⟨Tryz.f66, Tryz.func66, zcbr_⟩
theorem zcey_ : Entry 67 zlv_ := ⟨Tryz.f67, Tryz.func67, zcbs_⟩
theorem zcez_ : Entry 68 zhu_ := ⟨Tryz.f68, Tryz.func68, zcbt_⟩
theorem zcfa_ : Entry 69 zjh_ := ⟨Tryz.f69, Tryz.func69, zcbu_⟩
theorem zcfb_ : Entry 54 zlp_ := ⟨Tryz.f54, Tryz.func54, zcbv_⟩
theorem zcfc_ : Entry 70 zlw_ := ⟨Tryz.f70, Tryz.func70, zcbw_⟩
theorem zcfd_ : Entry 71 zlx_ := ⟨Tryz.f71, Tryz.func71, zcbx_⟩
theorem zcfe_ : Entry 40 zja_ := ⟨Tryz.f40, Tryz.func40, zcby_⟩
theorem zcff_ : Entry 41 zhp_ := ⟨Tryz.f41, Tryz.func41, zcbz_⟩
theorem zcfg_ : Entry 29 zlg_ := ⟨Tryz.f29, Tryz.func29, zcca_⟩
theorem zcfh_ : Entry 52 zgo_ := ⟨Tryz.f52, Tryz.func52, zccb_⟩
theorem zcfi_ : Entry 53 zcs_ := ⟨Tryz.f53, Tryz.func53, zccc_⟩
theorem zcfj_ : Entry 84 zmb_ := ⟨Tryz.f84, Tryz.func84, zccd_⟩
theorem zcfk_ : Entry 87 zmf_ := ⟨Tryz.f87, Tryz.func87, zcce_⟩
theorem zcfl_ : Entry 83 zma_ := ⟨Tryz.f83, Tryz.func83, zccf_⟩
theorem zcfm_ : Entry 102 zmo_ := ⟨Tryz.f102, Tryz.func102, zccg_⟩
theorem zcfn_ : Entry 101 zmn_ := ⟨Tryz.f101, Tryz.func101, zcch_⟩
theorem zcfo_ : Entry 34 zlk_ := ⟨Tryz.f34, Tryz.func34, zcci_⟩
theorem zcfp_ : Entry 48 zhq_ := ⟨Tryz.f48, Tryz.func48, zccj_⟩
theorem zcfq_ : Entry 49 zjc_ := ⟨Tryz.f49, Tryz.func49, zcck_⟩
theorem zcfr_ : Entry 89 zmg_ := ⟨Tryz.f89, Tryz.func89, zccl_⟩
theorem zcfs_ : Entry 90 zmh_ := ⟨Tryz.f90, Tryz.func90, zccm_⟩
theorem zcft_ : Entry 91 zmi_ := ⟨Tryz.f91, Tryz.func91, zccn_⟩
theorem zcfu_ : Entry 92 zmj_ := ⟨Tryz.f92, Tryz.func92, zcco_⟩
theorem zcfv_ : Entry 64 zlt_ := ⟨Tryz.f64, Tryz.func64, zccp_⟩
theorem zcfw_ : Entry 99 zml_ := ⟨Tryz.f99, Tryz.func99, zccq_⟩
theorem zcfx_ : Entry 100 zmm_ := ⟨Tryz.f100, Tryz.func100, zccr_⟩
theorem zcfy_ : Entry 39 zlo_ := ⟨Tryz.f39, Tryz.func39, zccs_⟩
theorem zcfz_ : Entry 79 zhv_ := ⟨Tryz.f79, Tryz.func79, zcct_⟩
theorem zcga_ : Entry 80 zjl_ := ⟨Tryz.f80, Tryz.func80, zccu_⟩
theorem zcgb_ : Entry 81 zjm_ := ⟨Tryz.f81, Tryz.func81, zccv_⟩
theorem zcgc_ : Entry 73 zjj_ := ⟨Tryz.f73, Tryz.func73, zccw_⟩
theorem zcgd_ : Entry 74 zjk_ := ⟨Tryz.f74, Tryz.func74, zccx_⟩
theorem zcge_ : Entry 96 zjp_ := ⟨Tryz.f96, Tryz.func96, zccy_⟩
theorem zcgf_ : Entry 97 ztj_ := ⟨Tryz.f97, Tryz.func97, zcam_⟩
theorem zcgg_ : Entry 98 ztk_ := ⟨Tryz.f98, Tryz.func98, zccz_⟩
theorem zcgh_ : Entry 114 ztl_ := ⟨Tryz.f114, Tryz.func114, zcan_⟩
theorem zcgi_ : Entry 6 zks_ := ⟨Tryz.f6, Tryz.func6, zcda_⟩
theorem zcgj_ : Entry 7 zkt_ := ⟨Tryz.f7, Tryz.func7, zcdb_⟩
theorem zcgk_ : Entry 25 zgm_ := ⟨Tryz.f25, Tryz.func25, zcdc_⟩
theorem zcgl_ : Entry 26 zac_ := ⟨Tryz.f26, Tryz.func26, zcdd_⟩
theorem zcgm_ : Entry 11 zdr_ := ⟨Tryz.f11, Tryz.func11, zcde_⟩
theorem zcgn_ : Entry 12 zkw_ := ⟨Tryz.f12, Tryz.func12, zcdf_⟩
theorem zcgo_ : Entry 61 zgq_ := ⟨Tryz.f61, Tryz.func61, zcdg_⟩
theorem zcgp_ : Entry 30 zlh_ := ⟨Tryz.f30, Tryz.func30, zcdh_⟩
theorem zcgq_ : Entry 31 zli_ := ⟨Tryz.f31, Tryz.func31, zcdi_⟩
theorem zcgr_ : Entry 32 zlj_ := ⟨Tryz.f32, Tryz.func32, zcdj_⟩
theorem zcgs_ : Entry 33 zgn_ := ⟨Tryz.f33, Tryz.func33, zcdk_⟩
theorem zcgt_ : Entry 150 zmp_ := ⟨Tryz.f150, Tryz.func150, zcdl_⟩
theorem zcgu_ : Entry 63 zls_ := ⟨Tryz.f63, Tryz.func63, zcdm_⟩
theorem zcgv_ : Entry 65 zjg_ := ⟨Tryz.f65, Tryz.func65, zcdn_⟩
theorem zcgw_ : Entry 88 zjn_ := ⟨Tryz.f88, Tryz.func88, zcdo_⟩
theorem zcgx_ : Entry 3 zho_ := ⟨Tryz.f3, Tryz.func3, zcdp_⟩
theorem zcgy_ : Entry 14 ziz_ := ⟨Tryz.f14, Tryz.func14, zcdq_⟩
theorem zcgz_ : Entry 35 zll_ := ⟨Tryz.f35, Tryz.func35, zcdr_⟩
theorem zcha_ : Entry 149 zee_ := ⟨Tryz.f149, Tryz.func149, zcds_⟩
theorem zchb_ : Entry 151 zmq_ := ⟨Tryz.f151, Tryz.func151, zcdt_⟩
def Fit (a : Option FuncId) (x : Option XF) : Prop := ∀ id, a = some id → ∃ X, x = some X ∧ Entry id X
theorem Fit.of {id : FuncId} {X : XF} (t : Entry id X) : Fit (some id) (some X) := fun _ h => by cases h; exact ⟨X, rfl, t⟩
theorem Fit.none (x : Option XF) : Fit Option.none x := fun _ h => by cases h
theorem each : Each Fit phiL XPL :=
  .cons (.none _) <|
  .cons (.none _) <|
  .cons (.none _) <|
  .cons (.none _) <|
  .cons (.none _) <|
  .cons (.none _) <|
  .cons (.none _) <|
  .cons (.none _) <|
  .cons (.none _) <|
  .cons (.none _) <|
  .cons (.none _) <|
  .cons (.none _) <|
  .cons (.none _) <|
  .cons (.none _) <|
  .cons (.none _) <|
  .cons (.none _) <|
  .cons (.none _) <|
  .cons (.none _) <|
  .cons (.none _) <|
  .cons (.none _) <|
  .cons (.none _) <|
  .cons (.none _) <|
  .cons (.none _) <|
  .cons (.none _) <|
  .cons (.none _) <|
  .cons (.none _) <|
  .cons (.none _) <|
  .cons (.none _) <|
  .cons (.none _) <|
  .cons (.none _) <|
  .cons (.none _) <|
  .cons (.none _) <|
  .cons (.none _) <|
  .cons (.none _) <|
  .cons (.none _) <|
  .cons (.none _) <|
  .cons (.none _) <|
  .cons (.none _) <|
  .cons (.none _) <|
  .cons (.none _) <|
  .cons (.none _) <|
  .cons (.none _) <|
  .cons (.none _) <|
  .cons (.none _) <|
  .cons (.none _) <|
  .cons (.none _) <|
  .cons (.none _) <|
  .cons (.none _) <|
  .cons (.none _) <|
  .cons (.none _) <|
  .cons (.none _) <|
  .cons (.none _) <|
  .cons (.none _) <|
  .cons (.none _) <|
  .cons (.none _) <|
  .cons (.none _) <|
  .cons (.none _) <|
  .cons (.none _) <|
  .cons (.none _) <|
  .cons (.none _) <|
  .cons (.none _) <|
  .cons (.none _) <|
  .cons (.none _) <|
  .cons (.none _) <|
  .cons (.none _) <|
  .cons (.none _) <|
  .cons (.none _) <|
  .cons (.none _) <|
  .cons (.none _) <|
  .cons (.none _) <|
  .cons (.none _) <|
  .cons (.none _) <|
  .cons (.none _) <|
  .cons (.none _) <|
  .cons (.none _) <|
  .cons (.none _) <|
  .cons (.none _) <|
  .cons (.none _) <|
  .cons (.none _) <|
  .cons (.none _) <|
  .cons (.none _) <|
  .cons (.none _) <|
  .cons (.none _) <|
  .cons (.none _) <|
  .cons (.none _) <|
  .cons (.none _) <|
  .cons (.none _) <|
  .cons (.none _) <|
  .cons (.none _) <|
  .cons (.none _) <|
  .cons (.none _) <|
  .cons (.none _) <|
  .cons (.none _) <|
  .cons (.none _) <|
  .cons (.none _) <|
  .cons (.none _) <|
  .cons (.none _) <|
  .cons (.none _) <|
  .cons (.none _) <|
  .cons (.none _) <|
  .cons (.none _) <|
  .cons (.none _) <|
  .cons (.none _) <|
  .cons (.none _) <|
  .cons (.none _) <|
  .cons (.none _) <|
  .cons (.none _) <|
  .cons (.none _) <|
  .cons (.none _) <|
  .cons (.none _) <|
  .cons (.none _) <|
  .cons (.none _) <|
  .cons (.none _) <|
  .cons (.none _) <|
  .cons (.none _) <|
  .cons (.none _) <|
  .cons (.none _) <|
  .cons (.none _) <|
  .cons (.none _) <|
  .cons (.none _) <|
  .cons (.none _) <|
  .cons (.none _) <|
  .cons (.none _) <|
  .cons (.none _) <|
  .cons (.none _) <|
  .cons (.none _) <|
  .cons (.none _) <|
  .cons (.none _) <|
  .cons (.none _) <|
  .cons (.none _) <|
  .cons (.none _) <|
  .cons (.none _) <|
  .cons (.none _) <|
  .cons (.none _) <|
  .cons (.none _) <|
  .cons (.none _) <|
  .cons (.none _) <|
  .cons (.none _) <|
  .cons (.none _) <|
  .cons (.none _) <|
  .cons (.none _) <|
  .cons (.none _) <|
  .cons (.none _) <|
  .cons (.none _) <|
  .cons (.none _) <|
  .cons (.none _) <|
  .cons (.none _) <|
  .cons (.none _) <|
  .cons (.none _) <|
  .cons (.none _) <|
  .cons (.none _) <|
  .cons (.none _) <|
  .cons (.none _) <|
  .cons (.none _) <|
  .cons (.none _) <|
  .cons (.none _) <|
  .cons (.of zcdu_) <|
  .cons (.of zcdv_) <|
  .cons (.none _) <|
  .cons (.of zcdw_) <|
  .cons (.of zcdx_) <|
  .cons (.of zcdy_) <|
  .cons (.of zcdz_) <|
  .cons (.of zcea_) <|
  .cons (.of zceb_) <|
  .cons (.of zcec_) <|
  .cons (.of zced_) <|
  .cons (.of zcee_) <|
  .cons (.of zcef_) <|
  .cons (.of zceg_) <|
  .cons (.of zceh_) <|
  .cons (.of zcei_) <|
  .cons (.none _) <|
  .cons (.of zcej_) <|
  .cons (.of zcek_) <|
  .cons (.none _) <|
  .cons (.of zcel_) <|
  .cons (.of zcem_) <|
  .cons (.none _) <|
  .cons (.none _) <|
  .cons (.of zcen_) <|
  .cons (.of zceo_) <|
  .cons (.of zcep_) <|
  .cons (.of zceq_) <|
  .cons (.none _) <|
  .cons (.none _) <|
  .cons (.none _) <|
  .cons (.of zcer_) <|
  .cons (.none _) <|
  .cons (.of zces_) <|
  .cons (.of zcet_) <|
  .cons (.of zceu_) <|
  .cons (.of zcev_) <|
  .cons (.of zcew_) <|
  .cons (.none _) <|
  .cons (.of zcex_) <|
  .cons (.of zcey_) <|
  .cons (.of zcez_) <|
  .cons (.of zcfa_) <|
  .cons (.of zcfb_) <|
  .cons (.of zcfc_) <|
  .cons (.of zcfd_) <|
  .cons (.of zcfe_) <|
  .cons (.of zcff_) <|
  .cons (.of zcfg_) <|
  .cons (.of zcfh_) <|
  .cons (.of zcfi_) <|
  .cons (.of zcfj_) <|
  .cons (.of zcfk_) <|
  .cons (.of zcfl_) <|
  .cons (.of zcfm_) <|
  .cons (.of zcfn_) <|
  .cons (.of zcfo_) <|
  .cons (.of zcfp_) <|
  .cons (.none _) <|
  .cons (.none _) <|
  .cons (.of zcfq_) <|
  .cons (.of zcfr_) <|
  .cons (.of zcfs_) <|
  .cons (.of zcft_) <|
  .cons (.of zcfu_) <|
  .cons (.of zcfv_) <|
  .cons (.of zcfw_) <|
  .cons (.of zcfx_) <|
  .cons (.of zcfy_) <|
  .cons (.of zcfz_) <|
  .cons (.of zcga_) <|
  .cons (.of zcgb_) <|
  .cons (.none _) <|
  .cons (.of zcgc_) <|
  .cons (.of zcgd_) <|
  .cons (.of zcge_) <|
  .cons (.of zcgf_) <|
  .cons (.of zcgg_) <|
  .cons (.of zcgh_) <|
  .cons (.none _) <|
  .cons (.none _) <|
  .cons (.none _) <|
  .cons (.none _) <|
  .cons (.none _) <|
  .cons (.none _) <|
  .cons (.none _) <|
  .cons (.none _) <|
  .cons (.none _) <|
  .cons (.none _) <|
  .cons (.none _) <|
  .cons (.none _) <|
  .cons (.none _) <|
  .cons (.none _) <|
  .cons (.none _) <|
  .cons (.none _) <|
  .cons (.none _) <|
  .cons (.none _) <|
  .cons (.none _) <|
  .cons (.none _) <|
  .cons (.none _) <|
  .cons (.none _) <|
  .cons (.none _) <|
  .cons (.none _) <|
  .cons (.none _) <|
  .cons (.none _) <|
  .cons (.none _) <|
  .cons (.none _) <|
  .cons (.none _) <|
  .cons (.none _) <|
  .cons (.none _) <|
  .cons (.none _) <|
  .cons (.none _) <|
  .cons (.none _) <|
  .cons (.none _) <|
  .cons (.none _) <|
  .cons (.none _) <|
  .cons (.none _) <|
  .cons (.none _) <|
  .cons (.none _) <|
  .cons (.of zcgi_) <|
  .cons (.of zcgj_) <|
  .cons (.none _) <|
  .cons (.none _) <|
  .cons (.none _) <|
  .cons (.none _) <|
  .cons (.none _) <|
  .cons (.none _) <|
  .cons (.none _) <|
  .cons (.none _) <|
  .cons (.none _) <|
  .cons (.none _) <|
  .cons (.none _) <|
  .cons (.none _) <|
  .cons (.none _) <|
  .cons (.none _) <|
  .cons (.none _) <|
  .cons (.none _) <|
  .cons (.none _) <|
  .cons (.none _) <|
  .cons (.none _) <|
  .cons (.none _) <|
  .cons (.none _) <|
  .cons (.none _) <|
  .cons (.none _) <|
  .cons (.none _) <|
  .cons (.none _) <|
  .cons (.none _) <|
  .cons (.none _) <|
  .cons (.none _) <|
  .cons (.none _) <|
  .cons (.none _) <|
  .cons (.none _) <|
  .cons (.none _) <|
  .cons (.none _) <|
  .cons (.none _) <|
  .cons (.none _) <|
  .cons (.of zcgk_) <|
  .cons (.of zcgl_) <|
  .cons (.of zcgm_) <|
  .cons (.none _) <|
  .cons (.of zcgn_) <|
  .cons (.none _) <|
  .cons (.none _) <|
  .cons (.none _) <|
  .cons (.none _) <|
  .cons (.none _) <|
  .cons (.none _) <|
  .cons (.none _) <|
  .cons (.none _) <|
  .cons (.none _) <|
  .cons (.none _) <|
  .cons (.none _) <|
  .cons (.none _) <|
  .cons (.none _) <|
  .cons (.none _) <|
  .cons (.none _) <|
  .cons (.none _) <|
  .cons (.none _) <|
  .cons (.none _) <|
  .cons (.none _) <|
  .cons (.none _) <|
  .cons (.none _) <|
  .cons (.none _) <|
  .cons (.none _) <|
  .cons (.none _) <|
  .cons (.none _) <|
  .cons (.none _) <|
  .cons (.none _) <|
  .cons (.none _) <|
  .cons (.none _) <|
  .cons (.none _) <|
  .cons (.none _) <|
  .cons (.none _) <|
  .cons (.none _) <|
  .cons (.none _) <|
  .cons (.none _) <|
  .cons (.none _) <|
  .cons (.none _) <|
  .cons (.none _) <|
  .cons (.none _) <|
  .cons (.none _) <|
  .cons (.none _) <|
  .cons (.of zcgo_) <|
  .cons (.of zcgp_) <|
  .cons (.of zcgq_) <|
  .cons (.of zcgr_) <|
  .cons (.of zcgs_) <|
  .cons (.none _) <|
  .cons (.none _) <|
  .cons (.none _) <|
  .cons (.none _) <|
  .cons (.none _) <|
  .cons (.of zcgt_) <|
  .cons (.none _) <|
  .cons (.none _) <|
  .cons (.none _) <|
  .cons (.none _) <|
  .cons (.none _) <|
  .cons (.none _) <|
  .cons (.none _) <|
  .cons (.none _) <|
  .cons (.none _) <|
  .cons (.none _) <|
  .cons (.none _) <|
  .cons (.none _) <|
  .cons (.none _) <|
  .cons (.none _) <|
  .cons (.none _) <|
  .cons (.none _) <|
  .cons (.none _) <|
  .cons (.none _) <|
  .cons (.none _) <|
  .cons (.none _) <|
  .cons (.none _) <|
  .cons (.of zcgu_) <|
  .cons (.of zcgv_) <|
  .cons (.none _) <|
  .cons (.none _) <|
  .cons (.none _) <|
  .cons (.none _) <|
  .cons (.none _) <|
  .cons (.none _) <|
  .cons (.none _) <|
  .cons (.none _) <|
  .cons (.none _) <|
  .cons (.none _) <|
  .cons (.none _) <|
  .cons (.none _) <|
  .cons (.none _) <|
  .cons (.none _) <|
  .cons (.none _) <|
  .cons (.none _) <|
  .cons (.none _) <|
  .cons (.none _) <|
  .cons (.none _) <|
  .cons (.none _) <|
  .cons (.none _) <|
  .cons (.none _) <|
  .cons (.none _) <|
  .cons (.none _) <|
  .cons (.none _) <|
  .cons (.none _) <|
  .cons (.none _) <|
  .cons (.none _) <|
  .cons (.none _) <|
  .cons (.of zcgw_) <|
  .cons (.none _) <|
  .cons (.none _) <|
  .cons (.none _) <|
  .cons (.none _) <|
  .cons (.none _) <|
  .cons (.none _) <|
  .cons (.none _) <|
  .cons (.none _) <|
  .cons (.none _) <|
  .cons (.none _) <|
  .cons (.none _) <|
  .cons (.none _) <|
  .cons (.none _) <|
  .cons (.none _) <|
  .cons (.none _) <|
  .cons (.none _) <|
  .cons (.none _) <|
  .cons (.none _) <|
  .cons (.none _) <|
  .cons (.none _) <|
  .cons (.none _) <|
  .cons (.none _) <|
  .cons (.none _) <|
  .cons (.none _) <|
  .cons (.none _) <|
  .cons (.none _) <|
  .cons (.none _) <|
  .cons (.none _) <|
  .cons (.none _) <|
  .cons (.none _) <|
  .cons (.none _) <|
  .cons (.none _) <|
  .cons (.none _) <|
  .cons (.none _) <|
  .cons (.none _) <|
  .cons (.none _) <|
  .cons (.none _) <|
  .cons (.none _) <|
  .cons (.none _) <|
  .cons (.none _) <|
  .cons (.none _) <|
  .cons (.none _) <|
  .cons (.none _) <|
  .cons (.none _) <|
  .cons (.none _) <|
  .cons (.none _) <|
  .cons (.none _) <|
  .cons (.none _) <|
  .cons (.none _) <|
  .cons (.none _) <|
  .cons (.none _) <|
  .cons (.none _) <|
  .cons (.none _) <|
  .cons (.none _) <|
  .cons (.none _) <|
  .cons (.none _) <|
  .cons (.none _) <|
  .cons (.none _) <|
  .cons (.none _) <|
  .cons (.none _) <|
  .cons (.none _) <|
  .cons (.none _) <|
  .cons (.none _) <|
  .cons (.none _) <|
  .cons (.none _) <|
  .cons (.none _) <|
  .cons (.none _) <|
  .cons (.none _) <|
  .cons (.none _) <|
  .cons (.none _) <|
  .cons (.none _) <|
  .cons (.none _) <|
  .cons (.none _) <|
  .cons (.none _) <|
  .cons (.none _) <|
  .cons (.none _) <|
  .cons (.none _) <|
  .cons (.none _) <|
  .cons (.none _) <|
  .cons (.none _) <|
  .cons (.none _) <|
  .cons (.none _) <|
  .cons (.none _) <|
  .cons (.none _) <|
  .cons (.none _) <|
  .cons (.none _) <|
  .cons (.none _) <|
  .cons (.none _) <|
  .cons (.none _) <|
  .cons (.none _) <|
  .cons (.none _) <|
  .cons (.none _) <|
  .cons (.none _) <|
  .cons (.none _) <|
  .cons (.none _) <|
  .cons (.none _) <|
  .cons (.none _) <|
  .cons (.none _) <|
  .cons (.of zcgx_) <|
  .cons (.none _) <|
  .cons (.of zcgy_) <|
  .cons (.none _) <|
  .cons (.of zcgz_) <|
  .cons (.of zcha_) <|
  .cons (.of zchb_) <| .nil
theorem zchc_ (f : Nat) (id : FuncId) (X : XF) (h1 : phi f = some id) (h2 : XP f = some X) : Entry id X := by
  obtain ⟨Y, h3, h4⟩ := (each.get Fit.none f : Fit (phi f) (XP f)) id h1
  have h3 : XP f = some Y := h3
  rw [h2] at h3
  cases h3
  exact h4
theorem table : Table Tryz.prog phi XP where
  follows := by kernel_rfl
  there := tok
  code := fun f id X h hx => zchc_ f id X h hx
theorem zchd_ : ownKnob Tryz.prog.godebug = none := by kernel_rfl
theorem zche_ : laidOutB Tryz.prog = true := by kernel_rfl
end Go.Proofs.Sl
