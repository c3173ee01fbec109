/- The functions of the program are what the evaluator has for them. -/
import Derived.Test.YtaepkcjcmejfcaaGreatProg
import Derived.Test.YtaepkcjcmejfcaaGreatSlB
import Derived.Test.YtaepkcjcmejfcaaGreatSlP
import Derived.Test.YtaepkcjcmejfcaaGreatSlN
import Derived.Ground.GgzProg
import Derived.Ground.SlgmProg
import Derived.Shelf.SlGeneric
import Derived.Ground.SlsfProg
set_option linter.unusedVariables false
set_option linter.unusedSimpArgs false
set_option linter.unnecessarySimpa false
set_option maxRecDepth 100000
namespace Go.Proofs.Sl
def phiL : List (Option FuncId) := [none, none, none, none, none, none, none, none, none, none, none, none, none, none, none, none, none, none, none, none, none, none, none, none, none, none, none, none, none, none, none, none, none, none, none, none, none, none, none, none, none, none, none, none, none, none, none, none, none, none, none, none, none, none, none, none, none, none, none, none, none, none, none, none, none, none, none, none, none, none, none, none, none, none, none, none, none, none, none, none, none, none, none, none, none, none, none, none, none, none, none, none, none, none, none, none, none, none, none, none, none, none, none, none, none, none, none, none, none, none, none, none, none, none, none, none, none, none, none, none, none, none, none, none, none, none, none, none, none, none, none, none, none, none, none, none, none, none, none, none, none, none, none, none, none, none, none, none, none, none, none, none, none, none, none, none, some 5, some 22, none, some 27, some 38, some 17, some 82, some 37, some 72, some 42, some 24, none, some 21, some 51, none, some 62, none, some 50, some 85, none, none, some 86, none, none, some 60, some 23, some 8, some 13, none, some 36, none, some 20, some 15, some 55, some 56, some 57, some 58, some 59, none, some 66, some 67, some 68, some 69, some 54, some 70, some 71, some 40, some 41, some 29, some 52, some 53, some 84, some 87, some 83, some 102, some 101, some 34, some 48, none, none, some 49, some 89, some 90, some 91, some 92, some 64, some 99, some 100, some 39, some 79, some 80, some 81, none, some 73, some 74, some 96, some 97, some 98, some 114, none, none, none, none, none, none, none, none, none, none, none, none, none, none, none, none, none, none, none, none, none, none, none, none, none, none, none, none, none, none, none, none, none, none, none, none, none, none, none, none, none, none, none, none, none, some 19, none, none, none, none, none, some 18, none, none, none, none, none, none, none, none, none, none, none, none, none, none, none, some 43, none, none, none, none, none, none, none, none, none, none, none, none, none, none, some 46, some 47, none, none, some 44, some 45, none, none, none, none, none, none, none, none, none, none, none, none, none, none, none, none, none, none, none, none, none, none, none, none, none, none, none, none, none, none, none, some 75, none, none, none, none, none, none, none, some 33, none, none, some 78, none, none, none, none, none, none, none, none, none, none, none, none, none, none, none, none, none, none, none, none, none, none, none, none, none, some 65, none, none, none, none, none, none, none, none, none, none, none, none, none, none, none, none, none, none, none, none, none, none, none, none, none, none, none, none, none, some 88, none, none, none, none, none, none, none, none, none, none, none, none, none, none, none, none, none, none, none, none, none, none, none, none, none, none, none, none, none, none, none, none, none, none, none, none, none, none, none, none, none, none, none, none, none, none, none, none, none, none, none, none, none, none, none, none, none, none, none, none, none, none, none, none, none, none, none, none, none, none, none, none, none, none, none, none, none, none, none, none, none, none, none, none, none, none, none, none, none, none, none, none, none, none, none, none, none, none, none, some 4, none, some 16, none, none, none]
def keepL : List Nat := [318]
def phi : Nat → Option FuncId := fun n => if n < 1000000 then phiL.getD n none else if keepL.contains (n - 1000000) = true then phiL.getD (n - 1000000) none else none
theorem phi_lt {n : Nat} (h : n < 1000000) : phi n = phiL.getD n none := if_pos h
theorem phi_ge {n : Nat} : phi (n + 1000000) = if keepL.contains n = true then phiL.getD n none else none := by
  unfold phi
  rw [if_neg (by omega), Nat.add_sub_cancel]
inductive Each (p : Option FuncId → Option XF → Prop) : List (Option FuncId) → List (Option XF) → Prop
  | nil {l : List (Option XF)} : Each p [] l
  | cons {a : Option FuncId} {x : Option XF} {r : List (Option FuncId)} {l : List (Option XF)} (h : p a x) (k : Each p r l) : Each p (a :: r) (x :: l)
theorem Each.get {p : Option FuncId → Option XF → Prop} (h0 : ∀ x, p none x) : ∀ {r : List (Option FuncId)} {l : List (Option XF)}, Each p r l → ∀ f, p (r.getD f none) (l.getD f none)
  | _, _, .nil, f => by simpa using h0 _
  | _, _, .cons h k, 0 => by simpa using h
  | _, _, .cons h k, f + 1 => by simpa using k.get h0 f
def There (id : FuncId) : Prop := ∃ fn : Func, Tryz.prog.funcs[id]? = some fn ∧ (fn.name == "runtime.NumGoroutine") = false ∧ fn.body.isNone = false
theorem zbxe_ : There 5 := ⟨Tryz.f5, Tryz.func5, by kernel_rfl, by kernel_rfl⟩
theorem zbxf_ : There 22 := ⟨Tryz.f22, Tryz.func22, by kernel_rfl, by kernel_rfl⟩
theorem zbxg_ : There 27 := ⟨Tryz.f27, Tryz.func27, by kernel_rfl, by kernel_rfl⟩
theorem zbxh_ : There 38 := ⟨Tryz.f38, Tryz.func38, by kernel_rfl, by kernel_rfl⟩
theorem zbxi_ : There 17 := ⟨Tryz.f17, Tryz.func17, by kernel_rfl, by kernel_rfl⟩
theorem zbxj_ : There 82 := ⟨Tryz.f82, Tryz.func82, by kernel_rfl, by kernel_rfl⟩
theorem zbxk_ : There 37 := ⟨Tryz.f37, Tryz.func37, by kernel_rfl, by kernel_rfl⟩
theorem zbxl_ : There 72 := ⟨Tryz.f72, Tryz.func72, by kernel_rfl, by kernel_rfl⟩
theorem zbxm_ : There 42 := ⟨Tryz.f42, Tryz.func42, by kernel_rfl, by kernel_rfl⟩
theorem zbxn_ : There 24 := ⟨Tryz.f24, Tryz.func24, by kernel_rfl, by kernel_rfl⟩
theorem zbxo_ : There 21 := ⟨Tryz.f21, Tryz.func21, by kernel_rfl, by kernel_rfl⟩
theorem zbxp_ : There 51 := ⟨Tryz.f51, Tryz.func51, by kernel_rfl, by kernel_rfl⟩
theorem zbxq_ : There 62 := ⟨Tryz.f62, Tryz.func62, by kernel_rfl, by kernel_rfl⟩
theorem zbxr_ : There 50 := ⟨Tryz.f50, Tryz.func50, by kernel_rfl, by kernel_rfl⟩
theorem zbxs_ : There 85 := ⟨Tryz.f85, Tryz.func85, by kernel_rfl, by kernel_rfl⟩
theorem zbxt_ : There 86 := ⟨Tryz.f86, Tryz.func86, by kernel_rfl, by kernel_rfl⟩
theorem zbxu_ : There 60 := ⟨Tryz.f60, Tryz.func60, by kernel_rfl, by kernel_rfl⟩
theorem zbxv_ : There 23 := ⟨Tryz.f23, Tryz.func23, by kernel_rfl, by kernel_rfl⟩
theorem zbxw_ : There 8 := ⟨Tryz.f8, Tryz.func8, by kernel_rfl, by kernel_rfl⟩
theorem zbxx_ : There 13 := ⟨Tryz.f13, Tryz.func13, by kernel_rfl, by kernel_rfl⟩
theorem zbxy_ : There 36 := ⟨Tryz.f36, Tryz.func36, by kernel_rfl, by kernel_rfl⟩
theorem zbxz_ : There 20 := ⟨Tryz.f20, Tryz.func20, by kernel_rfl, by kernel_rfl⟩
theorem zbya_ : There 15 := ⟨Tryz.f15, Tryz.func15, by kernel_rfl, by kernel_rfl⟩
theorem zbyb_ : There 55 := ⟨Tryz.f55, Tryz.func55, by kernel_rfl, by kernel_rfl⟩
theorem zbyc_ : There 56 := ⟨Tryz.f56, Tryz.func56, by kernel_rfl, by kernel_rfl⟩
theorem zbyd_ : There 57 := ⟨Tryz.f57, Tryz.func57, by kernel_rfl, by kernel_rfl⟩
theorem zbye_ : There 58 := ⟨Tryz.f58, Tryz.func58, by kernel_rfl, by kernel_rfl⟩
theorem zbyf_ : There 59 := ⟨Tryz.f59, Tryz.func59, by kernel_rfl, by kernel_rfl⟩
theorem zbyg_ : There 66 := ⟨Tryz.f66, Tryz.func66, by kernel_rfl, by kernel_rfl⟩
theorem zbyh_ : There 67 := ⟨Tryz.f67, Tryz.func67, by kernel_rfl, by kernel_rfl⟩
theorem zbyi_ : There 68 := ⟨Tryz.f68, Tryz.func68, by kernel_rfl, by kernel_rfl⟩
theorem zbyj_ : There 69 := ⟨Tryz.f69, Tryz.func69, by kernel_rfl, by kernel_rfl⟩
theorem zbyk_ : There 54 := ⟨Tryz.f54, Tryz.func54, by kernel_rfl, by kernel_rfl⟩
theorem zbyl_ : There 70 := ⟨Tryz.f70, Tryz.func70, by kernel_rfl, by kernel_rfl⟩
theorem zbym_ : There 71 := ⟨Tryz.f71, Tryz.func71, by kernel_rfl, by kernel_rfl⟩
theorem zbyn_ : There 40 := ⟨Tryz.f40, Tryz.func40, by kernel_rfl, by kernel_rfl⟩
theorem zbyo_ : There 41 := ⟨Tryz.f41, Tryz.func41, by kernel_rfl, by kernel_rfl⟩
theorem zbyp_ : There 29 := ⟨Tryz.f29, Tryz.func29, by kernel_rfl, by kernel_rfl⟩
theorem zbyq_ : There 52 := ⟨Tryz.f52, Tryz.func52, by kernel_rfl, by kernel_rfl⟩
theorem zbyr_ : There 53 := ⟨Tryz.f53, Tryz.func53, by kernel_rfl, by kernel_rfl⟩
theorem zbys_ : There 84 := ⟨Tryz.f84, Tryz.func84, by kernel_rfl, by kernel_rfl⟩
theorem zbyt_ : There 87 := ⟨Tryz.f87, Tryz.func87, by kernel_rfl, by kernel_rfl⟩
theorem zbyu_ : There 83 := ⟨Tryz.f83, Tryz.func83, by kernel_rfl, by kernel_rfl⟩
theorem zbyv_ : There 102 := ⟨Tryz.f102, Tryz.func102, by kernel_rfl, by kernel_rfl⟩
theorem zbyw_ : There 101 := ⟨Tryz.f101, Tryz.func101, by kernel_rfl, by kernel_rfl⟩
theorem zbyx_ : There 34 := ⟨Tryz.f34, Tryz.func34, by kernel_rfl, by kernel_rfl⟩
theorem zbyy_ : There 48 := ⟨Tryz.f48, Tryz.func48, by kernel_rfl, by kernel_rfl⟩
theorem zbyz_ : There 49 := ⟨Tryz.f49, Tryz.func49, by kernel_rfl, by kernel_rfl⟩
theorem zbza_ : There 89 := ⟨Tryz.f89, Tryz.func89, by kernel_rfl, by kernel_rfl⟩
theorem zbzb_ : There 90 := ⟨Tryz.f90, Tryz.func90, by kernel_rfl, by kernel_rfl⟩
theorem zbzc_ : There 91 := ⟨Tryz.f91, Tryz.func91, by kernel_rfl, by kernel_rfl⟩
theorem zbzd_ : There 92 := ⟨Tryz.f92, Tryz.func92, by kernel_rfl, by kernel_rfl⟩
theorem zbze_ : There 64 := ⟨Tryz.f64, Tryz.func64, by kernel_rfl, by kernel_rfl⟩
theorem zbzf_ : There 99 := ⟨Tryz.f99, Tryz.func99, by kernel_rfl, by kernel_rfl⟩
theorem zbzg_ : There 100 := ⟨Tryz.f100, Tryz.func100, by kernel_rfl, by kernel_rfl⟩
theorem zbzh_ : There 39 := ⟨Tryz.f39, Tryz.func39, by kernel_rfl, by kernel_rfl⟩
theorem zbzi_ : There 79 := ⟨Tryz.f79, Tryz.func79, by kernel_rfl, by kernel_rfl⟩
theorem zbzj_ : There 80 := ⟨Tryz.f80, Tryz.func80, by kernel_rfl, by kernel_rfl⟩
theorem zbzk_ : There 81 := ⟨Tryz.f81, Tryz.func81, by kernel_rfl, by kernel_rfl⟩
theorem zbzl_ : There 73 := ⟨Tryz.f73, Tryz.func73, by kernel_rfl, by kernel_rfl⟩
theorem zbzm_ : There 74 := ⟨Tryz.f74, Tryz.func74, by kernel_rfl, by kernel_rfl⟩
theorem zbzn_ : There 96 := ⟨Tryz.f96, Tryz.func96, by kernel_rfl, by kernel_rfl⟩
theorem zbzo_ : There 97 := ⟨Tryz.f97, Tryz.func97, by kernel_rfl, by kernel_rfl⟩
theorem zbzp_ : There 98 := ⟨Tryz.f98, Tryz.func98, by kernel_rfl, by kernel_rfl⟩
theorem zbzq_ : There 114 := ⟨Tryz.f114, Tryz.func114, by kernel_rfl, by kernel_rfl⟩
theorem zbzr_ : There 19 := ⟨Tryz.f19, Tryz.func19, by kernel_rfl, by kernel_rfl⟩
theorem zbzs_ : There 18 := ⟨Tryz.f18, Tryz.func18, by kernel_rfl, by kernel_rfl⟩
theorem zbzt_ : There 43 := ⟨Tryz.f43, Tryz.func43, by kernel_rfl, by kernel_rfl⟩
theorem zbzu_ : There 46 := ⟨Tryz.f46, Tryz.func46, by kernel_rfl, by kernel_rfl⟩
theorem zbzv_ : There 47 := ⟨Tryz.f47, Tryz.func47, by kernel_rfl, by kernel_rfl⟩
theorem zbzw_ : There 44 := ⟨Tryz.f44, Tryz.func44, by kernel_rfl, by kernel_rfl⟩
theorem zbzx_ : There 45 := ⟨Tryz.f45, Tryz.func45, by kernel_rfl, by kernel_rfl⟩
theorem zbzy_ : There 75 := ⟨Tryz.f75, Tryz.func75, by kernel_rfl, by kernel_rfl⟩
theorem zbzz_ : There 33 := ⟨Tryz.f33, Tryz.func33, by kernel_rfl, by kernel_rfl⟩
theorem zcaa_ : There 78 := ⟨Tryz.f78, Tryz.func78, by kernel_rfl, by kernel_rfl⟩
theorem zcab_ : There 65 := ⟨Tryz.f65, Tryz.func65, by kernel_rfl, by kernel_rfl⟩
theorem zcac_ : There 88 := ⟨Tryz.f88, Tryz.func88, by kernel_rfl, by kernel_rfl⟩
theorem zcad_ : There 4 := ⟨Tryz.f4, Tryz.func4, by kernel_rfl, by kernel_rfl⟩
theorem zcae_ : There 16 := ⟨Tryz.f16, Tryz.func16, by kernel_rfl, by kernel_rfl⟩
def FitT (a : Option FuncId) (_ : Option XF) : Prop := ∀ id, a = some id → There id
theorem FitT.of {id : FuncId} {x : Option XF} (t : There id) : FitT (some id) x := fun _ h => by cases h; exact t
theorem FitT.none (x : Option XF) : FitT Option.none x := fun _ h => by cases h
theorem eachT : Each FitT phiL XPL :=
  .cons (.none _) <|
  .cons (.none _) <|
  .cons (.none _) <|
  .cons (.none _) <|
  .cons (.none _) <|
  .cons (.none _) <|
  .cons (.none _) <|
  .cons (.none _) <|
  .cons (.none _) <|
  .cons (.none _) <|
  .cons (.none _) <|
  .cons (.none _) <|
  .cons (.none _) <|
  .cons (.none _) <|
  .cons (.none _) <|
  .cons (.none _) <|
  .cons (.none _) <|
  .cons (.none _) <|
  .cons (.none _) <|
  .cons (.none _) <|
  .cons (.none _) <|
  .cons (.none _) <|
  .cons (.none _) <|
  .cons (.none _) <|
  .cons (.none _) <|
  .cons (.none _) <|
  .cons (.none _) <|
  .cons (.none _) <|
  .cons (.none _) <|
  .cons (.none _) <|
  .cons (.none _) <|
  .cons (.none _) <|
  .cons (.none _) <|
  .cons (.none _) <|
  .cons (.none _) <|
  .cons (.none _) <|
  .cons (.none _) <|
  .cons (.none _) <|
  .cons (.none _) <|
  .cons (.none _) <|
  .cons (.none _) <|
  .cons (.none _) <|
  .cons (.none _) <|
  .cons (.none _) <|
  .cons (.none _) <|
  .cons (.none _) <|
  .cons (.none _) <|
  .cons (.none _) <|
  .cons (.none _) <|
  .cons (.none _) <|
  .cons (.none _) <|
  .cons (.none _) <|
  .cons (.none _) <|
  .cons (.none _) <|
  .cons (.none _) <|
  .cons (.none _) <|
  .cons (.none _) <|
  .cons (.none _) <|
  .cons (.none _) <|
  .cons (.none _) <|
  .cons (.none _) <|
  .cons (.none _) <|
  .cons (.none _) <|
  .cons (.none _) <|
  .cons (.none _) <|
  .cons (.none _) <|
  .cons (.none _) <|
  .cons (.none _) <|
  .cons (.none _) <|
  .cons (.none _) <|
  .cons (.none _) <|
  .cons (.none _) <|
  .cons (.none _) <|
  .cons (.none _) <|
  .cons (.none _) <|
  .cons (.none _) <|
  .cons (.none _) <|
  .cons (.none _) <|
  .cons (.none _) <|
  .cons (.none _) <|
  .cons (.none _) <|
  .cons (.none _) <|
  .cons (.none _) <|
  .cons (.none _) <|
  .cons (.none _) <|
  .cons (.none _) <|
  .cons (.none _) <|
  .cons (.none _) <|
  .cons (.none _) <|
  .cons (.none _) <|
  .cons (.none _) <|
  .cons (.none _) <|
  .cons (.none _) <|
  .cons (.none _) <|
  .cons (.none _) <|
  .cons (.none _) <|
  .cons (.none _) <|
  .cons (.none _) <|
  .cons (.none _) <|
  .cons (.none _) <|
  .cons (.none _) <|
  .cons (.none _) <|
  .cons (.none _) <|
  .cons (.none _) <|
  .cons (.none _) <|
  .cons (.none _) <|
  .cons (.none _) <|
  .cons (.none _) <|
  .cons (.none _) <|
  .cons (.none _) <|
  .cons (.none _) <|
  .cons (.none _) <|
  .cons (.none _) <|
  .cons (.none _) <|
  .cons (.none _) <|
  .cons (.none _) <|
  .cons (.none _) <|
  .cons (.none _) <|
  .cons (.none _) <|
  .cons (.none _) <|
  .cons (.none _) <|
  .cons (.none _) <|
  .cons (.none _) <|
  .cons (.none _) <|
  .cons (.none _) <|
  .cons (.none _) <|
  .cons (.none _) <|
  .cons (.none _) <|
  .cons (.none _) <|
  .cons (.none _) <|
  .cons (.none _) <|
  .cons (.none _) <|
  .cons (.none _) <|
  .cons (.none _) <|
  .cons (.none _) <|
  .cons (.none _) <|
  .cons (.none _) <|
  .cons (.none _) <|
  .cons (.none _) <|
  .cons (.none _) <|
  .cons (.none _) <|
  .cons (.none _) <|
  .cons (.none _) <|
  .cons (.none _) <|
  .cons (.none _) <|
  .cons (.none _) <|
  .cons (.none _) <|
  .cons (.none _) <|
  .cons (.none _) <|
  .cons (.none _) <|
  .cons (.none _) <|
  .cons (.none _) <|
  .cons (.none _) <|
  .cons (.none _) <|
  .cons (.none _) <|
  .cons (.none _) <|
  .cons (.of zbxe_) <|
  .cons (.of zbxf_) <|
  .cons (.none _) <|
  .cons (.of zbxg_) <|
  .cons (.of zbxh_) <|
  .cons (.of zbxi_) <|
  .cons (.of zbxj_) <|
  .cons (.of zbxk_) <|
  .cons (.of zbxl_) <|
  .cons (.of zbxm_) <|
  .cons (.of zbxn_) <|
  .cons (.none _) <|
  .cons (.of zbxo_) <|
  .cons (.of zbxp_) <|
  .cons (.none _) <|
  .cons (.of zbxq_) <|
  .cons (.none _) <|
  .cons (.of zbxr_) <|
  .cons (.of zbxs_) <|
  .cons (.none _) <|
  .cons (.none _) <|
  .cons (.of zbxt_) <|
  .cons (.none _) <|
  .cons (.none _) <|
  .cons (.of zbxu_) <|
  .cons (.of zbxv_) <|
  .cons (.of zbxw_) <|
  .cons (.of zbxx_) <|
  .cons (.none _) <|
  .cons (.of zbxy_) <|
  .cons (.none _) <|
  .cons (.of zbxz_) <|
  .cons (.of zbya_) <|
  .cons (.of zbyb_) <|
  .cons (.of zbyc_) <|
  .cons (.of zbyd_) <|
  .cons (.of zbye_) <|
  .cons (.of zbyf_) <|
  .cons (.none _) <|
  .cons (.of zbyg_) <|
  .cons (.of zbyh_) <|
  .cons (.of zbyi_) <|
  .cons (.of zbyj_) <|
  .cons (.of zbyk_) <|
  .cons (.of zbyl_) <|
  .cons (.of zbym_) <|
  .cons (.of zbyn_) <|
  .cons (.of zbyo_) <|
  .cons (.of zbyp_) <|
  .cons (.of zbyq_) <|
  .cons (.of zbyr_) <|
  .cons (.of zbys_) <|
  .cons (.of zbyt_) <|
  .cons (.of zbyu_) <|
  .cons (.of zbyv_) <|
  .cons (.of zbyw_) <|
  .cons (.of zbyx_) <|
  .cons (.of zbyy_) <|
  .cons (.none _) <|
  .cons (.none _) <|
  .cons (.of zbyz_) <|
  .cons (.of zbza_) <|
  .cons (.of zbzb_) <|
  .cons (.of zbzc_) <|
  .cons (.of zbzd_) <|
  .cons (.of zbze_) <|
  .cons (.of zbzf_) <|
  .cons (.of zbzg_) <|
  .cons (.of zbzh_) <|
  .cons (.of zbzi_) <|
  .cons (.of zbzj_) <|
  .cons (.of zbzk_) <|
  .cons (.none _) <|
  .cons (.of zbzl_) <|
  .cons (.of zbzm_) <|
  .cons (.of zbzn_) <|
  .cons (.of zbzo_) <|
  .cons (.of zbzp_) <|
  .cons (.of zbzq_) <|
  .cons (.none _) <|
  .cons (.none _) <|
  .cons (.none _) <|
  .cons (.none _) <|
  .cons (.none _) <|
  .cons (.none _) <|
  .cons (.none _) <|
  .cons (.none _) <|
  .cons (.none _) <|
  .cons (.none _) <|
  .cons (.none _) <|
  .cons (.none _) <|
  .cons (.none _) <|
  .cons (.none _) <|
  .cons (.none _) <|
  .cons (.none _) <|
  .cons (.none _) <|
  .cons (.none _) <|
  .cons (.none _) <|
  .cons (.none _) <|
  .cons (.none _) <|
  .cons (.none _) <|
  .cons (.none _) <|
  .cons (.none _) <|
  .cons (.none _) <|
  .cons (.none _) <|
  .cons (.none _) <|
  .cons (.none _) <|
  .cons (.none _) <|
  .cons (.none _) <|
  .cons (.none _) <|
  .cons (.none _) <|
  .cons (.none _) <|
  .cons (.none _) <|
  .cons (.none _) <|
  .cons (.none _) <|
  .cons (.none _) <|
  .cons (.none _) <|
  .cons (.none _) <|
  .cons (.none _) <|
  .cons (.none _) <|
  .cons (.none _) <|
  .cons (.none _) <|
  .cons (.none _) <|
  .cons (.none _) <|
  .cons (.of zbzr_) <|
  .cons (.none _) <|
  .cons (.none _) <|
  .cons (.none _) <|
  .cons (.none _) <|
  .cons (.none _) <|
  .cons (.of zbzs_) <|
  .cons (.none _) <|
  .cons (.none _) <|
  .cons (.none _) <|
  .cons (.none _) <|
  .cons (.none _) <|
  .cons (.none _) <|
  .cons (.none _) <|
  .cons (.none _) <|
  .cons (.none _) <|
  .cons (.none _) <|
  .cons (.none _) <|
  .cons (.none _) <|
  .cons (.none _) <|
  .cons (.none _) <|
  .cons (.none _) <|
  .cons (.of zbzt_) <|
  .cons (.none _) <|
  .cons (.none _) <|
  .cons (.none _) <|
  .cons (.none _) <|
  .cons (.none _) <|
  .cons (.none _) <|
  .cons (.none _) <|
  .cons (.none _) <|
  .cons (.none _) <|
  .cons (.none _) <|
  .cons (.none _) <|
  .cons (.none _) <|
  .cons (.none _) <|
  .cons (.none _) <|
  .cons (.of zbzu_) <|
  .cons (.of zbzv_) <|
  .cons (.none _) <|
  .cons (.none _) <|
  .cons (.of zbzw_) <|
  .cons (.of zbzx_) <|
  .cons (.none _) <|
  .cons (.none _) <|
  .cons (.none _) <|
  .cons (.none _) <|
  .cons (.none _) <|
  .cons (.none _) <|
  .cons (.none _) <|
  .cons (.none _) <|
  .cons (.none _) <|
  .cons (.none _) <|
  .cons (.none _) <|
  .cons (.none _) <|
  .cons (.none _) <|
  .cons (.none _) <|
  .cons (.none _) <|
  .cons (.none _) <|
  .cons (.none _) <|
  .cons (.none _) <|
  .cons (.none _) <|
  .cons (.none _) <|
  .cons (.none _) <|
  .cons (.none _) <|
  .cons (.none _) <|
  .cons (.none _) <|
  .cons (.none _) <|
  .cons (.none _) <|
  .cons (.none _) <|
  .cons (.none _) <|
  .cons (.none _) <|
  .cons (.none _) <|
  .cons (.none _) <|
  .cons (.of zbzy_) <|
  .cons (.none _) <|
  .cons (.none _) <|
  .cons (.none _) <|
  .cons (.none _) <|
  .cons (.none _) <|
  .cons (.none _) <|
  .cons (.none _) <|
  .cons (.of zbzz_) <|
  .cons (.none _) <|
  .cons (.none _) <|
  .cons (.of zcaa_) <|
  .cons (.none _) <|
  .cons (.none _) <|
  .cons (.none _) <|
  .cons (.none _) <|
  .cons (.none _) <|
  .cons (.none _) <|
  .cons (.none _) <|
  .cons (.none _) <|
  .cons (.none _) <|
  .cons (.none _) <|
  .cons (.none _) <|
  .cons (.none _) <|
  .cons (.none _) <|
  .cons (.none _) <|
  .cons (.none _) <|
  .cons (.none _) <|
  .cons (.none _) <|
  .cons (.none _) <|
  .cons (.none _) <|
  .cons (.none _) <|
  .cons (.none _) <|
  .cons (.none _) <|
  .cons (.none _) <|
  .cons (.none _) <|
  .cons (.none _) <|
  .cons (.of zcab_) <|
  .cons (.none _) <|
  .cons (.none _) <|
  .cons (.none _) <|
  .cons (.none _) <|
  .cons (.none _) <|
  .cons (.none _) <|
  .cons (.none _) <|
  .cons (.none _) <|
  .cons (.none _) <|
  .cons (.none _) <|
  .cons (.none _) <|
  .cons (.none _) <|
  .cons (.none _) <|
  .cons (.none _) <|
  .cons (.none _) <|
  .cons (.none _) <|
  .cons (.none _) <|
  .cons (.none _) <|
  .cons (.none _) <|
  .cons (.none _) <|
  .cons (.none _) <|
  .cons (.none _) <|
  .cons (.none _) <|
  .cons (.none _) <|
  .cons (.none _) <|
  .cons (.none _) <|
  .cons (.none _) <|
  .cons (.none _) <|
  .cons (.none _) <|
  .cons (.of zcac_) <|
  .cons (.none _) <|
  .cons (.none _) <|
  .cons (.none _) <|
  .cons (.none _) <|
  .cons (.none _) <|
  .cons (.none _) <|
  .cons (.none _) <|
  .cons (.none _) <|
  .cons (.none _) <|
  .cons (.none _) <|
  .cons (.none _) <|
  .cons (.none _) <|
  .cons (.none _) <|
  .cons (.none _) <|
  .cons (.none _) <|
  .cons (.none _) <|
  .cons (.none _) <|
  .cons (.none _) <|
  .cons (.none _) <|
  .cons (.none _) <|
  .cons (.none _) <|
  .cons (.none _) <|
  .cons (.none _) <|
  .cons (.none _) <|
  .cons (.none _) <|
  .cons (.none _) <|
  .cons (.none _) <|
  .cons (.none _) <|
  .cons (.none _) <|
  .cons (.none _) <|
  .cons (.none _) <|
  .cons (.none _) <|
  .cons (.none _) <|
  .cons (.none _) <|
  .cons (.none _) <|
  .cons (.none _) <|
  .cons (.none _) <|
  .cons (.none _) <|
  .cons (.none _) <|
  .cons (.none _) <|
  .cons (.none _) <|
  .cons (.none _) <|
  .cons (.none _) <|
  .cons (.none _) <|
  .cons (.none _) <|
  .cons (.none _) <|
  .cons (.none _) <|
  .cons (.none _) <|
  .cons (.none _) <|
  .cons (.none _) <|
  .cons (.none _) <|
  .cons (.none _) <|
  .cons (.none _) <|
  .cons (.none _) <|
  .cons (.none _) <|
  .cons (.none _) <|
  .cons (.none _) <|
  .cons (.none _) <|
  .cons (.none _) <|
  .cons (.none _) <|
  .cons (.none _) <|
  .cons (.none _) <|
  .cons (.none _) <|
  .cons (.none _) <|
  .cons (.none _) <|
  .cons (.none _) <|
  .cons (.none _) <|
  .cons (.none _) <|
  .cons (.none _) <|
  .cons (.none _) <|
  .cons (.none _) <|
  .cons (.none _) <|
  .cons (.none _) <|
  .cons (.none _) <|
  .cons (.none _) <|
  .cons (.none _) <|
  .cons (.none _) <|
  .cons (.none _) <|
  .cons (.none _) <|
  .cons (.none _) <|
  .cons (.none _) <|
  .cons (.none _) <|
  .cons (.none _) <|
  .cons (.none _) <|
  .cons (.none _) <|
  .cons (.none _) <|
  .cons (.none _) <|
  .cons (.none _) <|
  .cons (.none _) <|
  .cons (.none _) <|
  .cons (.none _) <|
  .cons (.none _) <|
  .cons (.none _) <|
  .cons (.none _) <|
  .cons (.none _) <|
  .cons (.none _) <|
  .cons (.none _) <|
  .cons (.none _) <|
  .cons (.none _) <|
  .cons (.of zcad_) <|
  .cons (.none _) <|
  .cons (.of zcae_) <|
  .cons (.none _) <|
  .cons (.none _) <|
  .cons (.none _) <| .nil
theorem tok : TOk Tryz.prog phi := fun f id h => by
  by_cases hf : f < 1000000
  · rw [phi_lt hf] at h
    exact (eachT.get FitT.none f) id h
  · obtain ⟨q, rfl⟩ : ∃ q, f = q + 1000000 := ⟨f - 1000000, by omega⟩
    rw [phi_ge] at h
    split at h
    · exact (eachT.get FitT.none q) id h
    · cases h
end Go.Proofs.Sl
namespace Go.Proofs
open Go.Shelf
shelf_lay_g SlLaysF0.n6 Slsf 6 at Tryz 97 as Tryz.sortSpan
shelf_lay_g SlLaysZI.n7 Ggz 7 at Tryz 47 as Tryz.keysA
shelf_lay_g SlLaysZI.n6 Ggz 6 at Tryz 46 as Tryz.sortedA
shelf_lay_g SlLaysM.n5 Slgm 5 at Tryz 77 as Tryz.sortA
theorem Tryz.sortsA (m : Nat) : AnyZI.SortsIn Tryz.prog Tryz.sortedA_ren Fence.wide m :=
  ⟨fun blk off cap ss W hH hblk hsz => callsIn_wide.2 (AnyM.slices_Sort_int Tryz.sortA blk off cap ss W hH hblk hsz),
   fun p cap W => callsIn_wide.2 (AnyM.slices_Sort_int_none Tryz.sortA p cap W)⟩
end Go.Proofs
namespace Go.Proofs.Sl
def zSpan : List V := [.s (.int .i64 0), .s (.int .i64 0), .s (.int .i64 0), .s (.int .i64 0), .s (.int .i64 0), .s (.int .i64 0), .s (.string ⟨#[]⟩), .s (.string ⟨#[]⟩), .s (.string ⟨#[]⟩), .s (.int .i64 0), .s (.int .i64 0), .s (.bool false), .s (.slice none 0 0), .s (.slice none 0 0)]
theorem zcaf_ : plainZ zSpan := by
  intro i x e
  have : ∀ v ∈ zSpan, v.tl = none := by
    intro v hv
    simp only [zSpan, List.mem_cons, List.not_mem_nil, or_false] at hv
    rcases hv with rfl | rfl | rfl | rfl | rfl | rfl | rfl | rfl | rfl | rfl | rfl | rfl | rfl | rfl <;> rfl
  exact this x (List.mem_of_getElem? e)
theorem zcag_ : NatOk Tryz.prog phi 97 (.sort 14) := zbsq_ (zbsr_ Tryz.sortSpan 14 Tryz.isAgg40 Tryz.sizeOf40) (zbss_ Tryz.sortSpan) tok
theorem zcah_ : NatOk Tryz.prog phi 114 (.seq zbx_ 14 837723144972) :=
  natSeq (φ := phi) (it := zbx_) (vid := 98) (lim := 837723144972) (k := 14) Tryz.func114 Tryz.func98 rfl (by kernel_rfl) (by kernel_rfl) (z := zSpan) rfl zcaf_ (by decide) tok
theorem zcai_ : NatOk Tryz.prog phi 46 (.rd (zee_ zcy_)) :=
  zbue_ (kid := 78) rfl (zbug_ Tryz.keysA Tryz.sortedA Tryz.sortsA (enters_of Tryz.func77 (by kernel_rfl) rfl) (enters_of Tryz.func78 (by kernel_rfl) rfl))
theorem zcaj_ : chkFun Tryz.prog phi Tryz.f5 zid_ = true := by kernel_rfl
theorem zcak_ : chkFun Tryz.prog phi Tryz.f22 zau_ = true := by kernel_rfl
theorem zcal_ : chkFun Tryz.prog phi Tryz.f27 ziq_ = true := by kernel_rfl
theorem zcam_ : chkFun Tryz.prog phi Tryz.f38 ziw_ = true := by kernel_rfl
theorem zcan_ : chkFun Tryz.prog phi Tryz.f17 zik_ = true := by kernel_rfl
theorem zcao_ : chkFun Tryz.prog phi Tryz.f82 zjm_ = true := by kernel_rfl
theorem zcap_ : chkFun Tryz.prog phi Tryz.f37 ziv_ = true := by kernel_rfl
theorem zcaq_ : chkFun Tryz.prog phi Tryz.f72 zjk_ = true := by kernel_rfl
theorem zcar_ : chkFun Tryz.prog phi Tryz.f42 zgo_ = true := by kernel_rfl
theorem zcas_ : chkFun Tryz.prog phi Tryz.f24 zip_ = true := by kernel_rfl
theorem zcat_ : chkFun Tryz.prog phi Tryz.f21 zin_ = true := by kernel_rfl
theorem zcau_ : chkFun Tryz.prog phi Tryz.f51 zja_ = true := by kernel_rfl
theorem zcav_ : chkFun Tryz.prog phi Tryz.f62 zas_ = true := by kernel_rfl
theorem zcaw_ : chkFun Tryz.prog phi Tryz.f50 zqw_ = true := by kernel_rfl
theorem zcax_ : chkFun Tryz.prog phi Tryz.f85 zra_ = true := by kernel_rfl
theorem zcay_ : chkFun Tryz.prog phi Tryz.f86 zjo_ = true := by kernel_rfl
theorem zcaz_ : chkFun Tryz.prog phi Tryz.f60 zje_ = true := by kernel_rfl
theorem zcba_ : chkFun Tryz.prog phi Tryz.f23 zio_ = true := by kernel_rfl
theorem zcbb_ : chkFun Tryz.prog phi Tryz.f8 zie_ = true := by kernel_rfl
theorem zcbc_ : chkFun Tryz.prog phi Tryz.f13 zgl_ = true := by kernel_rfl
theorem zcbd_ : chkFun Tryz.prog phi Tryz.f36 ziu_ = true := by kernel_rfl
theorem zcbe_ : chkFun Tryz.prog phi Tryz.f20 zim_ = true := by kernel_rfl
theorem zcbf_ : chkFun Tryz.prog phi Tryz.f15 zif_ = true := by kernel_rfl
theorem zcbg_ : chkFun Tryz.prog phi Tryz.f55 zez_ = true := by kernel_rfl
theorem zcbh_ : chkFun Tryz.prog phi Tryz.f56 zfa_ = true := by kernel_rfl
theorem zcbi_ : chkFun Tryz.prog phi Tryz.f57 zjd_ = true := by kernel_rfl
theorem zcbj_ : chkFun Tryz.prog phi Tryz.f58 zgr_ = true := by kernel_rfl
theorem zcbk_ : chkFun Tryz.prog phi Tryz.f59 zgs_ = true := by kernel_rfl
theorem zcbl_ : chkFun Tryz.prog phi Tryz.f66 zjg_ = true := by kernel_rfl
theorem zcbm_ : chkFun Tryz.prog phi Tryz.f67 zjh_ = true := by kernel_rfl
theorem zcbn_ : chkFun Tryz.prog phi Tryz.f68 zfc_ = true := by kernel_rfl
theorem zcbo_ : chkFun Tryz.prog phi Tryz.f69 zgt_ = true := by kernel_rfl
theorem zcbp_ : chkFun Tryz.prog phi Tryz.f54 zjc_ = true := by kernel_rfl
theorem zcbq_ : chkFun Tryz.prog phi Tryz.f70 zji_ = true := by kernel_rfl
theorem zcbr_ : chkFun Tryz.prog phi Tryz.f71 zjj_ = true := by kernel_rfl
theorem zcbs_ : chkFun Tryz.prog phi Tryz.f40 zgn_ = true := by kernel_rfl
theorem zcbt_ : chkFun Tryz.prog phi Tryz.f41 zew_ = true := by kernel_rfl
theorem zcbu_ : chkFun Tryz.prog phi Tryz.f29 zir_ = true := by kernel_rfl
theorem zcbv_ : chkFun Tryz.prog phi Tryz.f52 zqx_ = true := by kernel_rfl
theorem zcbw_ : chkFun Tryz.prog phi Tryz.f53 zjb_ = true := by kernel_rfl
theorem zcbx_ : chkFun Tryz.prog phi Tryz.f84 zjn_ = true := by kernel_rfl
theorem zcby_ : chkFun Tryz.prog phi Tryz.f87 zjq_ = true := by kernel_rfl
theorem zcbz_ : chkFun Tryz.prog phi Tryz.f83 zqz_ = true := by kernel_rfl
theorem zcca_ : chkFun Tryz.prog phi Tryz.f102 zrg_ = true := by kernel_rfl
theorem zccb_ : chkFun Tryz.prog phi Tryz.f101 zjv_ = true := by kernel_rfl
theorem zccc_ : chkFun Tryz.prog phi Tryz.f34 zis_ = true := by kernel_rfl
theorem zccd_ : chkFun Tryz.prog phi Tryz.f48 zey_ = true := by kernel_rfl
theorem zcce_ : chkFun Tryz.prog phi Tryz.f49 zgq_ = true := by kernel_rfl
theorem zccf_ : chkFun Tryz.prog phi Tryz.f89 zjr_ = true := by kernel_rfl
theorem zccg_ : chkFun Tryz.prog phi Tryz.f90 zjs_ = true := by kernel_rfl
theorem zcch_ : chkFun Tryz.prog phi Tryz.f91 zjt_ = true := by kernel_rfl
theorem zcci_ : chkFun Tryz.prog phi Tryz.f92 zju_ = true := by kernel_rfl
theorem zccj_ : chkFun Tryz.prog phi Tryz.f64 zjf_ = true := by kernel_rfl
theorem zcck_ : chkFun Tryz.prog phi Tryz.f99 zre_ = true := by kernel_rfl
theorem zccl_ : chkFun Tryz.prog phi Tryz.f100 zrf_ = true := by kernel_rfl
theorem zccm_ : chkFun Tryz.prog phi Tryz.f39 zix_ = true := by kernel_rfl
theorem zccn_ : chkFun Tryz.prog phi Tryz.f79 zfd_ = true := by kernel_rfl
theorem zcco_ : chkFun Tryz.prog phi Tryz.f80 zgx_ = true := by kernel_rfl
theorem zccp_ : chkFun Tryz.prog phi Tryz.f81 zgy_ = true := by kernel_rfl
theorem zccq_ : chkFun Tryz.prog phi Tryz.f73 zgv_ = true := by kernel_rfl
theorem zccr_ : chkFun Tryz.prog phi Tryz.f74 zgw_ = true := by kernel_rfl
theorem zccs_ : chkFun Tryz.prog phi Tryz.f96 zha_ = true := by kernel_rfl
theorem zcct_ : chkFun Tryz.prog phi Tryz.f98 zrd_ = true := by kernel_rfl
theorem zccu_ : chkFun Tryz.prog phi Tryz.f19 zil_ = true := by kernel_rfl
theorem zccv_ : chkFun Tryz.prog phi Tryz.f18 zev_ = true := by kernel_rfl
theorem zccw_ : chkFun Tryz.prog phi Tryz.f43 zex_ = true := by kernel_rfl
theorem zccx_ : chkFun Tryz.prog phi Tryz.f47 ziz_ = true := by kernel_rfl
theorem zccy_ : chkFun Tryz.prog phi Tryz.f44 zgp_ = true := by kernel_rfl
theorem zccz_ : chkFun Tryz.prog phi Tryz.f45 ziy_ = true := by kernel_rfl
theorem zcda_ : chkFun Tryz.prog phi Tryz.f75 zjl_ = true := by kernel_rfl
theorem zcdb_ : chkFun Tryz.prog phi Tryz.f33 zqt_ = true := by kernel_rfl
theorem zcdc_ : chkFun Tryz.prog phi Tryz.f65 zqy_ = true := by kernel_rfl
theorem zcdd_ : chkFun Tryz.prog phi Tryz.f88 zrb_ = true := by kernel_rfl
theorem zcde_ : chkFun Tryz.prog phi Tryz.f4 zic_ = true := by kernel_rfl
theorem zcdf_ : chkFun Tryz.prog phi Tryz.f16 zig_ = true := by kernel_rfl
def Entry (id : FuncId) (X : XF) : Prop := ∃ fn, Tryz.prog.funcs[id]? = some fn ∧ FunOk Tryz.prog phi id fn X
theorem zcdg_ : Entry 5 zid_ := ⟨Tryz.f5, Tryz.func5, zcaj_⟩
theorem zcdh_ : Entry 22 zau_ := ⟨Tryz.f22, Tryz.func22, zcak_⟩
theorem zcdi_ : Entry 27 ziq_ := ⟨Tryz.f27, Tryz.func27, zcal_⟩
theorem zcdj_ : Entry 38 ziw_ := ⟨Tryz.f38, Tryz.func38, zcam_⟩
theorem zcdk_ : Entry 17 zik_ := ⟨Tryz.f17, Tryz.func17, zcan_⟩
theorem zcdl_ : Entry 82 zjm_ := ⟨Tryz.f82, Tryz.func82, zcao_⟩
theorem zcdm_ : Entry 37 ziv_ := ⟨Tryz.f37, Tryz.func37, zcap_⟩
theorem zcdn_ : Entry 72 zjk_ := ⟨Tryz.f72, Tryz.func72, zcaq_⟩
theorem zcdo_ : Entry 42 zgo_ := ⟨Tryz.f42, Tryz.func42, zcar_⟩
theorem zcdp_ : Entry 24 zip_ := ⟨Tryz.f24, Tryz.func24, zcas_⟩
theorem zcdq_ : Entry 21 zin_ := ⟨Tryz.f21, Tryz.func21, zcat_⟩
theorem zcdr_ : Entry 51 zja_ := ⟨Tryz.f51, Tryz.func51, zcau_⟩
theorem zcds_ : Entry 62 zas_ := ⟨Tryz.f62, Tryz.func62, zcav_⟩
theorem zcdt_ : Entry 50 zqw_ := ⟨Tryz.f50, Tryz.func50, zcaw_⟩
theorem zcdu_ : Entry 85 zra_ := ⟨Tryz.f85, Tryz.func85, zcax_⟩
theorem zcdv_ : Entry 86 zjo_ := ⟨Tryz.f86, Tryz.func86, zcay_⟩
theorem zcdw_ : Entry 60 zje_ := ⟨Tryz.f60, Tryz.func60, zcaz_⟩
theorem zcdx_ : Entry 23 zio_ := ⟨Tryz.f23, Tryz.func23, zcba_⟩
theorem zcdy_ : Entry 8 zie_ := ⟨Tryz.f8, Tryz.func8, zcbb_⟩
theorem zcdz_ : Entry 13 zgl_ := ⟨Tryz.f13, Tryz.func13, zcbc_⟩
theorem zcea_ : Entry 36 ziu_ := ⟨Tryz.f36, Tryz.func36, zcbd_⟩
theorem zceb_ : Entry 20 zim_ := ⟨Tryz.f20, Tryz.func20, zcbe_⟩
theorem zcec_ : Entry 15 zif_ := ⟨Tryz.f15, Tryz.func15, zcbf_⟩
theorem zced_ : Entry 55 zez_ := ⟨Tryz.f55, Tryz.func55, zcbg_⟩
theorem zcee_ : Entry 56 zfa_ := ⟨Tryz.f56, Tryz.func56, zcbh_⟩
theorem zcef_ : Entry 57 zjd_ := ⟨Tryz.f57, Tryz.func57, zcbi_⟩
theorem zceg_ : Entry 58 zgr_ := ⟨Tryz.f58, Tryz.func58, zcbj_⟩
theorem zceh_ : Entry 59 zgs_ := ⟨Tryz.f59, Tryz.func59, zcbk_⟩
theorem zcei_ : Entry 66 zjg_ := ⟨Tryz.f66, Tryz.func66, zcbl_⟩
theorem zcej_ : Entry 67 zjh_ := ⟨Tryz.f67, Tryz.func67, zcbm_⟩
theorem zcek_ : Entry 68 zfc_ := ⟨Tryz.f68, Tryz.func68, zcbn_⟩
theorem zcel_ : Entry 69 zgt_ := ⟨Tryz.f69, Tryz.func69, zcbo_⟩
theorem zcem_ : Entry 54 zjc_ := ⟨Tryz.f54, Tryz.func54, zcbp_⟩
theorem zcen_ : Entry 70 zji_ := ⟨Tryz.f70, Tryz.func70, zcbq_⟩
theorem zceo_ : Entry 71 zjj_ := ⟨Tryz.f71, Tryz.func71, zcbr_⟩
theorem zcep_ : Entry 40 zgn_ := ⟨Tryz.f40, Tryz.func40, zcbs_⟩
theorem zceq_ : Entry 41 zew_ := ⟨Tryz.f41, Tryz.func41, zcbt_⟩
theorem zcer_ : Entry 29 zir_ := ⟨Tryz.f29, Tryz.func29, zcbu_⟩
theorem zces_ : Entry 52 zqx_ := ⟨Tryz.f52, Tryz.func52, zcbv_⟩
theorem zcet_ : Entry 53 zjb_ := ⟨Tryz.f53, Tryz.func53, zcbw_⟩
theorem zceu_ : Entry 84 zjn_ := ⟨Tryz.f84, Tryz.func84, zcbx_⟩
theorem zcev_ : Entry 87 zjq_ := ⟨Tryz.f87, Tryz.func87, zcby_⟩
theorem zcew_ : Entry 83 zqz_ := ⟨Tryz.f83, Tryz.func83, zcbz_⟩
theorem zcex_ : Entry 102 zrg_ := ⟨Tryz.f102, Tryz.func102, zcca_⟩
theorem zcey_ : Entry 101 zjv_ := ⟨Tryz.f101, Tryz.func101, zccb_⟩
theorem zcez_ : Entry 34 zis_ := ⟨Tryz.f34, Tryz.func34, zccc_⟩
theorem zcfa_ : Entry 48 zey_ := ⟨Tryz.f48, Tryz.func48, zccd_⟩
theorem zcfb_ : Entry 49 zgq_ := ⟨Tryz.f49, Tryz.func49, zcce_⟩
theorem zcfc_ : Entry 89 zjr_ := ⟨Tryz.f89, Tryz.func89, zccf_⟩
theorem zcfd_ : Entry 90 zjs_ := ⟨Tryz.f90, Tryz.func90, zccg_⟩
theorem zcfe_ : Entry 91 zjt_ := ⟨Tryz.f91, Tryz.func91, zcch_⟩
theorem zcff_ : Entry 92 zju_ := ⟨Tryz.f92, Tryz.func92, zcci_⟩
theorem zcfg_ : Entry 64 zjf_ := ⟨Tryz.f64, Tryz.func64, zccj_⟩
theorem zcfh_ : Entry 99 zre_ := ⟨Tryz.f99, Tryz.func99, zcck_⟩
theorem zcfi_ : Entry 100 zrf_ := ⟨Tryz.f100, Tryz.func100, zccl_⟩
theorem zcfj_ : Entry 39 zix_ := ⟨Tryz.f39, Tryz.func39, zccm_⟩
theorem zcfk_ : Entry 79 zfd_ := ⟨Tryz.f79, Tryz.func79, zccn_⟩
theorem zcfl_ : Entry 80 zgx_ := ⟨Tryz.f80, Tryz.func80, zcco_⟩
theorem zcfm_ : Entry 81 zgy_ := ⟨Tryz.f81, Tryz.func81, zccp_⟩
theorem zcfn_ : Entry 73 zgv_ := ⟨Tryz.f73, Tryz.func73, zccq_⟩
theorem zcfo_ : Entry 74 zgw_ := ⟨Tryz.f74, Tryz.func74, zccr_⟩
theorem zcfp_ : Entry 96 zha_ := ⟨Tryz.f96, Tryz.func96, zccs_⟩
theorem zcfq_ : Entry 97 zrc_ := ⟨Tryz.f97, Tryz.func97, zcag_⟩
theorem zcfr_ : Entry 98 zrd_ := ⟨Tryz.f98, Tryz.func98, zcct_⟩
theorem zcfs_ : Entry 114 zrh_ := ⟨Tryz.f114, Tryz.func114, zcah_⟩
theorem zcft_ : Entry 19 zil_ := ⟨Tryz.f19, Tryz.func19, zccu_⟩
theorem zcfu_ : Entry 18 zev_ := ⟨Tryz.f18, Tryz.func18, zccv_⟩
theorem zcfv_ : Entry 43 zex_ := ⟨Tryz.f43, Tryz.func43, zccw_⟩
theorem zcfw_ : Entry 46 zqv_ := ⟨Tryz.f46, Tryz.func46, zcai_⟩
theorem zcfx_ : Entry 47 ziz_ := ⟨Tryz.f47, Tryz.func47, zccx_⟩
theorem zcfy_ : Entry 44 zgp_ := ⟨Tryz.f44, Tryz.func44, zccy_⟩
theorem zcfz_ : Entry 45 ziy_ := ⟨Tryz.f45, Tryz.func45, zccz_⟩
theorem zcga_ : Entry 75 zjl_ := ⟨Tryz.f75, Tryz.func75, zcda_⟩
theorem zcgb_ : Entry 33 zqt_ := ⟨Tryz.f33, Tryz.func33, zcdb_⟩
theorem zcgc_ : Entry 78 zxm_ := ⟨Tryz.f78, Tryz.func78, zbes_⟩
theorem zcgd_ : Entry 65 zqy_ := ⟨Tryz.f65, Tryz.func65, zcdc_⟩
theorem zcge_ : Entry 88 zrb_ := ⟨Tryz.f88, Tryz.func88, zcdd_⟩
theorem zcgf_ : Entry 4 zic_ := ⟨Tryz.f4, Tryz.func4, zcde_⟩
theorem zcgg_ : Entry 16 zig_ := ⟨Tryz.f16, Tryz.func16, zcdf_⟩
def Fit (a : Option FuncId) (x : Option XF) : Prop := ∀ id, a = some id → ∃ X, x = some X ∧ Entry id X
theorem Fit.of {id : FuncId} {X : XF} (t : Entry id X) : Fit (some id) (some X) := fun _ h => by cases h; exact ⟨X, rfl, t⟩
theorem Fit.none (x : Option XF) : Fit Option.none x := fun _ h => by cases h
theorem each : Each Fit phiL XPL :=
  .cons (.none _) <|
  .cons (.none _) <|
  .cons (.none _) <|
  .cons (.none _) <|
  .cons (.none _) <|
  .cons (.none _) <|
  .cons (.none _) <|
  .cons (.none _) <|
  .cons (.none _) <|
  .cons (.none _) <|
  .cons (.none _) <|
  .cons (.none _) <|
  .cons (.none _) <|
  .cons (.none _) <|
  .cons (.none _) <|
  .cons (.none _) <|
  .cons (.none _) <|
  .cons (.none _) <|
  .cons (.none _) <|
  .cons (.none _) <|
  .cons (.none _) <|
  .cons (.none _) <|
  .cons (.none _) <|
  .cons (.none _) <|
  .cons (.none _) <|
  .cons (.none _) <|
  .cons (.none _) <|
  .cons (.none _) <|
  .cons (.none _) <|
  .cons (.none _) <|
  .cons (.none _) <|
  .cons (.none _) <|
  .cons (.none _) <|
  .cons (.none _) <|
  .cons (.none _) <|
  .cons (.none _) <|
  .cons (.none _) <|
  .cons (.none _) <|
  .cons (.none _) <|
  .cons (.none _) <|
  .cons (.none _) <|
  .cons (.none _) <|
  .cons (.none _) <|
  .cons (.none _) <|
  .cons (.none _) <|
  .cons (.none _) <|
  .cons (.none _) <|
  .cons (.none _) <|
  .cons (.none _) <|
  .cons (.none _) <|
  .cons (.none _) <|
  .cons (.none _) <|
  .cons (.none _) <|
  .cons (.none _) <|
  .cons (.none _) <|
  .cons (.none _) <|
  .cons (.none _) <|
  .cons (.none _) <|
  .cons (.none _) <|
  .cons (.none _) <|
  .cons (.none _) <|
  .cons (.none _) <|
  .cons (.none _) <|
  .cons (.none _) <|
  .cons (.none _) <|
  .cons (.none _) <|
  .cons (.none _) <|
  .cons (.none _) <|
  .cons (.none _) <|
  .cons (.none _) <|
  .cons (.none _) <|
  .cons (.none _) <|
  .cons (.none _) <|
  .cons (.none _) <|
  .cons (.none _) <|
  .cons (.none _) <|
  .cons (.none _) <|
  .cons (.none _) <|
  .cons (.none _) <|
  .cons (.none _) <|
  .cons (.none _) <|
  .cons (.none _) <|
  .cons (.none _) <|
  .cons (.none _) <|
  .cons (.none _) <|
  .cons (.none _) <|
  .cons (.none _) <|
  .cons (.none _) <|
  .cons (.none _) <|
  .cons (.none _) <|
  .cons (.none _) <|
  .cons (.none _) <|
  .cons (.none _) <|
  .cons (.none _) <|
  .cons (.none _) <|
  .cons (.none _) <|
  .cons (.none _) <|
  .cons (.none _) <|
  .cons (.none _) <|
  .cons (.none _) <|
  .cons (.none _) <|
  .cons (.none _) <|
  .cons (.none _) <|
  .cons (.none _) <|
  .cons (.none _) <|
  .cons (.none _) <|
  .cons (.none _) <|
  .cons (.none _) <|
  .cons (.none _) <|
  .cons (.none _) <|
  .cons (.none _) <|
  .cons (.none _) <|
  .cons (.none _) <|
  .cons (.none _) <|
  .cons (.none _) <|
  .cons (.none _) <|
  .cons (.none _) <|
  .cons (.none _) <|
  .cons (.none _) <|
  .cons (.none _) <|
  .cons (.none _) <|
  .cons (.none _) <|
  .cons (.none _) <|
  .cons (.none _) <|
  .cons (.none _) <|
  .cons (.none _) <|
  .cons (.none _) <|
  .cons (.none _) <|
  .cons (.none _) <|
  .cons (.none _) <|
  .cons (.none _) <|
  .cons (.none _) <|
  .cons (.none _) <|
  .cons (.none _) <|
  .cons (.none _) <|
  .cons (.none _) <|
  .cons (.none _) <|
  .cons (.none _) <|
  .cons (.none _) <|
  .cons (.none _) <|
  .cons (.none _) <|
  .cons (.none _) <|
  .cons (.none _) <|
  .cons (.none _) <|
  .cons (.none _) <|
  .cons (.none _) <|
  .cons (.none _) <|
  .cons (.none _) <|
  .cons (.none _) <|
  .cons (.none _) <|
  .cons (.none _) <|
  .cons (.none _) <|
  .cons (.none _) <|
  .cons (.none _) <|
  .cons (.none _) <|
  .cons (.none _) <|
  .cons (.of zcdg_) <|
  .cons (.of zcdh_) <|
  .cons (.none _) <|
  .cons (.of zcdi_) <|
  .cons (.of zcdj_) <|
  .cons (.of zcdk_) <|
  .cons (.of zcdl_) <|
  .cons (.of zcdm_) <|
  .cons (.of zcdn_) <|
  .cons (.of zcdo_) <|
  .cons (.of zcdp_) <|
  .cons (.none _) <|
  .cons (.of zcdq_) <|
  .cons (.of zcdr_) <|
  .cons (.none _) <|
  .cons (.of zcds_) <|
  .cons (.none _) <|
  .cons (.of zcdt_) <|
  .cons (.of zcdu_) <|
  .cons (.none _) <|
  .cons (.none _) <|
  .cons (.of zcdv_) <|
  .cons (.none _) <|
  .cons (.none _) <|
  .cons (.of zcdw_) <|
  .cons (.of zcdx_) <|
  .cons (.of zcdy_) <|
  .cons (.of zcdz_) <|
  .cons (.none _) <|
  .cons (.of zcea_) <|
  .cons (.none _) <|
  .cons (.of zceb_) <|
  .cons (.of zcec_) <|
  .cons (.of zced_) <|
  .cons (.of zcee_) <|
  .cons (.of zcef_) <|
  .cons (.of zceg_) <|
  .cons (.of zceh_) <|
  .cons (.none _) <|
  .cons (.of zcei_) <|
  .cons (.of zcej_) <|
  .cons (.of zcek_) <|
  .cons (.of zcel_) <|
  .cons (.of zcem_) <|
  .cons (.of zcen_) <|
  .cons (.of zceo_) <|
  .cons (.of zcep_) <|
  .cons (.of zceq_) <|
  .cons (.of zcer_) <|
  .cons (.of zces_) <|
  .cons (.of zcet_) <|
  .cons (.of zceu_) <|
  .cons (.of zcev_) <|
  .cons (.of zcew_) <|
  .cons (.of zcex_) <|
  .cons (.of zcey_) <|
  .cons (.of zcez_) <|
  .cons (.of zcfa_) <|
  .cons (.none _) <|
  .cons (.none _) <|
  .cons (.of zcfb_) <|
  .cons (.of zcfc_) <|
  .cons (.of zcfd_) <|
  .cons (.of zcfe_) <|
  .cons (.of zcff_) <|
  .cons (.of zcfg_) <|
  .cons (.of zcfh_) <|
  .cons (.of zcfi_) <|
  .cons (.of zcfj_) <|
  .cons (.of zcfk_) <|
  .cons (.of zcfl_) <|
  .cons (.of zcfm_) <|
  .cons (.none _) <|
  .cons (.of zcfn_) <|
  .cons (.of zcfo_) <|
  .cons (.of zcfp_) <|
  .cons (.of zcfq_) <|
  .cons (.of zcfr_) <|
  .cons (.of zcfs_) <|
  .cons (.none _) <|
  .cons (.none _) <|
  .cons (.none _) <|
  .cons (.none _) <|
  .cons (.none _) <|
  .cons (.none _) <|
  .cons (.none _) <|
  .cons (.none _) <|
  .cons (.none _) <|
  .cons (.none _) <|
  .cons (.none _) <|
  .cons (.none _) <|
  .cons (.none _) <|
  .cons (.none _) <|
  .cons (.none _) <|
  .cons (.none _) <|
  .cons (.none _) <|
  .cons (.none _) <|
  .cons (.none _) <|
  .cons (.none _) <|
  .cons (.none _) <|
  .cons (.none _) <|
  .cons (.none _) <|
  .cons (.none _) <|
  .cons (.none _) <|
  .cons (.none _) <|
  .cons (.none _) <|
  .cons (.none _) <|
  .cons (.none _) <|
  .cons (.none _) <|
  .cons (.none _) <|
  .cons (.none _) <|
  .cons (.none _) <|
  .cons (.none _) <|
  .cons (.none _) <|
  .cons (.none _) <|
  .cons (.none _) <|
  .cons (.none _) <|
  .cons (.none _) <|
  .cons (.none _) <|
  .cons (.none _) <|
  .cons (.none _) <|
  .cons (.none _) <|
  .cons (.none _) <|
  .cons (.none _) <|
  .cons (.of zcft_) <|
  .cons (.none _) <|
  .cons (.none _) <|
  .cons (.none _) <|
  .cons (.none _) <|
  .cons (.none _) <|
  .cons (.of zcfu_) <|
  .cons (.none _) <|
  .cons (.none _) <|
  .cons (.none _) <|
  .cons (.none _) <|
  .cons (.none _) <|
  .cons (.none _) <|
  .cons (.none _) <|
  .cons (.none _) <|
  .cons (.none _) <|
  .cons (.none _) <|
  .cons (.none _) <|
  .cons (.none _) <|
  .cons (.none _) <|
  .cons (.none _) <|
  .cons (.none _) <|
  .cons (.of zcfv_) <|
  .cons (.none _) <|
  .cons (.none _) <|
  .cons (.none _) <|
  .cons (.none _) <|
  .cons (.none _) <|
  .cons (.none _) <|
  .cons (.none _) <|
  .cons (.none _) <|
  .cons (.none _) <|
  .cons (.none _) <|
  .cons (.none _) <|
  .cons (.none _) <|
  .cons (.none _) <|
  .cons (.none _) <|
  .cons (.of zcfw_) <|
  .cons (.of zcfx_) <|
  .cons (.none _) <|
  .cons (.none _) <|
  .cons (.of zcfy_) <|
  .cons (.of zcfz_) <|
  .cons (.none _) <|
  .cons (.none _) <|
  .cons (.none _) <|
  .cons (.none _) <|
  .cons (.none _) <|
  .cons (.none _) <|
  .cons (.none _) <|
  .cons (.none _) <|
  .cons (.none _) <|
  .cons (.none _) <|
  .cons (.none _) <|
  .cons (.none _) <|
  .cons (.none _) <|
  .cons (.none _) <|
  .cons (.none _) <|
  .cons (.none _) <|
  .cons (.none _) <|
  .cons (.none _) <|
  .cons (.none _) <|
  .cons (.none _) <|
  .cons (.none _) <|
  .cons (.none _) <|
  .cons (.none _) <|
  .cons (.none _) <|
  .cons (.none _) <|
  .cons (.none _) <|
  .cons (.none _) <|
  .cons (.none _) <|
  .cons (.none _) <|
  .cons (.none _) <|
  .cons (.none _) <|
  .cons (.of zcga_) <|
  .cons (.none _) <|
  .cons (.none _) <|
  .cons (.none _) <|
  .cons (.none _) <|
  .cons (.none _) <|
  .cons (.none _) <|
  .cons (.none _) <|
  .cons (.of zcgb_) <|
  .cons (.none _) <|
  .cons (.none _) <|
  .cons (.of zcgc_) <|
  .cons (.none _) <|
  .cons (.none _) <|
  .cons (.none _) <|
  .cons (.none _) <|
  .cons (.none _) <|
  .cons (.none _) <|
  .cons (.none _) <|
  .cons (.none _) <|
  .cons (.none _) <|
  .cons (.none _) <|
  .cons (.none _) <|
  .cons (.none _) <|
  .cons (.none _) <|
  .cons (.none _) <|
  .cons (.none _) <|
  .cons (.none _) <|
  .cons (.none _) <|
  .cons (.none _) <|
  .cons (.none _) <|
  .cons (.none _) <|
  .cons (.none _) <|
  .cons (.none _) <|
  .cons (.none _) <|
  .cons (.none _) <|
  .cons (.none _) <|
  .cons (.of zcgd_) <|
  .cons (.none _) <|
  .cons (.none _) <|
  .cons (.none _) <|
  .cons (.none _) <|
  .cons (.none _) <|
  .cons (.none _) <|
  .cons (.none _) <|
  .cons (.none _) <|
  .cons (.none _) <|
  .cons (.none _) <|
  .cons (.none _) <|
  .cons (.none _) <|
  .cons (.none _) <|
  .cons (.none _) <|
  .cons (.none _) <|
  .cons (.none _) <|
  .cons (.none _) <|
  .cons (.none _) <|
  .cons (.none _) <|
  .cons (.none _) <|
  .cons (.none _) <|
  .cons (.none _) <|
  .cons (.none _) <|
  .cons (.none _) <|
  .cons (.none _) <|
  .cons (.none _) <|
  .cons (.none _) <|
  .cons (.none _) <|
  .cons (.none _) <|
  .cons (.of zcge_) <|
  .cons (.none _) <|
  .cons (.none _) <|
  .cons (.none _) <|
  .cons (.none _) <|
  .cons (.none _) <|
  .cons (.none _) <|
  .cons (.none _) <|
  .cons (.none _) <|
  .cons (.none _) <|
  .cons (.none _) <|
  .cons (.none _) <|
  .cons (.none _) <|
  .cons (.none _) <|
  .cons (.none _) <|
  .cons (.none _) <|
  .cons (.none _) <|
  .cons (.none _) <|
  .cons (.none _) <|
  .cons (.none _) <|
  .cons (.none _) <|
  .cons (.none _) <|
  .cons (.none _) <|
  .cons (.none _) <|
  .cons (.none _) <|
  .cons (.none _) <|
  .cons (.none _) <|
  .cons (.none _) <|
  .cons (.none _) <|
  .cons (.none _) <|
  .cons (.none _) <|
  .cons (.none _) <|
  .cons (.none _) <|
  .cons (.none _) <|
  .cons (.none _) <|
  .cons (.none _) <|
  .cons (.none _) <|
  .cons (.none _) <|
  .cons (.none _) <|
  .cons (.none _) <|
  .cons (.none _) <|
  .cons (.none _) <|
  .cons (.none _) <|
  .cons (.none _) <|
  .cons (.none _) <|
  .cons (.none _) <|
  .cons (.none _) <|
  .cons (.none _) <|
  .cons (.none _) <|
  .cons (.none _) <|
  .cons (.none _) <|
  .cons (.none _) <|
  .cons (.none _) <|
  .cons (.none _) <|
  .cons (.none _) <|
  .cons (.none _) <|
  .cons (.none _) <|
  .cons (.none _) <|
  .cons (.none _) <|
  .cons (.none _) <|
  .cons (.none _) <|
  .cons (.none _) <|
  .cons (.none _) <|
  .cons (.none _) <|
  .cons (.none _) <|
  .cons (.none _) <|
  .cons (.none _) <|
  .cons (.none _) <|
  .cons (.none _) <|
  .cons (.none _) <|
  .cons (.none _) <|
  .cons (.none _) <|
  .cons (.none _) <|
  .cons (.none _) <|
  .cons (.none _) <|
  .cons (.none _) <|
  .cons (.none _) <|
  .cons (.none _) <|
  .cons (.none _) <|
  .cons (.none _) <|
  .cons (.none _) <|
  .cons (.none _) <|
  .cons (.none _) <|
  .cons (.none _) <|
  .cons (.none _) <|
  .cons (.none _) <|
  .cons (.none _) <|
  .cons (.none _) <|
  .cons (.none _) <|
  .cons (.none _) <|
  .cons (.none _) <|
  .cons (.none _) <|
  .cons (.none _) <|
  .cons (.none _) <|
  .cons (.none _) <|
  .cons (.none _) <|
  .cons (.none _) <|
  .cons (.none _) <|
  .cons (.none _) <|
  .cons (.none _) <|
  .cons (.of zcgf_) <|
  .cons (.none _) <|
  .cons (.of zcgg_) <|
  .cons (.none _) <|
  .cons (.none _) <|
  .cons (.none _) <| .nil
theorem zcgh_ (f : Nat) (id : FuncId) (X : XF) (h1 : phi f = some id) (h2 : XP f = some X) : Entry id X := by
  have hf : f < 1000000 := by
    have hl : XPL.length ≤ 1000000 := of_decide_eq_true (by kernel_rfl)
    by_cases hq : f < XPL.length
    · omega
    · have : XP f = none := by
        show XPL.getD f none = none
        rw [List.getD_eq_getElem?_getD, List.getElem?_eq_none (by omega)]
        rfl
      rw [this] at h2
      cases h2
  rw [phi_lt hf] at h1
  obtain ⟨Y, h3, h4⟩ := (each.get Fit.none f : Fit (phiL.getD f none) (XP f)) id h1
  have h3 : XP f = some Y := h3
  rw [h2] at h3
  cases h3
  exact h4
def zxp_ (f : Nat) : Bool := match XP f with
  | some X => (match X.nat with
    | some .keep => true
    | _ => false)
  | none => true
theorem keepOk : keepL.all zxp_ = true := by kernel_rfl
theorem keepX (f : Nat) (id : FuncId) (X : XF) (h : phi (f + 1000000) = some id) (hx : XP f = some X) : X.nat = some .keep := by
  rw [phi_ge] at h
  split at h
  · rename_i hc
    have h1 := List.all_eq_true.1 keepOk f (List.contains_iff_mem.1 hc)
    unfold zxp_ at h1
    rw [hx] at h1
    simp only at h1
    split at h1
    · assumption
    · cases h1
  · cases h
theorem table : Table Tryz.prog phi XP where
  follows := by kernel_rfl
  there := tok
  code := fun f id X h hx => zcgh_ f id X h hx
  keep := keepX
theorem zcgi_ : ownKnob Tryz.prog.godebug = none := by kernel_rfl
theorem zcgj_ : laidOutB Tryz.prog = true := by kernel_rfl
end Go.Proofs.Sl
