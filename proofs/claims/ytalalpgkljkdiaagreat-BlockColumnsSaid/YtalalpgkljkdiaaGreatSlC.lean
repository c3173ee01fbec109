/- The functions of the program are what the evaluator has for them. -/
import Derived.Test.YtalalpgkljkdiaaGreatProg
import Derived.Test.YtalalpgkljkdiaaGreatSlB
import Derived.Test.YtalalpgkljkdiaaGreatSlP
import Derived.Test.YtalalpgkljkdiaaGreatSlN
import Derived.Ground.GgzProg
import Derived.Ground.SlgmProg
import Derived.Shelf.SlGeneric
import Derived.Ground.SlsfProg
import Derived.Ground.Names8Prog
set_option linter.unusedVariables false
set_option linter.unusedSimpArgs false
set_option linter.unnecessarySimpa false
set_option maxRecDepth 100000
namespace Go.Proofs.Sl
def phiL:List (Option FuncId):=[none,none,none,none,none,none,none,none,none,some 117,some 132,none,none,some 92,none,none,none,none,none,none,none,none,none,none,none,none,none,none,none,none,none,none,none,none,some 125,none,none,none,none,none,none,none,none,none,none,none,none,some 199,none,some 179,none,none,none,none,some 93,none,none,none,none,none,none,none,none,none,none,none,none,none,none,none,none,none,none,none,none,none,none,none,none,none,none,none,none,none,none,none,none,none,none,none,none,none,none,none,none,none,none,none,some 187,none,none,some 188,none,none,none,none,none,none,none,none,none,none,none,none,none,some 241,some 242,some 174,some 276,none,none,none,none,some 303,none,none,none,none,none,none,none,none,none,none,some 274,some 275,some 293,some 294,some 295,some 296,none,some 307,some 308,none,some 292,some 165,some 230,some 231,none,none,none,none,none,none,none,none,none,some 61,none,none,some 142,none,some 78,some 137,some 215,none,none,none,none,none,none,some 220,none,none,none,none,none,some 158,none,none,none,none,none,none,some 13,none,none,none,none,some 145,some 146,some 147,some 148,some 149,none,some 209,some 210,some 211,some 212,some 86,some 213,some 214,none,none,none,none,none,none,some 219,none,none,none,some 56,some 57,some 58,none,none,some 254,some 255,some 256,some 257,some 238,none,none,some 138,some 139,some 140,some 141,none,some 177,some 178,some 206,some 207,some 208,some 252,none,none,none,none,none,none,none,none,none,none,none,none,none,none,none,none,none,none,none,none,none,none,none,none,none,some 59,none,none,none,none,none,none,none,none,none,none,none,none,none,none,none,none,none,none,none,none,none,none,none,none,none,none,none,none,none,none,none,none,none,none,none,some 15,some 49,none,some 60,none,none,none,none,none,none,none,none,none,none,none,none,none,none,none,none,none,none,none,none,none,none,none,none,none,some 52,some 62,some 63,some 64,some 110,some 17,some 118,some 112,some 18,some 119,some 80,some 66,some 120,some 79,some 121,some 122,some 123,some 22,some 124,some 126,some 127,some 128,some 129,some 130,some 131,none,none,some 143,some 144,none,none,none,none,none,none,none,none,none,none,some 175,none,none,none,some 150,some 91,some 65,some 67,some 68,some 189,some 70,some 71,some 72,some 200,some 201,some 202,some 203,none,none,none,none,some 216,some 217,some 218,none,none,none,none,none,none,none,none,none,none,none,none,none,none,some 151,some 152,some 153,some 154,some 155,some 156,some 157,some 159,some 160,some 161,some 162,some 163,none,some 227,some 250,none,none,some 258,none,none,none,none,none,none,none,none,none,none,none,none,none,none,none,none,none,none,none,none,none,none,none,some 287,none,none,none,none,none,none,none,some 300,some 301,none,none,some 305,some 306,some 3,none,none,none,none,none,none,none,none,some 12,some 14,some 16,some 19,some 20,some 21,some 23,some 24,none,none,none,none,none,none,none,none,none,none,none,none,none,none,none,none,none,some 47,none,none,some 54,some 55,some 69,some 73,none,none,some 87,none,none,none,some 98,none,none,none,none,none,some 104,some 105,some 106,none,some 136,some 173,some 176,none,none,none]
def keepL:List Nat:=[516]
def phi:Nat→Option FuncId:=fun n=>if n < 1000000 then phiL.getD n none else if keepL.contains (n - 1000000)=true then phiL.getD (n - 1000000) none else none
theorem phi_lt {n:Nat} (h:n < 1000000):phi n=phiL.getD n none:=if_pos h
theorem phi_ge {n:Nat}:phi (n + 1000000)=if keepL.contains n=true then phiL.getD n none else none:=by
 unfold phi
 rw [if_neg (by omega),Nat.add_sub_cancel]
inductive Each (p:Option FuncId→Option XF→Prop):List (Option FuncId)→List (Option XF)→Prop
 | nil {l:List (Option XF)}:Each p [] l
 | cons {a:Option FuncId} {x:Option XF} {r:List (Option FuncId)} {l:List (Option XF)} (h:p a x) (k:Each p r l):Each p (a :: r) (x :: l)
theorem Each.get {p:Option FuncId→Option XF→Prop} (h0:∀ x,p none x):∀ {r:List (Option FuncId)} {l:List (Option XF)},Each p r l→∀ f,p (r.getD f none) (l.getD f none)
 | _,_,.nil,f=>by simpa using h0 _
 | _,_,.cons h k,0=>by simpa using h
 | _,_,.cons h k,f + 1=>by simpa using k.get h0 f
def There (id : FuncId) : Prop := ∃ fn : Func, Tryz.prog.funcs[id]? = some fn ∧ (fn.name == "runtime.NumGoroutine") = false ∧ fn.body.isNone = false
theorem zckd_:There 117:=⟨Tryz.f117,Tryz.func117,by kernel_rfl,by kernel_rfl⟩
theorem zcke_:There 132:=⟨Tryz.f132,Tryz.func132,by kernel_rfl,by kernel_rfl⟩
theorem zckf_:There 92:=⟨Tryz.f92,Tryz.func92,by kernel_rfl,by kernel_rfl⟩
theorem zckg_:There 125:=⟨Tryz.f125,Tryz.func125,by kernel_rfl,by kernel_rfl⟩
theorem zckh_:There 199:=⟨Tryz.f199,Tryz.func199,by kernel_rfl,by kernel_rfl⟩
theorem zcki_:There 179:=⟨Tryz.f179,Tryz.func179,by kernel_rfl,by kernel_rfl⟩
theorem zckj_:There 93:=⟨Tryz.f93,Tryz.func93,by kernel_rfl,by kernel_rfl⟩
theorem zckk_:There 187:=⟨Tryz.f187,Tryz.func187,by kernel_rfl,by kernel_rfl⟩
theorem zckl_:There 188:=⟨Tryz.f188,Tryz.func188,by kernel_rfl,by kernel_rfl⟩
theorem zckm_:There 241:=⟨Tryz.f241,Tryz.func241,by kernel_rfl,by kernel_rfl⟩
theorem zckn_:There 242:=⟨Tryz.f242,Tryz.func242,by kernel_rfl,by kernel_rfl⟩
theorem zcko_:There 174:=⟨Tryz.f174,Tryz.func174,by kernel_rfl,by kernel_rfl⟩
theorem zckp_:There 276:=⟨Tryz.f276,Tryz.func276,by kernel_rfl,by kernel_rfl⟩
theorem zckq_:There 303:=⟨Tryz.f303,Tryz.func303,by kernel_rfl,by kernel_rfl⟩
theorem zckr_:There 274:=⟨Tryz.f274,Tryz.func274,by kernel_rfl,by kernel_rfl⟩
theorem zcks_:There 275:=⟨Tryz.f275,Tryz.func275,by kernel_rfl,by kernel_rfl⟩
theorem zckt_:There 293:=⟨Tryz.f293,Tryz.func293,by kernel_rfl,by kernel_rfl⟩
theorem zcku_:There 294:=⟨Tryz.f294,Tryz.func294,by kernel_rfl,by kernel_rfl⟩
theorem zckv_:There 295:=⟨Tryz.f295,Tryz.func295,by kernel_rfl,by kernel_rfl⟩
theorem zckw_:There 296:=⟨Tryz.f296,Tryz.func296,by kernel_rfl,by kernel_rfl⟩
theorem zckx_:There 307:=⟨Tryz.f307,Tryz.func307,by kernel_rfl,by kernel_rfl⟩
theorem zcky_:There 308:=⟨Tryz.f308,Tryz.func308,by kernel_rfl,by kernel_rfl⟩
theorem zckz_:There 292:=⟨Tryz.f292,Tryz.func292,by kernel_rfl,by kernel_rfl⟩
theorem zcla_:There 165:=⟨Tryz.f165,Tryz.func165,by kernel_rfl,by kernel_rfl⟩
theorem zclb_:There 230:=⟨Tryz.f230,Tryz.func230,by kernel_rfl,by kernel_rfl⟩
theorem zclc_:There 231:=⟨Tryz.f231,Tryz.func231,by kernel_rfl,by kernel_rfl⟩
theorem zcld_:There 61:=⟨Tryz.f61,Tryz.func61,by kernel_rfl,by kernel_rfl⟩
theorem zcle_:There 142:=⟨Tryz.f142,Tryz.func142,by kernel_rfl,by kernel_rfl⟩
theorem zclf_:There 78:=⟨Tryz.f78,Tryz.func78,by kernel_rfl,by kernel_rfl⟩
theorem zclg_:There 137:=⟨Tryz.f137,Tryz.func137,by kernel_rfl,by kernel_rfl⟩
theorem zclh_:There 215:=⟨Tryz.f215,Tryz.func215,by kernel_rfl,by kernel_rfl⟩
theorem zcli_:There 220:=⟨Tryz.f220,Tryz.func220,by kernel_rfl,by kernel_rfl⟩
theorem zclj_:There 158:=⟨Tryz.f158,Tryz.func158,by kernel_rfl,by kernel_rfl⟩
theorem zclk_:There 13:=⟨Tryz.f13,Tryz.func13,by kernel_rfl,by kernel_rfl⟩
theorem zcll_:There 145:=⟨Tryz.f145,Tryz.func145,by kernel_rfl,by kernel_rfl⟩
theorem zclm_:There 146:=⟨Tryz.f146,Tryz.func146,by kernel_rfl,by kernel_rfl⟩
theorem zcln_:There 147:=⟨Tryz.f147,Tryz.func147,by kernel_rfl,by kernel_rfl⟩
theorem zclo_:There 148:=⟨Tryz.f148,Tryz.func148,by kernel_rfl,by kernel_rfl⟩
theorem zclp_:There 149:=⟨Tryz.f149,Tryz.func149,by kernel_rfl,by kernel_rfl⟩
theorem zclq_:There 209:=⟨Tryz.f209,Tryz.func209,by kernel_rfl,by kernel_rfl⟩
theorem zclr_:There 210:=⟨Tryz.f210,Tryz.func210,by kernel_rfl,by kernel_rfl⟩
theorem zcls_:There 211:=⟨Tryz.f211,Tryz.func211,by kernel_rfl,by kernel_rfl⟩
theorem zclt_:There 212:=⟨Tryz.f212,Tryz.func212,by kernel_rfl,by kernel_rfl⟩
theorem zclu_:There 86:=⟨Tryz.f86,Tryz.func86,by kernel_rfl,by kernel_rfl⟩
theorem zclv_:There 213:=⟨Tryz.f213,Tryz.func213,by kernel_rfl,by kernel_rfl⟩
theorem zclw_:There 214:=⟨Tryz.f214,Tryz.func214,by kernel_rfl,by kernel_rfl⟩
theorem zclx_:There 219:=⟨Tryz.f219,Tryz.func219,by kernel_rfl,by kernel_rfl⟩
theorem zcly_:There 56:=⟨Tryz.f56,Tryz.func56,by kernel_rfl,by kernel_rfl⟩
theorem zclz_:There 57:=⟨Tryz.f57,Tryz.func57,by kernel_rfl,by kernel_rfl⟩
theorem zcma_:There 58:=⟨Tryz.f58,Tryz.func58,by kernel_rfl,by kernel_rfl⟩
theorem zcmb_:There 254:=⟨Tryz.f254,Tryz.func254,by kernel_rfl,by kernel_rfl⟩
theorem zcmc_:There 255:=⟨Tryz.f255,Tryz.func255,by kernel_rfl,by kernel_rfl⟩
theorem zcmd_:There 256:=⟨Tryz.f256,Tryz.func256,by kernel_rfl,by kernel_rfl⟩
theorem zcme_:There 257:=⟨Tryz.f257,Tryz.func257,by kernel_rfl,by kernel_rfl⟩
theorem zcmf_:There 238:=⟨Tryz.f238,Tryz.func238,by kernel_rfl,by kernel_rfl⟩
theorem zcmg_:There 138:=⟨Tryz.f138,Tryz.func138,by kernel_rfl,by kernel_rfl⟩
theorem zcmh_:There 139:=⟨Tryz.f139,Tryz.func139,by kernel_rfl,by kernel_rfl⟩
theorem zcmi_:There 140:=⟨Tryz.f140,Tryz.func140,by kernel_rfl,by kernel_rfl⟩
theorem zcmj_:There 141:=⟨Tryz.f141,Tryz.func141,by kernel_rfl,by kernel_rfl⟩
theorem zcmk_:There 177:=⟨Tryz.f177,Tryz.func177,by kernel_rfl,by kernel_rfl⟩
theorem zcml_:There 178:=⟨Tryz.f178,Tryz.func178,by kernel_rfl,by kernel_rfl⟩
theorem zcmm_:There 206:=⟨Tryz.f206,Tryz.func206,by kernel_rfl,by kernel_rfl⟩
theorem zcmn_:There 207:=⟨Tryz.f207,Tryz.func207,by kernel_rfl,by kernel_rfl⟩
theorem zcmo_:There 208:=⟨Tryz.f208,Tryz.func208,by kernel_rfl,by kernel_rfl⟩
theorem zcmp_:There 252:=⟨Tryz.f252,Tryz.func252,by kernel_rfl,by kernel_rfl⟩
theorem zcmq_:There 59:=⟨Tryz.f59,Tryz.func59,by kernel_rfl,by kernel_rfl⟩
theorem zcmr_:There 15:=⟨Tryz.f15,Tryz.func15,by kernel_rfl,by kernel_rfl⟩
theorem zcms_:There 49:=⟨Tryz.f49,Tryz.func49,by kernel_rfl,by kernel_rfl⟩
theorem zcmt_:There 60:=⟨Tryz.f60,Tryz.func60,by kernel_rfl,by kernel_rfl⟩
theorem zcmu_:There 52:=⟨Tryz.f52,Tryz.func52,by kernel_rfl,by kernel_rfl⟩
theorem zcmv_:There 62:=⟨Tryz.f62,Tryz.func62,by kernel_rfl,by kernel_rfl⟩
theorem zcmw_:There 63:=⟨Tryz.f63,Tryz.func63,by kernel_rfl,by kernel_rfl⟩
theorem zcmx_:There 64:=⟨Tryz.f64,Tryz.func64,by kernel_rfl,by kernel_rfl⟩
theorem zcmy_:There 110:=⟨Tryz.f110,Tryz.func110,by kernel_rfl,by kernel_rfl⟩
theorem zcmz_:There 17:=⟨Tryz.f17,Tryz.func17,by kernel_rfl,by kernel_rfl⟩
theorem zcna_:There 118:=⟨Tryz.f118,Tryz.func118,by kernel_rfl,by kernel_rfl⟩
theorem zcnb_:There 112:=⟨Tryz.f112,Tryz.func112,by kernel_rfl,by kernel_rfl⟩
theorem zcnc_:There 18:=⟨Tryz.f18,Tryz.func18,by kernel_rfl,by kernel_rfl⟩
theorem zcnd_:There 119:=⟨Tryz.f119,Tryz.func119,by kernel_rfl,by kernel_rfl⟩
theorem zcne_:There 80:=⟨Tryz.f80,Tryz.func80,by kernel_rfl,by kernel_rfl⟩
theorem zcnf_:There 66:=⟨Tryz.f66,Tryz.func66,by kernel_rfl,by kernel_rfl⟩
theorem zcng_:There 120:=⟨Tryz.f120,Tryz.func120,by kernel_rfl,by kernel_rfl⟩
theorem zcnh_:There 79:=⟨Tryz.f79,Tryz.func79,by kernel_rfl,by kernel_rfl⟩
theorem zcni_:There 121:=⟨Tryz.f121,Tryz.func121,by kernel_rfl,by kernel_rfl⟩
theorem zcnj_:There 122:=⟨Tryz.f122,Tryz.func122,by kernel_rfl,by kernel_rfl⟩
theorem zcnk_:There 123:=⟨Tryz.f123,Tryz.func123,by kernel_rfl,by kernel_rfl⟩
theorem zcnl_:There 22:=⟨Tryz.f22,Tryz.func22,by kernel_rfl,by kernel_rfl⟩
theorem zcnm_:There 124:=⟨Tryz.f124,Tryz.func124,by kernel_rfl,by kernel_rfl⟩
theorem zcnn_:There 126:=⟨Tryz.f126,Tryz.func126,by kernel_rfl,by kernel_rfl⟩
theorem zcno_:There 127:=⟨Tryz.f127,Tryz.func127,by kernel_rfl,by kernel_rfl⟩
theorem zcnp_:There 128:=⟨Tryz.f128,Tryz.func128,by kernel_rfl,by kernel_rfl⟩
theorem zcnq_:There 129:=⟨Tryz.f129,Tryz.func129,by kernel_rfl,by kernel_rfl⟩
theorem zcnr_:There 130:=⟨Tryz.f130,Tryz.func130,by kernel_rfl,by kernel_rfl⟩
theorem zcns_:There 131:=⟨Tryz.f131,Tryz.func131,by kernel_rfl,by kernel_rfl⟩
theorem zcnt_:There 143:=⟨Tryz.f143,Tryz.func143,by kernel_rfl,by kernel_rfl⟩
theorem zcnu_:There 144:=⟨Tryz.f144,Tryz.func144,by kernel_rfl,by kernel_rfl⟩
theorem zcnv_:There 175:=⟨Tryz.f175,Tryz.func175,by kernel_rfl,by kernel_rfl⟩
theorem zcnw_:There 150:=⟨Tryz.f150,Tryz.func150,by kernel_rfl,by kernel_rfl⟩
theorem zcnx_:There 91:=⟨Tryz.f91,Tryz.func91,by kernel_rfl,by kernel_rfl⟩
theorem zcny_:There 65:=⟨Tryz.f65,Tryz.func65,by kernel_rfl,by kernel_rfl⟩
theorem zcnz_:There 67:=⟨Tryz.f67,Tryz.func67,by kernel_rfl,by kernel_rfl⟩
theorem zcoa_:There 68:=⟨Tryz.f68,Tryz.func68,by kernel_rfl,by kernel_rfl⟩
theorem zcob_:There 189:=⟨Tryz.f189,Tryz.func189,by kernel_rfl,by kernel_rfl⟩
theorem zcoc_:There 70:=⟨Tryz.f70,Tryz.func70,by kernel_rfl,by kernel_rfl⟩
theorem zcod_:There 71:=⟨Tryz.f71,Tryz.func71,by kernel_rfl,by kernel_rfl⟩
theorem zcoe_:There 72:=⟨Tryz.f72,Tryz.func72,by kernel_rfl,by kernel_rfl⟩
theorem zcof_:There 200:=⟨Tryz.f200,Tryz.func200,by kernel_rfl,by kernel_rfl⟩
theorem zcog_:There 201:=⟨Tryz.f201,Tryz.func201,by kernel_rfl,by kernel_rfl⟩
theorem zcoh_:There 202:=⟨Tryz.f202,Tryz.func202,by kernel_rfl,by kernel_rfl⟩
theorem zcoi_:There 203:=⟨Tryz.f203,Tryz.func203,by kernel_rfl,by kernel_rfl⟩
theorem zcoj_:There 216:=⟨Tryz.f216,Tryz.func216,by kernel_rfl,by kernel_rfl⟩
theorem zcok_:There 217:=⟨Tryz.f217,Tryz.func217,by kernel_rfl,by kernel_rfl⟩
theorem zcol_:There 218:=⟨Tryz.f218,Tryz.func218,by kernel_rfl,by kernel_rfl⟩
theorem zcom_:There 151:=⟨Tryz.f151,Tryz.func151,by kernel_rfl,by kernel_rfl⟩
theorem zcon_:There 152:=⟨Tryz.f152,Tryz.func152,by kernel_rfl,by kernel_rfl⟩
theorem zcoo_:There 153:=⟨Tryz.f153,Tryz.func153,by kernel_rfl,by kernel_rfl⟩
theorem zcop_:There 154:=⟨Tryz.f154,Tryz.func154,by kernel_rfl,by kernel_rfl⟩
theorem zcoq_:There 155:=⟨Tryz.f155,Tryz.func155,by kernel_rfl,by kernel_rfl⟩
theorem zcor_:There 156:=⟨Tryz.f156,Tryz.func156,by kernel_rfl,by kernel_rfl⟩
theorem zcos_:There 157:=⟨Tryz.f157,Tryz.func157,by kernel_rfl,by kernel_rfl⟩
theorem zcot_:There 159:=⟨Tryz.f159,Tryz.func159,by kernel_rfl,by kernel_rfl⟩
theorem zcou_:There 160:=⟨Tryz.f160,Tryz.func160,by kernel_rfl,by kernel_rfl⟩
theorem zcov_:There 161:=⟨Tryz.f161,Tryz.func161,by kernel_rfl,by kernel_rfl⟩
theorem zcow_:There 162:=⟨Tryz.f162,Tryz.func162,by kernel_rfl,by kernel_rfl⟩
theorem zcox_:There 163:=⟨Tryz.f163,Tryz.func163,by kernel_rfl,by kernel_rfl⟩
theorem zcoy_:There 227:=⟨Tryz.f227,Tryz.func227,by kernel_rfl,by kernel_rfl⟩
theorem zcoz_:There 250:=⟨Tryz.f250,Tryz.func250,by kernel_rfl,by kernel_rfl⟩
theorem zcpa_:There 258:=⟨Tryz.f258,Tryz.func258,by kernel_rfl,by kernel_rfl⟩
theorem zcpb_:There 287:=⟨Tryz.f287,Tryz.func287,by kernel_rfl,by kernel_rfl⟩
theorem zcpc_:There 300:=⟨Tryz.f300,Tryz.func300,by kernel_rfl,by kernel_rfl⟩
theorem zcpd_:There 301:=⟨Tryz.f301,Tryz.func301,by kernel_rfl,by kernel_rfl⟩
theorem zcpe_:There 305:=⟨Tryz.f305,Tryz.func305,by kernel_rfl,by kernel_rfl⟩
theorem zcpf_:There 306:=⟨Tryz.f306,Tryz.func306,by kernel_rfl,by kernel_rfl⟩
theorem zcpg_:There 3:=⟨Tryz.f3,Tryz.func3,by kernel_rfl,by kernel_rfl⟩
theorem zcph_:There 12:=⟨Tryz.f12,Tryz.func12,by kernel_rfl,by kernel_rfl⟩
theorem zcpi_:There 14:=⟨Tryz.f14,Tryz.func14,by kernel_rfl,by kernel_rfl⟩
theorem zcpj_:There 16:=⟨Tryz.f16,Tryz.func16,by kernel_rfl,by kernel_rfl⟩
theorem zcpk_:There 19:=⟨Tryz.f19,Tryz.func19,by kernel_rfl,by kernel_rfl⟩
theorem zcpl_:There 20:=⟨Tryz.f20,Tryz.func20,by kernel_rfl,by kernel_rfl⟩
theorem zcpm_:There 21:=⟨Tryz.f21,Tryz.func21,by kernel_rfl,by kernel_rfl⟩
theorem zcpn_:There 23:=⟨Tryz.f23,Tryz.func23,by kernel_rfl,by kernel_rfl⟩
theorem zcpo_:There 24:=⟨Tryz.f24,Tryz.func24,by kernel_rfl,by kernel_rfl⟩
theorem zcpp_:There 47:=⟨Tryz.f47,Tryz.func47,by kernel_rfl,by kernel_rfl⟩
theorem zcpq_:There 54:=⟨Tryz.f54,Tryz.func54,by kernel_rfl,by kernel_rfl⟩
theorem zcpr_:There 55:=⟨Tryz.f55,Tryz.func55,by kernel_rfl,by kernel_rfl⟩
theorem zcps_:There 69:=⟨Tryz.f69,Tryz.func69,by kernel_rfl,by kernel_rfl⟩
theorem zcpt_:There 73:=⟨Tryz.f73,Tryz.func73,by kernel_rfl,by kernel_rfl⟩
theorem zcpu_:There 87:=⟨Tryz.f87,Tryz.func87,by kernel_rfl,by kernel_rfl⟩
theorem zcpv_:There 98:=⟨Tryz.f98,Tryz.func98,by kernel_rfl,by kernel_rfl⟩
theorem zcpw_:There 104:=⟨Tryz.f104,Tryz.func104,by kernel_rfl,by kernel_rfl⟩
theorem zcpx_:There 105:=⟨Tryz.f105,Tryz.func105,by kernel_rfl,by kernel_rfl⟩
theorem zcpy_:There 106:=⟨Tryz.f106,Tryz.func106,by kernel_rfl,by kernel_rfl⟩
theorem zcpz_:There 136:=⟨Tryz.f136,Tryz.func136,by kernel_rfl,by kernel_rfl⟩
theorem zcqa_:There 173:=⟨Tryz.f173,Tryz.func173,by kernel_rfl,by kernel_rfl⟩
theorem zcqb_:There 176:=⟨Tryz.f176,Tryz.func176,by kernel_rfl,by kernel_rfl⟩
def FitT (a:Option FuncId) (_:Option XF):Prop:=∀ id,a=some id→There id
theorem FitT.of {id:FuncId} {x:Option XF} (t:There id):FitT (some id) x:=fun _ h=>by cases h; exact t
theorem FitT.none (x:Option XF):FitT Option.none x:=fun _ h=>by cases h
theorem eachT:Each FitT phiL XPL :=
 .cons (.none _) <|
 .cons (.none _) <|
 .cons (.none _) <|
 .cons (.none _) <|
 .cons (.none _) <|
 .cons (.none _) <|
 .cons (.none _) <|
 .cons (.none _) <|
 .cons (.none _) <|
 .cons (.of zckd_) <|
 .cons (.of zcke_) <|
 .cons (.none _) <|
 .cons (.none _) <|
 .cons (.of zckf_) <|
 .cons (.none _) <|
 .cons (.none _) <|
 .cons (.none _) <|
 .cons (.none _) <|
 .cons (.none _) <|
 .cons (.none _) <|
 .cons (.none _) <|
 .cons (.none _) <|
 .cons (.none _) <|
 .cons (.none _) <|
 .cons (.none _) <|
 .cons (.none _) <|
 .cons (.none _) <|
 .cons (.none _) <|
 .cons (.none _) <|
 .cons (.none _) <|
 .cons (.none _) <|
 .cons (.none _) <|
 .cons (.none _) <|
 .cons (.none _) <|
 .cons (.of zckg_) <|
 .cons (.none _) <|
 .cons (.none _) <|
 .cons (.none _) <|
 .cons (.none _) <|
 .cons (.none _) <|
 .cons (.none _) <|
 .cons (.none _) <|
 .cons (.none _) <|
 .cons (.none _) <|
 .cons (.none _) <|
 .cons (.none _) <|
 .cons (.none _) <|
 .cons (.of zckh_) <|
 .cons (.none _) <|
 .cons (.of zcki_) <|
 .cons (.none _) <|
 .cons (.none _) <|
 .cons (.none _) <|
 .cons (.none _) <|
 .cons (.of zckj_) <|
 .cons (.none _) <|
 .cons (.none _) <|
 .cons (.none _) <|
 .cons (.none _) <|
 .cons (.none _) <|
 .cons (.none _) <|
 .cons (.none _) <|
 .cons (.none _) <|
 .cons (.none _) <|
 .cons (.none _) <|
 .cons (.none _) <|
 .cons (.none _) <|
 .cons (.none _) <|
 .cons (.none _) <|
 .cons (.none _) <|
 .cons (.none _) <|
 .cons (.none _) <|
 .cons (.none _) <|
 .cons (.none _) <|
 .cons (.none _) <|
 .cons (.none _) <|
 .cons (.none _) <|
 .cons (.none _) <|
 .cons (.none _) <|
 .cons (.none _) <|
 .cons (.none _) <|
 .cons (.none _) <|
 .cons (.none _) <|
 .cons (.none _) <|
 .cons (.none _) <|
 .cons (.none _) <|
 .cons (.none _) <|
 .cons (.none _) <|
 .cons (.none _) <|
 .cons (.none _) <|
 .cons (.none _) <|
 .cons (.none _) <|
 .cons (.none _) <|
 .cons (.none _) <|
 .cons (.none _) <|
 .cons (.none _) <|
 .cons (.none _) <|
 .cons (.none _) <|
 .cons (.of zckk_) <|
 .cons (.none _) <|
 .cons (.none _) <|
 .cons (.of zckl_) <|
 .cons (.none _) <|
 .cons (.none _) <|
 .cons (.none _) <|
 .cons (.none _) <|
 .cons (.none _) <|
 .cons (.none _) <|
 .cons (.none _) <|
 .cons (.none _) <|
 .cons (.none _) <|
 .cons (.none _) <|
 .cons (.none _) <|
 .cons (.none _) <|
 .cons (.none _) <|
 .cons (.of zckm_) <|
 .cons (.of zckn_) <|
 .cons (.of zcko_) <|
 .cons (.of zckp_) <|
 .cons (.none _) <|
 .cons (.none _) <|
 .cons (.none _) <|
 .cons (.none _) <|
 .cons (.of zckq_) <|
 .cons (.none _) <|
 .cons (.none _) <|
 .cons (.none _) <|
 .cons (.none _) <|
 .cons (.none _) <|
 .cons (.none _) <|
 .cons (.none _) <|
 .cons (.none _) <|
 .cons (.none _) <|
 .cons (.none _) <|
 .cons (.of zckr_) <|
 .cons (.of zcks_) <|
 .cons (.of zckt_) <|
 .cons (.of zcku_) <|
 .cons (.of zckv_) <|
 .cons (.of zckw_) <|
 .cons (.none _) <|
 .cons (.of zckx_) <|
 .cons (.of zcky_) <|
 .cons (.none _) <|
 .cons (.of zckz_) <|
 .cons (.of zcla_) <|
 .cons (.of zclb_) <|
 .cons (.of zclc_) <|
 .cons (.none _) <|
 .cons (.none _) <|
 .cons (.none _) <|
 .cons (.none _) <|
 .cons (.none _) <|
 .cons (.none _) <|
 .cons (.none _) <|
 .cons (.none _) <|
 .cons (.none _) <|
 .cons (.of zcld_) <|
 .cons (.none _) <|
 .cons (.none _) <|
 .cons (.of zcle_) <|
 .cons (.none _) <|
 .cons (.of zclf_) <|
 .cons (.of zclg_) <|
 .cons (.of zclh_) <|
 .cons (.none _) <|
 .cons (.none _) <|
 .cons (.none _) <|
 .cons (.none _) <|
 .cons (.none _) <|
 .cons (.none _) <|
 .cons (.of zcli_) <|
 .cons (.none _) <|
 .cons (.none _) <|
 .cons (.none _) <|
 .cons (.none _) <|
 .cons (.none _) <|
 .cons (.of zclj_) <|
 .cons (.none _) <|
 .cons (.none _) <|
 .cons (.none _) <|
 .cons (.none _) <|
 .cons (.none _) <|
 .cons (.none _) <|
 .cons (.of zclk_) <|
 .cons (.none _) <|
 .cons (.none _) <|
 .cons (.none _) <|
 .cons (.none _) <|
 .cons (.of zcll_) <|
 .cons (.of zclm_) <|
 .cons (.of zcln_) <|
 .cons (.of zclo_) <|
 .cons (.of zclp_) <|
 .cons (.none _) <|
 .cons (.of zclq_) <|
 .cons (.of zclr_) <|
 .cons (.of zcls_) <|
 .cons (.of zclt_) <|
 .cons (.of zclu_) <|
 .cons (.of zclv_) <|
 .cons (.of zclw_) <|
 .cons (.none _) <|
 .cons (.none _) <|
 .cons (.none _) <|
 .cons (.none _) <|
 .cons (.none _) <|
 .cons (.none _) <|
 .cons (.of zclx_) <|
 .cons (.none _) <|
 .cons (.none _) <|
 .cons (.none _) <|
 .cons (.of zcly_) <|
 .cons (.of zclz_) <|
 .cons (.of zcma_) <|
 .cons (.none _) <|
 .cons (.none _) <|
 .cons (.of zcmb_) <|
 .cons (.of zcmc_) <|
 .cons (.of zcmd_) <|
 .cons (.of zcme_) <|
 .cons (.of zcmf_) <|
 .cons (.none _) <|
 .cons (.none _) <|
 .cons (.of zcmg_) <|
 .cons (.of zcmh_) <|
 .cons (.of zcmi_) <|
 .cons (.of zcmj_) <|
 .cons (.none _) <|
 .cons (.of zcmk_) <|
 .cons (.of zcml_) <|
 .cons (.of zcmm_) <|
 .cons (.of zcmn_) <|
 .cons (.of zcmo_) <|
 .cons (.of zcmp_) <|
 .cons (.none _) <|
 .cons (.none _) <|
 .cons (.none _) <|
 .cons (.none _) <|
 .cons (.none _) <|
 .cons (.none _) <|
 .cons (.none _) <|
 .cons (.none _) <|
 .cons (.none _) <|
 .cons (.none _) <|
 .cons (.none _) <|
 .cons (.none _) <|
 .cons (.none _) <|
 .cons (.none _) <|
 .cons (.none _) <|
 .cons (.none _) <|
 .cons (.none _) <|
 .cons (.none _) <|
 .cons (.none _) <|
 .cons (.none _) <|
 .cons (.none _) <|
 .cons (.none _) <|
 .cons (.none _) <|
 .cons (.none _) <|
 .cons (.none _) <|
 .cons (.of zcmq_) <|
 .cons (.none _) <|
 .cons (.none _) <|
 .cons (.none _) <|
 .cons (.none _) <|
 .cons (.none _) <|
 .cons (.none _) <|
 .cons (.none _) <|
 .cons (.none _) <|
 .cons (.none _) <|
 .cons (.none _) <|
 .cons (.none _) <|
 .cons (.none _) <|
 .cons (.none _) <|
 .cons (.none _) <|
 .cons (.none _) <|
 .cons (.none _) <|
 .cons (.none _) <|
 .cons (.none _) <|
 .cons (.none _) <|
 .cons (.none _) <|
 .cons (.none _) <|
 .cons (.none _) <|
 .cons (.none _) <|
 .cons (.none _) <|
 .cons (.none _) <|
 .cons (.none _) <|
 .cons (.none _) <|
 .cons (.none _) <|
 .cons (.none _) <|
 .cons (.none _) <|
 .cons (.none _) <|
 .cons (.none _) <|
 .cons (.none _) <|
 .cons (.none _) <|
 .cons (.none _) <|
 .cons (.of zcmr_) <|
 .cons (.of zcms_) <|
 .cons (.none _) <|
 .cons (.of zcmt_) <|
 .cons (.none _) <|
 .cons (.none _) <|
 .cons (.none _) <|
 .cons (.none _) <|
 .cons (.none _) <|
 .cons (.none _) <|
 .cons (.none _) <|
 .cons (.none _) <|
 .cons (.none _) <|
 .cons (.none _) <|
 .cons (.none _) <|
 .cons (.none _) <|
 .cons (.none _) <|
 .cons (.none _) <|
 .cons (.none _) <|
 .cons (.none _) <|
 .cons (.none _) <|
 .cons (.none _) <|
 .cons (.none _) <|
 .cons (.none _) <|
 .cons (.none _) <|
 .cons (.none _) <|
 .cons (.none _) <|
 .cons (.none _) <|
 .cons (.none _) <|
 .cons (.of zcmu_) <|
 .cons (.of zcmv_) <|
 .cons (.of zcmw_) <|
 .cons (.of zcmx_) <|
 .cons (.of zcmy_) <|
 .cons (.of zcmz_) <|
 .cons (.of zcna_) <|
 .cons (.of zcnb_) <|
 .cons (.of zcnc_) <|
 .cons (.of zcnd_) <|
 .cons (.of zcne_) <|
 .cons (.of zcnf_) <|
 .cons (.of zcng_) <|
 .cons (.of zcnh_) <|
 .cons (.of zcni_) <|
 .cons (.of zcnj_) <|
 .cons (.of zcnk_) <|
 .cons (.of zcnl_) <|
 .cons (.of zcnm_) <|
 .cons (.of zcnn_) <|
 .cons (.of zcno_) <|
 .cons (.of zcnp_) <|
 .cons (.of zcnq_) <|
 .cons (.of zcnr_) <|
 .cons (.of zcns_) <|
 .cons (.none _) <|
 .cons (.none _) <|
 .cons (.of zcnt_) <|
 .cons (.of zcnu_) <|
 .cons (.none _) <|
 .cons (.none _) <|
 .cons (.none _) <|
 .cons (.none _) <|
 .cons (.none _) <|
 .cons (.none _) <|
 .cons (.none _) <|
 .cons (.none _) <|
 .cons (.none _) <|
 .cons (.none _) <|
 .cons (.of zcnv_) <|
 .cons (.none _) <|
 .cons (.none _) <|
 .cons (.none _) <|
 .cons (.of zcnw_) <|
 .cons (.of zcnx_) <|
 .cons (.of zcny_) <|
 .cons (.of zcnz_) <|
 .cons (.of zcoa_) <|
 .cons (.of zcob_) <|
 .cons (.of zcoc_) <|
 .cons (.of zcod_) <|
 .cons (.of zcoe_) <|
 .cons (.of zcof_) <|
 .cons (.of zcog_) <|
 .cons (.of zcoh_) <|
 .cons (.of zcoi_) <|
 .cons (.none _) <|
 .cons (.none _) <|
 .cons (.none _) <|
 .cons (.none _) <|
 .cons (.of zcoj_) <|
 .cons (.of zcok_) <|
 .cons (.of zcol_) <|
 .cons (.none _) <|
 .cons (.none _) <|
 .cons (.none _) <|
 .cons (.none _) <|
 .cons (.none _) <|
 .cons (.none _) <|
 .cons (.none _) <|
 .cons (.none _) <|
 .cons (.none _) <|
 .cons (.none _) <|
 .cons (.none _) <|
 .cons (.none _) <|
 .cons (.none _) <|
 .cons (.none _) <|
 .cons (.of zcom_) <|
 .cons (.of zcon_) <|
 .cons (.of zcoo_) <|
 .cons (.of zcop_) <|
 .cons (.of zcoq_) <|
 .cons (.of zcor_) <|
 .cons (.of zcos_) <|
 .cons (.of zcot_) <|
 .cons (.of zcou_) <|
 .cons (.of zcov_) <|
 .cons (.of zcow_) <|
 .cons (.of zcox_) <|
 .cons (.none _) <|
 .cons (.of zcoy_) <|
 .cons (.of zcoz_) <|
 .cons (.none _) <|
 .cons (.none _) <|
 .cons (.of zcpa_) <|
 .cons (.none _) <|
 .cons (.none _) <|
 .cons (.none _) <|
 .cons (.none _) <|
 .cons (.none _) <|
 .cons (.none _) <|
 .cons (.none _) <|
 .cons (.none _) <|
 .cons (.none _) <|
 .cons (.none _) <|
 .cons (.none _) <|
 .cons (.none _) <|
 .cons (.none _) <|
 .cons (.none _) <|
 .cons (.none _) <|
 .cons (.none _) <|
 .cons (.none _) <|
 .cons (.none _) <|
 .cons (.none _) <|
 .cons (.none _) <|
 .cons (.none _) <|
 .cons (.none _) <|
 .cons (.none _) <|
 .cons (.of zcpb_) <|
 .cons (.none _) <|
 .cons (.none _) <|
 .cons (.none _) <|
 .cons (.none _) <|
 .cons (.none _) <|
 .cons (.none _) <|
 .cons (.none _) <|
 .cons (.of zcpc_) <|
 .cons (.of zcpd_) <|
 .cons (.none _) <|
 .cons (.none _) <|
 .cons (.of zcpe_) <|
 .cons (.of zcpf_) <|
 .cons (.of zcpg_) <|
 .cons (.none _) <|
 .cons (.none _) <|
 .cons (.none _) <|
 .cons (.none _) <|
 .cons (.none _) <|
 .cons (.none _) <|
 .cons (.none _) <|
 .cons (.none _) <|
 .cons (.of zcph_) <|
 .cons (.of zcpi_) <|
 .cons (.of zcpj_) <|
 .cons (.of zcpk_) <|
 .cons (.of zcpl_) <|
 .cons (.of zcpm_) <|
 .cons (.of zcpn_) <|
 .cons (.of zcpo_) <|
 .cons (.none _) <|
 .cons (.none _) <|
 .cons (.none _) <|
 .cons (.none _) <|
 .cons (.none _) <|
 .cons (.none _) <|
 .cons (.none _) <|
 .cons (.none _) <|
 .cons (.none _) <|
 .cons (.none _) <|
 .cons (.none _) <|
 .cons (.none _) <|
 .cons (.none _) <|
 .cons (.none _) <|
 .cons (.none _) <|
 .cons (.none _) <|
 .cons (.none _) <|
 .cons (.of zcpp_) <|
 .cons (.none _) <|
 .cons (.none _) <|
 .cons (.of zcpq_) <|
 .cons (.of zcpr_) <|
 .cons (.of zcps_) <|
 .cons (.of zcpt_) <|
 .cons (.none _) <|
 .cons (.none _) <|
 .cons (.of zcpu_) <|
 .cons (.none _) <|
 .cons (.none _) <|
 .cons (.none _) <|
 .cons (.of zcpv_) <|
 .cons (.none _) <|
 .cons (.none _) <|
 .cons (.none _) <|
 .cons (.none _) <|
 .cons (.none _) <|
 .cons (.of zcpw_) <|
 .cons (.of zcpx_) <|
 .cons (.of zcpy_) <|
 .cons (.none _) <|
 .cons (.of zcpz_) <|
 .cons (.of zcqa_) <|
 .cons (.of zcqb_) <|
 .cons (.none _) <|
 .cons (.none _) <|
 .cons (.none _) <| .nil
theorem tok:TOk Tryz.prog phi:=fun f id h=>by
 by_cases hf:f < 1000000
 ·rw [phi_lt hf] at h
  exact (eachT.get FitT.none f) id h
 ·obtain ⟨q,rfl⟩:∃ q,f=q + 1000000:=⟨f - 1000000,by omega⟩
  rw [phi_ge] at h
  split at h
  ·exact (eachT.get FitT.none q) id h
  ·cases h
end Go.Proofs.Sl
namespace Go.Proofs
open Go.Shelf
shelf_lay_g SlLaysF0.n6 Slsf 6 at Tryz 207 as Tryz.sortSpan
shelf_lay_g Lays8.n4 Nm8 4 at Tryz 167 as Tryz.growSpan
shelf_lay_g SlLaysM.n5 Slgm 5 at Tryz 175 as Tryz.sortA
shelf_lay_g SlLaysM.n6 Slgm 6 at Tryz 71 as Tryz.sortStr
end Go.Proofs
namespace Go.Proofs.Sl
def zSpan:List V:=[.s (.int .i64 0),.s (.int .i64 0),.s (.int .i64 0),.s (.int .i64 0),.s (.int .i64 0),.s (.int .i64 0),.s (.string ⟨#[]⟩),.s (.string ⟨#[]⟩),.s (.string ⟨#[]⟩),.s (.int .i64 0),.s (.int .i64 0),.s (.bool false),.s (.slice none 0 0),.s (.slice none 0 0)]
theorem zcqc_:plainZ zSpan:=by
 intro i x e
 have:∀ v ∈ zSpan,v.tl=none:=by
  intro v hv
  simp only [zSpan,List.mem_cons,List.not_mem_nil,or_false] at hv
  rcases hv with rfl | rfl | rfl | rfl | rfl | rfl | rfl | rfl | rfl | rfl | rfl | rfl | rfl | rfl <;> rfl
 exact this x (List.mem_of_getElem? e)
theorem zcqd_:NatOk Tryz.prog phi 207 (.sort 14):=zcdr_ (zcds_ Tryz.sortSpan 14 Tryz.isAgg60 Tryz.sizeOf60) (zcdt_ Tryz.sortSpan) tok
theorem zcqe_:NatOk Tryz.prog phi 252 (.seq zck_ 14 837723144972) :=
 natSeq (φ:=phi) (it:=zck_) (vid:=208) (lim:=837723144972) (k:=14) Tryz.func252 Tryz.func208 rfl (by kernel_rfl) (by kernel_rfl) (z:=zSpan) rfl zcqc_ (by decide) tok
theorem zcqf_:NatOk Tryz.prog phi 175 (.srt false):=zcel_ (zcen_ Tryz.sortA)
theorem zcqg_:NatOk Tryz.prog phi 71 (.srt true):=zcem_ (zceq_ Tryz.sortStr)
theorem zcqh_:chkFun Tryz.prog phi Tryz.f117 zmq_=true:=by kernel_rfl
theorem zcqi_:chkFun Tryz.prog phi Tryz.f132 zip_=true:=by kernel_rfl
theorem zcqj_:chkFun Tryz.prog phi Tryz.f92 zmh_=true:=by kernel_rfl
theorem zcqk_:chkFun Tryz.prog phi Tryz.f125 zio_=true:=by kernel_rfl
theorem zcql_:chkFun Tryz.prog phi Tryz.f199 zja_=true:=by kernel_rfl
theorem zcqm_:chkFun Tryz.prog phi Tryz.f179 ziy_=true:=by kernel_rfl
theorem zcqn_:chkFun Tryz.prog phi Tryz.f93 zmi_=true:=by kernel_rfl
theorem zcqo_:chkFun Tryz.prog phi Tryz.f187 ziz_=true:=by kernel_rfl
theorem zcqp_:chkFun Tryz.prog phi Tryz.f188 znr_=true:=by kernel_rfl
theorem zcqq_:chkFun Tryz.prog phi Tryz.f241 zje_=true:=by kernel_rfl
theorem zcqr_:chkFun Tryz.prog phi Tryz.f242 zoi_=true:=by kernel_rfl
theorem zcqs_:chkFun Tryz.prog phi Tryz.f174 zdj_=true:=by kernel_rfl
theorem zcqt_:chkFun Tryz.prog phi Tryz.f276 zer_=true:=by kernel_rfl
theorem zcqu_:chkFun Tryz.prog phi Tryz.f303 zjj_=true:=by kernel_rfl
theorem zcqv_:chkFun Tryz.prog phi Tryz.f274 zop_=true:=by kernel_rfl
theorem zcqw_:chkFun Tryz.prog phi Tryz.f275 zjg_=true:=by kernel_rfl
theorem zcqx_:chkFun Tryz.prog phi Tryz.f293 zos_=true:=by kernel_rfl
theorem zcqy_:chkFun Tryz.prog phi Tryz.f294 zot_=true:=by kernel_rfl
theorem zcqz_:chkFun Tryz.prog phi Tryz.f295 zov_=true:=by kernel_rfl
theorem zcra_:chkFun Tryz.prog phi Tryz.f296 zow_=true:=by kernel_rfl
theorem zcrb_:chkFun Tryz.prog phi Tryz.f307 zpa_=true:=by kernel_rfl
theorem zcrc_:chkFun Tryz.prog phi Tryz.f308 zpb_=true:=by kernel_rfl
theorem zcrd_:chkFun Tryz.prog phi Tryz.f292 zor_=true:=by kernel_rfl
theorem zcre_:chkFun Tryz.prog phi Tryz.f165 znp_=true:=by kernel_rfl
theorem zcrf_:chkFun Tryz.prog phi Tryz.f230 zzb_=true:=by kernel_rfl
theorem zcrg_:chkFun Tryz.prog phi Tryz.f231 zof_=true:=by kernel_rfl
theorem zcrh_:chkFun Tryz.prog phi Tryz.f61 zaz_=true:=by kernel_rfl
theorem zcri_:chkFun Tryz.prog phi Tryz.f142 zmy_=true:=by kernel_rfl
theorem zcrj_:chkFun Tryz.prog phi Tryz.f78 zma_=true:=by kernel_rfl
theorem zcrk_:chkFun Tryz.prog phi Tryz.f137 zmw_=true:=by kernel_rfl
theorem zcrl_:chkFun Tryz.prog phi Tryz.f215 znz_=true:=by kernel_rfl
theorem zcrm_:chkFun Tryz.prog phi Tryz.f220 zax_=true:=by kernel_rfl
theorem zcrn_:chkFun Tryz.prog phi Tryz.f158 znj_=true:=by kernel_rfl
theorem zcro_:chkFun Tryz.prog phi Tryz.f13 zie_=true:=by kernel_rfl
theorem zcrp_:chkFun Tryz.prog phi Tryz.f145 zfw_=true:=by kernel_rfl
theorem zcrq_:chkFun Tryz.prog phi Tryz.f146 zfx_=true:=by kernel_rfl
theorem zcrr_:chkFun Tryz.prog phi Tryz.f147 zna_=true:=by kernel_rfl
theorem zcrs_:chkFun Tryz.prog phi Tryz.f148 ziu_=true:=by kernel_rfl
theorem zcrt_:chkFun Tryz.prog phi Tryz.f149 ziv_=true:=by kernel_rfl
theorem zcru_:chkFun Tryz.prog phi Tryz.f209 znv_=true:=by kernel_rfl
theorem zcrv_:chkFun Tryz.prog phi Tryz.f210 znw_=true:=by kernel_rfl
theorem zcrw_:chkFun Tryz.prog phi Tryz.f211 zga_=true:=by kernel_rfl
theorem zcrx_:chkFun Tryz.prog phi Tryz.f212 zjc_=true:=by kernel_rfl
theorem zcry_:chkFun Tryz.prog phi Tryz.f86 zmd_=true:=by kernel_rfl
theorem zcrz_:chkFun Tryz.prog phi Tryz.f213 znx_=true:=by kernel_rfl
theorem zcsa_:chkFun Tryz.prog phi Tryz.f214 zny_=true:=by kernel_rfl
theorem zcsb_:chkFun Tryz.prog phi Tryz.f219 zoe_=true:=by kernel_rfl
theorem zcsc_:chkFun Tryz.prog phi Tryz.f56 zlo_=true:=by kernel_rfl
theorem zcsd_:chkFun Tryz.prog phi Tryz.f57 zfp_=true:=by kernel_rfl
theorem zcse_:chkFun Tryz.prog phi Tryz.f58 zlp_=true:=by kernel_rfl
theorem zcsf_:chkFun Tryz.prog phi Tryz.f254 zoj_=true:=by kernel_rfl
theorem zcsg_:chkFun Tryz.prog phi Tryz.f255 zok_=true:=by kernel_rfl
theorem zcsh_:chkFun Tryz.prog phi Tryz.f256 zol_=true:=by kernel_rfl
theorem zcsi_:chkFun Tryz.prog phi Tryz.f257 zom_=true:=by kernel_rfl
theorem zcsj_:chkFun Tryz.prog phi Tryz.f238 zog_=true:=by kernel_rfl
theorem zcsk_:chkFun Tryz.prog phi Tryz.f138 zmx_=true:=by kernel_rfl
theorem zcsl_:chkFun Tryz.prog phi Tryz.f139 zfu_=true:=by kernel_rfl
theorem zcsm_:chkFun Tryz.prog phi Tryz.f140 zir_=true:=by kernel_rfl
theorem zcsn_:chkFun Tryz.prog phi Tryz.f141 zis_=true:=by kernel_rfl
theorem zcso_:chkFun Tryz.prog phi Tryz.f177 ziw_=true:=by kernel_rfl
theorem zcsp_:chkFun Tryz.prog phi Tryz.f178 zix_=true:=by kernel_rfl
theorem zcsq_:chkFun Tryz.prog phi Tryz.f206 zjb_=true:=by kernel_rfl
theorem zcsr_:chkFun Tryz.prog phi Tryz.f208 zyy_=true:=by kernel_rfl
theorem zcss_:chkFun Tryz.prog phi Tryz.f59 zlq_=true:=by kernel_rfl
theorem zcst_:chkFun Tryz.prog phi Tryz.f15 zig_=true:=by kernel_rfl
theorem zcsu_:chkFun Tryz.prog phi Tryz.f49 zlk_=true:=by kernel_rfl
theorem zcsv_:chkFun Tryz.prog phi Tryz.f60 zlr_=true:=by kernel_rfl
theorem zcsw_:chkFun Tryz.prog phi Tryz.f52 zll_=true:=by kernel_rfl
theorem zcsx_:chkFun Tryz.prog phi Tryz.f62 zls_=true:=by kernel_rfl
theorem zcsy_:chkFun Tryz.prog phi Tryz.f63 zlt_=true:=by kernel_rfl
theorem zcsz_:chkFun Tryz.prog phi Tryz.f64 zlv_=true:=by kernel_rfl
theorem zcta_:chkFun Tryz.prog phi Tryz.f110 zmn_=true:=by kernel_rfl
theorem zctb_:chkFun Tryz.prog phi Tryz.f17 zbw_=true:=by kernel_rfl
theorem zctc_:chkFun Tryz.prog phi Tryz.f118 zmr_=true:=by kernel_rfl
theorem zctd_:chkFun Tryz.prog phi Tryz.f112 zmo_=true:=by kernel_rfl
theorem zcte_:chkFun Tryz.prog phi Tryz.f18 zeo_=true:=by kernel_rfl
theorem zctf_:chkFun Tryz.prog phi Tryz.f119 zms_=true:=by kernel_rfl
theorem zctg_:chkFun Tryz.prog phi Tryz.f80 zmc_=true:=by kernel_rfl
theorem zcth_:chkFun Tryz.prog phi Tryz.f66 zlx_=true:=by kernel_rfl
theorem zcti_:chkFun Tryz.prog phi Tryz.f120 zyk_=true:=by kernel_rfl
theorem zctj_:chkFun Tryz.prog phi Tryz.f79 zmb_=true:=by kernel_rfl
theorem zctk_:chkFun Tryz.prog phi Tryz.f121 zyl_=true:=by kernel_rfl
theorem zctl_:chkFun Tryz.prog phi Tryz.f122 zmt_=true:=by kernel_rfl
theorem zctm_:chkFun Tryz.prog phi Tryz.f123 zym_=true:=by kernel_rfl
theorem zctn_:chkFun Tryz.prog phi Tryz.f22 zlg_=true:=by kernel_rfl
theorem zcto_:chkFun Tryz.prog phi Tryz.f124 zmu_=true:=by kernel_rfl
theorem zctp_:chkFun Tryz.prog phi Tryz.f126 zyn_=true:=by kernel_rfl
theorem zctq_:chkFun Tryz.prog phi Tryz.f127 zyo_=true:=by kernel_rfl
theorem zctr_:chkFun Tryz.prog phi Tryz.f128 zyp_=true:=by kernel_rfl
theorem zcts_:chkFun Tryz.prog phi Tryz.f129 zmv_=true:=by kernel_rfl
theorem zctt_:chkFun Tryz.prog phi Tryz.f130 zyr_=true:=by kernel_rfl
theorem zctu_:chkFun Tryz.prog phi Tryz.f131 zys_=true:=by kernel_rfl
theorem zctv_:chkFun Tryz.prog phi Tryz.f143 zit_=true:=by kernel_rfl
theorem zctw_:chkFun Tryz.prog phi Tryz.f144 zmz_=true:=by kernel_rfl
theorem zctx_:chkFun Tryz.prog phi Tryz.f150 znb_=true:=by kernel_rfl
theorem zcty_:chkFun Tryz.prog phi Tryz.f91 zmg_=true:=by kernel_rfl
theorem zctz_:chkFun Tryz.prog phi Tryz.f65 zlw_=true:=by kernel_rfl
theorem zcua_:chkFun Tryz.prog phi Tryz.f67 zly_=true:=by kernel_rfl
theorem zcub_:chkFun Tryz.prog phi Tryz.f68 zlz_=true:=by kernel_rfl
theorem zcuc_:chkFun Tryz.prog phi Tryz.f189 zns_=true:=by kernel_rfl
theorem zcud_:chkFun Tryz.prog phi Tryz.f70 zim_=true:=by kernel_rfl
theorem zcue_:chkFun Tryz.prog phi Tryz.f72 zfq_=true:=by kernel_rfl
theorem zcuf_:chkFun Tryz.prog phi Tryz.f200 znt_=true:=by kernel_rfl
theorem zcug_:chkFun Tryz.prog phi Tryz.f201 znu_=true:=by kernel_rfl
theorem zcuh_:chkFun Tryz.prog phi Tryz.f202 zyv_=true:=by kernel_rfl
theorem zcui_:chkFun Tryz.prog phi Tryz.f203 zyw_=true:=by kernel_rfl
theorem zcuj_:chkFun Tryz.prog phi Tryz.f216 zoa_=true:=by kernel_rfl
theorem zcuk_:chkFun Tryz.prog phi Tryz.f217 zob_=true:=by kernel_rfl
theorem zcul_:chkFun Tryz.prog phi Tryz.f218 zoc_=true:=by kernel_rfl
theorem zcum_:chkFun Tryz.prog phi Tryz.f151 znc_=true:=by kernel_rfl
theorem zcun_:chkFun Tryz.prog phi Tryz.f152 znd_=true:=by kernel_rfl
theorem zcuo_:chkFun Tryz.prog phi Tryz.f153 zne_=true:=by kernel_rfl
theorem zcup_:chkFun Tryz.prog phi Tryz.f154 znf_=true:=by kernel_rfl
theorem zcuq_:chkFun Tryz.prog phi Tryz.f155 zng_=true:=by kernel_rfl
theorem zcur_:chkFun Tryz.prog phi Tryz.f156 znh_=true:=by kernel_rfl
theorem zcus_:chkFun Tryz.prog phi Tryz.f157 zni_=true:=by kernel_rfl
theorem zcut_:chkFun Tryz.prog phi Tryz.f159 znk_=true:=by kernel_rfl
theorem zcuu_:chkFun Tryz.prog phi Tryz.f160 znl_=true:=by kernel_rfl
theorem zcuv_:chkFun Tryz.prog phi Tryz.f161 znm_=true:=by kernel_rfl
theorem zcuw_:chkFun Tryz.prog phi Tryz.f162 znn_=true:=by kernel_rfl
theorem zcux_:chkFun Tryz.prog phi Tryz.f163 zno_=true:=by kernel_rfl
theorem zcuy_:chkFun Tryz.prog phi Tryz.f227 zza_=true:=by kernel_rfl
theorem zcuz_:chkFun Tryz.prog phi Tryz.f250 zzd_=true:=by kernel_rfl
theorem zcva_:chkFun Tryz.prog phi Tryz.f258 zoo_=true:=by kernel_rfl
theorem zcvb_:chkFun Tryz.prog phi Tryz.f287 zoq_=true:=by kernel_rfl
theorem zcvc_:chkFun Tryz.prog phi Tryz.f300 zox_=true:=by kernel_rfl
theorem zcvd_:chkFun Tryz.prog phi Tryz.f301 zcw_=true:=by kernel_rfl
theorem zcve_:chkFun Tryz.prog phi Tryz.f305 zoy_=true:=by kernel_rfl
theorem zcvf_:chkFun Tryz.prog phi Tryz.f306 zoz_=true:=by kernel_rfl
theorem zcvg_:chkFun Tryz.prog phi Tryz.f3 zid_=true:=by kernel_rfl
theorem zcvh_:chkFun Tryz.prog phi Tryz.f12 zla_=true:=by kernel_rfl
theorem zcvi_:chkFun Tryz.prog phi Tryz.f14 zif_=true:=by kernel_rfl
theorem zcvj_:chkFun Tryz.prog phi Tryz.f16 zld_=true:=by kernel_rfl
theorem zcvk_:chkFun Tryz.prog phi Tryz.f19 zle_=true:=by kernel_rfl
theorem zcvl_:chkFun Tryz.prog phi Tryz.f20 zlf_=true:=by kernel_rfl
theorem zcvm_:chkFun Tryz.prog phi Tryz.f21 zih_=true:=by kernel_rfl
theorem zcvn_:chkFun Tryz.prog phi Tryz.f23 zlh_=true:=by kernel_rfl
theorem zcvo_:chkFun Tryz.prog phi Tryz.f24 zli_=true:=by kernel_rfl
theorem zcvp_:chkFun Tryz.prog phi Tryz.f47 zlj_=true:=by kernel_rfl
theorem zcvq_:chkFun Tryz.prog phi Tryz.f54 zlm_=true:=by kernel_rfl
theorem zcvr_:chkFun Tryz.prog phi Tryz.f55 zln_=true:=by kernel_rfl
theorem zcvs_:chkFun Tryz.prog phi Tryz.f69 zcc_=true:=by kernel_rfl
theorem zcvt_:chkFun Tryz.prog phi Tryz.f73 zfr_=true:=by kernel_rfl
theorem zcvu_:chkFun Tryz.prog phi Tryz.f87 zmf_=true:=by kernel_rfl
theorem zcvv_:chkFun Tryz.prog phi Tryz.f98 zmj_=true:=by kernel_rfl
theorem zcvw_:chkFun Tryz.prog phi Tryz.f104 zmk_=true:=by kernel_rfl
theorem zcvx_:chkFun Tryz.prog phi Tryz.f105 zml_=true:=by kernel_rfl
theorem zcvy_:chkFun Tryz.prog phi Tryz.f106 zmm_=true:=by kernel_rfl
theorem zcvz_:chkFun Tryz.prog phi Tryz.f136 ziq_=true:=by kernel_rfl
theorem zcwa_:chkFun Tryz.prog phi Tryz.f173 znq_=true:=by kernel_rfl
theorem zcwb_:chkFun Tryz.prog phi Tryz.f176 zfz_=true:=by kernel_rfl
def Entry (id:FuncId) (X:XF):Prop:=∃ fn,Tryz.prog.funcs[id]?=some fn∧FunOk Tryz.prog phi id fn X
theorem zcwc_:Entry 117 zmq_:=⟨Tryz.f117,Tryz.func117,zcqh_⟩
theorem zcwd_:Entry 132 zip_:=⟨Tryz.f132,Tryz.func132,zcqi_⟩
theorem zcwe_:Entry 92 zmh_:=⟨Tryz.f92,Tryz.func92,zcqj_⟩
theorem zcwf_:Entry 125 zio_:=⟨Tryz.f125,Tryz.func125,zcqk_⟩
theorem zcwg_:Entry 199 zja_:=⟨Tryz.f199,Tryz.func199,zcql_⟩
theorem zcwh_:Entry 179 ziy_:=⟨Tryz.f179,Tryz.func179,zcqm_⟩
theorem zcwi_:Entry 93 zmi_:=⟨Tryz.f93,Tryz.func93,zcqn_⟩
theorem zcwj_:Entry 187 ziz_:=⟨Tryz.f187,Tryz.func187,zcqo_⟩
theorem zcwk_:Entry 188 znr_:=⟨Tryz.f188,Tryz.func188,zcqp_⟩
theorem zcwl_:Entry 241 zje_:=⟨Tryz.f241,Tryz.func241,zcqq_⟩
theorem zcwm_:Entry 242 zoi_:=⟨Tryz.f242,Tryz.func242,zcqr_⟩
theorem zcwn_:Entry 174 zdj_:=⟨Tryz.f174,Tryz.func174,zcqs_⟩
theorem zcwo_:Entry 276 zer_:=⟨Tryz.f276,Tryz.func276,zcqt_⟩
theorem zcwp_:Entry 303 zjj_:=⟨Tryz.f303,Tryz.func303,zcqu_⟩
theorem zcwq_:Entry 274 zop_:=⟨Tryz.f274,Tryz.func274,zcqv_⟩
theorem zcwr_:Entry 275 zjg_:=⟨Tryz.f275,Tryz.func275,zcqw_⟩
theorem zcws_:Entry 293 zos_:=⟨Tryz.f293,Tryz.func293,zcqx_⟩
theorem zcwt_:Entry 294 zot_:=⟨Tryz.f294,Tryz.func294,zcqy_⟩
theorem zcwu_:Entry 295 zov_:=⟨Tryz.f295,Tryz.func295,zcqz_⟩
theorem zcwv_:Entry 296 zow_:=⟨Tryz.f296,Tryz.func296,zcra_⟩
theorem zcww_:Entry 307 zpa_:=⟨Tryz.f307,Tryz.func307,zcrb_⟩
theorem zcwx_:Entry 308 zpb_:=⟨Tryz.f308,Tryz.func308,zcrc_⟩
theorem zcwy_:Entry 292 zor_:=⟨Tryz.f292,Tryz.func292,zcrd_⟩
theorem zcwz_:Entry 165 znp_:=⟨Tryz.f165,Tryz.func165,zcre_⟩
theorem zcxa_:Entry 230 zzb_:=⟨Tryz.f230,Tryz.func230,zcrf_⟩
theorem zcxb_:Entry 231 zof_:=⟨Tryz.f231,Tryz.func231,zcrg_⟩
theorem zcxc_:Entry 61 zaz_:=⟨Tryz.f61,Tryz.func61,zcrh_⟩
theorem zcxd_:Entry 142 zmy_:=⟨Tryz.f142,Tryz.func142,zcri_⟩
theorem zcxe_:Entry 78 zma_:=⟨Tryz.f78,Tryz.func78,zcrj_⟩
theorem zcxf_:Entry 137 zmw_:=⟨Tryz.f137,Tryz.func137,zcrk_⟩
theorem zcxg_:Entry 215 znz_:=⟨Tryz.f215,Tryz.func215,zcrl_⟩
theorem zcxh_:Entry 220 zax_:=⟨Tryz.f220,Tryz.func220,zcrm_⟩
theorem zcxi_:Entry 158 znj_:=⟨Tryz.f158,Tryz.func158,zcrn_⟩
theorem zcxj_:Entry 13 zie_:=⟨Tryz.f13,Tryz.func13,zcro_⟩
theorem zcxk_:Entry 145 zfw_:=⟨Tryz.f145,Tryz.func145,zcrp_⟩
theorem zcxl_:Entry 146 zfx_:=⟨Tryz.f146,Tryz.func146,zcrq_⟩
theorem zcxm_:Entry 147 zna_:=⟨Tryz.f147,Tryz.func147,zcrr_⟩
theorem zcxn_:Entry 148 ziu_:=⟨Tryz.f148,Tryz.func148,zcrs_⟩
theorem zcxo_:Entry 149 ziv_:=⟨Tryz.f149,Tryz.func149,zcrt_⟩
theorem zcxp_:Entry 209 znv_:=⟨Tryz.f209,Tryz.func209,zcru_⟩
theorem zcxq_:Entry 210 znw_:=⟨Tryz.f210,Tryz.func210,zcrv_⟩
theorem zcxr_:Entry 211 zga_:=⟨Tryz.f211,Tryz.func211,zcrw_⟩
theorem zcxs_:Entry 212 zjc_:=⟨Tryz.f212,Tryz.func212,zcrx_⟩
theorem zcxt_:Entry 86 zmd_:=⟨Tryz.f86,Tryz.func86,zcry_⟩
theorem zcxu_:Entry 213 znx_:=⟨Tryz.f213,Tryz.func213,zcrz_⟩
theorem zcxv_:Entry 214 zny_:=⟨Tryz.f214,Tryz.func214,zcsa_⟩
theorem zcxw_:Entry 219 zoe_:=⟨Tryz.f219,Tryz.func219,zcsb_⟩
theorem zcxx_:Entry 56 zlo_:=⟨Tryz.f56,Tryz.func56,zcsc_⟩
theorem zcxy_:Entry 57 zfp_:=⟨Tryz.f57,Tryz.func57,zcsd_⟩
theorem zcxz_:Entry 58 zlp_:=⟨Tryz.f58,Tryz.func58,zcse_⟩
theorem zcya_:Entry 254 zoj_:=⟨Tryz.f254,Tryz.func254,zcsf_⟩
theorem zcyb_:Entry 255 zok_:=⟨Tryz.f255,Tryz.func255,zcsg_⟩
theorem zcyc_:Entry 256 zol_:=⟨Tryz.f256,Tryz.func256,zcsh_⟩
theorem zcyd_:Entry 257 zom_:=⟨Tryz.f257,Tryz.func257,zcsi_⟩
theorem zcye_:Entry 238 zog_:=⟨Tryz.f238,Tryz.func238,zcsj_⟩
theorem zcyf_:Entry 138 zmx_:=⟨Tryz.f138,Tryz.func138,zcsk_⟩
theorem zcyg_:Entry 139 zfu_:=⟨Tryz.f139,Tryz.func139,zcsl_⟩
theorem zcyh_:Entry 140 zir_:=⟨Tryz.f140,Tryz.func140,zcsm_⟩
theorem zcyi_:Entry 141 zis_:=⟨Tryz.f141,Tryz.func141,zcsn_⟩
theorem zcyj_:Entry 177 ziw_:=⟨Tryz.f177,Tryz.func177,zcso_⟩
theorem zcyk_:Entry 178 zix_:=⟨Tryz.f178,Tryz.func178,zcsp_⟩
theorem zcyl_:Entry 206 zjb_:=⟨Tryz.f206,Tryz.func206,zcsq_⟩
theorem zcym_:Entry 207 zyx_:=⟨Tryz.f207,Tryz.func207,zcqd_⟩
theorem zcyn_:Entry 208 zyy_:=⟨Tryz.f208,Tryz.func208,zcsr_⟩
theorem zcyo_:Entry 252 zze_:=⟨Tryz.f252,Tryz.func252,zcqe_⟩
theorem zcyp_:Entry 59 zlq_:=⟨Tryz.f59,Tryz.func59,zcss_⟩
theorem zcyq_:Entry 15 zig_:=⟨Tryz.f15,Tryz.func15,zcst_⟩
theorem zcyr_:Entry 49 zlk_:=⟨Tryz.f49,Tryz.func49,zcsu_⟩
theorem zcys_:Entry 60 zlr_:=⟨Tryz.f60,Tryz.func60,zcsv_⟩
theorem zcyt_:Entry 52 zll_:=⟨Tryz.f52,Tryz.func52,zcsw_⟩
theorem zcyu_:Entry 62 zls_:=⟨Tryz.f62,Tryz.func62,zcsx_⟩
theorem zcyv_:Entry 63 zlt_:=⟨Tryz.f63,Tryz.func63,zcsy_⟩
theorem zcyw_:Entry 64 zlv_:=⟨Tryz.f64,Tryz.func64,zcsz_⟩
theorem zcyx_:Entry 110 zmn_:=⟨Tryz.f110,Tryz.func110,zcta_⟩
theorem zcyy_:Entry 17 zbw_:=⟨Tryz.f17,Tryz.func17,zctb_⟩
theorem zcyz_:Entry 118 zmr_:=⟨Tryz.f118,Tryz.func118,zctc_⟩
theorem zcza_:Entry 112 zmo_:=⟨Tryz.f112,Tryz.func112,zctd_⟩
theorem zczb_:Entry 18 zeo_:=⟨Tryz.f18,Tryz.func18,zcte_⟩
theorem zczc_:Entry 119 zms_:=⟨Tryz.f119,Tryz.func119,zctf_⟩
theorem zczd_:Entry 80 zmc_:=⟨Tryz.f80,Tryz.func80,zctg_⟩
theorem zcze_:Entry 66 zlx_:=⟨Tryz.f66,Tryz.func66,zcth_⟩
theorem zczf_:Entry 120 zyk_:=⟨Tryz.f120,Tryz.func120,zcti_⟩
theorem zczg_:Entry 79 zmb_:=⟨Tryz.f79,Tryz.func79,zctj_⟩
theorem zczh_:Entry 121 zyl_:=⟨Tryz.f121,Tryz.func121,zctk_⟩
theorem zczi_:Entry 122 zmt_:=⟨Tryz.f122,Tryz.func122,zctl_⟩
theorem zczj_:Entry 123 zym_:=⟨Tryz.f123,Tryz.func123,zctm_⟩
theorem zczk_:Entry 22 zlg_:=⟨Tryz.f22,Tryz.func22,zctn_⟩
theorem zczl_:Entry 124 zmu_:=⟨Tryz.f124,Tryz.func124,zcto_⟩
theorem zczm_:Entry 126 zyn_:=⟨Tryz.f126,Tryz.func126,zctp_⟩
theorem zczn_:Entry 127 zyo_:=⟨Tryz.f127,Tryz.func127,zctq_⟩
theorem zczo_:Entry 128 zyp_:=⟨Tryz.f128,Tryz.func128,zctr_⟩
theorem zczp_:Entry 129 zmv_:=⟨Tryz.f129,Tryz.func129,zcts_⟩
theorem zczq_:Entry 130 zyr_:=⟨Tryz.f130,Tryz.func130,zctt_⟩
theorem zczr_:Entry 131 zys_:=⟨Tryz.f131,Tryz.func131,zctu_⟩
theorem zczs_:Entry 143 zit_:=⟨Tryz.f143,Tryz.func143,zctv_⟩
theorem zczt_:Entry 144 zmz_:=⟨Tryz.f144,Tryz.func144,zctw_⟩
theorem zczu_:Entry 175 zyu_:=⟨Tryz.f175,Tryz.func175,zcqf_⟩
theorem zczv_:Entry 150 znb_:=⟨Tryz.f150,Tryz.func150,zctx_⟩
theorem zczw_:Entry 91 zmg_:=⟨Tryz.f91,Tryz.func91,zcty_⟩
theorem zczx_:Entry 65 zlw_:=⟨Tryz.f65,Tryz.func65,zctz_⟩
theorem zczy_:Entry 67 zly_:=⟨Tryz.f67,Tryz.func67,zcua_⟩
theorem zczz_:Entry 68 zlz_:=⟨Tryz.f68,Tryz.func68,zcub_⟩
theorem zdaa_:Entry 189 zns_:=⟨Tryz.f189,Tryz.func189,zcuc_⟩
theorem zdab_:Entry 70 zim_:=⟨Tryz.f70,Tryz.func70,zcud_⟩
theorem zdac_:Entry 71 zyi_:=⟨Tryz.f71,Tryz.func71,zcqg_⟩
theorem zdad_:Entry 72 zfq_:=⟨Tryz.f72,Tryz.func72,zcue_⟩
theorem zdae_:Entry 200 znt_:=⟨Tryz.f200,Tryz.func200,zcuf_⟩
theorem zdaf_:Entry 201 znu_:=⟨Tryz.f201,Tryz.func201,zcug_⟩
theorem zdag_:Entry 202 zyv_:=⟨Tryz.f202,Tryz.func202,zcuh_⟩
theorem zdah_:Entry 203 zyw_:=⟨Tryz.f203,Tryz.func203,zcui_⟩
theorem zdai_:Entry 216 zoa_:=⟨Tryz.f216,Tryz.func216,zcuj_⟩
theorem zdaj_:Entry 217 zob_:=⟨Tryz.f217,Tryz.func217,zcuk_⟩
theorem zdak_:Entry 218 zoc_:=⟨Tryz.f218,Tryz.func218,zcul_⟩
theorem zdal_:Entry 151 znc_:=⟨Tryz.f151,Tryz.func151,zcum_⟩
theorem zdam_:Entry 152 znd_:=⟨Tryz.f152,Tryz.func152,zcun_⟩
theorem zdan_:Entry 153 zne_:=⟨Tryz.f153,Tryz.func153,zcuo_⟩
theorem zdao_:Entry 154 znf_:=⟨Tryz.f154,Tryz.func154,zcup_⟩
theorem zdap_:Entry 155 zng_:=⟨Tryz.f155,Tryz.func155,zcuq_⟩
theorem zdaq_:Entry 156 znh_:=⟨Tryz.f156,Tryz.func156,zcur_⟩
theorem zdar_:Entry 157 zni_:=⟨Tryz.f157,Tryz.func157,zcus_⟩
theorem zdas_:Entry 159 znk_:=⟨Tryz.f159,Tryz.func159,zcut_⟩
theorem zdat_:Entry 160 znl_:=⟨Tryz.f160,Tryz.func160,zcuu_⟩
theorem zdau_:Entry 161 znm_:=⟨Tryz.f161,Tryz.func161,zcuv_⟩
theorem zdav_:Entry 162 znn_:=⟨Tryz.f162,Tryz.func162,zcuw_⟩
theorem zdaw_:Entry 163 zno_:=⟨Tryz.f163,Tryz.func163,zcux_⟩
theorem zdax_:Entry 227 zza_:=⟨Tryz.f227,Tryz.func227,zcuy_⟩
theorem zday_:Entry 250 zzd_:=⟨Tryz.f250,Tryz.func250,zcuz_⟩
theorem zdaz_:Entry 258 zoo_:=⟨Tryz.f258,Tryz.func258,zcva_⟩
theorem zdba_:Entry 287 zoq_:=⟨Tryz.f287,Tryz.func287,zcvb_⟩
theorem zdbb_:Entry 300 zox_:=⟨Tryz.f300,Tryz.func300,zcvc_⟩
theorem zdbc_:Entry 301 zcw_:=⟨Tryz.f301,Tryz.func301,zcvd_⟩
theorem zdbd_:Entry 305 zoy_:=⟨Tryz.f305,Tryz.func305,zcve_⟩
theorem zdbe_:Entry 306 zoz_:=⟨Tryz.f306,Tryz.func306,zcvf_⟩
theorem zdbf_:Entry 3 zid_:=⟨Tryz.f3,Tryz.func3,zcvg_⟩
theorem zdbg_:Entry 12 zla_:=⟨Tryz.f12,Tryz.func12,zcvh_⟩
theorem zdbh_:Entry 14 zif_:=⟨Tryz.f14,Tryz.func14,zcvi_⟩
theorem zdbi_:Entry 16 zld_:=⟨Tryz.f16,Tryz.func16,zcvj_⟩
theorem zdbj_:Entry 19 zle_:=⟨Tryz.f19,Tryz.func19,zcvk_⟩
theorem zdbk_:Entry 20 zlf_:=⟨Tryz.f20,Tryz.func20,zcvl_⟩
theorem zdbl_:Entry 21 zih_:=⟨Tryz.f21,Tryz.func21,zcvm_⟩
theorem zdbm_:Entry 23 zlh_:=⟨Tryz.f23,Tryz.func23,zcvn_⟩
theorem zdbn_:Entry 24 zli_:=⟨Tryz.f24,Tryz.func24,zcvo_⟩
theorem zdbo_:Entry 47 zlj_:=⟨Tryz.f47,Tryz.func47,zcvp_⟩
theorem zdbp_:Entry 54 zlm_:=⟨Tryz.f54,Tryz.func54,zcvq_⟩
theorem zdbq_:Entry 55 zln_:=⟨Tryz.f55,Tryz.func55,zcvr_⟩
theorem zdbr_:Entry 69 zcc_:=⟨Tryz.f69,Tryz.func69,zcvs_⟩
theorem zdbs_:Entry 73 zfr_:=⟨Tryz.f73,Tryz.func73,zcvt_⟩
theorem zdbt_:Entry 87 zmf_:=⟨Tryz.f87,Tryz.func87,zcvu_⟩
theorem zdbu_:Entry 98 zmj_:=⟨Tryz.f98,Tryz.func98,zcvv_⟩
theorem zdbv_:Entry 104 zmk_:=⟨Tryz.f104,Tryz.func104,zcvw_⟩
theorem zdbw_:Entry 105 zml_:=⟨Tryz.f105,Tryz.func105,zcvx_⟩
theorem zdbx_:Entry 106 zmm_:=⟨Tryz.f106,Tryz.func106,zcvy_⟩
theorem zdby_:Entry 136 ziq_:=⟨Tryz.f136,Tryz.func136,zcvz_⟩
theorem zdbz_:Entry 173 znq_:=⟨Tryz.f173,Tryz.func173,zcwa_⟩
theorem zdca_:Entry 176 zfz_:=⟨Tryz.f176,Tryz.func176,zcwb_⟩
def Fit (a:Option FuncId) (x:Option XF):Prop:=∀ id,a=some id→∃ X,x=some X∧Entry id X
theorem Fit.of {id:FuncId} {X:XF} (t:Entry id X):Fit (some id) (some X):=fun _ h=>by cases h; exact ⟨X,rfl,t⟩
theorem Fit.none (x:Option XF):Fit Option.none x:=fun _ h=>by cases h
theorem each:Each Fit phiL XPL :=
 .cons (.none _) <|
 .cons (.none _) <|
 .cons (.none _) <|
 .cons (.none _) <|
 .cons (.none _) <|
 .cons (.none _) <|
 .cons (.none _) <|
 .cons (.none _) <|
 .cons (.none _) <|
 .cons (.of zcwc_) <|
 .cons (.of zcwd_) <|
 .cons (.none _) <|
 .cons (.none _) <|
 .cons (.of zcwe_) <|
 .cons (.none _) <|
 .cons (.none _) <|
 .cons (.none _) <|
 .cons (.none _) <|
 .cons (.none _) <|
 .cons (.none _) <|
 .cons (.none _) <|
 .cons (.none _) <|
 .cons (.none _) <|
 .cons (.none _) <|
 .cons (.none _) <|
 .cons (.none _) <|
 .cons (.none _) <|
 .cons (.none _) <|
 .cons (.none _) <|
 .cons (.none _) <|
 .cons (.none _) <|
 .cons (.none _) <|
 .cons (.none _) <|
 .cons (.none _) <|
 .cons (.of zcwf_) <|
 .cons (.none _) <|
 .cons (.none _) <|
 .cons (.none _) <|
 .cons (.none _) <|
 .cons (.none _) <|
 .cons (.none _) <|
 .cons (.none _) <|
 .cons (.none _) <|
 .cons (.none _) <|
 .cons (.none _) <|
 .cons (.none _) <|
 .cons (.none _) <|
 .cons (.of zcwg_) <|
 .cons (.none _) <|
 .cons (.of zcwh_) <|
 .cons (.none _) <|
 .cons (.none _) <|
 .cons (.none _) <|
 .cons (.none _) <|
 .cons (.of zcwi_) <|
 .cons (.none _) <|
 .cons (.none _) <|
 .cons (.none _) <|
 .cons (.none _) <|
 .cons (.none _) <|
 .cons (.none _) <|
 .cons (.none _) <|
 .cons (.none _) <|
 .cons (.none _) <|
 .cons (.none _) <|
 .cons (.none _) <|
 .cons (.none _) <|
 .cons (.none _) <|
 .cons (.none _) <|
 .cons (.none _) <|
 .cons (.none _) <|
 .cons (.none _) <|
 .cons (.none _) <|
 .cons (.none _) <|
 .cons (.none _) <|
 .cons (.none _) <|
 .cons (.none _) <|
 .cons (.none _) <|
 .cons (.none _) <|
 .cons (.none _) <|
 .cons (.none _) <|
 .cons (.none _) <|
 .cons (.none _) <|
 .cons (.none _) <|
 .cons (.none _) <|
 .cons (.none _) <|
 .cons (.none _) <|
 .cons (.none _) <|
 .cons (.none _) <|
 .cons (.none _) <|
 .cons (.none _) <|
 .cons (.none _) <|
 .cons (.none _) <|
 .cons (.none _) <|
 .cons (.none _) <|
 .cons (.none _) <|
 .cons (.none _) <|
 .cons (.none _) <|
 .cons (.of zcwj_) <|
 .cons (.none _) <|
 .cons (.none _) <|
 .cons (.of zcwk_) <|
 .cons (.none _) <|
 .cons (.none _) <|
 .cons (.none _) <|
 .cons (.none _) <|
 .cons (.none _) <|
 .cons (.none _) <|
 .cons (.none _) <|
 .cons (.none _) <|
 .cons (.none _) <|
 .cons (.none _) <|
 .cons (.none _) <|
 .cons (.none _) <|
 .cons (.none _) <|
 .cons (.of zcwl_) <|
 .cons (.of zcwm_) <|
 .cons (.of zcwn_) <|
 .cons (.of zcwo_) <|
 .cons (.none _) <|
 .cons (.none _) <|
 .cons (.none _) <|
 .cons (.none _) <|
 .cons (.of zcwp_) <|
 .cons (.none _) <|
 .cons (.none _) <|
 .cons (.none _) <|
 .cons (.none _) <|
 .cons (.none _) <|
 .cons (.none _) <|
 .cons (.none _) <|
 .cons (.none _) <|
 .cons (.none _) <|
 .cons (.none _) <|
 .cons (.of zcwq_) <|
 .cons (.of zcwr_) <|
 .cons (.of zcws_) <|
 .cons (.of zcwt_) <|
 .cons (.of zcwu_) <|
 .cons (.of zcwv_) <|
 .cons (.none _) <|
 .cons (.of zcww_) <|
 .cons (.of zcwx_) <|
 .cons (.none _) <|
 .cons (.of zcwy_) <|
 .cons (.of zcwz_) <|
 .cons (.of zcxa_) <|
 .cons (.of zcxb_) <|
 .cons (.none _) <|
 .cons (.none _) <|
 .cons (.none _) <|
 .cons (.none _) <|
 .cons (.none _) <|
 .cons (.none _) <|
 .cons (.none _) <|
 .cons (.none _) <|
 .cons (.none _) <|
 .cons (.of zcxc_) <|
 .cons (.none _) <|
 .cons (.none _) <|
 .cons (.of zcxd_) <|
 .cons (.none _) <|
 .cons (.of zcxe_) <|
 .cons (.of zcxf_) <|
 .cons (.of zcxg_) <|
 .cons (.none _) <|
 .cons (.none _) <|
 .cons (.none _) <|
 .cons (.none _) <|
 .cons (.none _) <|
 .cons (.none _) <|
 .cons (.of zcxh_) <|
 .cons (.none _) <|
 .cons (.none _) <|
 .cons (.none _) <|
 .cons (.none _) <|
 .cons (.none _) <|
 .cons (.of zcxi_) <|
 .cons (.none _) <|
 .cons (.none _) <|
 .cons (.none _) <|
 .cons (.none _) <|
 .cons (.none _) <|
 .cons (.none _) <|
 .cons (.of zcxj_) <|
 .cons (.none _) <|
 .cons (.none _) <|
 .cons (.none _) <|
 .cons (.none _) <|
 .cons (.of zcxk_) <|
 .cons (.of zcxl_) <|
 .cons (.of zcxm_) <|
 .cons (.of zcxn_) <|
 .cons (.of zcxo_) <|
 .cons (.none _) <|
 .cons (.of zcxp_) <|
 .cons (.of zcxq_) <|
 .cons (.of zcxr_) <|
 .cons (.of zcxs_) <|
 .cons (.of zcxt_) <|
 .cons (.of zcxu_) <|
 .cons (.of zcxv_) <|
 .cons (.none _) <|
 .cons (.none _) <|
 .cons (.none _) <|
 .cons (.none _) <|
 .cons (.none _) <|
 .cons (.none _) <|
 .cons (.of zcxw_) <|
 .cons (.none _) <|
 .cons (.none _) <|
 .cons (.none _) <|
 .cons (.of zcxx_) <|
 .cons (.of zcxy_) <|
 .cons (.of zcxz_) <|
 .cons (.none _) <|
 .cons (.none _) <|
 .cons (.of zcya_) <|
 .cons (.of zcyb_) <|
 .cons (.of zcyc_) <|
 .cons (.of zcyd_) <|
 .cons (.of zcye_) <|
 .cons (.none _) <|
 .cons (.none _) <|
 .cons (.of zcyf_) <|
 .cons (.of zcyg_) <|
 .cons (.of zcyh_) <|
 .cons (.of zcyi_) <|
 .cons (.none _) <|
 .cons (.of zcyj_) <|
 .cons (.of zcyk_) <|
 .cons (.of zcyl_) <|
 .cons (.of zcym_) <|
 .cons (.of zcyn_) <|
 .cons (.of zcyo_) <|
 .cons (.none _) <|
 .cons (.none _) <|
 .cons (.none _) <|
 .cons (.none _) <|
 .cons (.none _) <|
 .cons (.none _) <|
 .cons (.none _) <|
 .cons (.none _) <|
 .cons (.none _) <|
 .cons (.none _) <|
 .cons (.none _) <|
 .cons (.none _) <|
 .cons (.none _) <|
 .cons (.none _) <|
 .cons (.none _) <|
 .cons (.none _) <|
 .cons (.none _) <|
 .cons (.none _) <|
 .cons (.none _) <|
 .cons (.none _) <|
 .cons (.none _) <|
 .cons (.none _) <|
 .cons (.none _) <|
 .cons (.none _) <|
 .cons (.none _) <|
 .cons (.of zcyp_) <|
 .cons (.none _) <|
 .cons (.none _) <|
 .cons (.none _) <|
 .cons (.none _) <|
 .cons (.none _) <|
 .cons (.none _) <|
 .cons (.none _) <|
 .cons (.none _) <|
 .cons (.none _) <|
 .cons (.none _) <|
 .cons (.none _) <|
 .cons (.none _) <|
 .cons (.none _) <|
 .cons (.none _) <|
 .cons (.none _) <|
 .cons (.none _) <|
 .cons (.none _) <|
 .cons (.none _) <|
 .cons (.none _) <|
 .cons (.none _) <|
 .cons (.none _) <|
 .cons (.none _) <|
 .cons (.none _) <|
 .cons (.none _) <|
 .cons (.none _) <|
 .cons (.none _) <|
 .cons (.none _) <|
 .cons (.none _) <|
 .cons (.none _) <|
 .cons (.none _) <|
 .cons (.none _) <|
 .cons (.none _) <|
 .cons (.none _) <|
 .cons (.none _) <|
 .cons (.none _) <|
 .cons (.of zcyq_) <|
 .cons (.of zcyr_) <|
 .cons (.none _) <|
 .cons (.of zcys_) <|
 .cons (.none _) <|
 .cons (.none _) <|
 .cons (.none _) <|
 .cons (.none _) <|
 .cons (.none _) <|
 .cons (.none _) <|
 .cons (.none _) <|
 .cons (.none _) <|
 .cons (.none _) <|
 .cons (.none _) <|
 .cons (.none _) <|
 .cons (.none _) <|
 .cons (.none _) <|
 .cons (.none _) <|
 .cons (.none _) <|
 .cons (.none _) <|
 .cons (.none _) <|
 .cons (.none _) <|
 .cons (.none _) <|
 .cons (.none _) <|
 .cons (.none _) <|
 .cons (.none _) <|
 .cons (.none _) <|
 .cons (.none _) <|
 .cons (.none _) <|
 .cons (.of zcyt_) <|
 .cons (.of zcyu_) <|
 .cons (.of zcyv_) <|
 .cons (.of zcyw_) <|
 .cons (.of zcyx_) <|
 .cons (.of zcyy_) <|
 .cons (.of zcyz_) <|
 .cons (.of zcza_) <|
 .cons (.of zczb_) <|
 .cons (.of zczc_) <|
 .cons (.of zczd_) <|
 .cons (.of zcze_) <|
 .cons (.of zczf_) <|
 .cons (.of zczg_) <|
 .cons (.of zczh_) <|
 .cons (.of zczi_) <|
 .cons (.of zczj_) <|
 .cons (.of zczk_) <|
 .cons (.of zczl_) <|
 .cons (.of zczm_) <|
 .cons (.of zczn_) <|
 .cons (.of zczo_) <|
 .cons (.of zczp_) <|
 .cons (.of zczq_) <|
 .cons (.of zczr_) <|
 .cons (.none _) <|
 .cons (.none _) <|
 .cons (.of zczs_) <|
 .cons (.of zczt_) <|
 .cons (.none _) <|
 .cons (.none _) <|
 .cons (.none _) <|
 .cons (.none _) <|
 .cons (.none _) <|
 .cons (.none _) <|
 .cons (.none _) <|
 .cons (.none _) <|
 .cons (.none _) <|
 .cons (.none _) <|
 .cons (.of zczu_) <|
 .cons (.none _) <|
 .cons (.none _) <|
 .cons (.none _) <|
 .cons (.of zczv_) <|
 .cons (.of zczw_) <|
 .cons (.of zczx_) <|
 .cons (.of zczy_) <|
 .cons (.of zczz_) <|
 .cons (.of zdaa_) <|
 .cons (.of zdab_) <|
 .cons (.of zdac_) <|
 .cons (.of zdad_) <|
 .cons (.of zdae_) <|
 .cons (.of zdaf_) <|
 .cons (.of zdag_) <|
 .cons (.of zdah_) <|
 .cons (.none _) <|
 .cons (.none _) <|
 .cons (.none _) <|
 .cons (.none _) <|
 .cons (.of zdai_) <|
 .cons (.of zdaj_) <|
 .cons (.of zdak_) <|
 .cons (.none _) <|
 .cons (.none _) <|
 .cons (.none _) <|
 .cons (.none _) <|
 .cons (.none _) <|
 .cons (.none _) <|
 .cons (.none _) <|
 .cons (.none _) <|
 .cons (.none _) <|
 .cons (.none _) <|
 .cons (.none _) <|
 .cons (.none _) <|
 .cons (.none _) <|
 .cons (.none _) <|
 .cons (.of zdal_) <|
 .cons (.of zdam_) <|
 .cons (.of zdan_) <|
 .cons (.of zdao_) <|
 .cons (.of zdap_) <|
 .cons (.of zdaq_) <|
 .cons (.of zdar_) <|
 .cons (.of zdas_) <|
 .cons (.of zdat_) <|
 .cons (.of zdau_) <|
 .cons (.of zdav_) <|
 .cons (.of zdaw_) <|
 .cons (.none _) <|
 .cons (.of zdax_) <|
 .cons (.of zday_) <|
 .cons (.none _) <|
 .cons (.none _) <|
 .cons (.of zdaz_) <|
 .cons (.none _) <|
 .cons (.none _) <|
 .cons (.none _) <|
 .cons (.none _) <|
 .cons (.none _) <|
 .cons (.none _) <|
 .cons (.none _) <|
 .cons (.none _) <|
 .cons (.none _) <|
 .cons (.none _) <|
 .cons (.none _) <|
 .cons (.none _) <|
 .cons (.none _) <|
 .cons (.none _) <|
 .cons (.none _) <|
 .cons (.none _) <|
 .cons (.none _) <|
 .cons (.none _) <|
 .cons (.none _) <|
 .cons (.none _) <|
 .cons (.none _) <|
 .cons (.none _) <|
 .cons (.none _) <|
 .cons (.of zdba_) <|
 .cons (.none _) <|
 .cons (.none _) <|
 .cons (.none _) <|
 .cons (.none _) <|
 .cons (.none _) <|
 .cons (.none _) <|
 .cons (.none _) <|
 .cons (.of zdbb_) <|
 .cons (.of zdbc_) <|
 .cons (.none _) <|
 .cons (.none _) <|
 .cons (.of zdbd_) <|
 .cons (.of zdbe_) <|
 .cons (.of zdbf_) <|
 .cons (.none _) <|
 .cons (.none _) <|
 .cons (.none _) <|
 .cons (.none _) <|
 .cons (.none _) <|
 .cons (.none _) <|
 .cons (.none _) <|
 .cons (.none _) <|
 .cons (.of zdbg_) <|
 .cons (.of zdbh_) <|
 .cons (.of zdbi_) <|
 .cons (.of zdbj_) <|
 .cons (.of zdbk_) <|
 .cons (.of zdbl_) <|
 .cons (.of zdbm_) <|
 .cons (.of zdbn_) <|
 .cons (.none _) <|
 .cons (.none _) <|
 .cons (.none _) <|
 .cons (.none _) <|
 .cons (.none _) <|
 .cons (.none _) <|
 .cons (.none _) <|
 .cons (.none _) <|
 .cons (.none _) <|
 .cons (.none _) <|
 .cons (.none _) <|
 .cons (.none _) <|
 .cons (.none _) <|
 .cons (.none _) <|
 .cons (.none _) <|
 .cons (.none _) <|
 .cons (.none _) <|
 .cons (.of zdbo_) <|
 .cons (.none _) <|
 .cons (.none _) <|
 .cons (.of zdbp_) <|
 .cons (.of zdbq_) <|
 .cons (.of zdbr_) <|
 .cons (.of zdbs_) <|
 .cons (.none _) <|
 .cons (.none _) <|
 .cons (.of zdbt_) <|
 .cons (.none _) <|
 .cons (.none _) <|
 .cons (.none _) <|
 .cons (.of zdbu_) <|
 .cons (.none _) <|
 .cons (.none _) <|
 .cons (.none _) <|
 .cons (.none _) <|
 .cons (.none _) <|
 .cons (.of zdbv_) <|
 .cons (.of zdbw_) <|
 .cons (.of zdbx_) <|
 .cons (.none _) <|
 .cons (.of zdby_) <|
 .cons (.of zdbz_) <|
 .cons (.of zdca_) <|
 .cons (.none _) <|
 .cons (.none _) <|
 .cons (.none _) <| .nil
theorem zdcb_ (f:Nat) (id:FuncId) (X:XF) (h1:phi f=some id) (h2:XP f=some X):Entry id X:=by
 have hf:f < 1000000:=by
  have hl:XPL.length≤1000000:=of_decide_eq_true (by kernel_rfl)
  by_cases hq:f < XPL.length
  ·omega
  ·have:XP f=none:=by
    show XPL.getD f none=none
    rw [List.getD_eq_getElem?_getD,List.getElem?_eq_none (by omega)]
    rfl
   rw [this] at h2
   cases h2
 rw [phi_lt hf] at h1
 obtain ⟨Y,h3,h4⟩:=(each.get Fit.none f:Fit (phiL.getD f none) (XP f)) id h1
 have h3:XP f=some Y:=h3
 rw [h2] at h3
 cases h3
 exact h4
def zbha_ (f:Nat):Bool:=match XP f with
 | some X=>(match X.nat with
  | some .keep=>true
  | _=>false)
 | none=>true
theorem keepOk:keepL.all zbha_=true:=by kernel_rfl
theorem keepX (f:Nat) (id:FuncId) (X:XF) (h:phi (f + 1000000)=some id) (hx:XP f=some X):X.nat=some .keep:=by
 rw [phi_ge] at h
 split at h
 ·rename_i hc
  have h1:=List.all_eq_true.1 keepOk f (List.contains_iff_mem.1 hc)
  unfold zbha_ at h1
  rw [hx] at h1
  simp only at h1
  split at h1
  ·assumption
  ·cases h1
 ·cases h
theorem table:Table Tryz.prog phi XP where
 follows:=by kernel_rfl
 there:=tok
 code:=fun f id X h hx=>zdcb_ f id X h hx
 keep:=keepX
theorem zdcc_:ownKnob Tryz.prog.godebug=none:=by kernel_rfl
theorem zdcd_:laidOutB Tryz.prog=true:=by kernel_rfl
end Go.Proofs.Sl
